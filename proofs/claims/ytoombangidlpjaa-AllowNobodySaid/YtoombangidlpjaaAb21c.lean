/- One text of the proof whose last text says what is proved. -/
import Derived.Test.YtoombangidlpjaaAb19d
import Derived.Sort.Walk0
set_option linter.unusedVariables false
set_option linter.unusedSimpArgs false
namespace Go.Ab

abbrev Str := List UInt8
theorem bless_eq (a b : Str) : Op.bytesLess a b = decide (a < b) := Go.Proofs.bytesLess_eq a b
theorem nil_le (a : Str) : [] ≤ a := List.nil_le a
theorem nil_lt {a : Str} (h : a ≠ []) : [] < a := by
  cases a with
  | nil => exact absurd rfl h
  | cons x r => exact List.nil_lt_cons ..

structure Sp where
  f : Str
  t : Str
  deriving DecidableEq
def Sp.toI (s : Sp) : I := .agg [.str s.f, .str s.t]
/-- Is it right? -/
def SpR (s : Sp) : Prop := s.f.length ≤ 65 ∧ s.t.length ≤ 65 ∧ (s.t = [] ∨ s.f < s.t)
instance (s : Sp) : Decidable (SpR s) := by unfold SpR; infer_instance
/-- Has it a key? -/
def SpH (s : Sp) (k : Str) : Prop := s.f ≤ k ∧ (s.t = [] ∨ k < s.t)
instance (s : Sp) (k : Str) : Decidable (SpH s k) := by unfold SpH; infer_instance
def AnyH (l : List Sp) (k : Str) : Prop := ∃ s ∈ l, SpR s ∧ SpH s k
def Keys (u : List Sp) (k : Str) : Prop := ∃ s ∈ u, SpH s k
def Sane (s : Sp) : Prop := s.t = [] ∨ s.f < s.t
def Canon (l : List Sp) : Prop := (∀ x ∈ l, Sane x) ∧ l.Pairwise fun x y => x.t ≠ [] ∧ x.t < y.f

theorem Sane.has {s : Sp} (h : Sane s) : SpH s s.f := ⟨Std.le_refl _, h⟩
theorem Canon.tail {s : Sp} {r : List Sp} (h : Canon (s :: r)) : Canon r := ⟨fun x hx => h.1 x (List.mem_cons_of_mem _ hx), (List.pairwise_cons.1 h.2).2⟩
theorem Canon.gap {s : Sp} {r : List Sp} (h : Canon (s :: r)) : ∀ x ∈ r, s.t ≠ [] ∧ s.t < x.f := (List.pairwise_cons.1 h.2).1
theorem Canon.sane {s : Sp} {r : List Sp} (h : Canon (s :: r)) : Sane s := h.1 s (List.mem_cons_self ..)
theorem Canon.low {s : Sp} {r : List Sp} (h : Canon (s :: r)) {k : Str} (hk : Keys (s :: r) k) : s.f ≤ k := by
  obtain ⟨x, hx, hk⟩ := hk
  rcases List.mem_cons.1 hx with rfl | hx
  · exact hk.1
  · have h1 := h.gap x hx
    have h2 := h.sane
    have h3 := hk.1
    unfold Sane at h2
    grind
theorem Canon.key {s : Sp} {r : List Sp} (h : Canon (s :: r)) : Keys (s :: r) s.f := ⟨s, List.mem_cons_self .., h.sane.has⟩
theorem Canon.end {s : Sp} {r : List Sp} (h : Canon (s :: r)) (ht : s.t ≠ []) : ¬ Keys (s :: r) s.t := by
  rintro ⟨x, hx, hk⟩
  rcases List.mem_cons.1 hx with rfl | hx
  · have := hk.2
    grind
  · have h1 := h.gap x hx
    have h2 := hk.1
    grind
theorem Canon.in_tail {s : Sp} {r : List Sp} (h : Canon (s :: r)) {k : Str} : Keys r k ↔ Keys (s :: r) k ∧ ¬ SpH s k := by
  constructor
  · rintro ⟨x, hx, hk⟩
    refine ⟨⟨x, List.mem_cons_of_mem _ hx, hk⟩, fun hs => ?_⟩
    have h1 := h.gap x hx
    have h2 := hk.1
    have h3 := hs.2
    grind
  · rintro ⟨⟨x, hx, hk⟩, hn⟩
    rcases List.mem_cons.1 hx with rfl | hx
    · exact absurd hk hn
    · exact ⟨x, hx, hk⟩
theorem canon_unique : ∀ {u v : List Sp}, Canon u → Canon v → (∀ k, Keys u k ↔ Keys v k) → u = v
  | [], [], _, _, _ => rfl
  | [], s :: r, _, hv, h => by
    have := (h s.f).2 hv.key
    obtain ⟨x, hx, _⟩ := this
    simp at hx
  | s :: r, [], hu, _, h => by
    have := (h s.f).1 hu.key
    obtain ⟨x, hx, _⟩ := this
    simp at hx
  | s :: r, s' :: r', hu, hv, h => by
    have hf : s.f = s'.f := by
      have h1 := hv.low ((h _).1 hu.key)
      have h2 := hu.low ((h _).2 hv.key)
      grind
    have hs := hu.sane
    have hs' := hv.sane
    unfold Sane at hs hs'
    have ht : s.t = s'.t := by
      by_cases h1 : s.t = []
      · by_cases h2 : s'.t = []
        · rw [h1, h2]
        · refine absurd ((h s'.t).1 ⟨s, List.mem_cons_self .., ?_, .inl h1⟩) (hv.end h2)
          grind
      · by_cases h2 : s'.t = []
        · refine absurd ((h s.t).2 ⟨s', List.mem_cons_self .., ?_, .inl h2⟩) (hu.end h1)
          grind
        · by_cases h3 : s.t < s'.t
          · refine absurd ((h s.t).2 ⟨s', List.mem_cons_self .., ?_, .inr h3⟩) (hu.end h1)
            grind
          · by_cases h4 : s'.t < s.t
            · refine absurd ((h s'.t).1 ⟨s, List.mem_cons_self .., ?_, .inr h4⟩) (hv.end h2)
              grind
            · grind
    have hss : s = s' := by
      cases s; cases s'
      simp only [Sp.mk.injEq]
      exact ⟨hf, ht⟩
    subst hss
    rw [canon_unique hu.tail hv.tail fun k => by rw [hu.in_tail, hv.in_tail, h k]]

/-! the union, as the code makes it -/
/-- Does an end lie behind another one? -/
def EndGt (a b : Str) : Prop := a ≠ b ∧ (a = [] ∨ (b ≠ [] ∧ b < a))
instance (a b : Str) : Decidable (EndGt a b) := by unfold EndGt; infer_instance
def uStep (out : List Sp) (s : Sp) : List Sp := match out.getLast? with
  | none => out ++ [s]
  | some l => if l.t ≠ [] ∧ l.t < s.f then out ++ [s] else if EndGt s.t l.t then out.set (out.length - 1) ⟨l.f, s.t⟩ else out
theorem uStep_nil (s : Sp) : uStep [] s = [s] := rfl
theorem uStep_append (o : List Sp) (l s : Sp) : uStep (o ++ [l]) s = if l.t ≠ [] ∧ l.t < s.f then o ++ [l] ++ [s] else if EndGt s.t l.t then o ++ [⟨l.f, s.t⟩] else o ++ [l] := by
  unfold uStep
  simp

/-- What holds of the union of what has come: 'd'. -/
structure UInv (d u : List Sp) : Prop where
  canon : Canon u
  keys : ∀ k, Keys u k ↔ Keys d k
  ends : ∀ x ∈ u, (∃ s ∈ d, x.f = s.f) ∧ ∃ s ∈ d, x.t = s.t
  some : d ≠ [] → u ≠ []
theorem uStep_inv {d u : List Sp} {s : Sp} (h : UInv d u) (hs : Sane s) (hle : ∀ x ∈ d, x.f ≤ s.f) : UInv (d ++ [s]) (uStep u s) := by
  have dup : ∀ x ∈ u, ((∃ y ∈ d ++ [s], x.f = y.f) ∧ ∃ y ∈ d ++ [s], x.t = y.t) := fun x hx => by
    obtain ⟨⟨y, hy, e1⟩, ⟨z, hz, e2⟩⟩ := h.ends x hx
    exact ⟨⟨y, List.mem_append_left _ hy, e1⟩, ⟨z, List.mem_append_left _ hz, e2⟩⟩
  have hsm : s ∈ d ++ [s] := by simp
  have kd : ∀ k, Keys (d ++ [s]) k ↔ Keys u k ∨ SpH s k := fun k => by
    rw [h.keys k]
    unfold Keys
    constructor
    · rintro ⟨x, hx, hk⟩
      rcases List.mem_append.1 hx with hx | hx
      · exact .inl ⟨x, hx, hk⟩
      · rw [List.mem_singleton.1 hx] at hk; exact .inr hk
    · rintro (⟨x, hx, hk⟩ | hk)
      · exact ⟨x, List.mem_append_left _ hx, hk⟩
      · exact ⟨s, hsm, hk⟩
  rcases List.eq_nil_or_concat u with rfl | ⟨o, l, he⟩
  · rw [uStep_nil]
    refine ⟨⟨by simpa using hs, by simp⟩, fun k => ?_, ?_, by simp⟩
    · rw [kd]
      simp [Keys]
    · intro x hx
      rw [List.mem_singleton.1 hx]
      exact ⟨⟨s, hsm, rfl⟩, ⟨s, hsm, rfl⟩⟩
  · rw [List.concat_eq_append] at he
    subst he
    obtain ⟨⟨c1, c2⟩, k1, k2, k3⟩ := h
    have hl : Sane l := c1 l (by simp)
    have hlf : l.f ≤ s.f := by
      obtain ⟨⟨y, hy, e⟩, _⟩ := k2 l (by simp)
      rw [e]
      exact hle y hy
    have hp := List.pairwise_append.1 c2
    have hol : ∀ x ∈ o, x.t ≠ [] ∧ x.t < l.f := fun x hx => hp.2.2 x hx l (by simp)
    have ko : ∀ (y : Sp) (k : Str), Keys (o ++ [y]) k ↔ Keys o k ∨ SpH y k := fun y k => by
      unfold Keys
      simp only [List.mem_append, List.mem_singleton]
      constructor
      · rintro ⟨x, hx | rfl, hk⟩
        · exact .inl ⟨x, hx, hk⟩
        · exact .inr hk
      · rintro (⟨x, hx, hk⟩ | hk)
        · exact ⟨x, .inl hx, hk⟩
        · exact ⟨y, .inr rfl, hk⟩
    unfold Sane at hs hl
    rw [uStep_append]
    split
    · rename_i hc
      refine ⟨⟨?_, ?_⟩, fun k => ?_, ?_, by simp⟩
      · intro x hx
        rcases List.mem_append.1 hx with hx | hx
        · exact c1 x hx
        · rw [List.mem_singleton.1 hx]; exact hs
      · refine List.pairwise_append.2 ⟨c2, by simp, ?_⟩
        intro x hx y hy
        rw [List.mem_singleton.1 hy]
        rcases List.mem_append.1 hx with hx | hx
        · have := hol x hx
          refine ⟨this.1, ?_⟩
          grind
        · rw [List.mem_singleton.1 hx]; exact hc
      · rw [kd]
        unfold Keys
        simp only [List.mem_append, List.mem_singleton]
        constructor
        · rintro ⟨x, hx | rfl, hk⟩
          · exact .inl ⟨x, hx, hk⟩
          · exact .inr hk
        · rintro (⟨x, hx, hk⟩ | hk)
          · exact ⟨x, .inl hx, hk⟩
          · exact ⟨s, .inr rfl, hk⟩
      · intro x hx
        rcases List.mem_append.1 hx with hx | hx
        · exact dup x hx
        · rw [List.mem_singleton.1 hx]; exact ⟨⟨s, hsm, rfl⟩, ⟨s, hsm, rfl⟩⟩
    · rename_i hc
      split
      · rename_i hg
        unfold EndGt at hg
        have hlt : l.t ≠ [] := by
          intro e
          rw [e] at hg
          rcases hg.2 with h | h
          · exact hg.1 h
          · exact h.1 rfl
        refine ⟨⟨?_, ?_⟩, fun k => ?_, ?_, by simp⟩
        · intro x hx
          rcases List.mem_append.1 hx with hx | hx
          · exact c1 x (List.mem_append_left _ hx)
          · rw [List.mem_singleton.1 hx]
            unfold Sane
            dsimp only
            grind
        · refine List.pairwise_append.2 ⟨hp.1, by simp, ?_⟩
          intro x hx y hy
          rw [List.mem_singleton.1 hy]
          exact hol x hx
        · rw [kd, ko, ko]
          unfold SpH
          dsimp only
          grind
        · intro x hx
          rcases List.mem_append.1 hx with hx | hx
          · exact dup x (List.mem_append_left _ hx)
          · rw [List.mem_singleton.1 hx]
            obtain ⟨⟨y, hy, e⟩, _⟩ := dup l (by simp)
            exact ⟨⟨y, hy, e⟩, ⟨s, hsm, rfl⟩⟩
      · rename_i hg
        refine ⟨⟨c1, c2⟩, fun k => ?_, dup, by simp⟩
        rw [kd, ko]
        unfold EndGt at hg
        unfold SpH
        grind
theorem uFold_inv : ∀ {r d u : List Sp}, UInv d u → (∀ s ∈ r, Sane s) → (d ++ r).Pairwise (fun x y => x.f ≤ y.f) → UInv (d ++ r) (r.foldl uStep u)
  | [], d, u, h, _, _ => by simpa using h
  | s :: r, d, u, h, hs, hp => by
    have h1 := uStep_inv h (hs s (List.mem_cons_self ..)) fun x hx => (List.pairwise_append.1 hp).2.2 x hx s (List.mem_cons_self ..)
    have := uFold_inv (r := r) h1 (fun x hx => hs x (List.mem_cons_of_mem _ hx)) (by simpa using hp)
    simpa using this
def unionOf (p : List Sp) : List Sp := p.foldl uStep []
theorem unionOf_inv {p : List Sp} (hs : ∀ s ∈ p, Sane s) (hp : p.Pairwise fun x y => x.f ≤ y.f) : UInv p (unionOf p) := by
  have h0 : UInv [] [] := ⟨⟨by simp, by simp⟩, fun k => Iff.rfl, by simp, by simp⟩
  exact uFold_inv (d := []) (r := p) h0 hs (by simpa using hp)
/-- The union of spans. -/
def uni (l : List Sp) : List Sp := unionOf ((l.filter fun s => decide (SpR s)).mergeSort fun x y => decide (x.f ≤ y.f))
theorem uni_inv (l : List Sp) : UInv (l.filter fun s => decide (SpR s)) (uni l) := by
  have hperm := List.mergeSort_perm (l.filter fun s => decide (SpR s)) fun x y => decide (x.f ≤ y.f)
  have hs : ∀ s ∈ (l.filter fun s => decide (SpR s)).mergeSort fun x y => decide (x.f ≤ y.f), Sane s := fun s hs => by
    have := (List.mem_filter.1 (hperm.mem_iff.1 hs)).2
    exact (of_decide_eq_true this).2.2
  have hp : ((l.filter fun s => decide (SpR s)).mergeSort fun x y => decide (x.f ≤ y.f)).Pairwise fun x y => x.f ≤ y.f := by
    have := List.pairwise_mergeSort (le := fun x y : Sp => decide (x.f ≤ y.f)) (fun a b c h1 h2 => by simp at *; grind) (fun a b => by simp; grind) (l.filter fun s => decide (SpR s))
    exact this.imp fun h => by simpa using h
  have h := unionOf_inv hs hp
  refine ⟨h.canon, fun k => ?_, fun x hx => ?_, fun hne => h.some fun e => hne ?_⟩
  · rw [show Keys (uni l) k ↔ _ from h.keys k]
    unfold Keys
    constructor <;> rintro ⟨s, hs, hk⟩
    · exact ⟨s, hperm.mem_iff.1 hs, hk⟩
    · exact ⟨s, hperm.mem_iff.2 hs, hk⟩
  · obtain ⟨⟨y, hy, e1⟩, ⟨z, hz, e2⟩⟩ := h.ends x hx
    exact ⟨⟨y, hperm.mem_iff.1 hy, e1⟩, ⟨z, hperm.mem_iff.1 hz, e2⟩⟩
  · rw [e] at hperm
    exact List.nil_perm.1 hperm
theorem keys_filter {l : List Sp} {k : Str} : Keys (l.filter fun s => decide (SpR s)) k ↔ AnyH l k := by
  unfold Keys AnyH
  constructor
  · rintro ⟨s, hs, hk⟩
    obtain ⟨h1, h2⟩ := List.mem_filter.1 hs
    exact ⟨s, h1, of_decide_eq_true h2, hk⟩
  · rintro ⟨s, hs, hr, hk⟩
    exact ⟨s, List.mem_filter.2 ⟨hs, decide_eq_true hr⟩, hk⟩
theorem uni_keys (l : List Sp) (k : Str) : Keys (uni l) k ↔ AnyH l k := by rw [(uni_inv l).keys, keys_filter]
theorem uni_canon (l : List Sp) : Canon (uni l) := (uni_inv l).canon
theorem uni_right {l : List Sp} : ∀ x ∈ uni l, SpR x := fun x hx => by
  obtain ⟨⟨y, hy, e1⟩, ⟨z, hz, e2⟩⟩ := (uni_inv l).ends x hx
  have h1 := of_decide_eq_true (List.mem_filter.1 hy).2
  have h2 := of_decide_eq_true (List.mem_filter.1 hz).2
  have h3 := (uni_canon l).1 x hx
  exact ⟨by rw [e1]; exact h1.1, by rw [e2]; exact h2.2.1, h3⟩
/-- However they are sorted. -/
theorem union_any {l p : List Sp} (hperm : p.Perm (l.filter fun s => decide (SpR s))) (hp : p.Pairwise fun x y => x.f ≤ y.f) : unionOf p = uni l := by
  have hs : ∀ s ∈ p, Sane s := fun s hs => (of_decide_eq_true (List.mem_filter.1 (hperm.mem_iff.1 hs)).2).2.2
  have h := unionOf_inv hs hp
  refine canon_unique h.canon (uni_canon l) fun k => ?_
  rw [h.keys, uni_keys, ← keys_filter]
  unfold Keys
  constructor <;> rintro ⟨s, hs, hk⟩
  · exact ⟨s, hperm.mem_iff.1 hs, hk⟩
  · exact ⟨s, hperm.mem_iff.2 hs, hk⟩
end Go.Ab

namespace Go.Ab
/-- A walk along a list: each step goes on, or is the end. -/
def runL {α S R : Type} (step : S → α → S ⊕ R) (fin : S → R) : List α → S → R
  | [], s => fin s
  | a :: r, s => match step s a with
    | .inl s' => runL step fin r s'
    | .inr x => x
/-- What a step leads to. -/
def aft {α S R : Type} (step : S → α → S ⊕ R) (fin : S → R) (r : List α) : S ⊕ R → R
  | .inl s' => runL step fin r s'
  | .inr x => x
theorem runL_cons {α S R : Type} {step : S → α → S ⊕ R} {fin : S → R} {a : α} {r : List α} {s : S} : runL step fin (a :: r) s = aft step fin r (step s a) := by
  unfold aft; rw [runL]
/-- A round of a walk along a list. -/
structure RoundE {α S R : Type} (ks : List Nat) (st0 : St) (l : List α) (step : S → α → S ⊕ R) (fin : S → R) (Ans : R) (vals : Nat → S → List (Nat × SV)) (inv : Nat → S → Prop) (k : Nat) (st : St) : Prop where
  out : ∃ s', norm ks st = upd st0 (vals (k + 1) s') ∧ inv (k + 1) s' ∧ runL step fin (l.drop (k + 1)) s' = Ans
theorem RoundE.by {α S R : Type} {ks : List Nat} {st0 : St} {l : List α} {step : S → α → S ⊕ R} {fin : S → R} {Ans : R} {vals : Nat → S → List (Nat × SV)} {inv : Nat → S → Prop} {k : Nat} {st : St}
    (s' : S) (h1 : norm ks st = upd st0 (vals (k + 1) s')) (h2 : inv (k + 1) s') (h3 : runL step fin (l.drop (k + 1)) s' = Ans) : RoundE ks st0 l step fin Ans vals inv k st := ⟨s', h1, h2, h3⟩
theorem pairK_mono {x : Nat × SV} {K K' : Nat → SV → Prop} (hK : ∀ a b, K a b → K' a b) (h : pairK x K) : pairK x K' := by
  obtain ⟨a, b⟩ := x
  cases a <;> cases b <;> exact hK _ _ h
theorem wqS_mono {P : Program} : ∀ {s : Stm} {Q Q' : Post} {st : St}, (∀ st, Q.nrm st → Q'.nrm st) → (∀ i st, Q.ex i st → Q'.ex i st) → (∀ st, Q.ret st → Q'.ret st) → wqS P s Q st → wqS P s Q' st := by
  have mono : ∀ {m : M} {Q Q' : St → Prop} (_ : ∀ st, Q st → Q' st) {st : St}, m.wq P Q st → m.wq P Q' st := by
    intro m Q Q' hQ
    induction m with
    | get i k ih =>
      intro st h
      simp only [M.wq] at h ⊢
      have : ∀ {st0 : St} {n : Nat} {K K' : Nat → SV → Prop}, (∀ v sv, K v sv → K' v sv) → look st0 n K → look st0 n K' := by
        intro st0
        induction st0 with
        | nil => intro n K K' _ h; exact h.elim
        | cons c r ih2 =>
          intro n K K' hK h
          obtain ⟨v, sv⟩ := c
          cases n with
          | zero => exact hK _ _ h
          | succ n => exact ih2 hK h
      exact this (fun v sv h => ih _ _ h) h
    | getp i f k ih =>
      intro st h
      simp only [M.wq] at h ⊢
      have : ∀ {st0 : St} {n : Nat} {K K' : Nat → SV → Prop}, (∀ v sv, K v sv → K' v sv) → look st0 n K → look st0 n K' := by
        intro st0
        induction st0 with
        | nil => intro n K K' _ h; exact h.elim
        | cons c r ih2 =>
          intro n K K' hK h
          obtain ⟨v, sv⟩ := c
          cases n with
          | zero => exact hK _ _ h
          | succ n => exact ih2 hK h
      exact this (fun v sv h => pairK_mono (fun a b h => ih _ _ h) h) h
    | set i ver sv k ih =>
      intro st h
      simp only [M.wq] at h ⊢
      have up : ∀ {st0 : St} {n v : Nat} {x : SV} {K K' : St → Prop}, (∀ st, K st → K' st) → upK st0 n v x K → upK st0 n v x K' := by
        intro st0
        induction st0 with
        | nil => intro n v x K K' hK h; exact hK _ h
        | cons c r ih2 =>
          intro n v x K K' hK h
          cases n with
          | zero => exact hK _ h
          | succ n => exact ih2 (fun st h => hK _ h) h
      cases sv <;> exact up (fun st h => ih h) h
    | done => intro st h; exact hQ _ h
    | chk p => intro st h; exact h
    | fail => intro st h; exact h
    | need p k ih => intro st ⟨h1, h2⟩; exact ⟨h1, ih _ h2⟩
    | all p k ih => intro st h b hb; exact ih _ (h b hb)
    | fact p k ih => intro st h hp; exact ih (h hp)
    | ite b x y ihx ihy => intro st h; exact ⟨fun hb => ihx (h.1 hb), fun hb => ihy (h.2 hb)⟩
    | call f args k ih => intro st ⟨Post, h1, h2⟩; exact ⟨Post, h1, fun r as1 hp => ih _ _ (h2 r as1 hp)⟩
  have monoL : ∀ {l : List Ao} {Q Q' : St → Prop} (_ : ∀ st, Q st → Q' st) {st : St}, wqIOs P l Q st → wqIOs P l Q' st := by
    intro l Q Q' hQ
    induction l with
    | nil => intro st h; exact hQ _ h
    | cons i l ih => intro st h; exact mono (fun st h => ih h) h
  have monoZ : ∀ {m : M} {K K' : St → List Rd → Log → List Prop → Prop} (_ : ∀ st R L F, K st R L F → K' st R L F) {st : St} {R : List Rd} {L : Log} {F : List Prop}, m.wz P K st R L F → m.wz P K' st R L F := by
    intro m K K' hK
    induction m with
    | get i k ih =>
      intro st R L F h
      simp only [M.wz] at h ⊢
      have : ∀ {st0 : St} {n : Nat} {K K' : Nat → SV → Prop}, (∀ v sv, K v sv → K' v sv) → look st0 n K → look st0 n K' := by
        intro st0
        induction st0 with
        | nil => intro n K K' _ h; exact h.elim
        | cons c r ih2 =>
          intro n K K' hK h
          obtain ⟨v, sv⟩ := c
          cases n with
          | zero => exact hK _ _ h
          | succ n => exact ih2 hK h
      exact this (fun v sv h => ih _ _ h) h
    | getp i f k ih =>
      intro st R L F h
      simp only [M.wz] at h ⊢
      have : ∀ {st0 : St} {n : Nat} {K K' : Nat → SV → Prop}, (∀ v sv, K v sv → K' v sv) → look st0 n K → look st0 n K' := by
        intro st0
        induction st0 with
        | nil => intro n K K' _ h; exact h.elim
        | cons c r ih2 =>
          intro n K K' hK h
          obtain ⟨v, sv⟩ := c
          cases n with
          | zero => exact hK _ _ h
          | succ n => exact ih2 hK h
      exact this (fun v sv h => pairK_mono (fun a b h => ih _ _ h) h) h
    | set i ver sv k ih =>
      intro st R L F h
      simp only [M.wz] at h ⊢
      have up : ∀ {st0 : St} {n v : Nat} {x : SV} {K K' : St → Prop}, (∀ st, K st → K' st) → upK st0 n v x K → upK st0 n v x K' := by
        intro st0
        induction st0 with
        | nil => intro n v x K K' hK h; exact hK _ h
        | cons c r ih2 =>
          intro n v x K K' hK h
          cases n with
          | zero => exact hK _ h
          | succ n => exact ih2 (fun st h => hK _ h) h
      cases sv <;> exact up (fun st h => ih h) h
    | done => intro st R L F h; exact hK _ _ _ _ h
    | chk p => intro st R L F h; exact h
    | fail => intro st R L F h; exact h
    | need p k ih => intro st R L F ⟨h1, h2⟩; exact ⟨h1, ih _ h2⟩
    | all p k ih => intro st R L F h; exact h
    | fact p k ih => intro st R L F h; exact ih (F := p :: F) h
    | ite b x y ihx ihy => intro st R L F h; exact ⟨fun hb => ihx (h.1 hb), fun hb => ihy (h.2 hb)⟩
    | call f args k ih => intro st R L F ⟨r0, as0, h1, h2⟩; exact ⟨r0, as0, h1, ih _ _ h2⟩
  have monoZL : ∀ {l : List Ao} {K K' : List Rec → St → Prop} (_ : ∀ ds st, K ds st → K' ds st) {ds : List Rec} {st : St}, wzIOs P l K ds st → wzIOs P l K' ds st := by
    intro l K K' hK
    induction l with
    | nil => intro ds st h; exact hK _ _ h
    | cons i l ih => intro ds st h; exact monoZ (fun _ _ _ _ h => ih h) h
  intro s
  induction s with
  | skip => intro Q Q' st h1 h2 h3 h; exact h1 _ h
  | ops l => intro Q Q' st h1 h2 h3 h; exact monoL h1 h
  | drw es l => intro Q Q' st h1 h2 h3 h; exact monoZL (fun _ _ h => ⟨h.ok, h.fits, fun hf => h1 _ (h.go hf)⟩) h
  | seq a b iha ihb => intro Q Q' st h1 h2 h3 h; exact iha (Q := ⟨wqS P b Q, Q.ex, Q.ret⟩) (Q' := ⟨wqS P b Q', Q'.ex, Q'.ret⟩) (fun st h => ihb h1 h2 h3 h) h2 h3 h
  | cond c a b iha ihb =>
    intro Q Q' st h1 h2 h3 h
    unfold wqS at h ⊢
    have aux : ∀ (i : I), (match i with | .bool t => M.ite t (.chk (wqS P a Q)) (.chk (wqS P b Q)) | _ => .fail).wq P (fun _ => False) st → (match i with | .bool t => M.ite t (.chk (wqS P a Q')) (.chk (wqS P b Q')) | _ => .fail).wq P (fun _ => False) st := by
      intro i h
      split at h
      · exact ⟨fun hb => iha h1 h2 h3 (h.1 hb), fun hb => ihb h1 h2 h3 (h.2 hb)⟩
      · exact h.elim
    unfold rdB' at h ⊢
    cases c with
    | c x => exact aux x h
    | nils e sz => exact aux (.list []) h
    | t n =>
      simp only [rdI, M.wq] at h ⊢
      have : ∀ {st0 : St} {n : Nat} {K K' : Nat → SV → Prop}, (∀ v sv, K v sv → K' v sv) → look st0 n K → look st0 n K' := by
        intro st0
        induction st0 with
        | nil => intro n K K' _ h; exact h.elim
        | cons c r ih2 =>
          intro n K K' hK h
          obtain ⟨v, sv⟩ := c
          cases n with
          | zero => exact hK _ _ h
          | succ n => exact ih2 hK h
      refine this (fun v sv h => ?_) h
      cases sv with
      | v x => exact aux x h
      | _ => exact h.elim
  | block id a ih =>
    intro Q Q' st h1 h2 h3 h
    refine ih (Q := ⟨Q.nrm, brk id Q, Q.ret⟩) (Q' := ⟨Q'.nrm, brk id Q', Q'.ret⟩) h1 ?_ h3 h
    intro i st h
    simp only [brk] at h ⊢
    split
    · rename_i hi; rw [if_pos hi] at h; exact h1 _ h
    · rename_i hi; rw [if_neg hi] at h; exact h2 _ _ h
  | loop ks a ih =>
    intro Q Q' st h1 h2 h3 ⟨X, J, R, μ, h4, h5⟩
    refine ⟨X, J, R, μ, h4, fun x hx => ?_⟩
    have : ∀ {st0 : St} {K K' : St → Prop}, (∀ st, K st → K' st) → litK st0 K → litK st0 K' := by
      intro st0
      induction st0 with
      | nil => intro K K' hK h; exact hK _ h
      | cons c r ih2 =>
        intro K K' hK h
        obtain ⟨v, sv⟩ := c
        refine ih2 (K := fun r' => svK sv fun sv => K ((v, sv) :: r')) (fun st h => ?_) h
        cases sv <;> exact hK _ h
    exact this (fun st h => ih (Q := ⟨Round ks J R μ x, Q.ex, Q.ret⟩) (Q' := ⟨Round ks J R μ x, Q'.ex, Q'.ret⟩) (fun _ h => h) h2 h3 h) (h5 x hx)
  | exit id => intro Q Q' st h1 h2 h3 h; exact h2 _ _ h
  | ret => intro Q Q' st h1 h2 h3 h; exact h3 _ h
theorem litK_mono : ∀ {st0 : St} {K K' : St → Prop}, (∀ st, K st → K' st) → litK st0 K → litK st0 K'
  | [], _, _, hK, h => hK _ h
  | (v, sv) :: r, K, K', hK, h => by
    refine litK_mono (st0 := r) (K := fun r' => svK sv fun sv => K ((v, sv) :: r')) (fun st h => ?_) h
    cases sv <;> exact hK _ h
theorem RoundE.aft {α S R : Type} {ks : List Nat} {st0 : St} {l : List α} {step : S → α → S ⊕ R} {fin : S → R} {Ans : R} {vals : Nat → S → List (Nat × SV)} {inv : Nat → S → Prop} {k : Nat} {st : St} {s' : S}
    (h3 : Ab.aft step fin (l.drop (k + 1)) (.inl s') = Ans) (h1 : norm ks st = upd st0 (vals (k + 1) s')) (h2 : inv (k + 1) s') : RoundE ks st0 l step fin Ans vals inv k st := ⟨s', h1, h2, h3⟩
theorem aft_inr {α S R : Type} {step : S → α → S ⊕ R} {fin : S → R} {r : List α} {x A : R} (h : Ab.aft step fin r (.inr x) = A) : x = A := h
/-- A loop that goes along a list: its answer is 'runL' of its steps. -/
theorem each {P : Program} {α S R : Type} {ks : List Nat} {a : Stm} {ex : Nat → St → Prop} {ret : St → Prop} {st : St} (l : List α) (step : S → α → S ⊕ R) (fin : S → R) (Ans : R) (vals : Nat → S → List (Nat × SV)) (inv : Nat → S → Prop) (s0 : S)
    (h0 : norm ks st = upd (norm ks st) (vals 0 s0)) (hR : inv 0 s0) (hA : runL step fin l s0 = Ans)
    (hb : ∀ k s e, l[k]? = some e → k < l.length → inv k s → aft step fin (l.drop (k + 1)) (step s e) = Ans →
      litK (upd (norm ks st) (vals k s)) (wqS P a ⟨RoundE ks (norm ks st) l step fin Ans vals inv k, ex, ret⟩))
    (he : ∀ s k, k = l.length → inv k s → fin s = Ans → litK (upd (norm ks st) (vals k s)) (wqS P a ⟨fun _ => False, ex, ret⟩)) :
    LoopWq ks (fun K => wqS P a ⟨K, ex, ret⟩) st := by
  refine ⟨Nat × S, fun x => upd (norm ks st) (vals x.1 x.2), fun x => x.1 ≤ l.length ∧ inv x.1 x.2 ∧ runL step fin (l.drop x.1) x.2 = Ans, fun x => l.length - x.1, ⟨(0, s0), h0, Nat.zero_le _, hR, hA⟩, ?_⟩
  rintro ⟨k, s⟩ ⟨h1, h2, h3⟩
  dsimp only at h1 h2 h3 ⊢
  by_cases hk : k < l.length
  · obtain ⟨e, hek⟩ : ∃ e, l[k]? = some e := ⟨_, List.getElem?_eq_getElem hk⟩
    have hke : l[k] = e := by rw [List.getElem?_eq_getElem hk] at hek; simpa using hek
    rw [List.drop_eq_getElem_cons hk, hke, runL_cons] at h3
    refine litK_mono (K := wqS P a ⟨RoundE ks (norm ks st) l step fin Ans vals inv k, ex, ret⟩) (fun st' h => wqS_mono (Q := ⟨RoundE ks (norm ks st) l step fin Ans vals inv k, ex, ret⟩) ?_ (fun _ _ h => h) (fun _ h => h) h) (hb k s e hek hk h2 h3)
    rintro st1 ⟨s', g1, g2, g3⟩
    exact ⟨(k + 1, s'), g1, ⟨hk, g2, g3⟩, by dsimp only; omega⟩
  · have hk' : k = l.length := by omega
    rw [List.drop_eq_nil_of_le (by omega)] at h3
    refine litK_mono (K := wqS P a ⟨fun _ => False, ex, ret⟩) (fun st' h => wqS_mono (Q := ⟨fun _ => False, ex, ret⟩) ?_ (fun _ _ h => h) (fun _ h => h) h) (he s k hk' h2 h3)
    intro _ h
    exact h.elim
abbrev strs (m : List Str) : List I := m.map I.str
theorem strs_get {m : List Str} {k : Nat} {e : Str} (h : m[k]? = some e) : (strs m)[k]? = some (.str e) := by simp [h]
theorem map_get {α : Type} {f : α → I} {l : List α} {k : Nat} {e : α} (h : l[k]? = some e) : (l.map f)[Int.toNat (k : Int)]? = some (f e) := by
  rw [Int.toNat_natCast, List.getElem?_map, h]
  rfl
theorem size_map {α : Type} {f : α → I} {l : List α} {n : Nat} (h : ∀ a, (f a).size = n) : ∀ u ∈ l.map f, u.size = n := by
  intro u hu
  obtain ⟨a, _, rfl⟩ := List.mem_map.1 hu
  exact h a
theorem size_one {x : I} {n : Nat} (h : x.size = n) : ∀ u ∈ [x], u.size = n := by
  intro u hu
  rw [List.mem_singleton] at hu
  subst hu
  exact h
end Go.Ab

namespace Go.Ab
theorem LENS : (∀ (p : Prop) [Decidable p], (decide p = true) = p) ∧ (∀ (p : Prop) [Decidable p], (decide p = false) = ¬ p) ∧ (∀ b : Bool, ((!b) = true) = (b = false)) ∧ (∀ b : Bool, ((!b) = false) = (b = true)) ∧
    (∀ b : Bool, (¬ b = true) = (b = false)) ∧ (∀ b : Bool, (¬ b = false) = (b = true)) ∧ (∀ a b : Int, (¬ a < b) = (b ≤ a)) ∧ (∀ a b : Int, (¬ a ≤ b) = (b < a)) ∧
    (∀ (α β : Type) (f : α → β) (l : List α), (l.map f).length = l.length) ∧ (∀ (α : Type) (l m : List α), (l ++ m).length = l.length + m.length) ∧ (∀ (α : Type) (a : α) (l : List α), (a :: l).length = l.length + 1) ∧ (∀ (α : Type), ([] : List α).length = 0) ∧
    (∀ (α : Type) (l : List α) (i : Nat) (a : α), (l.set i a).length = l.length) ∧ (∀ (α : Type) (n : Nat) (a : α), (List.replicate n a).length = n) ∧ (∀ (α : Type) (i : Nat) (l : List α), (l.take i).length = min i l.length) ∧ (∀ (α : Type) (i : Nat) (l : List α), (l.drop i).length = l.length - i) ∧
    (∀ n : Nat, Int.toNat (n : Int) = n) ∧ maxLen = 9223372036854775807 := by
  refine ⟨?_, ?_, ?_, ?_, ?_, ?_, ?_, ?_, ?_, ?_, ?_, ?_, ?_, ?_, ?_, ?_, ?_, rfl⟩ <;> intros <;> simp
theorem NRMS : (∀ a b : Str, Op.bytesLess a b = decide (a < b)) ∧ (∀ (p : Prop) [Decidable p], (decide p = true) = p) ∧ (∀ (p : Prop) [Decidable p], (decide p = false) = ¬ p) ∧ (∀ b : Bool, ((!b) = true) = (b = false)) ∧ (∀ b : Bool, ((!b) = false) = (b = true)) ∧
    (∀ b : Bool, (¬ b = true) = (b = false)) ∧ (∀ b : Bool, (¬ b = false) = (b = true)) ∧ (∀ (α β : Type) (f : α → β) (l : List α), (l.map f).length = l.length) ∧ (∀ n : Nat, Int.toNat (n : Int) = n) := by
  refine ⟨bless_eq, ?_, ?_, ?_, ?_, ?_, ?_, ?_, ?_⟩ <;> intros <;> simp
theorem dsize_map {α : Type} {f : α → D} {l : List α} {n : Nat} (h : ∀ a, (f a).size = n) : ∀ u ∈ l.map f, u.size = n := by
  intro u hu
  obtain ⟨a, _, rfl⟩ := List.mem_map.1 hu
  exact h a
theorem dsize_one {x : D} {n : Nat} (h : x.size = n) : ∀ u ∈ [x], u.size = n := by
  intro u hu
  rw [List.mem_singleton] at hu
  subst hu
  exact h
theorem dsize_its {α : Type} {f : α → I} {l : List α} {n : Nat} (h : ∀ a, (f a).size = n) : ∀ u ∈ (l.map f).map D.it, u.size = n := by
  intro u hu
  obtain ⟨x, hx, rfl⟩ := List.mem_map.1 hu
  obtain ⟨a, _, rfl⟩ := List.mem_map.1 hx
  exact h a
theorem map_getD {α β : Type} {f : α → β} {l : List α} {k : Nat} {e : α} (h : l[k]? = some e) : (l.map f)[Int.toNat (k : Int)]? = some (f e) := by
  rw [Int.toNat_natCast, List.getElem?_map, h]
  rfl
theorem map_getN {α β : Type} {f : α → β} {l : List α} {k : Nat} {e : α} (h : l[k]? = some e) : (l.map f)[k]? = some (f e) := by
  rw [List.getElem?_map, h]
  rfl
theorem wq_eq {P : Program} {m m' : M} {Q : St → Prop} {st : St} (h : m = m') (hk : m'.wq P Q st) : m.wq P Q st := h ▸ hk
theorem wz_eq {P : Program} {m m' : M} {K : St → List Rd → Log → List Prop → Prop} {st : St} {R : List Rd} {L : Log} {F : List Prop} (h : m = m') (hk : m'.wz P K st R L F) : m.wz P K st R L F := h ▸ hk
theorem at_eyeP {v : Nat} {p : List Nat} {f : D → Option SV} {ver : Nat} {inv : List Nat} {t u : D} {r : SV} {K : Nat → SV → Prop} (ha : alive v inv p.length = true) (hat : D.at p t = some u) (hf : f u = some r)
    (hk : pairK (Nat.min (lv inv (p.length + 1)) ver, r) K) : seeK [(eyeP v p f ver (.own inv t)).2] (fun b => natK (eyeP v p f ver (.own inv t)).1 fun a => K a b) := by
  simp only [eyeP, ha, hat, seen, hf]
  exact hk
theorem at_eyeH {v : Nat} {p : List Nat} {f : D → Option SV} {ver : Nat} {inv : List Nat} {t u : D} {r : SV} {K : Nat → SV → Prop} (ha : alive v inv (p.length + 1) = true) (hat : D.at p t = some u) (hf : f u = some r)
    (hk : pairK (Nat.min (lv inv (p.length + 1)) ver, r) K) : seeK [(eyeH v p f ver (.own inv t)).2] (fun b => natK (eyeH v p f ver (.own inv t)).1 fun a => K a b) := by
  simp only [eyeH, ha, hat, seen, hf]
  exact hk
end Go.Ab
