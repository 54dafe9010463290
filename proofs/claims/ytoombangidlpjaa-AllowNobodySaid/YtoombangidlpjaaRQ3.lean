/- One text of the proof whose last text says what is proved. -/
import Derived.Test.YtoombangidlpjaaR14
set_option linter.unusedVariables false
set_option linter.unusedSimpArgs false
set_option maxRecDepth 100000
namespace Go.Ab

abbrev Rise (E : List Str) : Prop := E.Pairwise fun x y => x < y
theorem ins_mem (s x : Str) : ∀ l : List Str, x ∈ ins s l ↔ x = s ∨ x ∈ l
  | [] => by simp [ins]
  | y :: r => by
    unfold ins
    have := ins_mem s x r
    split
    · simp
    · split
      · rename_i h; subst h; simp
      · simp [this]; grind
theorem ins_rise (s : Str) : ∀ {l : List Str}, Rise l → Rise (ins s l)
  | [], _ => by simp [ins, Rise]
  | y :: r, h => by
    obtain ⟨h1, h2⟩ := List.pairwise_cons.1 h
    unfold ins
    split
    · rename_i hs
      refine List.pairwise_cons.2 ⟨fun z hz => ?_, h⟩
      rcases List.mem_cons.1 hz with rfl | hz
      · exact hs
      · have := h1 z hz
        grind
    · split
      · exact h
      · rename_i hs hne
        refine List.pairwise_cons.2 ⟨fun z hz => ?_, ins_rise s h2⟩
        rcases (ins_mem s z r).1 hz with rfl | hz
        · grind
        · exact h1 z hz
theorem estep_rise {E : List Str} {s : Sp} (h : Rise E) : Rise (estep E s) := by
  unfold estep
  split
  · exact ins_rise _ (ins_rise _ h)
  · exact h
theorem estep_mem {E : List Str} {s : Sp} {x : Str} : x ∈ estep E s ↔ x ∈ E ∨ (SpR s ∧ (x = s.f ∨ x = s.t)) := by
  unfold estep
  split
  · rename_i h
    rw [ins_mem, ins_mem]
    grind
  · grind
theorem endsM_spec (l : List Sp) : Rise (endsM l) ∧ ∀ x, x ∈ endsM l ↔ x = [] ∨ ∃ s ∈ l, SpR s ∧ (x = s.f ∨ x = s.t) := by
  have : ∀ (l : List Sp) (E : List Str), Rise E → Rise (l.foldl estep E) ∧ ∀ x, x ∈ l.foldl estep E ↔ x ∈ E ∨ ∃ s ∈ l, SpR s ∧ (x = s.f ∨ x = s.t) := by
    intro l
    induction l with
    | nil => intro E h; exact ⟨h, by simp⟩
    | cons s r ih =>
      intro E h
      obtain ⟨h1, h2⟩ := ih (estep E s) (estep_rise h)
      refine ⟨h1, fun x => ?_⟩
      rw [List.foldl_cons, h2, estep_mem]
      simp only [List.mem_cons]
      grind
  obtain ⟨h1, h2⟩ := this l [[]] (by simp [Rise])
  exact ⟨h1, fun x => by rw [endsM, h2]; simp⟩

/-- The greatest end that is not behind a key. -/
def Floor (E : List Str) (k e : Str) : Prop := e ∈ E ∧ e ≤ k ∧ ∀ x ∈ E, x ≤ k → x ≤ e
theorem floor_exists : ∀ {E : List Str} {k : Str}, (∃ e ∈ E, e ≤ k) → ∃ e, Floor E k e
  | [], k, h => by simp at h
  | y :: r, k, h => by
    by_cases hr : ∃ e ∈ r, e ≤ k
    · obtain ⟨e, h1, h2, h3⟩ := floor_exists hr
      by_cases hy : y ≤ k ∧ e < y
      · refine ⟨y, List.mem_cons_self .., hy.1, fun x hx hxk => ?_⟩
        rcases List.mem_cons.1 hx with rfl | hx
        · exact Std.le_refl _
        · have := h3 x hx hxk
          grind
      · refine ⟨e, List.mem_cons_of_mem _ h1, h2, fun x hx hxk => ?_⟩
        rcases List.mem_cons.1 hx with rfl | hx
        · grind
        · exact h3 x hx hxk
    · obtain ⟨e, he, hek⟩ := h
      rcases List.mem_cons.1 he with rfl | he
      · refine ⟨e, List.mem_cons_self .., hek, fun x hx hxk => ?_⟩
        rcases List.mem_cons.1 hx with rfl | hx
        · exact Std.le_refl _
        · exact absurd ⟨x, hx, hxk⟩ hr
      · exact absurd ⟨e, he, hek⟩ hr
theorem floor_snoc {D : List Str} {e k x : Str} (h : ∀ d ∈ D, d < e) : Floor (D ++ [e]) k x ↔ if e ≤ k then x = e else Floor D k x := by
  unfold Floor
  simp only [List.mem_append, List.mem_singleton]
  split
  · rename_i hk
    constructor
    · rintro ⟨h1, h2, h3⟩
      have h4 := h3 e (.inr rfl) hk
      rcases h1 with h1 | h1
      · have := h x h1
        grind
      · exact h1
    · rintro rfl
      refine ⟨.inr rfl, hk, fun y hy hyk => ?_⟩
      rcases hy with hy | rfl
      · have := h y hy
        grind
      · exact Std.le_refl _
  · rename_i hk
    constructor
    · rintro ⟨h1, h2, h3⟩
      refine ⟨?_, h2, fun y hy hyk => h3 y (.inl hy) hyk⟩
      rcases h1 with h1 | rfl
      · exact h1
      · exact absurd h2 hk
    · rintro ⟨h1, h2, h3⟩
      refine ⟨.inl h1, h2, fun y hy hyk => ?_⟩
      rcases hy with hy | rfl
      · exact h3 y hy hyk
      · exact absurd hyk hk

structure MInv (p : Str → Bool) (D : List Str) (o : List Sp × Bool) : Prop where
  canon : Canon o.1
  keys : ∀ k, Keys o.1 k ↔ ∃ e, Floor D k e ∧ p e = true
  starts : ∀ x ∈ o.1, x.f ∈ D
  shut : o.2 = false → ∀ x ∈ o.1, x.t ≠ [] ∧ x.t ∈ D
  opened : o.2 = true → ∃ q f, o.1 = q ++ [⟨f, []⟩] ∧ f ∈ D ∧ ∀ x ∈ q, x.t ≠ [] ∧ x.t ∈ D
theorem keys_snoc (o : List Sp) (y : Sp) (k : Str) : Keys (o ++ [y]) k ↔ Keys o k ∨ SpH y k := by
  unfold Keys
  simp only [List.mem_append, List.mem_singleton]
  constructor
  · rintro ⟨x, hx | rfl, hk⟩
    · exact .inl ⟨x, hx, hk⟩
    · exact .inr hk
  · rintro (⟨x, hx, hk⟩ | hk)
    · exact ⟨x, .inl hx, hk⟩
    · exact ⟨y, .inr rfl, hk⟩
theorem mstep_inv {p : Str → Bool} {D : List Str} {o : List Sp × Bool} {e : Str} (h : MInv p D o) (hD : ∀ d ∈ D, d < e) : MInv p (D ++ [e]) (mstep o (e, p e)) := by
  obtain ⟨out, op⟩ := o
  obtain ⟨hc, hk, hs, hsh, hop⟩ := h
  dsimp only at hc hk hs hsh hop
  have hnew : ∀ k, (∃ x, Floor (D ++ [e]) k x ∧ p x = true) ↔ if e ≤ k then p e = true else Keys out k := by
    intro k
    simp only [floor_snoc hD]
    split
    · constructor
      · rintro ⟨x, rfl, hx⟩; exact hx
      · intro hx; exact ⟨e, rfl, hx⟩
    · rw [hk]
  have hs' : ∀ x ∈ out, x.f ∈ D ++ [e] := fun x hx => List.mem_append_left _ (hs x hx)
  have dead : ∀ x ∈ out, x.t ≠ [] → x.t ∈ D → ∀ k, e ≤ k → ¬ SpH x k := by
    intro x hx h1 h2 k hek hh
    have h3 := hD _ h2
    have h4 := hh.2
    grind
  cases hp : p e with
  | true =>
    cases op with
    | true =>
      obtain ⟨q, f, rfl, hf, hq⟩ := hop rfl
      refine ⟨hc, fun k => ?_, hs', fun h => (by cases h), fun _ => ⟨q, f, rfl, List.mem_append_left _ hf, fun x hx => ⟨(hq x hx).1, List.mem_append_left _ (hq x hx).2⟩⟩⟩
      rw [hnew]
      split
      · rename_i hek
        rw [hp]
        simp only [iff_true]
        show Keys (q ++ [⟨f, []⟩]) k
        rw [keys_snoc]
        right
        have := hD f hf
        exact ⟨by dsimp only; grind, .inl rfl⟩
      · rfl
    | false =>
      have hsh := hsh rfl
      refine ⟨?_, fun k => ?_, ?_, fun h => (by cases h), fun _ => ⟨out, e, rfl, by simp, fun x hx => ⟨(hsh x hx).1, List.mem_append_left _ (hsh x hx).2⟩⟩⟩
      · refine ⟨?_, List.pairwise_append.2 ⟨hc.2, by simp, ?_⟩⟩
        · intro x hx
          rcases List.mem_append.1 hx with hx | hx
          · exact hc.1 x hx
          · rw [List.mem_singleton.1 hx]; exact .inl rfl
        · intro x hx y hy
          rw [List.mem_singleton.1 hy]
          exact ⟨(hsh x hx).1, hD _ (hsh x hx).2⟩
      · rw [hnew]
        show Keys (out ++ [⟨e, []⟩]) k ↔ _
        rw [keys_snoc]
        split
        · rename_i hek
          rw [hp]
          simp only [iff_true]
          exact .inr ⟨hek, .inl rfl⟩
        · rename_i hek
          constructor
          · rintro (h | h)
            · exact h
            · exact absurd h.1 hek
          · exact .inl
      · intro x hx
        rcases List.mem_append.1 hx with hx | hx
        · exact hs' x hx
        · rw [List.mem_singleton.1 hx]; simp
  | false =>
    cases op with
    | true =>
      obtain ⟨q, f, rfl, hf, hq⟩ := hop rfl
      have hfe := hD f hf
      have hm : mstep (q ++ [⟨f, []⟩], true) (e, false) = (q ++ [⟨f, e⟩], false) := by simp [mstep]
      rw [hm]
      have hne : e ≠ [] := by
        rintro rfl
        exact List.not_lt_nil f hfe
      have hpw := List.pairwise_append.1 hc.2
      refine ⟨⟨?_, List.pairwise_append.2 ⟨hpw.1, by simp, ?_⟩⟩, fun k => ?_, ?_, fun _ x hx => ?_, fun h => (by cases h)⟩
      · intro x hx
        rcases List.mem_append.1 hx with hx | hx
        · exact hc.1 x (List.mem_append_left _ hx)
        · rw [List.mem_singleton.1 hx]; exact .inr hfe
      · intro x hx y hy
        rw [List.mem_singleton.1 hy]
        exact hpw.2.2 x hx ⟨f, []⟩ (by simp)
      · rw [hnew]
        show Keys (q ++ [⟨f, e⟩]) k ↔ _
        rw [keys_snoc]
        split
        · rename_i hek
          rw [hp]
          simp only [Bool.false_eq_true, iff_false]
          rintro (⟨x, hx, hk⟩ | hk)
          · exact dead x (List.mem_append_left _ hx) (hq x hx).1 (hq x hx).2 k hek hk
          · have := hk.2
            dsimp only at this
            grind
        · rename_i hek
          rw [keys_snoc]
          unfold SpH
          dsimp only
          grind
      · intro x hx
        rcases List.mem_append.1 hx with hx | hx
        · exact hs' x (List.mem_append_left _ hx)
        · rw [List.mem_singleton.1 hx]; exact List.mem_append_left _ hf
      · rcases List.mem_append.1 hx with hx | hx
        · exact ⟨(hq x hx).1, List.mem_append_left _ (hq x hx).2⟩
        · rw [List.mem_singleton.1 hx]; exact ⟨hne, by simp⟩
    | false =>
      have hsh := hsh rfl
      refine ⟨hc, fun k => ?_, hs', fun _ x hx => ⟨(hsh x hx).1, List.mem_append_left _ (hsh x hx).2⟩, fun h => (by cases h)⟩
      rw [hnew]
      split
      · rename_i hek
        rw [hp]
        simp only [Bool.false_eq_true, iff_false]
        rintro ⟨x, hx, hk⟩
        exact dead x hx (hsh x hx).1 (hsh x hx).2 k hek hk
      · rfl
theorem made_inv (p : Str → Bool) : ∀ {R D : List Str} {o : List Sp × Bool}, MInv p D o → Rise (D ++ R) → MInv p (D ++ R) ((R.zip (R.map p)).foldl mstep o)
  | [], D, o, h, _ => by simpa using h
  | e :: R, D, o, h, hr => by
    have h1 := mstep_inv h fun d hd => (List.pairwise_append.1 hr).2.2 d hd e (List.mem_cons_self ..)
    have := made_inv p (R := R) h1 (by simpa using hr)
    simpa using this
theorem made_spec {p : Str → Bool} {E : List Str} (hr : Rise E) : Canon (madeM E (E.map p)) ∧ ∀ k, Keys (madeM E (E.map p)) k ↔ ∃ e, Floor E k e ∧ p e = true := by
  have h0 : MInv p [] ([], false) := ⟨⟨by simp, by simp⟩, fun k => by simp [Keys, Floor], by simp, by simp, by simp⟩
  have := made_inv p (R := E) h0 (by simpa using hr)
  rw [List.nil_append] at this
  exact ⟨this.canon, this.keys⟩

/-- Between two ends a span has all keys or none. -/
theorem floor_has {E : List Str} {k e : Str} (h : Floor E k e) {s : Sp} (hf : s.f ∈ E) (ht : s.t ∈ E) : SpH s k ↔ SpH s e := by
  obtain ⟨h1, h2, h3⟩ := h
  have h4 := h3 _ hf
  have h5 := h3 _ ht
  unfold SpH
  grind
theorem floor_any {l : List Sp} {E : List Str} (hE : ∀ s ∈ l, SpR s → s.f ∈ E ∧ s.t ∈ E) {k e : Str} (h : Floor E k e) : AnyH l k ↔ AnyH l e := by
  unfold AnyH
  constructor
  · rintro ⟨s, hs, hr, hk⟩
    obtain ⟨h1, h2⟩ := hE s hs hr
    exact ⟨s, hs, hr, (floor_has h h1 h2).1 hk⟩
  · rintro ⟨s, hs, hr, hk⟩
    obtain ⟨h1, h2⟩ := hE s hs hr
    exact ⟨s, hs, hr, (floor_has h h1 h2).2 hk⟩
theorem endsM_floor (l : List Sp) (k : Str) : ∃ e, Floor (endsM l) k e := floor_exists ⟨[], ((endsM_spec l).2 []).2 (.inl rfl), List.nil_le k⟩
theorem endsM_has {l : List Sp} {s : Sp} (hs : s ∈ l) (hr : SpR s) : s.f ∈ endsM l ∧ s.t ∈ endsM l :=
  ⟨((endsM_spec l).2 _).2 (.inr ⟨s, hs, hr, .inl rfl⟩), ((endsM_spec l).2 _).2 (.inr ⟨s, hs, hr, .inr rfl⟩)⟩
theorem rUnion_eq (l : List Sp) : rUnion l = uni l := by
  obtain ⟨h1, h2⟩ := made_spec (p := fun e => decide (AnyH l e)) (endsM_spec l).1
  refine canon_unique h1 (uni_canon l) fun k => ?_
  rw [show Keys (rUnion l) k ↔ _ from h2 k, uni_keys]
  constructor
  · rintro ⟨e, hf, he⟩
    exact (floor_any (fun s hs hr => endsM_has hs hr) hf).2 (of_decide_eq_true he)
  · intro h
    obtain ⟨e, hf⟩ := endsM_floor l k
    exact ⟨e, hf, decide_eq_true ((floor_any (fun s hs hr => endsM_has hs hr) hf).1 h)⟩
theorem uni_uni (l : List Sp) : uni (uni l) = uni l := by
  refine canon_unique (uni_canon _) (uni_canon l) fun k => ?_
  rw [uni_keys]
  unfold AnyH Keys
  constructor
  · rintro ⟨s, hs, _, hk⟩; exact ⟨s, hs, hk⟩
  · rintro ⟨s, hs, hk⟩; exact ⟨s, hs, uni_right s hs, hk⟩
theorem rCov_iff (l : List Sp) (s : Sp) : RCov l s ↔ SpR s ∧ ∀ k, SpH s k → AnyH l k := by
  unfold RCov
  constructor
  · rintro ⟨hr, h⟩
    refine ⟨hr, fun k hk => ?_⟩
    obtain ⟨e, hf⟩ := endsM_floor (l ++ [s]) k
    obtain ⟨h1, h2⟩ := endsM_has (l := l ++ [s]) (s := s) (by simp) hr
    exact (floor_any (fun x hx hxr => endsM_has (List.mem_append_left _ hx) hxr) hf).2 (h e hf.1 ((floor_has hf h1 h2).1 hk))
  · rintro ⟨hr, h⟩
    exact ⟨hr, fun e _ he => h e he⟩
theorem endsI_le (a b : Str) : endsI a b ≤ 0 ↔ ¬ EndGt a b := by
  rw [← endsI_gt]
  omega
theorem inside_iff {a b : Sp} (ha : SpR a) (hb : SpR b) : (b.f ≤ a.f ∧ endsI a.t b.t ≤ 0) ↔ ∀ k, SpH a k → SpH b k := by
  have h1 := ha.2.2
  have h2 := hb.2.2
  rw [endsI_le]
  unfold EndGt
  constructor
  · rintro ⟨h3, h4⟩ k ⟨h5, h6⟩
    unfold SpH
    grind
  · intro h
    have h3 := h a.f ⟨Std.le_refl _, h1⟩
    refine ⟨h3.1, ?_⟩
    rintro ⟨h4, h5⟩
    by_cases h6 : a.f ≤ b.t
    · have h7 := h b.t
      unfold SpH at h3 h7
      grind
    · have := h3.2
      grind
theorem spIn_iff (a b : Sp) : SpIn a b ↔ SpR b ∧ RCov [b] a := by
  rw [rCov_iff]
  unfold SpIn
  constructor
  · rintro ⟨h1, h2, h3, h4⟩
    exact ⟨h2, h1, fun k hk => ⟨b, by simp, h2, (inside_iff h1 h2).1 ⟨h3, h4⟩ k hk⟩⟩
  · rintro ⟨h2, h1, h⟩
    have := (inside_iff h1 h2).2 fun k hk => by
      obtain ⟨x, hx, _, hh⟩ := h k hk
      rw [List.mem_singleton.1 hx] at hh
      exact hh
    exact ⟨h1, h2, this⟩
end Go.Ab

set_option maxRecDepth 100000
namespace Go.Ab

theorem canon_end : ∀ {l : List Sp}, Canon l → ∀ x ∈ l, x.t ≠ [] → ¬ Keys l x.t
  | [], _, x, hx, _ => by cases hx
  | s :: r, h, x, hx, ht => by
    rcases List.mem_cons.1 hx with rfl | hx'
    · exact h.end ht
    · intro hk
      obtain ⟨y, hy, hyk⟩ := hk
      rcases List.mem_cons.1 hy with he | hy'
      · have h1 := h.gap x hx'
        have h2 := h.tail.1 x hx'
        have h3 := hyk.2
        unfold Sane at h2
        rw [he] at h3
        grind
      · exact canon_end h.tail x hx' ht ⟨y, hy', hyk⟩
theorem cov_iff (l : List Sp) (s : Sp) : (∃ u ∈ uni l, SpIn s u) ↔ RCov l s := by
  rw [rCov_iff]
  constructor
  · rintro ⟨u, hu, h⟩
    refine ⟨h.1, fun k hk => (uni_keys l k).1 ⟨u, hu, ?_⟩⟩
    exact (inside_iff h.1 h.2.1).1 ⟨h.2.2.1, h.2.2.2⟩ k hk
  · rintro ⟨hr, h⟩
    have h0 : SpH s s.f := ⟨Std.le_refl _, hr.2.2⟩
    obtain ⟨u, hu, huk⟩ := (uni_keys l _).2 (h _ h0)
    have hur := uni_right u hu
    refine ⟨u, hu, hr, hur, (inside_iff hr hur).2 fun k hk => ?_⟩
    by_cases ht : u.t = []
    · have h1 := huk.1
      have h2 := hk.1
      exact ⟨by grind, .inl ht⟩
    · have h3 := canon_end (uni_canon l) u hu ht
      rw [uni_keys] at h3
      by_cases h4 : k < u.t
      · have h1 := huk.1
        have h2 := hk.1
        exact ⟨by grind, .inr h4⟩
      · refine absurd (h _ ⟨?_, ?_⟩) h3
        · have := huk.2
          grind
        · have := hk.2
          grind

def maxS (a b : Str) : Str := if (!Op.bytesLess a b) = true then a else b
theorem maxS_eq (a b : Str) : maxS a b = if a < b then b else a := by
  unfold maxS
  rw [bless_eq]
  by_cases h : a < b <;> simp [h]
def cutA (s x : Sp) : List Sp := if x.f < s.f then [⟨x.f, if EndGt x.t s.f then s.f else x.t⟩] else []
def cutB (s x : Sp) : List Sp := if s.t ≠ [] ∧ EndGt x.t s.t then [⟨maxS x.f s.t, x.t⟩] else []
def cutOut (s x : Sp) : List Sp := cutA s x ++ cutB s x
def minus (l : List Sp) (s : Sp) : List Sp := if SpR s then (uni l).flatMap (cutOut s) else uni l
theorem cut_cases {s x y : Sp} (h : y ∈ cutOut s x) : (x.f < s.f ∧ s.f ≠ [] ∧ y.f = x.f ∧ ((EndGt x.t s.f ∧ y.t = s.f) ∨ (¬ EndGt x.t s.f ∧ y.t = x.t))) ∨ (s.t ≠ [] ∧ EndGt x.t s.t ∧ y.t = x.t ∧ ((x.f < s.t ∧ y.f = s.t) ∨ (¬ x.f < s.t ∧ y.f = x.f))) := by
  unfold cutOut cutA cutB at h
  rcases List.mem_append.1 h with h | h
  · split at h
    · rw [List.mem_singleton.1 h]
      left
      rename_i h1
      refine ⟨h1, fun e => List.not_lt_nil x.f (by rw [e] at h1; exact h1), rfl, ?_⟩
      dsimp only
      split
      · exact .inl ⟨by assumption, rfl⟩
      · exact .inr ⟨by assumption, rfl⟩
    · cases h
  · split at h
    · rw [List.mem_singleton.1 h, maxS_eq]
      rename_i hc
      right
      refine ⟨hc.1, hc.2, rfl, ?_⟩
      dsimp only
      split
      · exact .inl ⟨by assumption, rfl⟩
      · exact .inr ⟨by assumption, rfl⟩
    · cases h
theorem cut_keys {s x : Sp} (hs : Sane s) (hx : Sane x) (k : Str) : (∃ y ∈ cutOut s x, SpH y k) ↔ SpH x k ∧ ¬ SpH s k := by
  unfold Sane at hs hx
  constructor
  · rintro ⟨y, hy, h1, h2⟩
    have := cut_cases hy
    unfold EndGt at this
    unfold SpH
    grind
  · rintro ⟨⟨h1, h2⟩, h3⟩
    unfold SpH at h3
    by_cases h4 : k < s.f
    · refine ⟨⟨x.f, if EndGt x.t s.f then s.f else x.t⟩, List.mem_append_left _ (by unfold cutA; rw [if_pos (by grind)]; exact List.mem_singleton.2 rfl), h1, ?_⟩
      dsimp only
      unfold EndGt
      grind
    · have h5 : s.t ≠ [] ∧ ¬ k < s.t := by grind
      refine ⟨⟨maxS x.f s.t, x.t⟩, List.mem_append_right _ (by unfold cutB; rw [if_pos (by unfold EndGt; grind)]; exact List.mem_singleton.2 rfl), ?_, h2⟩
      dsimp only
      rw [maxS_eq]
      grind
theorem cut_canon {s : Sp} (hs : Sane s) {u : List Sp} (hu : Canon u) : Canon (u.flatMap (cutOut s)) := by
  unfold Sane at hs
  refine ⟨fun y hy => ?_, List.pairwise_flatMap.2 ⟨fun x hx => ?_, ?_⟩⟩
  · obtain ⟨x, hx, hy⟩ := List.mem_flatMap.1 hy
    have h1 := hu.1 x hx
    have := cut_cases hy
    unfold EndGt at this
    unfold Sane at h1 ⊢
    grind
  · have h1 := hu.1 x hx
    unfold Sane at h1
    refine List.pairwise_append.2 ⟨by unfold cutA; split <;> simp, by unfold cutB; split <;> simp, fun a ha b hb => ?_⟩
    unfold cutA at ha
    unfold cutB at hb
    split at ha
    · rename_i h2
      split at hb
      · rename_i h3
        rw [maxS_eq] at hb
        rw [List.mem_singleton.1 ha, List.mem_singleton.1 hb]
        dsimp only
        unfold EndGt at h3 ⊢
        have h4 : s.f ≠ [] := by
          intro e
          rw [e] at h2
          exact List.not_lt_nil _ h2
        grind
      · cases hb
    · cases ha
  · refine hu.2.imp_of_mem ?_
    intro a b ha hb hab y1 hy1 y2 hy2
    have h1 := hu.1 a ha
    have h2 := hu.1 b hb
    have h3 := cut_cases hy1
    have h4 := cut_cases hy2
    unfold EndGt at h3 h4
    unfold Sane at h1 h2
    have h5 : ∀ {p q : Str}, p < q → q ≠ [] := by
      intro p q h e
      rw [e] at h
      exact List.not_lt_nil _ h
    grind
theorem cut_right {s : Sp} (hs : SpR s) {u : List Sp} (hc : Canon u) (hu : ∀ x ∈ u, SpR x) : ∀ y ∈ u.flatMap (cutOut s), SpR y := by
  intro y hy
  have hsane := (cut_canon hs.2.2 hc).1 y hy
  obtain ⟨x, hx, hy⟩ := List.mem_flatMap.1 hy
  have h1 := hu x hx
  have := cut_cases hy
  have g1 := h1.1
  have g2 := h1.2.1
  have g3 := hs.1
  have g4 := hs.2.1
  refine ⟨?_, ?_, hsane⟩
  · rcases this with ⟨_, _, e, _⟩ | ⟨_, _, _, ⟨_, e⟩ | ⟨_, e⟩⟩ <;> rw [e] <;> assumption
  · rcases this with ⟨_, _, _, ⟨_, e⟩ | ⟨_, e⟩⟩ | ⟨_, _, e, _⟩ <;> rw [e] <;> assumption
theorem minus_canon (l : List Sp) (s : Sp) : Canon (minus l s) := by
  unfold minus
  split
  · rename_i h; exact cut_canon h.2.2 (uni_canon l)
  · exact uni_canon l
theorem minus_right (l : List Sp) (s : Sp) : ∀ y ∈ minus l s, SpR y := by
  unfold minus
  split
  · rename_i h; exact cut_right h (uni_canon l) uni_right
  · exact uni_right
theorem minus_keys (l : List Sp) (s : Sp) (k : Str) : Keys (minus l s) k ↔ AnyH l k ∧ ¬ (SpR s ∧ SpH s k) := by
  unfold minus
  split
  · rename_i h
    rw [← uni_keys]
    unfold Keys
    constructor
    · rintro ⟨y, hy, hk⟩
      obtain ⟨x, hx, hy⟩ := List.mem_flatMap.1 hy
      have := (cut_keys h.2.2 ((uni_canon l).1 x hx) k).1 ⟨y, hy, hk⟩
      exact ⟨⟨x, hx, this.1⟩, fun g => this.2 g.2⟩
    · rintro ⟨⟨x, hx, hk⟩, h2⟩
      obtain ⟨y, hy, hk⟩ := (cut_keys h.2.2 ((uni_canon l).1 x hx) k).2 ⟨hk, fun g => h2 ⟨h, g⟩⟩
      exact ⟨y, List.mem_flatMap.2 ⟨x, hx, hy⟩, hk⟩
  · rename_i h
    rw [uni_keys]
    simp [h]
theorem right_any {m : List Sp} (h : ∀ x ∈ m, SpR x) (k : Str) : AnyH m k ↔ Keys m k := by
  unfold AnyH Keys
  constructor
  · rintro ⟨x, hx, _, hk⟩; exact ⟨x, hx, hk⟩
  · rintro ⟨x, hx, hk⟩; exact ⟨x, hx, h x hx, hk⟩
theorem minus_minus (l : List Sp) (s : Sp) : minus (minus l s) s = minus l s := by
  refine canon_unique (minus_canon _ _) (minus_canon _ _) fun k => ?_
  rw [minus_keys, right_any (minus_right l s), minus_keys]
  grind
theorem minus_gone (l : List Sp) (s : Sp) : ¬ RCov (minus l s) s := by
  rw [rCov_iff]
  rintro ⟨hr, h⟩
  have h0 : SpH s s.f := ⟨Std.le_refl _, hr.2.2⟩
  have h1 := h _ h0
  rw [right_any (minus_right l s), minus_keys] at h1
  exact h1.2 ⟨hr, h0⟩
def rMinP (l : List Sp) (s : Sp) (e : Str) : Bool := decide (AnyH l e) && !(decide (SpR s) && decide (SpH s e))
def rMinus (l : List Sp) (s : Sp) : List Sp := madeM (endsM (l ++ [s])) ((endsM (l ++ [s])).map (rMinP l s))
theorem rMinus_eq (l : List Sp) (s : Sp) : rMinus l s = minus l s := by
  obtain ⟨h1, h2⟩ := made_spec (p := rMinP l s) (endsM_spec (l ++ [s])).1
  refine canon_unique h1 (minus_canon l s) fun k => ?_
  rw [show Keys (rMinus l s) k ↔ _ from h2 k, minus_keys]
  have aux : ∀ e, Floor (endsM (l ++ [s])) k e → (rMinP l s e = true ↔ AnyH l k ∧ ¬ (SpR s ∧ SpH s k)) := by
    intro e hf
    rw [floor_any (fun x hx hr => endsM_has (List.mem_append_left _ hx) hr) hf]
    have : (SpR s ∧ SpH s k) ↔ (SpR s ∧ SpH s e) := by
      constructor
      · rintro ⟨h3, h4⟩
        obtain ⟨h5, h6⟩ := endsM_has (l := l ++ [s]) (s := s) (by simp) h3
        exact ⟨h3, (floor_has hf h5 h6).1 h4⟩
      · rintro ⟨h3, h4⟩
        obtain ⟨h5, h6⟩ := endsM_has (l := l ++ [s]) (s := s) (by simp) h3
        exact ⟨h3, (floor_has hf h5 h6).2 h4⟩
    rw [this]
    unfold rMinP
    by_cases g1 : SpR s <;> by_cases g2 : SpH s e <;> simp [g1, g2]
  constructor
  · rintro ⟨e, hf, he⟩
    exact (aux e hf).1 he
  · intro h
    obtain ⟨e, hf⟩ := endsM_floor (l ++ [s]) k
    exact ⟨e, hf, (aux e hf).2 h⟩
end Go.Ab
