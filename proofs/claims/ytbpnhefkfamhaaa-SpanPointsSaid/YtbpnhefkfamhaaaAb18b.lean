/- One text of the proof whose last text says what is proved. -/
import Derived.Test.YtbpnhefkfamhaaaAb18a
import Derived.Orders
set_option linter.unusedVariables false
set_option linter.unusedSimpArgs false
namespace Go.Ab

/-- A call whose answer is this one and no other. -/
def Is (r0 : SV) (as0 : List SV) (r : SV) (as : List SV) : Prop := r = r0 ∧ as = as0
/-- A call within operations whose order is drawn, as the walk stops at it. -/
structure CallIs (P : Program) (f : FuncId) (args : List SV) (K : SV → List SV → Prop) : Prop where
  out : ∃ r0 as0, Fn P f args (Is r0 as0) ∧ K r0 as0

abbrev Log := List (Nat × (Nat × SV))
/-- What is written, the last one first. -/
def play1 : Log → St → St
  | [], st => st
  | (i, c) :: r, st => (play1 r st).set i c

/-- As 'wp', with a record: the slots read, what is written, what is known. -/
def M.wr (P : Program) : M → (St → List Nat → Log → List Prop → Prop) → St → List Nat → Log → List Prop → Prop
  | .get i k, K, st, R, L, F => st[i]? ≠ none ∧ ∀ cur, st[i]? = some cur → (k cur.1 cur.2).wr P K st (i :: R) L F
  | .set i ver sv k, K, st, R, L, F => k.wr P K (st.set i (ver, sv)) R ((i, (ver, sv)) :: L) F
  | .done, K, st, R, L, F => K st R L F
  | .chk _, _, _, _, _, _ => False
  | .fail, _, _, _, _, _ => False
  | .need p k, K, st, R, L, F => ∃ h : p, (k h).wr P K st R L F
  | .all _ _, _, _, _, _, _ => False
  | .fact p k, K, st, R, L, F => k.wr P K st R L (p :: F)
  | .ite b x y, K, st, R, L, F => (b = true → x.wr P K st R L F) ∧ (b = false → y.wr P K st R L F)
  | .call f args k, K, st, R, L, F => CallIs P f args fun r as => (k r as).wr P K st R L F

def slots (L : Log) : List Nat := L.map (·.1)

theorem play1_get {L : Log} {x : Nat} : ∀ {st st' : St}, st[x]? = st'[x]? → (play1 L st)[x]? = (play1 L st')[x]? := by
  induction L with
  | nil => intro st st' h; exact h
  | cons p L ih =>
    intro st st' h
    obtain ⟨i, c⟩ := p
    simp only [play1, List.getElem?_set']
    rw [ih h]
theorem play1_off {L : Log} {x : Nat} (h : x ∉ slots L) : ∀ {st : St}, (play1 L st)[x]? = st[x]? := by
  induction L with
  | nil => intro st; rfl
  | cons p L ih =>
    intro st
    obtain ⟨i, c⟩ := p
    simp only [slots, List.map_cons, List.mem_cons, not_or] at h
    simp only [play1]
    rw [List.getElem?_set_ne (fun e => h.1 e.symm)]
    exact ih h.2
theorem play1_comm {L L' : Log} (h : ∀ x ∈ slots L, x ∉ slots L') (st : St) : play1 L (play1 L' st) = play1 L' (play1 L st) := by
  apply List.ext_getElem?
  intro x
  by_cases hx : x ∈ slots L
  · rw [play1_off (h x hx)]
    exact play1_get (play1_off (h x hx))
  · rw [play1_off hx]
    exact (play1_get (play1_off hx)).symm

/-- What is recorded of one operation. -/
structure Rec where
  R : List Nat
  L : Log
  F : List Prop

/-- The record tells what the operation does from any state that agrees with it. -/
def Local (P : Program) (m : M) (st : St) (d : Rec) : Prop :=
  ∀ st' : St, (∀ x ∈ d.R, st'[x]? = st[x]?) → m.wp P (fun st2 => st2 = play1 d.L st' ∧ ∀ p ∈ d.F, p) st'

theorem M.wr_spec {P : Program} {K : St → List Nat → Log → List Prop → Prop} : ∀ {m : M} {st0 : St} {R : List Nat} {L : Log} {F : List Prop}, m.wr P K (play1 L st0) R L F →
    ∃ R' L' F', K (play1 L' st0) R' L' F' ∧ (∀ x ∈ R, x ∈ R') ∧ (∀ p ∈ F, p ∈ F') ∧
      ∀ st' : St, (∀ x ∈ R', st'[x]? = st0[x]?) → (∀ p ∈ F, p) → m.wp P (fun st2 => st2 = play1 L' st' ∧ ∀ p ∈ F', p) (play1 L st') := by
  intro m
  induction m with
  | get i k ih =>
    intro st0 R L F h
    obtain ⟨h1, h2⟩ := h
    cases hc : (play1 L st0)[i]? with
    | none => exact absurd hc h1
    | some cur =>
      obtain ⟨R', L', F', g1, g2, g3, g4⟩ := ih _ _ (h2 cur hc)
      refine ⟨R', L', F', g1, fun x hx => g2 x (List.mem_cons_of_mem _ hx), g3, ?_⟩
      intro st' ha hF
      have : (play1 L st')[i]? = some cur := by rw [← hc]; exact play1_get (ha i (g2 i (List.mem_cons_self ..)))
      simp only [M.wp, this]
      exact g4 st' ha hF
  | set i ver sv k ih =>
    intro st0 R L F h
    obtain ⟨R', L', F', g1, g2, g3, g4⟩ := ih (L := (i, (ver, sv)) :: L) (st0 := st0) h
    exact ⟨R', L', F', g1, g2, g3, fun st' ha hF => g4 st' ha hF⟩
  | done => intro st0 R L F h; exact ⟨R, L, F, h, fun _ h => h, fun _ h => h, fun st' _ hF => ⟨rfl, hF⟩⟩
  | chk p => intro st0 R L F h; exact h.elim
  | fail => intro st0 R L F h; exact h.elim
  | need p k ih =>
    intro st0 R L F ⟨h1, h2⟩
    obtain ⟨R', L', F', g1, g2, g3, g4⟩ := ih h1 h2
    exact ⟨R', L', F', g1, g2, g3, fun st' ha hF => ⟨h1, g4 st' ha hF⟩⟩
  | all p k ih => intro st0 R L F h; exact h.elim
  | fact p k ih =>
    intro st0 R L F h
    obtain ⟨R', L', F', g1, g2, g3, g4⟩ := ih h
    refine ⟨R', L', F', g1, g2, fun q hq => g3 q (List.mem_cons_of_mem _ hq), fun st' ha hF hp => g4 st' ha ?_⟩
    intro q hq
    rcases List.mem_cons.mp hq with rfl | hq
    · exact hp
    · exact hF q hq
  | ite b x y ihx ihy =>
    intro st0 R L F ⟨h1, h2⟩
    cases b with
    | true =>
      obtain ⟨R', L', F', g1, g2, g3, g4⟩ := ihx (h1 rfl)
      exact ⟨R', L', F', g1, g2, g3, fun st' ha hF => ⟨fun _ => g4 st' ha hF, fun hb => by cases hb⟩⟩
    | false =>
      obtain ⟨R', L', F', g1, g2, g3, g4⟩ := ihy (h2 rfl)
      exact ⟨R', L', F', g1, g2, g3, fun st' ha hF => ⟨fun hb => (by cases hb), fun _ => g4 st' ha hF⟩⟩
  | call f args k ih =>
    intro st0 R L F ⟨r0, as0, h1, h2⟩
    obtain ⟨R', L', F', g1, g2, g3, g4⟩ := ih r0 as0 h2
    refine ⟨R', L', F', g1, g2, g3, fun st' ha hF => ⟨Is r0 as0, h1, ?_⟩⟩
    rintro r as ⟨rfl, rfl⟩
    exact g4 st' ha hF

/-- Operations whose order is drawn: walked in the text's order, with a record. -/
def wrIOs (P : Program) : List Ao → (List Rec → St → Prop) → List Rec → St → Prop
  | [], K, ds, st => K ds st
  | i :: l, K, ds, st => i.sem.wr P (fun st' R L F => wrIOs P l K (ds ++ [⟨R, L, F⟩]) st') st [] [] []

/-- What the records come to, where those of 'b' are done. -/
def playL (b : Nat → Bool) : Nat → List Rec → St → St
  | _, [], st => st
  | k, d :: ds, st => playL b (k + 1) ds (if b k then play1 d.L st else st)

theorem playL_agree {b b' : Nat → Bool} {x : Nat} : ∀ {ds : List Rec} {k : Nat} {st st' : St}, st[x]? = st'[x]? → (∀ j d, ds[j]? = some d → b (k + j) = b' (k + j) ∨ x ∉ slots d.L) →
    (playL b k ds st)[x]? = (playL b' k ds st')[x]?
  | [], k, st, st', h, _ => h
  | d :: ds, k, st, st', h, hd => by
    refine playL_agree (ds := ds) ?_ fun j d' hj => by
      have := hd (j + 1) d' hj
      rwa [show k + (j + 1) = k + 1 + j by omega] at this
    rcases hd 0 d rfl with h1 | h1
    · simp only [Nat.add_zero] at h1
      rw [h1]
      split
      · exact play1_get h
      · exact h
    · have : ∀ (c : Bool) (s : St), (if c then play1 d.L s else s)[x]? = s[x]? := by
        intro c s
        cases c
        · rfl
        · exact play1_off h1
      rw [this, this, h]
theorem playL_take {b : Nat → Bool} : ∀ {ds : List Rec} {n k : Nat} {st : St}, playL (fun j => b j && decide (j < k + n)) k ds st = playL b k (ds.take n) st
  | [], n, k, st => by simp [playL]
  | d :: ds, 0, k, st => by
    simp only [playL, Nat.add_zero, Nat.lt_irrefl, decide_false, Bool.and_false, List.take_zero]
    have aux : ∀ (ds : List Rec) (k' : Nat) (s : St), k ≤ k' → playL (fun j => b j && decide (j < k)) k' ds s = s := by
      intro ds
      induction ds with
      | nil => intro _ _ _; rfl
      | cons d ds ih =>
        intro k' s hk
        simp only [playL]
        rw [ih _ _ (by omega)]
        simp [show ¬ k' < k by omega]
    exact aux ds (k + 1) st (by omega)
  | d :: ds, n + 1, k, st => by
    simp only [playL, List.take_succ_cons]
    rw [← playL_take (ds := ds) (n := n) (k := k + 1)]
    simp only [show k < k + (n + 1) by omega, decide_true, Bool.and_true, show k + 1 + n = k + (n + 1) by omega]
theorem playL_snoc {b : Nat → Bool} {d : Rec} : ∀ {ds : List Rec} {k : Nat} {st : St}, playL b k (ds ++ [d]) st = if b (k + ds.length) then play1 d.L (playL b k ds st) else playL b k ds st
  | [], k, st => by simp [playL]
  | e :: ds, k, st => by
    simp only [List.cons_append, playL, List.length_cons]
    rw [playL_snoc (ds := ds), show k + 1 + ds.length = k + (ds.length + 1) by omega]
theorem playL_congr {b b' : Nat → Bool} : ∀ {ds : List Rec} {k : Nat} {st : St}, (∀ j, j < ds.length → b (k + j) = b' (k + j)) → playL b k ds st = playL b' k ds st
  | [], _, _, _ => rfl
  | d :: ds, k, st, h => by
    have h0 := h 0 (by simp)
    simp only [Nat.add_zero] at h0
    simp only [playL, h0]
    exact playL_congr (ds := ds) fun j hj => by
      have := h (j + 1) (by simpa using hj)
      rwa [show k + (j + 1) = k + 1 + j by omega] at this

theorem playL_add {b : Nat → Bool} {ds : List Rec} {i : Nat} {d : Rec} {st : St} (hd : ds[i]? = some d) (hb : b i = false)
    (hx : ∀ j e, i < j → ds[j]? = some e → b j = true → ∀ x ∈ slots d.L, x ∉ slots e.L) :
    playL (fun j => b j || j == i) 0 ds st = play1 d.L (playL b 0 ds st) := by
  apply List.ext_getElem?
  intro x
  by_cases h : x ∈ slots d.L
  · have hi : i < ds.length := (List.getElem?_eq_some_iff.1 hd).1
    have e1 : (playL (fun j => b j || j == i) 0 ds st)[x]? = (playL (fun j => (b j || j == i) && decide (j < 0 + (i + 1))) 0 ds st)[x]? := by
      refine playL_agree rfl fun j e hj => ?_
      by_cases hj' : j < i + 1
      · left; simp [hj']
      · by_cases hbj : b j = true
        · exact .inr (hx j e (by omega) hj hbj x h)
        · left
          simp at hbj
          simp [hbj, show ¬ j = i by omega]
    have e2 : (playL b 0 ds st)[x]? = (playL (fun j => b j && decide (j < 0 + i)) 0 ds st)[x]? := by
      refine playL_agree rfl fun j e hj => ?_
      by_cases hj' : j < i
      · left; simp [hj']
      · by_cases hbj : b j = true
        · by_cases hij : j = i
          · subst hij; rw [hb] at hbj; cases hbj
          · exact .inr (hx j e (by omega) hj hbj x h)
        · left
          simp at hbj
          simp [hbj]
    rw [e1, playL_take, play1_get e2, playL_take]
    have e3 : ds.take (i + 1) = ds.take i ++ [d] := by rw [List.take_add_one, hd]; rfl
    rw [e3, playL_snoc]
    have e4 : 0 + (ds.take i).length = i := by simp; omega
    rw [e4]
    simp only [beq_self_eq_true, Bool.or_true, if_true]
    refine play1_get ?_
    rw [playL_congr]
    intro j hj
    simp at hj
    simp
    omega
  · rw [play1_off h]
    refine playL_agree rfl fun j e hj => ?_
    by_cases hij : j = i
    · subst hij
      rw [hd] at hj
      cases hj
      exact .inr h
    · left; simp [hij]

/-- What must have been done ahead of each, as bits. -/
def masks : List (List Nat) → List Nat → List Nat
  | [], acc => acc
  | e :: r, acc => masks r (acc ++ [e.foldl (fun s j => s ||| 2 ^ j ||| acc.getD j 0) 0])
/-- 'j' is done where all that is asked of 'e' is. -/
def Covers (es : List (List Nat)) (e : List Nat) (j : Nat) : Prop := ∀ b : Nat → Bool, (∀ i l, es[i]? = some l → b i = true → ∀ k ∈ l, b k = true) → (∀ k ∈ e, b k = true) → b j = true
theorem masks_spec {es : List (List Nat)} : ∀ {r pre : List (List Nat)} {acc : List Nat}, es = pre ++ r → acc.length = pre.length →
    (∀ (i : Nat) e (m : Nat), pre[i]? = some e → acc[i]? = some m → ∀ j, m.testBit j = true → Covers es e j) →
    ∀ (i : Nat) e (m : Nat), es[i]? = some e → (masks r acc)[i]? = some m → ∀ j, m.testBit j = true → Covers es e j
  | [], pre, acc, h, hl, ha => by
    simp only [List.append_nil] at h
    subst h
    exact ha
  | e :: r, pre, acc, h, hl, ha => by
    refine masks_spec (r := r) (pre := pre ++ [e]) (by rw [h]; simp) (by simp [hl]) ?_
    intro i e' m h1 h2 j hj
    by_cases hi : i < pre.length
    · rw [List.getElem?_append_left hi] at h1
      rw [List.getElem?_append_left (by omega)] at h2
      exact ha i e' m h1 h2 j hj
    · have hi' : i = pre.length := by
        have := (List.getElem?_eq_some_iff.1 h1).1
        simp at this
        omega
      subst hi'
      rw [← hl, List.getElem?_concat_length] at h2
      rw [List.getElem?_concat_length] at h1
      cases h1
      cases h2
      have aux : ∀ (l : List Nat) (s : Nat), (∀ j, s.testBit j = true → Covers es e j) → (∀ k ∈ l, k ∈ e) → ∀ j, (l.foldl (fun s j => s ||| 2 ^ j ||| acc.getD j 0) s).testBit j = true → Covers es e j := by
        intro l
        induction l with
        | nil => intro s hs _ j hj; exact hs j hj
        | cons k l ih =>
          intro s hs hl' j hj
          refine ih _ ?_ (fun k hk => hl' k (List.mem_cons_of_mem _ hk)) j hj
          intro j hj
          have hke := hl' k (List.mem_cons_self ..)
          simp only [Nat.testBit_or, Bool.or_eq_true] at hj
          rcases hj with (hj | hj) | hj
          · exact hs j hj
          · rw [Nat.testBit_two_pow] at hj
            simp at hj
            subst hj
            exact fun b _ h2 => h2 k hke
          · intro b hb1 hb2
            cases hk : acc[k]? with
            | none => rw [List.getD_eq_getElem?_getD, hk] at hj; simp at hj
            | some m =>
              rw [List.getD_eq_getElem?_getD, hk] at hj
              have hkl : k < pre.length := by rw [← hl]; exact (List.getElem?_eq_some_iff.1 hk).1
              have hpre : pre[k]? = some pre[k] := List.getElem?_eq_getElem hkl
              have hes : es[k]? = some pre[k] := by rw [h, List.getElem?_append_left hkl, hpre]
              exact ha k _ m hpre hk j hj b hb1 (hb1 k _ hes (hb2 k hke))
      exact aux e 0 (fun j hj => by simp at hj) (fun _ h => h) j hj

def noneIn : List Nat → List Nat → Bool
  | [], _ => true
  | x :: r, l => !l.contains x && noneIn r l
theorem noneIn_spec : ∀ {a l : List Nat}, noneIn a l = true → ∀ x ∈ a, x ∉ l
  | [], _, _, _, h => by cases h
  | y :: r, l, h, x, hx => by
    simp only [noneIn, Bool.and_eq_true, Bool.not_eq_true'] at h
    rcases List.mem_cons.mp hx with rfl | hx
    · intro hm
      have := List.contains_iff_mem.2 hm
      rw [h.1] at this
      cases this
    · exact noneIn_spec h.2 x hx
def okOne (d : Rec) (m : Nat) : Nat → List Rec → Bool
  | _, [] => true
  | j, e :: r => (m.testBit j || (noneIn (slots d.L) (slots e.L) && noneIn (slots d.L) e.R && noneIn (slots e.L) d.R)) && okOne d m (j + 1) r
def okAll (pre : List Rec) : List Rec → List Nat → Bool
  | [], _ => true
  | d :: r, m :: ms => okOne d m 0 pre && okAll (pre ++ [d]) r ms
  | _ :: _, [] => false
theorem okOne_spec {d : Rec} {m : Nat} : ∀ {pre : List Rec} {k : Nat}, okOne d m k pre = true → ∀ j e, pre[j]? = some e → m.testBit (k + j) = true ∨
    ((∀ x ∈ slots d.L, x ∉ slots e.L) ∧ (∀ x ∈ slots d.L, x ∉ e.R) ∧ ∀ x ∈ slots e.L, x ∉ d.R)
  | [], _, _, j, e, h => by simp at h
  | f :: r, k, h, j, e, he => by
    simp only [okOne, Bool.and_eq_true, Bool.or_eq_true] at h
    cases j with
    | zero =>
      cases he
      rcases h.1 with h1 | ⟨⟨h1, h2⟩, h3⟩
      · exact .inl h1
      · exact .inr ⟨noneIn_spec h1, noneIn_spec h2, noneIn_spec h3⟩
    | succ j =>
      have := okOne_spec h.2 j e he
      rwa [show k + 1 + j = k + (j + 1) by omega] at this
theorem okAll_spec : ∀ {ds pre : List Rec} {ms : List Nat}, okAll pre ds ms = true → ∀ i d, ds[i]? = some d → ∃ m, ms[i]? = some m ∧ ∀ j e, j < pre.length + i → (pre ++ ds)[j]? = some e → m.testBit j = true ∨
    ((∀ x ∈ slots d.L, x ∉ slots e.L) ∧ (∀ x ∈ slots d.L, x ∉ e.R) ∧ ∀ x ∈ slots e.L, x ∉ d.R)
  | [], _, _, _, i, d, h => by simp at h
  | d :: r, pre, [], h, _, _, _ => by cases h
  | d :: r, pre, m :: ms, h, i, d', hd => by
    simp only [okAll, Bool.and_eq_true] at h
    cases i with
    | zero =>
      cases hd
      refine ⟨m, rfl, fun j e hj he => ?_⟩
      rw [List.getElem?_append_left (by omega)] at he
      have := okOne_spec h.1 j e he
      rwa [Nat.zero_add] at this
    | succ i =>
      obtain ⟨m', h1, h2⟩ := okAll_spec h.2 i d' hd
      refine ⟨m', h1, fun j e hj he => h2 j e (by simp; omega) (by rw [List.append_assoc]; exact he)⟩

/-- The end of such a region, as the walk stops at it. -/
structure Drawn (es : List (List Nat)) (Q : St → Prop) (ds : List Rec) (st : St) : Prop where
  ok : okAll [] ds (masks es []) = true
  go : (∀ d ∈ ds, ∀ p ∈ d.F, p) → Q st

/-- The text's edges, as we have them. -/
def edgesOk : List (List Nat) → Nat → List Oper → Bool
  | [], _, [] => true
  | e :: es, i, o :: os => (e.all fun j => o.after.any fun x => Region.binds .any x && x.on == j) && (o.after.all fun x => !Region.binds .any x || decide (x.on < i)) && edgesOk es (i + 1) os
  | _, _, _ => false
theorem edgesOk_spec : ∀ {es : List (List Nat)} {k : Nat} {os : List Oper}, edgesOk es k os = true → es.length = os.length ∧ ∀ i o, os[i]? = some o → ∃ e, es[i]? = some e ∧
    (∀ j ∈ e, ∃ x ∈ o.after, Region.binds .any x = true ∧ x.on = j) ∧ ∀ x ∈ o.after, Region.binds .any x = true → x.on < k + i
  | [], _, [], _ => ⟨rfl, fun i o h => by simp at h⟩
  | e :: es, k, o :: os, h => by
    simp only [edgesOk, Bool.and_eq_true] at h
    obtain ⟨⟨h1, h2⟩, h3⟩ := h
    obtain ⟨h4, h5⟩ := edgesOk_spec h3
    refine ⟨by simp [h4], fun i o' hi => ?_⟩
    cases i with
    | zero =>
      cases hi
      refine ⟨e, rfl, fun j hj => ?_, fun x hx hb => ?_⟩
      · have := List.all_eq_true.1 h1 j hj
        obtain ⟨x, hx, hx'⟩ := Array.any_eq_true'.1 this
        simp only [Bool.and_eq_true, beq_iff_eq] at hx'
        exact ⟨x, hx, hx'.1, hx'.2⟩
      · have := Array.all_eq_true'.1 h2 x hx
        simpa [hb] using this
    | succ i =>
      obtain ⟨e', g1, g2, g3⟩ := h5 i o' hi
      exact ⟨e', g1, g2, fun x hx hb => by have := g3 x hx hb; omega⟩
  | [], _, _ :: _, h => by cases h
  | _ :: _, _, [], h => by cases h

theorem wrIOs_spec {P : Program} {K : List Rec → St → Prop} {st0 : St} : ∀ {l : List Ao} {pre : List Rec}, wrIOs P l K pre (playL (fun _ => true) 0 pre st0) →
    ∃ ds, ds.length = l.length ∧ K (pre ++ ds) (playL (fun _ => true) 0 (pre ++ ds) st0) ∧
      ∀ i m d, l[i]? = some m → ds[i]? = some d → Local P m.sem (playL (fun _ => true) 0 ((pre ++ ds).take (pre.length + i)) st0) d
  | [], pre, h => ⟨[], rfl, by simpa [wrIOs] using h, fun i m d h => by simp at h⟩
  | m :: l, pre, h => by
    simp only [wrIOs] at h
    obtain ⟨R, L, F, h1, h2, h3, h4⟩ := M.wr_spec (L := []) (st0 := playL (fun _ => true) 0 pre st0) h
    have e1 : playL (fun _ => true) 0 (pre ++ [⟨R, L, F⟩]) st0 = play1 L (playL (fun _ => true) 0 pre st0) := by rw [playL_snoc]; rfl
    rw [← e1] at h1
    obtain ⟨ds, g1, g2, g3⟩ := wrIOs_spec (l := l) (pre := pre ++ [⟨R, L, F⟩]) h1
    rw [List.append_assoc] at g2 g3
    refine ⟨⟨R, L, F⟩ :: ds, by simp [g1], g2, fun i m' d hm hd => ?_⟩
    cases i with
    | zero =>
      cases hm
      cases hd
      rw [Nat.add_zero, List.take_left']
      · intro st' hst
        exact h4 st' hst (fun p hp => by cases hp)
      · rfl
    | succ i =>
      have := g3 i m' d hm hd
      simpa [Nat.add_assoc, Nat.add_comm 1 i] using this

section
variable {P : Program} {N : Nat} {G : Mem} {σ : Lab} {Fr : Mem} {w0 : Base} {w : World} {st : St} {a : Act}

theorem chkL_get {ops : Array Oper} : ∀ {l : List Oper} {m : List Ao}, chkL P N ops l m = true → l.length = m.length ∧ ∀ (i : Nat) o, l[i]? = some o → ∃ x, m[i]? = some x ∧ chkIO P N ops o x = true
  | [], [], _ => ⟨rfl, fun i o h => by simp at h⟩
  | o :: l, x :: m, h => by
    simp only [chkL, Bool.and_eq_true] at h
    obtain ⟨h1, h2⟩ := chkL_get h.2
    refine ⟨by simp [h1], fun i o' hi => ?_⟩
    cases i with
    | zero => cases hi; exact ⟨x, rfl, h.1⟩
    | succ i => exact h2 i o' hi
  | [], _ :: _, h => by cases h
  | _ :: _, [], h => by simp [chkL] at h

theorem WOk.drawn (h : WOk G σ Fr w0 w) (n : Nat) : WOk G σ Fr w0 { w with drawn := n } := ⟨h.fixed, h.own, h.inj, h.frame, h.os, h.tape, h.output, h.size, h.apart⟩
theorem RepSV.same {w' : World} {s : Nat} {sv : SV} {c : Value} (h : RepSV G σ w st s sv c) (hk : ∀ b : Nat, w'.heap[b]? = w.heap[b]?) : RepSV G σ w' st s sv c := by
  have own : ∀ {sv : SV}, RepOwn G σ w s sv c → RepOwn G σ w' s sv c := fun h => RepOwn.tr h (Mem.le.refl G) fun b k hb => ⟨hb, hk b⟩
  cases sv with
  | bor s' k ver =>
    obtain ⟨cur, g1, g2, g3⟩ := h
    refine ⟨cur, g1, g2, fun hv => ?_⟩
    obtain ⟨e, sz, l, g4, g5⟩ := g3 hv
    exact ⟨e, sz, l, g4, g5.tr (Mem.le.refl G) fun b hb => ⟨hb, hk b⟩⟩
  | sub s' k ver n =>
    obtain ⟨cur, g1, g2, g3⟩ := h
    refine ⟨cur, g1, g2, fun hv => ?_⟩
    obtain ⟨e, sz, l, g4, g5⟩ := g3 hv
    exact ⟨e, sz, l, g4, g5.tr (Mem.le.refl G) fun b hb => ⟨hb, hk b⟩⟩
  | suf s' k ver n =>
    obtain ⟨cur, g1, g2, g3⟩ := h
    refine ⟨cur, g1, g2, fun hv => ?_⟩
    obtain ⟨e, sz, l, c0, g4, g5, g6⟩ := g3 hv
    exact ⟨e, sz, l, c0, g4, g5.tr (Mem.le.refl G) fun b hb => ⟨hb, hk b⟩, g6⟩
  | pt s' k ver off r => exact h
  | no => exact own (sv := .no) h
  | v x => exact own (sv := .v x) h
  | vec e sz l => exact own (sv := .vec e sz l) h
  | box t => exact own (sv := .box t) h
  | st fs => exact own (sv := .st fs) h
  | tup fs => exact own (sv := .tup fs) h
  | rp x => exact own (sv := .rp x) h
  | par h' => exact own (sv := .par h') h
theorem Rel.drawn (h : Rel G σ Fr w0 st a w) (n : Nat) : Rel G σ Fr w0 st a { w with drawn := n } :=
  ⟨h.wok.drawn n, h.defers, h.n, h.len, fun s ver sv hs => RepSV.same (h.slots s ver sv hs) fun _ => rfl, h.pars⟩

theorem draw_sound {id : Nat} {ops : Array Oper} {es : List (List Nat)} {l : List Ao} {Q : St → Prop} {Qx : Exit → Act → World → Prop} (hm : P.follows .mixedOrders = true)
    (hc : chkL P w0.n ops ops.toList l = true) (he : edgesOk es 0 ops.toList = true) (hr : Rel G σ Fr w0 st a w) (hq : wrIOs P l (Drawn es Q) [] st)
    (hn : ∀ G' σ' st' a' w', G.le G' → Rel G' σ' Fr w0 st' a' w' → Q st' → Qx .normal a' w') : (Code.region id ops true).wp P Qx a w := by
  obtain ⟨hlen, hops⟩ := chkL_get hc
  obtain ⟨helen, hedge⟩ := edgesOk_spec he
  obtain ⟨ds, hdl, ⟨hok, hgo⟩, hloc⟩ := wrIOs_spec (st0 := st) (pre := []) hq
  simp only [List.nil_append, List.length_nil, Nat.zero_add] at hok hgo hloc
  have hdn : ds.length = ops.size := by rw [hdl, ← hlen, Array.length_toList]
  have hconf : ∀ i d, ds[i]? = some d → ∀ e, es[i]? = some e → ∀ j f, j < i → ds[j]? = some f → Covers es e j ∨
      ((∀ x ∈ slots d.L, x ∉ slots f.L) ∧ (∀ x ∈ slots d.L, x ∉ f.R) ∧ ∀ x ∈ slots f.L, x ∉ d.R) := by
    intro i d hd e hes j f hj hf
    obtain ⟨m, h1, h2⟩ := okAll_spec hok i d hd
    rcases h2 j f (by simpa using hj) (by simpa using hf) with h3 | h3
    · exact .inl (masks_spec (r := es) (pre := []) (acc := []) rfl rfl (by simp) i e m hes h1 j h3)
    · exact .inr h3
  refine wp_region_any hm ?_
  suffices H : ∀ (fuel : Nat) (listed : Array Bool) (G1 : Mem) (σ1 : Lab) (a1 : Act) (w1 : World), listed.size = ops.size → ((List.range ops.size).filter fun i => !listed.getD i true).length ≤ fuel → G.le G1 →
      (∀ i e, es[i]? = some e → listed.getD i false = true → ∀ k ∈ e, listed.getD k false = true) →
      (∀ i d, ds[i]? = some d → listed.getD i false = true → ∀ p ∈ d.F, p) →
      Rel G1 σ1 Fr w0 (playL (fun i => listed.getD i false) 0 ds st) a1 w1 → wpAny P .any ops Qx fuel listed a1 w1 by
    refine H _ _ G σ a _ (by simp) ?_ (Mem.le.refl G) ?_ ?_ ?_
    · refine Nat.le_trans (List.length_filter_le _ _) (by simp)
    · intro i e _ hi
      simp [Array.getD_eq_getD_getElem?, Array.getElem?_replicate] at hi
      split at hi <;> simp at hi
    · intro i d _ hi
      simp [Array.getD_eq_getD_getElem?, Array.getElem?_replicate] at hi
      split at hi <;> simp at hi
    · have : playL (fun i => (Array.replicate ops.size false).getD i false) 0 ds st = st := by
        have aux : ∀ (ds : List Rec) (k : Nat), playL (fun i => (Array.replicate ops.size false).getD i false) k ds st = st := by
          intro ds
          induction ds with
          | nil => intro k; rfl
          | cons d ds ih =>
            intro k
            have hf : (Array.replicate ops.size false).getD k false = false := by
              simp [Array.getD_eq_getD_getElem?, Array.getElem?_replicate]
              split <;> rfl
            simp only [playL, hf]
            exact ih _
        exact aux ds 0
      rw [this]
      exact hr.drawn _
  have ready_nil : ∀ (listed : Array Bool), listed.size = ops.size → Region.ready .any ops listed = [] → ∀ i, i < ops.size → listed.getD i false = true := by
    intro listed hsz hnil i
    induction i using Nat.strongRecOn with
    | ind i ih =>
      intro hi
      cases hli : listed.getD i false with
      | true => rfl
      | false =>
        exfalso
        have : i ∈ Region.ready .any ops listed := by
          unfold Region.ready
          rw [List.mem_filter]
          refine ⟨List.mem_range.2 hi, ?_⟩
          have hli' : listed.getD i true = false := by
            rw [Array.getD_eq_getD_getElem?, Array.getElem?_eq_getElem (by omega)] at hli ⊢
            exact hli
          rw [hli', Array.getElem?_eq_getElem hi]
          simp only [Bool.not_false, Bool.true_and, Option.map_some, Option.getD_some]
          rw [Array.all_eq_true']
          intro x hx
          cases hb : Region.binds .any x with
          | false => rfl
          | true =>
            obtain ⟨e, _, _, g3⟩ := hedge i ops[i] (by simp [hi])
            have := g3 x hx hb
            simp only [Nat.zero_add] at this
            simp [ih x.on this (by omega)]
        rw [hnil] at this
        cases this
  have fin : ∀ {listed : Array Bool} {G1 : Mem} {σ1 : Lab} {a1 : Act} {w1 : World}, listed.size = ops.size → Region.ready .any ops listed = [] → G.le G1 →
      (∀ i d, ds[i]? = some d → listed.getD i false = true → ∀ p ∈ d.F, p) →
      Rel G1 σ1 Fr w0 (playL (fun i => listed.getD i false) 0 ds st) a1 w1 → Qx .normal a1 w1 := by
    intro listed G1 σ1 a1 w1 hsz hnil hG hF hr1
    have hall := ready_nil listed hsz hnil
    have : playL (fun i => listed.getD i false) 0 ds st = playL (fun _ => true) 0 ds st := playL_congr fun j hj => by rw [Nat.zero_add]; exact hall j (by omega)
    rw [this] at hr1
    refine hn G1 σ1 _ a1 w1 hG hr1 (hgo fun d hd => ?_)
    obtain ⟨i, hi, rfl⟩ := List.mem_iff_getElem.1 hd
    exact hF i _ (List.getElem?_eq_getElem hi) (hall i (by omega))
  intro fuel
  induction fuel with
  | zero =>
    intro listed G1 σ1 a1 w1 hsz hcnt hG hcl hF hr1
    have hnil : Region.ready .any ops listed = [] := by
      cases hrd : Region.ready .any ops listed with
      | nil => rfl
      | cons i r =>
        exfalso
        have hi : i ∈ Region.ready .any ops listed := by rw [hrd]; exact List.mem_cons_self ..
        unfold Region.ready at hi
        rw [List.mem_filter] at hi
        have : i ∈ (List.range ops.size).filter fun i => !listed.getD i true := by
          rw [List.mem_filter]
          exact ⟨hi.1, by have := hi.2; simp only [Bool.and_eq_true] at this; exact this.1⟩
        have := List.length_pos_of_mem this
        omega
    exact ⟨hnil, fin hsz hnil hG hF hr1⟩
  | succ fuel ih =>
    intro listed G1 σ1 a1 w1 hsz hcnt hG hcl hF hr1
    refine ⟨fun hnil => fin hsz hnil hG hF hr1, fun i hi => ?_⟩
    have hi0 := hi
    unfold Region.ready at hi
    rw [List.mem_filter, List.mem_range] at hi
    obtain ⟨hilt, hi2⟩ := hi
    rw [Array.getElem?_eq_getElem hilt] at hi2
    simp only [Option.map_some, Option.getD_some, Bool.and_eq_true, Bool.not_eq_true'] at hi2
    obtain ⟨hun, haft⟩ := hi2
    have hun' : listed.getD i false = false := by
      rw [Array.getD_eq_getD_getElem?, Array.getElem?_eq_getElem (by omega)] at hun ⊢
      exact hun
    obtain ⟨x, hx, hchk⟩ := hops i ops[i] (by simp [hilt])
    obtain ⟨e, hes, hpre, _⟩ := hedge i ops[i] (by simp [hilt])
    have hprel : ∀ k ∈ e, listed.getD k false = true := by
      intro k hk
      obtain ⟨y, hy, hb, rfl⟩ := hpre k hk
      have := Array.all_eq_true'.1 haft y hy
      simpa [hb] using this
    obtain ⟨d, hd⟩ : ∃ d, ds[i]? = some d := ⟨ds[i]'(by omega), List.getElem?_eq_getElem (by omega)⟩
    have hcov : ∀ j f, j < i → ds[j]? = some f → listed.getD j false = true ∨ ((∀ x ∈ slots d.L, x ∉ slots f.L) ∧ (∀ x ∈ slots d.L, x ∉ f.R) ∧ ∀ x ∈ slots f.L, x ∉ d.R) := by
      intro j f hj hf
      rcases hconf i d hd e hes j f hj hf with h1 | h1
      · exact .inl (h1 _ hcl hprel)
      · exact .inr h1
    have hlater : ∀ j f, i < j → ds[j]? = some f → listed.getD j false = true → ((∀ x ∈ slots f.L, x ∉ slots d.L) ∧ (∀ x ∈ slots f.L, x ∉ d.R) ∧ ∀ x ∈ slots d.L, x ∉ f.R) := by
      intro j f hj hf hlj
      have hjl : j < ds.length := (List.getElem?_eq_some_iff.1 hf).1
      obtain ⟨e', hes', _, _⟩ := hedge j (ops[j]'(by omega)) (by simp [show j < ops.size by omega])
      rcases hconf j f hf e' hes' i d hj hd with h1 | h1
      · have := h1 _ hcl (hcl j e' hes' hlj)
        rw [hun'] at this
        cases this
      · exact h1
    have hL := hloc i x d hx hd (playL (fun i => listed.getD i false) 0 ds st) ?_
    · refine (by
        unfold wpOp
        rw [Array.getElem?_eq_getElem hilt]
        refine io_step hchk hr1 hL ?_
        rintro G2 σ2 st2 a2 w2 hG2 hr2 ⟨rfl, hfacts⟩
        have hset : ∀ k, (listed.setIfInBounds i true).getD k false = (listed.getD k false || k == i) := by
          intro k
          simp only [Array.getD_eq_getD_getElem?, Array.getElem?_setIfInBounds]
          by_cases hk : i = k
          · subst hk; simp [hsz, hilt]
          · simp [hk, show ¬ k = i from fun h => hk h.symm]
        refine ih _ G2 σ2 a2 w2 (by simp [hsz]) ?_ (hG.trans hG2) ?_ ?_ ?_
        · have hlt : ((List.range ops.size).filter fun k => !(listed.setIfInBounds i true).getD k true).length < ((List.range ops.size).filter fun k => !listed.getD k true).length := by
            have hsub : ((List.range ops.size).filter fun k => !(listed.setIfInBounds i true).getD k true) = ((List.range ops.size).filter fun k => !listed.getD k true).filter fun k => !(k == i) := by
              rw [List.filter_filter]
              refine List.filter_congr fun k hk => ?_
              have hk := List.mem_range.1 hk
              simp only [Array.getD_eq_getD_getElem?, Array.getElem?_setIfInBounds]
              by_cases hki : i = k
              · subst hki; simp [hsz, hilt]
              · simp [hki, show ¬ k = i from fun h => hki h.symm]
            rw [hsub]
            refine List.length_filter_lt_length_iff_exists.2 ⟨i, ?_, by simp⟩
            rw [List.mem_filter]
            exact ⟨List.mem_range.2 hilt, by rw [hun]; rfl⟩
          omega
        · intro k e' hk hlk y hy
          rw [hset] at hlk ⊢
          simp only [Bool.or_eq_true, beq_iff_eq] at hlk ⊢
          rcases hlk with hlk | rfl
          · exact .inl (hcl k e' hk hlk y hy)
          · rw [hes] at hk
            cases hk
            exact .inl (hprel y hy)
        · intro k f hk hlk
          rw [hset] at hlk
          simp only [Bool.or_eq_true, beq_iff_eq] at hlk
          rcases hlk with hlk | rfl
          · exact hF k f hk hlk
          · rw [hd] at hk
            cases hk
            exact hfacts
        · have := playL_add (b := fun i => listed.getD i false) (st := st) hd hun' fun j f hj hf hlj => fun y hy hy' => (hlater j f hj hf hlj).1 y hy' hy
          have hfun : (fun k => (listed.setIfInBounds i true).getD k false) = fun k => (listed.getD k false || k == i) := funext hset
          rw [hfun, this]
          exact hr2)
    · intro y hy
      rw [← playL_take]
      refine playL_agree rfl fun j f hf => ?_
      simp only [Nat.zero_add, Bool.true_and]
      by_cases hji : j < i
      · rcases hcov j f hji hf with h1 | h1
        · left; simp [hji, h1]
        · exact .inr fun hm => h1.2.2 y hm hy
      · by_cases hij : j = i
        · subst hij; left; simp [hun']
        · cases hlj : listed.getD j false with
          | false => left; simp [hji]
          | true => exact .inr fun hm => (hlater j f (by omega) hf hlj).2.1 y hm hy
end
end Go.Ab
