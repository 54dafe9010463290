/- One text of the proof whose last text says what is proved. -/
import Derived.Test.YtbpnhefkfamhaaaAb1
set_option linter.unusedVariables false
set_option linter.unusedSimpArgs false
namespace Go.Ab

/-- A place of a slot's own: an item, or a slice whose row the slot owns. -/
inductive F where
  | i (x : I)
  | vec (e : TypeId) (sz : Nat) (l : List I)
  deriving Inhabited

/-- What a box holds: one thing, or a struct field by field. -/
inductive T where
  | one (f : F)
  | st (fs : List F)
  deriving Inhabited

/-- What a slot holds. -/
inductive SV where
  | no
  | v (x : I)
  | vec (e : TypeId) (sz : Nat) (l : List I)
  | box (t : T)
  | st (fs : List F)
  | tup (fs : List F)
  | bor (s k ver : Nat)
  | sub (s k ver n : Nat)
  | suf (s k ver n : Nat)
  | pt (s k ver off : Nat) (r : List Nat)
  | rp (x : I)
  | par (h : Nat)
  deriving Inhabited

abbrev St := List (Nat × SV)
abbrev Lab := Nat → Option (Nat × Nat)

/-- The owned slice of a slot at its place 'k' (0: the slot itself; j + 1: its field j). -/
def SV.vecAt : SV → Nat → Option (TypeId × Nat × List I)
  | .vec e sz l, 0 => some (e, sz, l)
  | .box (.one (.vec e sz l)), 1 => some (e, sz, l)
  | .box (.st fs), j + 1 => match fs[j]? with
    | some (.vec e sz l) => some (e, sz, l)
    | _ => none
  | _, _ => none

theorem vecAt_par (h k : Nat) : (SV.par h).vecAt k = none := by cases k <;> rfl

/-- The row of an owned slice. A type's number beyond 1000000 stands for a row that may be frozen behind its end. -/
def Row (w : World) (g : Nat) (e : TypeId) (cur : Array Value) : Prop := ∃ ty fz, w.heap[g]? = some (.cells cur ty fz) ∧ (fz = (0, 0) ∨ cur.size ≤ fz.1) ∧ (e < 1000000 → ty = e ∧ fz = (0, 0))
theorem Row.of {w : World} {g : Nat} {e : TypeId} {cur : Array Value} (h : w.heap[g]? = some (.cells cur e (0, 0))) : Row w g e cur := ⟨e, (0, 0), h, .inl rfl, fun _ => ⟨rfl, rfl⟩⟩
theorem Row.to {w : World} {g : Nat} {e : TypeId} {cur : Array Value} (h : Row w g e cur) (he : e < 1000000) : w.heap[g]? = some (.cells cur e (0, 0)) := by
  obtain ⟨ty, fz, h1, _, h2⟩ := h
  obtain ⟨rfl, rfl⟩ := h2 he
  exact h1
theorem Row.same {w w' : World} {g : Nat} {e : TypeId} {cur : Array Value} (h : Row w g e cur) (hk : w'.heap[g]? = w.heap[g]?) : Row w' g e cur := by
  obtain ⟨ty, fz, h1, h2⟩ := h
  exact ⟨ty, fz, by rw [hk]; exact h1, h2⟩
theorem Row.set {w : World} {g : Nat} {e : TypeId} {cur row : Array Value} (h : Row w g e cur) (hs : row.size = cur.size) : Row (w.setRow g row) g e row := by
  obtain ⟨ty, fz, h1, h2, h3⟩ := h
  exact ⟨ty, fz, setRow_heap w g cur row ty fz h1, by rw [hs]; exact h2, h3⟩
def OwnsR (w : World) (e : TypeId) (sz : Nat) (c : Value) (n : Nat) (xs : List Value) : Prop :=
  xs.length = n * sz ∧
  ((c = .slice none 0 0 ∧ n = 0) ∨
   ∃ g cap cur, c = .slice (some ⟨g, 0, none⟩) n cap ∧ 0 ≤ g ∧ Row w g e cur ∧ n ≤ cap ∧ cap ≤ maxLen ∧ cur.size = cap * sz ∧ cur.toList.take (n * sz) = xs)
theorem OwnsR.nil (w : World) (e : TypeId) (sz : Nat) : OwnsR w e sz (.slice none 0 0) 0 [] := ⟨by simp, .inl ⟨rfl, rfl⟩⟩
theorem OwnsR.of {w : World} {e : TypeId} {sz n : Nat} {c : Value} {xs : List Value} (h : w.ownsRow 0 e sz c n xs) : OwnsR w e sz c n xs := by
  refine ⟨h.1, ?_⟩
  rcases h.2 with h | ⟨g, cap, cur, h1, h2, h3, h4⟩
  · exact .inl h
  · exact .inr ⟨g, cap, cur, h1, h2, .of h3, h4⟩
theorem OwnsR.lt {w : World} {e : TypeId} {sz n : Nat} {c : Value} {xs : List Value} (h : OwnsR w e sz c n xs) (b : Nat) (hb : c.ownBlock = some b) : b < w.heap.size := by
  rcases h.2 with ⟨rfl, _⟩ | ⟨g, cap, cur, rfl, _, ⟨ty, fz, h3, _⟩, _⟩
  · simp [Value.ownBlock] at hb
  · simp only [Value.ownBlock, Option.some.injEq] at hb
    subst hb
    exact (Array.getElem?_eq_some_iff.1 h3).1
theorem OwnsR.to {w : World} {e : TypeId} {sz n : Nat} {c : Value} {xs : List Value} (h : OwnsR w e sz c n xs) (he : e < 1000000) : w.ownsRow 0 e sz c n xs := by
  refine ⟨h.1, ?_⟩
  rcases h.2 with h | ⟨g, cap, cur, h1, h2, h3, h4⟩
  · exact .inl h
  · exact .inr ⟨g, cap, cur, h1, h2, h3.to he, h4⟩
def VecAt (G : Mem) (σ : Lab) (w : World) (lab : Nat × Nat) (e : TypeId) (sz : Nat) (l : List I) (c : Value) : Prop :=
  ∃ xs, OwnsR w e sz c l.length xs ∧ RepIs G l xs ∧ (∀ x ∈ l, x.size = sz) ∧ ∀ b, c.ownBlock = some b → σ b = some lab

def RepF (G : Mem) (σ : Lab) (w : World) (lab : Nat × Nat) : F → List Value → Prop
  | .i x, cs => RepI G x cs
  | .vec e sz l, cs => ∃ c, cs = [c] ∧ VecAt G σ w lab e sz l c

def RepFs (G : Mem) (σ : Lab) (w : World) (s : Nat) : Nat → List F → List Value → Prop
  | _, [], cs => cs = []
  | j, f :: fs, cs => ∃ c d, cs = c ++ d ∧ RepF G σ w (s, j + 1) f c ∧ RepFs G σ w s (j + 1) fs d

def RepT (G : Mem) (σ : Lab) (w : World) (s : Nat) : T → List Value → Prop
  | .one f, cs => RepF G σ w (s, 1) f cs
  | .st fs, cs => RepFs G σ w s 0 fs cs

def RepTup (G : Mem) (σ : Lab) (w : World) (s : Nat) : Nat → List F → List Value → Prop
  | _, [], cs => cs = []
  | j, .i x :: fs, cs => ∃ c d, cs = c :: d ∧ RepV G x c ∧ RepTup G σ w s (j + 1) fs d
  | j, .vec e sz l :: fs, cs => ∃ c d, cs = c :: d ∧ VecAt G σ w (s, j + 1) e sz l c ∧ RepTup G σ w s (j + 1) fs d

def RepRp (G : Mem) (x : I) (c : Value) : Prop :=
  ∃ b off bl ty fz pre cs post, c = .pointer (some ⟨b, off, none⟩) ∧ G b = some (.cells bl ty fz) ∧ bl.toList = pre ++ cs ++ post ∧ pre.length = off ∧ RepI G x cs

/-- The end of a slice. -/
def SufOf (sz n len : Nat) (c0 c : Value) : Prop := ∃ ad cap, c0 = .slice ad len cap ∧ n ≤ len ∧ len ≤ cap ∧ c = .slice (if cap = n then ad else ad.map (·.add (n * sz))) (len - n) (cap - n)

/-- What a slot holds for itself. -/
def RepOwn (G : Mem) (σ : Lab) (w : World) (s : Nat) : SV → Value → Prop
  | .v x, c => RepV G x c
  | .vec e sz l, c => VecAt G σ w (s, 0) e sz l c
  | .box t, c => ∃ b cells ty, c = .pointer (some ⟨b, 0, none⟩) ∧ σ b = some (s, 0) ∧ w.heap[b]? = some (.cells cells ty (0, 0)) ∧ RepT G σ w s t cells.toList
  | .st fs, c => ∃ a, c = .agg a ∧ RepFs G σ w s 0 fs a.toList
  | .tup fs, c => ∃ a, c = .tuple a ∧ RepTup G σ w s 0 fs a.toList
  | .rp x, c => RepRp G x c
  | _, _ => True

def RepSV (G : Mem) (σ : Lab) (w : World) (st : St) (s : Nat) : SV → Value → Prop
  | .bor s' k ver, c => ∃ cur, st[s']? = some cur ∧ ver ≤ cur.1 ∧ (ver = cur.1 → ∃ e sz l, cur.2.vecAt k = some (e, sz, l) ∧ VecAt G σ w (s', k) e sz l c)
  | .sub s' k ver n, c => ∃ cur, st[s']? = some cur ∧ ver ≤ cur.1 ∧ (ver = cur.1 → ∃ e sz l, cur.2.vecAt k = some (e, sz, l) ∧ VecAt G σ w (s', k) e sz (l.take n) c)
  | .suf s' k ver n, c => ∃ cur, st[s']? = some cur ∧ ver ≤ cur.1 ∧ (ver = cur.1 → ∃ e sz l c0, cur.2.vecAt k = some (e, sz, l) ∧ VecAt G σ w (s', k) e sz l c0 ∧ SufOf sz n l.length c0 c)
  | .pt s' k ver off _, c => ∃ cur, st[s']? = some cur ∧ ver ≤ cur.1 ∧ (ver = cur.1 → ∃ b, σ b = some (s', k) ∧ c = .pointer (some ⟨b, off, none⟩))
  | sv, c => RepOwn G σ w s sv c

/-- Where a call began: its world, how many slots it has of its own, and the values that lie behind them (what it was handed). -/
structure Base where
  w : World
  n : Nat
  hid : Array Value
def val (a : Act) (B : Base) (s : Nat) : Value := (a.tmps ++ B.hid).getD s undef

/-- The memory: what lies fixed, what is owned, what is others'. -/
structure WOk (G : Mem) (σ : Lab) (Fr : Mem) (w0 : Base) (w : World) : Prop where
  fixed : ∀ b o, G b = some o → w.heap[b]? = some o
  own : ∀ b lab, σ b = some lab → G b = none ∧ Fr b = none ∧ b < w.heap.size
  inj : ∀ b b' lab, σ b = some lab → σ b' = some lab → b = b'
  frame : ∀ b o, Fr b = some o → w.heap[b]? = some o
  os : w.os = w0.w.os
  tape : w.tape = w0.w.tape
  output : w.output = w0.w.output
  size : w0.w.heap.size ≤ w.heap.size
  apart : ∀ b o, Fr b = some o → G b = none

structure Rel (G : Mem) (σ : Lab) (Fr : Mem) (w0 : Base) (st : St) (a : Act) (w : World) : Prop where
  wok : WOk G σ Fr w0 w
  defers : a.defers = []
  n : a.tmps.size = w0.n
  len : a.tmps.size + w0.hid.size = st.length
  slots : ∀ s ver sv, st[s]? = some (ver, sv) → RepSV G σ w st s sv (val a w0 s)
  pars : ∀ s ver h, st[s]? = some (ver, .par h) → val a w0 s = val a w0 h ∧ w0.n ≤ h

/-- What is labelled under a slot has stayed. -/
def Kept (σ σ' : Lab) (w w' : World) (s : Nat) : Prop := ∀ b k, σ b = some (s, k) → σ' b = some (s, k) ∧ w'.heap[b]? = w.heap[b]?
theorem Kept.refl (σ : Lab) (w : World) (s : Nat) : Kept σ σ w w s := fun _ _ h => ⟨h, rfl⟩

theorem OwnsR.same {w w' : World} {e : TypeId} {sz n : Nat} {c : Value} {xs : List Value} (h : OwnsR w e sz c n xs)
    (hk : ∀ b, c.ownBlock = some b → w'.heap[b]? = w.heap[b]?) : OwnsR w' e sz c n xs := by
  refine ⟨h.1, ?_⟩
  rcases h.2 with hn | ⟨g, cap, cur, rfl, hb, hg, r⟩
  · exact .inl hn
  · exact .inr ⟨g, cap, cur, rfl, hb, hg.same (hk g (by simp [Value.ownBlock])), r⟩

theorem VecAt.tr {G G' : Mem} {σ σ' : Lab} {w w' : World} {lab lab' : Nat × Nat} {e : TypeId} {sz : Nat} {l : List I} {c : Value} (h : VecAt G σ w lab e sz l c)
    (hG : G.le G') (hk : ∀ b, σ b = some lab → σ' b = some lab' ∧ w'.heap[b]? = w.heap[b]?) : VecAt G' σ' w' lab' e sz l c := by
  obtain ⟨xs, h1, h2, h3, h4⟩ := h
  exact ⟨xs, OwnsR.same h1 fun b hb => (hk b (h4 b hb)).2, RepIs.mono hG l xs h2, h3, fun b hb => (hk b (h4 b hb)).1⟩

theorem RepF.tr {G G' : Mem} {σ σ' : Lab} {w w' : World} {lab lab' : Nat × Nat} {f : F} {cs : List Value} (h : RepF G σ w lab f cs)
    (hG : G.le G') (hk : ∀ b, σ b = some lab → σ' b = some lab' ∧ w'.heap[b]? = w.heap[b]?) : RepF G' σ' w' lab' f cs := by
  cases f with
  | i x => exact RepI.mono hG x cs h
  | vec e sz l =>
    obtain ⟨c, hc, h⟩ := h
    exact ⟨c, hc, h.tr hG hk⟩

theorem RepFs.tr {G G' : Mem} {σ σ' : Lab} {w w' : World} {s s' : Nat} (hG : G.le G') : ∀ {fs : List F} {j : Nat} {cs : List Value}, RepFs G σ w s j fs cs →
    (∀ b k, j < k → σ b = some (s, k) → σ' b = some (s', k) ∧ w'.heap[b]? = w.heap[b]?) → RepFs G' σ' w' s' j fs cs
  | [], _, _, h, _ => h
  | f :: fs, j, cs, h, hk => by
    obtain ⟨c, d, e, h1, h2⟩ := h
    exact ⟨c, d, e, h1.tr hG fun b hb => hk b (j + 1) (by omega) hb, RepFs.tr hG h2 fun b k hj hb => hk b k (by omega) hb⟩

theorem RepTup.tr {G G' : Mem} {σ σ' : Lab} {w w' : World} {s s' : Nat} (hG : G.le G') : ∀ {fs : List F} {j : Nat} {cs : List Value}, RepTup G σ w s j fs cs →
    (∀ b k, j < k → σ b = some (s, k) → σ' b = some (s', k) ∧ w'.heap[b]? = w.heap[b]?) → RepTup G' σ' w' s' j fs cs
  | [], _, _, h, _ => h
  | .i x :: fs, j, cs, h, hk => by
    obtain ⟨c, d, e, h1, h2⟩ := h
    exact ⟨c, d, e, h1.mono hG, RepTup.tr hG h2 fun b k hj hb => hk b k (by omega) hb⟩
  | .vec _ _ _ :: fs, j, cs, h, hk => by
    obtain ⟨c, d, e, h1, h2⟩ := h
    exact ⟨c, d, e, h1.tr hG fun b hb => hk b (j + 1) (by omega) hb, RepTup.tr hG h2 fun b k hj hb => hk b k (by omega) hb⟩

theorem RepT.tr {G G' : Mem} {σ σ' : Lab} {w w' : World} {s s' : Nat} {t : T} {cs : List Value} (h : RepT G σ w s t cs) (hG : G.le G')
    (hk : ∀ b k, 0 < k → σ b = some (s, k) → σ' b = some (s', k) ∧ w'.heap[b]? = w.heap[b]?) : RepT G' σ' w' s' t cs := by
  cases t with
  | one f => exact RepF.tr h hG fun b hb => hk b 1 (by omega) hb
  | st fs => exact RepFs.tr hG h hk

theorem RepRp.mono {G G' : Mem} (hG : G.le G') {x : I} {c : Value} (h : RepRp G x c) : RepRp G' x c := by
  obtain ⟨b, off, bl, ty, fz, pre, cs, post, h1, h2, h3, h4, h5⟩ := h
  exact ⟨b, off, bl, ty, fz, pre, cs, post, h1, hG _ _ h2, h3, h4, RepI.mono hG x cs h5⟩

theorem RepOwn.tr {G G' : Mem} {σ σ' : Lab} {w w' : World} {s s' : Nat} {sv : SV} {c : Value} (h : RepOwn G σ w s sv c) (hG : G.le G')
    (hk : ∀ b k, σ b = some (s, k) → σ' b = some (s', k) ∧ w'.heap[b]? = w.heap[b]?) : RepOwn G' σ' w' s' sv c := by
  cases sv with
  | v x => exact RepV.mono hG h
  | vec e sz l => exact VecAt.tr h hG fun b hb => hk b 0 hb
  | box t =>
    obtain ⟨b, cells, ty, h1, h2, h3, h4⟩ := h
    obtain ⟨k1, k2⟩ := hk b 0 h2
    exact ⟨b, cells, ty, h1, k1, by rw [k2]; exact h3, RepT.tr h4 hG fun b k _ hb => hk b k hb⟩
  | st fs =>
    obtain ⟨a, h1, h2⟩ := h
    exact ⟨a, h1, RepFs.tr hG h2 fun b k _ hb => hk b k hb⟩
  | tup fs =>
    obtain ⟨a, h1, h2⟩ := h
    exact ⟨a, h1, RepTup.tr hG h2 fun b k _ hb => hk b k hb⟩
  | rp x => exact RepRp.mono hG h
  | _ => trivial

/-- The root of what is borrowed. -/
def SV.root : SV → Option Nat
  | .bor s _ _ | .sub s _ _ _ | .suf s _ _ _ | .pt s _ _ _ _ => some s
  | _ => none

theorem RepSV.own {G : Mem} {σ : Lab} {w : World} {st : St} {s : Nat} {sv : SV} {c : Value} (hr : sv.root = none) : RepSV G σ w st s sv c = RepOwn G σ w s sv c := by
  cases sv <;> first | rfl | simp [SV.root] at hr

/-- A slot's reading, where another slot has turned (its version with it), or nothing. -/
theorem RepSV.tr {G G' : Mem} {σ σ' : Lab} {w w' : World} {st : St} {s d ver : Nat} {sv new : SV} {old : Nat × SV} {c : Value} (h : RepSV G σ w st s sv c) (hG : G.le G') (hs : s ≠ d)
    (hd : st[d]? = some old) (hv : old.1 < ver) (hk : ∀ s', s' ≠ d → Kept σ σ' w w' s') : RepSV G' σ' w' (st.set d (ver, new)) s sv c := by
  have look : ∀ s' cur, s' ≠ d → st[s']? = some cur → (st.set d (ver, new))[s']? = some cur := fun s' cur hne hc => by
    rw [List.getElem?_set_ne (Ne.symm hne)]
    exact hc
  have here : (st.set d (ver, new))[d]? = some (ver, new) := by
    have : d < st.length := (List.getElem?_eq_some_iff.1 hd).1
    simp [this]
  cases sv with
  | bor s' k ver' =>
    obtain ⟨cur, h1, h2, h3⟩ := h
    by_cases hne : s' = d
    · subst hne
      rw [hd] at h1
      cases h1
      exact ⟨_, here, by show ver' ≤ ver; omega, fun e => by exfalso; have : ver' = ver := e; omega⟩
    · refine ⟨cur, look s' cur hne h1, h2, fun e => ?_⟩
      obtain ⟨e, sz, l, h4, h5⟩ := h3 e
      exact ⟨e, sz, l, h4, h5.tr hG fun b hb => hk s' hne b k hb⟩
  | sub s' k ver' n =>
    obtain ⟨cur, h1, h2, h3⟩ := h
    by_cases hne : s' = d
    · subst hne
      rw [hd] at h1
      cases h1
      exact ⟨_, here, by show ver' ≤ ver; omega, fun e => by exfalso; have : ver' = ver := e; omega⟩
    · refine ⟨cur, look s' cur hne h1, h2, fun e => ?_⟩
      obtain ⟨e, sz, l, h4, h5⟩ := h3 e
      exact ⟨e, sz, l, h4, h5.tr hG fun b hb => hk s' hne b k hb⟩
  | suf s' k ver' n =>
    obtain ⟨cur, h1, h2, h3⟩ := h
    by_cases hne : s' = d
    · subst hne
      rw [hd] at h1
      cases h1
      exact ⟨_, here, by show ver' ≤ ver; omega, fun e => by exfalso; have : ver' = ver := e; omega⟩
    · refine ⟨cur, look s' cur hne h1, h2, fun e => ?_⟩
      obtain ⟨e, sz, l, c0, h4, h5, h6⟩ := h3 e
      exact ⟨e, sz, l, c0, h4, h5.tr hG fun b hb => hk s' hne b k hb, h6⟩
  | pt s' k ver' off r =>
    obtain ⟨cur, h1, h2, h3⟩ := h
    by_cases hne : s' = d
    · subst hne
      rw [hd] at h1
      cases h1
      exact ⟨_, here, by show ver' ≤ ver; omega, fun e => by exfalso; have : ver' = ver := e; omega⟩
    · refine ⟨cur, look s' cur hne h1, h2, fun e => ?_⟩
      obtain ⟨b, h4, h5⟩ := h3 e
      exact ⟨b, (hk s' hne b k h4).1, h5⟩
  | _ =>
    rw [RepSV.own rfl] at h ⊢
    exact RepOwn.tr h hG fun b k hb => hk s hs b k hb

theorem val_put_same {a : Act} {B : Base} {d : Nat} {c : Value} (h : d < a.tmps.size) : val (a.put (some d) c) B d = c := by
  unfold val Act.put
  have : d < (a.tmps.setIfInBounds d c ++ B.hid).size := by simp; omega
  rw [Array.getD_eq_getD_getElem?, Array.getElem?_append_left (by simpa using h)]
  simp [h]
theorem val_put_other {a : Act} {B : Base} {d s : Nat} {c : Value} (h : s ≠ d) : val (a.put (some d) c) B s = val a B s := by
  unfold val Act.put
  rw [Array.getD_eq_getD_getElem?, Array.getD_eq_getD_getElem?]
  by_cases hs : s < a.tmps.size
  · rw [Array.getElem?_append_left (by simpa using hs), Array.getElem?_append_left hs, Array.getElem?_setIfInBounds_ne (Ne.symm h)]
  · rw [Array.getElem?_append_right (by simp; omega), Array.getElem?_append_right (by omega)]
    simp
theorem val_tmp {a : Act} {B : Base} {s : Nat} (h : s < a.tmps.size) : val a B s = a.eval (.tmp s) := by
  unfold val
  rw [Array.getD_eq_getD_getElem?, Array.getElem?_append_left h]
  simp [Act.eval]

/-- A slot is laid anew, its value as it was. -/
theorem Rel.self {G G' : Mem} {σ σ' : Lab} {Fr : Mem} {w0 : Base} {w w' : World} {st : St} {a : Act} {d ver : Nat} {new : SV} {old : Nat × SV}
    (h : Rel G σ Fr w0 st a w) (hok : WOk G' σ' Fr w0 w') (hG : G.le G') (hd : st[d]? = some old) (hv : old.1 < ver)
    (hk : ∀ s', s' ≠ d → Kept σ σ' w w' s') (hnew : RepSV G' σ' w' (st.set d (ver, new)) d new (val a w0 d)) (hp : ∀ h, new = .par h → val a w0 d = val a w0 h ∧ w0.n ≤ h := by intro _ e; cases e) :
    Rel G' σ' Fr w0 (st.set d (ver, new)) a w' := by
  have hlt : d < st.length := (List.getElem?_eq_some_iff.1 hd).1
  have here : (st.set d (ver, new))[d]? = some (ver, new) := by simp [hlt]
  refine ⟨hok, h.defers, h.n, by simp [h.len], ?_, ?_⟩
  · intro s ver' sv hs
    by_cases hsd : s = d
    · subst hsd
      rw [here] at hs
      cases hs
      exact hnew
    · rw [List.getElem?_set_ne (Ne.symm hsd)] at hs
      exact (h.slots s ver' sv hs).tr hG hsd hd hv hk
  · intro s ver' h' hs
    by_cases hsd : s = d
    · subst hsd
      rw [here] at hs
      cases hs
      exact hp h' rfl
    · rw [List.getElem?_set_ne (Ne.symm hsd)] at hs
      exact h.pars s ver' h' hs
/-- A slot is laid anew, its value too. -/
theorem Rel.put {G G' : Mem} {σ σ' : Lab} {Fr : Mem} {w0 : Base} {w w' : World} {st : St} {a : Act} {d ver : Nat} {new : SV} {old : Nat × SV} {c : Value}
    (h : Rel G σ Fr w0 st a w) (hdn : d < w0.n) (hok : WOk G' σ' Fr w0 w') (hG : G.le G') (hd : st[d]? = some old) (hv : old.1 < ver)
    (hk : ∀ s', s' ≠ d → Kept σ σ' w w' s') (hnew : RepSV G' σ' w' (st.set d (ver, new)) d new c) (hp : ∀ h, new = .par h → c = val a w0 h ∧ w0.n ≤ h := by intro _ e; cases e) :
    Rel G' σ' Fr w0 (st.set d (ver, new)) (a.put (some d) c) w' := by
  have hlt : d < st.length := (List.getElem?_eq_some_iff.1 hd).1
  have here : (st.set d (ver, new))[d]? = some (ver, new) := by simp [hlt]
  refine ⟨hok, h.defers, by simpa [Act.put] using h.n, by simpa [Act.put] using h.len, ?_, ?_⟩
  · intro s ver' sv hs
    by_cases hsd : s = d
    · subst hsd
      rw [here] at hs
      cases hs
      rw [val_put_same (by rw [h.n]; exact hdn)]
      exact hnew
    · rw [List.getElem?_set_ne (Ne.symm hsd)] at hs
      rw [val_put_other hsd]
      exact (h.slots s ver' sv hs).tr hG hsd hd hv hk
  · intro s ver' h' hs
    by_cases hsd : s = d
    · subst hsd
      rw [here] at hs
      cases hs
      obtain ⟨h1, h2⟩ := hp h' rfl
      rw [val_put_same (by rw [h.n]; exact hdn), val_put_other (by omega)]
      exact ⟨h1, h2⟩
    · rw [List.getElem?_set_ne (Ne.symm hsd)] at hs
      obtain ⟨h1, h2⟩ := h.pars s ver' h' hs
      rw [val_put_other hsd, val_put_other (by omega)]
      exact ⟨h1, h2⟩

/-- A slot is given up. -/
def Lab.drop (σ : Lab) (d : Nat) : Lab := fun b => match σ b with
  | some (s, k) => if s = d then none else some (s, k)
  | none => none
theorem Lab.drop_some {σ : Lab} {d b : Nat} {s k : Nat} : σ.drop d b = some (s, k) ↔ s ≠ d ∧ σ b = some (s, k) := by
  unfold Lab.drop
  split
  · rename_i s' k' h
    split
    · rename_i e; subst e; simp [h]; intro hne e; exact absurd e.symm hne
    · rename_i e
      simp only [h, Option.some.injEq, Prod.mk.injEq]
      constructor
      · rintro ⟨rfl, rfl⟩; exact ⟨e, rfl, rfl⟩
      · exact fun x => x.2
  · rename_i h; simp [h]
theorem Lab.drop_le {σ : Lab} {d b : Nat} {lab : Nat × Nat} (h : σ.drop d b = some lab) : σ b = some lab := by
  obtain ⟨s, k⟩ := lab
  exact (Lab.drop_some.1 h).2
theorem WOk.drop {G : Mem} {σ : Lab} {Fr : Mem} {w0 : Base} {w : World} (h : WOk G σ Fr w0 w) (d : Nat) : WOk G (σ.drop d) Fr w0 w :=
  ⟨h.fixed, fun b lab hb => h.own b lab (Lab.drop_le hb), fun b b' lab hb hb' => h.inj b b' lab (Lab.drop_le hb) (Lab.drop_le hb'), h.frame, h.os, h.tape, h.output, h.size, h.apart⟩
theorem Kept.drop (σ : Lab) (w : World) {d s : Nat} (hs : s ≠ d) : Kept σ (σ.drop d) w w s := fun _ _ hb => ⟨Lab.drop_some.2 ⟨hs, hb⟩, rfl⟩

theorem Rel.drop {G : Mem} {σ : Lab} {Fr : Mem} {w0 : Base} {w : World} {st : St} {a : Act} {d ver : Nat} {old : Nat × SV}
    (h : Rel G σ Fr w0 st a w) (hd : st[d]? = some old) (hv : old.1 < ver) : Rel G (σ.drop d) Fr w0 (st.set d (ver, .no)) a w := by
  exact Rel.self (new := .no) h (h.wok.drop d) (Mem.le.refl G) hd hv (fun s' hs => Kept.drop σ w hs) trivial

/-- What is stored behind a slot's back, its version as it was: no label turns. -/
theorem Rel.poke {G : Mem} {σ : Lab} {Fr : Mem} {w0 : Base} {w w' : World} {st : St} {a : Act} {d ver : Nat} {old new : SV}
    (h : Rel G σ Fr w0 st a w) (hok : WOk G σ Fr w0 w') (hd : st[d]? = some (ver, old))
    (hk : ∀ s', s' ≠ d → Kept σ σ w w' s') (hroot : old.root = none) (hnr : new.root = none) (hnp : ∀ h, new ≠ .par h)
    (hnew : ∀ c, RepOwn G σ w d old c → RepOwn G σ w' d new c)
    (hb : ∀ k e sz l c, old.vecAt k = some (e, sz, l) → ∃ l', new.vecAt k = some (e, sz, l') ∧ (VecAt G σ w (d, k) e sz l c → VecAt G σ w' (d, k) e sz l' c) ∧
      ∀ n, VecAt G σ w (d, k) e sz (l.take n) c → VecAt G σ w' (d, k) e sz (l'.take n) c) :
    Rel G σ Fr w0 (st.set d (ver, new)) a w' := by
  have hlt : d < st.length := (List.getElem?_eq_some_iff.1 hd).1
  refine ⟨hok, h.defers, h.n, by simp [h.len], ?_, ?_⟩
  rotate_left
  · intro s ver' h' hs
    by_cases hsd : s = d
    · subst hsd
      have : (st.set s (ver, new))[s]? = some (ver, new) := by simp [hlt]
      rw [this] at hs
      cases hs
      exact absurd rfl (hnp h')
    · rw [List.getElem?_set_ne (Ne.symm hsd)] at hs
      exact h.pars s ver' h' hs
  intro s ver' sv hs
  have look : ∀ s' cur, s' ≠ d → st[s']? = some cur → (st.set d (ver, new))[s']? = some cur := fun s' cur hne hc => by
    rw [List.getElem?_set_ne (Ne.symm hne)]
    exact hc
  have here : (st.set d (ver, new))[d]? = some (ver, new) := by simp [hlt]
  by_cases hsd : s = d
  · subst hsd
    rw [here] at hs
    cases hs
    rw [RepSV.own hnr]
    have := h.slots s ver old hd
    rw [RepSV.own hroot] at this
    exact hnew _ this
  · rw [List.getElem?_set_ne (Ne.symm hsd)] at hs
    have h0 := h.slots s ver' sv hs
    generalize val a w0 s = c at h0
    cases sv with
    | bor s' k ver' =>
      obtain ⟨cur, h1, h2, h3⟩ := h0
      by_cases hne : s' = d
      · subst hne
        rw [hd] at h1
        cases h1
        refine ⟨_, here, h2, fun e => ?_⟩
        obtain ⟨e, sz, l, h4, h5⟩ := h3 e
        obtain ⟨l', h6, h7, _⟩ := hb k e sz l c h4
        exact ⟨e, sz, l', h6, h7 h5⟩
      · refine ⟨cur, look s' cur hne h1, h2, fun e => ?_⟩
        obtain ⟨e, sz, l, h4, h5⟩ := h3 e
        exact ⟨e, sz, l, h4, h5.tr (Mem.le.refl G) fun b hb => hk s' hne b k hb⟩
    | sub s' k ver' n =>
      obtain ⟨cur, h1, h2, h3⟩ := h0
      by_cases hne : s' = d
      · subst hne
        rw [hd] at h1
        cases h1
        refine ⟨_, here, h2, fun e => ?_⟩
        obtain ⟨e, sz, l, h4, h5⟩ := h3 e
        obtain ⟨l', h6, _, h7⟩ := hb k e sz l c h4
        exact ⟨e, sz, l', h6, h7 n h5⟩
      · refine ⟨cur, look s' cur hne h1, h2, fun e => ?_⟩
        obtain ⟨e, sz, l, h4, h5⟩ := h3 e
        exact ⟨e, sz, l, h4, h5.tr (Mem.le.refl G) fun b hb => hk s' hne b k hb⟩
    | suf s' k ver' n =>
      obtain ⟨cur, h1, h2, h3⟩ := h0
      by_cases hne : s' = d
      · subst hne
        rw [hd] at h1
        cases h1
        refine ⟨_, here, h2, fun e => ?_⟩
        obtain ⟨e, sz, l, c0, h4, h5, h8⟩ := h3 e
        obtain ⟨l', h6, h7, _⟩ := hb k e sz l c0 h4
        have h9 := h7 h5
        refine ⟨e, sz, l', c0, h6, h9, ?_⟩
        have : l'.length = l.length := by
          obtain ⟨x1, y1, _⟩ := h5
          obtain ⟨x2, y2, _⟩ := h9
          obtain ⟨ad, cap, e1, _⟩ := h8
          rcases y1.2 with ⟨p1, q1⟩ | ⟨g1, cap1, cur1, p1, _⟩ <;> rcases y2.2 with ⟨p2, q2⟩ | ⟨g2, cap2, cur2, p2, _⟩
          · rw [q1, q2]
          · rw [p1] at p2; cases p2
          · rw [p1] at p2; cases p2
          · rw [p1] at p2
            injection p2 with _ e3 _
            exact e3.symm
        rw [this]
        exact h8
      · refine ⟨cur, look s' cur hne h1, h2, fun e => ?_⟩
        obtain ⟨e, sz, l, c0, h4, h5, h6⟩ := h3 e
        exact ⟨e, sz, l, c0, h4, h5.tr (Mem.le.refl G) fun b hb => hk s' hne b k hb, h6⟩
    | pt s' k ver' off r =>
      obtain ⟨cur, h1, h2, h3⟩ := h0
      by_cases hne : s' = d
      · subst hne
        rw [hd] at h1
        cases h1
        exact ⟨_, here, h2, h3⟩
      · exact ⟨cur, look s' cur hne h1, h2, h3⟩
    | _ =>
      rw [RepSV.own rfl] at h0 ⊢
      exact RepOwn.tr h0 (Mem.le.refl G) fun b k hb => hk s hsd b k hb
end Go.Ab
