/- One text of the proof whose last text says what is proved. -/
import Derived.WalkKit
import Derived.Maps.AppendAt
set_option linter.unusedVariables false
set_option linter.unusedSimpArgs false
namespace Go.Ab

/-- Immutable data. -/
inductive I where
  | und
  | int (k : IntKind) (n : Int)
  | bool (b : Bool)
  | str (s : List UInt8)
  | agg (l : List I)
  | arr (sz : Nat) (l : List I)
  | list (l : List I)
  | fn (f : FuncId)
  | clo (f : FuncId) (caps : List I)
  | nili
  | nilp
  | nilm
  | ifc (t : TypeId) (x : I)
  deriving Inhabited

mutual
def I.size : I → Nat
  | .agg l => sizes l
  | .arr sz l => sz * l.length
  | _ => 1
def sizes : List I → Nat
  | [] => 0
  | x :: l => x.size + sizes l
end

def I.isAgg : I → Bool
  | .agg _ | .arr _ _ => true
  | _ => false

abbrev Mem := Nat → Option Obj

mutual
/-- 'x' lies in the cells 'cs', what it leads to in 'G'. -/
def RepI (G : Mem) : I → List Value → Prop
  | .und, cs => ∃ c : Value, cs = [c] ∧ c.oneCell' = true
  | .int k n, cs => cs = [.int k n]
  | .bool b, cs => cs = [.bool b]
  | .str s, cs => cs = [.string ⟨⟨s⟩⟩] ∧ s.length ≤ maxLen
  | .agg l, cs => RepIs G l cs
  | .arr sz l, cs => RepIs G l cs ∧ ∀ x ∈ l, x.size = sz
  | .list l, cs => ∃ a cap, cs = [.slice a l.length cap] ∧ l.length ≤ cap ∧ cap ≤ maxLen ∧
      (l = [] ∨ ∃ b off bl ty fz sz, a = some ⟨b, off, none⟩ ∧ G b = some (.cells bl ty fz) ∧ (∀ x ∈ l, x.size = sz) ∧
        off + l.length * sz ≤ bl.size ∧ RepIs G l ((bl.toList.drop off).take (l.length * sz)))
  | .fn f, cs => cs = [.func (.func f) #[] #[]]
  | .clo f caps, cs => ∃ ps : List Value, cs = [.func (.func f) #[] ps.toArray] ∧ RepPs G caps ps
  | .nili, cs => cs = [.nilIface]
  | .nilp, cs => cs = [.pointer none]
  | .nilm, cs => cs = [.map none]
  | .ifc t x, cs => ∃ c : Value, cs = [.iface t c] ∧ (if x.isAgg then ∃ a, c = .agg a ∧ RepI G x a.toList else RepI G x [c])
def RepIs (G : Mem) : List I → List Value → Prop
  | [], cs => cs = []
  | x :: l, cs => ∃ c d, cs = c ++ d ∧ RepI G x c ∧ RepIs G l d
/-- What a closure has caught: pointers to what lies fixed. -/
def RepPs (G : Mem) : List I → List Value → Prop
  | [], ps => ps = []
  | x :: l, ps => ∃ p r b off bl ty fz pre cs post, ps = p :: r ∧ p = .pointer (some ⟨b, off, none⟩) ∧ G b = some (.cells bl ty fz) ∧ bl.toList = pre ++ cs ++ post ∧ pre.length = off ∧ RepI G x cs ∧ RepPs G l r
end

def Mem.le (G G' : Mem) : Prop := ∀ b o, G b = some o → G' b = some o
theorem Mem.le.refl (G : Mem) : G.le G := fun _ _ h => h
theorem Mem.le.trans {A B C : Mem} (h : A.le B) (k : B.le C) : A.le C := fun b o x => k b o (h b o x)

mutual
theorem RepI.mono {G G' : Mem} (hG : G.le G') : ∀ (x : I) (cs : List Value), RepI G x cs → RepI G' x cs
  | .und, _, h => by simpa only [RepI] using h
  | .int _ _, _, h => by simpa only [RepI] using h
  | .bool _, _, h => by simpa only [RepI] using h
  | .str _, _, h => by simpa only [RepI] using h
  | .fn _, _, h => by simpa only [RepI] using h
  | .clo _ caps, _, h => by
    simp only [RepI] at h ⊢
    obtain ⟨ps, hc, h⟩ := h
    exact ⟨ps, hc, RepPs.mono hG caps ps h⟩
  | .nili, _, h => by simpa only [RepI] using h
  | .nilp, _, h => by simpa only [RepI] using h
  | .nilm, _, h => by simpa only [RepI] using h
  | .agg l, cs, h => by
    simp only [RepI] at h ⊢
    exact RepIs.mono hG l cs h
  | .arr _ l, cs, h => by
    simp only [RepI] at h ⊢
    exact ⟨RepIs.mono hG l cs h.1, h.2⟩
  | .list l, cs, h => by
    simp only [RepI] at h ⊢
    obtain ⟨a, cap, h1, h2, h3, h4⟩ := h
    refine ⟨a, cap, h1, h2, h3, ?_⟩
    rcases h4 with h4 | ⟨b, off, bl, ty, fz, sz, ha, hg, hs, ho, hr⟩
    · exact .inl h4
    · exact .inr ⟨b, off, bl, ty, fz, sz, ha, hG _ _ hg, hs, ho, RepIs.mono hG l _ hr⟩
  | .ifc t x, cs, h => by
    simp only [RepI] at h ⊢
    obtain ⟨c, hc, h⟩ := h
    refine ⟨c, hc, ?_⟩
    split
    · rename_i hx
      rw [if_pos hx] at h
      obtain ⟨a, ha, h⟩ := h
      exact ⟨a, ha, RepI.mono hG x _ h⟩
    · rename_i hx
      rw [if_neg hx] at h
      exact RepI.mono hG x _ h
theorem RepIs.mono {G G' : Mem} (hG : G.le G') : ∀ (l : List I) (cs : List Value), RepIs G l cs → RepIs G' l cs
  | [], _, h => by simpa only [RepIs] using h
  | x :: l, cs, h => by
    simp only [RepIs] at h ⊢
    obtain ⟨c, d, e, h1, h2⟩ := h
    exact ⟨c, d, e, RepI.mono hG x c h1, RepIs.mono hG l d h2⟩
theorem RepPs.mono {G G' : Mem} (hG : G.le G') : ∀ (l : List I) (ps : List Value), RepPs G l ps → RepPs G' l ps
  | [], _, h => by simpa only [RepPs] using h
  | x :: l, ps, h => by
    simp only [RepPs] at h ⊢
    obtain ⟨p, r, b, off, bl, ty, fz, pre, cs, post, h1, h2, h3, h4, h5, h6, h7⟩ := h
    exact ⟨p, r, b, off, bl, ty, fz, pre, cs, post, h1, h2, hG _ _ h3, h4, h5, RepI.mono hG x _ h6, RepPs.mono hG l r h7⟩
end

theorem sizes_const {sz : Nat} : ∀ {l : List I}, (∀ x ∈ l, x.size = sz) → sizes l = l.length * sz
  | [], _ => by simp [sizes]
  | x :: l, h => by
    have h1 := h x (List.mem_cons_self ..)
    have h2 := sizes_const (l := l) fun y hy => h y (List.mem_cons_of_mem _ hy)
    simp only [sizes, h1, h2, List.length_cons, Nat.add_mul, Nat.one_mul]
    omega

mutual
theorem RepI.length {G : Mem} : ∀ (x : I) (cs : List Value), RepI G x cs → cs.length = x.size
  | .und, _, h => by
    simp only [RepI] at h
    obtain ⟨c, h, _⟩ := h
    simp [h, I.size]
  | .int _ _, _, h => by simp only [RepI] at h; simp [h, I.size]
  | .bool _, _, h => by simp only [RepI] at h; simp [h, I.size]
  | .str _, _, h => by simp only [RepI] at h; simp [h.1, I.size]
  | .fn _, _, h => by simp only [RepI] at h; simp [h, I.size]
  | .clo _ _, _, h => by
    simp only [RepI] at h
    obtain ⟨ps, hc, _⟩ := h
    simp [hc, I.size]
  | .nili, _, h => by simp only [RepI] at h; simp [h, I.size]
  | .nilp, _, h => by simp only [RepI] at h; simp [h, I.size]
  | .nilm, _, h => by simp only [RepI] at h; simp [h, I.size]
  | .agg l, cs, h => by
    simp only [RepI] at h
    simpa [I.size] using RepIs.length l cs h
  | .arr sz l, cs, h => by
    simp only [RepI] at h
    have := RepIs.length l cs h.1
    rw [sizes_const h.2] at this
    simp [I.size, this, Nat.mul_comm]
  | .list l, cs, h => by
    simp only [RepI] at h
    obtain ⟨a, cap, h1, _⟩ := h
    simp [h1, I.size]
  | .ifc t x, cs, h => by
    simp only [RepI] at h
    obtain ⟨c, hc, h⟩ := h
    simp [hc, I.size]
theorem RepIs.length {G : Mem} : ∀ (l : List I) (cs : List Value), RepIs G l cs → cs.length = sizes l
  | [], _, h => by simp only [RepIs] at h; simp [h, sizes]
  | x :: l, cs, h => by
    simp only [RepIs] at h
    obtain ⟨c, d, e, h1, h2⟩ := h
    have := RepI.length x c h1
    have := RepIs.length l d h2
    simp [e, sizes, *]
end

mutual
theorem RepI.one {G : Mem} : ∀ (x : I) (cs : List Value), RepI G x cs → ∀ c ∈ cs, c.oneCell' = true
  | .und, _, h => by
    simp only [RepI] at h
    obtain ⟨c, h, k⟩ := h
    simp [h, k]
  | .int _ _, _, h => by simp only [RepI] at h; simp [h, Value.oneCell']
  | .bool _, _, h => by simp only [RepI] at h; simp [h, Value.oneCell']
  | .str _, _, h => by simp only [RepI] at h; simp [h.1, Value.oneCell']
  | .fn _, _, h => by simp only [RepI] at h; simp [h, Value.oneCell']
  | .clo _ _, _, h => by
    simp only [RepI] at h
    obtain ⟨ps, hc, _⟩ := h
    simp [hc, Value.oneCell']
  | .nili, _, h => by simp only [RepI] at h; simp [h, Value.oneCell']
  | .nilp, _, h => by simp only [RepI] at h; simp [h, Value.oneCell']
  | .nilm, _, h => by simp only [RepI] at h; simp [h, Value.oneCell']
  | .agg l, cs, h => by
    simp only [RepI] at h
    exact RepIs.one l cs h
  | .arr sz l, cs, h => by
    simp only [RepI] at h
    exact RepIs.one l cs h.1
  | .list l, cs, h => by
    simp only [RepI] at h
    obtain ⟨a, cap, h1, _⟩ := h
    simp [h1, Value.oneCell']
  | .ifc t x, cs, h => by
    simp only [RepI] at h
    obtain ⟨c, hc, h⟩ := h
    simp [hc, Value.oneCell']
theorem RepIs.one {G : Mem} : ∀ (l : List I) (cs : List Value), RepIs G l cs → ∀ c ∈ cs, c.oneCell' = true
  | [], _, h => by simp only [RepIs] at h; simp [h]
  | x :: l, cs, h => by
    simp only [RepIs] at h
    obtain ⟨c, d, e, h1, h2⟩ := h
    have h3 := RepI.one x c h1
    have h4 := RepIs.one l d h2
    intro v hv
    subst e
    rcases List.mem_append.1 hv with hv | hv
    · exact h3 v hv
    · exact h4 v hv
end

/-- A part of an item: where its cells begin, and the part. -/
def I.sub : I → List Nat → Option (Nat × I)
  | x, [] => some (0, x)
  | .agg l, i :: r => match l[i]? with
    | some y => match y.sub r with
      | some (o, u) => some (sizes (l.take i) + o, u)
      | none => none
    | none => none
  | .arr sz l, i :: r => match l[i]? with
    | some y => match y.sub r with
      | some (o, u) => some (i * sz + o, u)
      | none => none
    | none => none
  | _, _ :: _ => none

theorem RepIs.nth {G : Mem} : ∀ {l : List I} {cs : List Value} (i : Nat) {y : I}, RepIs G l cs → l[i]? = some y →
    ∃ c1 c c2, cs = c1 ++ c ++ c2 ∧ c1.length = sizes (l.take i) ∧ RepI G y c ∧ (∀ y' c', RepI G y' c' → RepIs G (l.set i y') (c1 ++ c' ++ c2))
  | [], _, i, y, _, h => by simp at h
  | x :: l, cs, 0, y, h, hy => by
    simp only [RepIs] at h
    obtain ⟨c, d, e, h1, h2⟩ := h
    simp only [List.getElem?_cons_zero, Option.some.injEq] at hy
    subst hy
    refine ⟨[], c, d, by simpa using e, by simp [sizes], h1, ?_⟩
    intro y' c' hy'
    simp only [List.set_cons_zero, RepIs, List.nil_append]
    exact ⟨c', d, rfl, hy', h2⟩
  | x :: l, cs, i + 1, y, h, hy => by
    simp only [RepIs] at h
    obtain ⟨c, d, e, h1, h2⟩ := h
    simp only [List.getElem?_cons_succ] at hy
    obtain ⟨c1, cc, c2, e2, hl, hr, hset⟩ := RepIs.nth i h2 hy
    have hlc := RepI.length x c h1
    refine ⟨c ++ c1, cc, c2, by simp [e, e2], by simp [sizes, hlc, hl], hr, ?_⟩
    intro y' c' hy'
    simp only [List.set_cons_succ, RepIs]
    exact ⟨c, c1 ++ c' ++ c2, by simp, h1, hset y' c' hy'⟩

theorem RepI.sub {G : Mem} : ∀ (r : List Nat) {x : I} {cs : List Value} {o : Nat} {u : I}, RepI G x cs → x.sub r = some (o, u) →
    ∃ c1 c c2, cs = c1 ++ c ++ c2 ∧ c1.length = o ∧ RepI G u c := by
  intro r
  induction r with
  | nil =>
    intro x cs o u h hs
    simp only [I.sub] at hs
    have : (0, x) = (o, u) := by cases x <;> simpa [I.sub] using hs
    cases this
    exact ⟨[], cs, [], by simp, rfl, h⟩
  | cons i r ih =>
    intro x cs o u h hs
    cases x with
    | agg l =>
      simp only [I.sub] at hs
      simp only [RepI] at h
      cases hy : l[i]? with
      | none => simp [hy] at hs
      | some y =>
        simp only [hy] at hs
        cases hk : y.sub r with
        | none => simp [hk] at hs
        | some p =>
          obtain ⟨o', u'⟩ := p
          simp only [hk, Option.some.injEq, Prod.mk.injEq] at hs
          obtain ⟨rfl, rfl⟩ := hs
          obtain ⟨c1, c, c2, e, hl, hr, _⟩ := RepIs.nth i h hy
          obtain ⟨d1, d, d2, e', hl', hr'⟩ := ih hr hk
          exact ⟨c1 ++ d1, d, d2 ++ c2, by simp [e, e'], by simp [hl, hl'], hr'⟩
    | arr sz l =>
      simp only [I.sub] at hs
      simp only [RepI] at h
      cases hy : l[i]? with
      | none => simp [hy] at hs
      | some y =>
        simp only [hy] at hs
        cases hk : y.sub r with
        | none => simp [hk] at hs
        | some p =>
          obtain ⟨o', u'⟩ := p
          simp only [hk, Option.some.injEq, Prod.mk.injEq] at hs
          obtain ⟨rfl, rfl⟩ := hs
          obtain ⟨c1, c, c2, e, hl, hr, _⟩ := RepIs.nth i h.1 hy
          obtain ⟨d1, d, d2, e', hl', hr'⟩ := ih hr hk
          have hi : i < l.length := (List.getElem?_eq_some_iff.1 hy).1
          refine ⟨c1 ++ d1, d, d2 ++ c2, by simp [e, e'], ?_, hr'⟩
          have : sizes (l.take i) = i * sz := by
            rw [sizes_const (sz := sz) fun z hz => h.2 z (List.mem_of_mem_take hz), List.length_take, Nat.min_eq_left (Nat.le_of_lt hi)]
          simp [hl, hl', this]
    | _ => simp [I.sub] at hs

/-- A part laid anew. -/
def I.put : I → List Nat → I → I
  | _, [], u => u
  | .agg l, i :: r, u => match l[i]? with
    | some y => .agg (l.set i (y.put r u))
    | none => .agg l
  | .arr sz l, i :: r, u => match l[i]? with
    | some y => .arr sz (l.set i (y.put r u))
    | none => .arr sz l
  | x, _ :: _, _ => x

theorem sizes_set {l : List I} {i : Nat} {y y' : I} (h : l[i]? = some y) (hs : y'.size = y.size) : sizes (l.set i y') = sizes l := by
  induction l generalizing i with
  | nil => simp at h
  | cons x l ih =>
    cases i with
    | zero =>
      simp only [List.getElem?_cons_zero, Option.some.injEq] at h
      subst h
      simp [sizes, hs]
    | succ i =>
      simp only [List.getElem?_cons_succ] at h
      simp [sizes, ih h]

theorem I.put_size : ∀ (r : List Nat) {x : I} {o : Nat} {u u' : I}, x.sub r = some (o, u) → u'.size = u.size → (x.put r u').size = x.size := by
  intro r
  induction r with
  | nil =>
    intro x o u u' hs hu
    have : (0, x) = (o, u) := by cases x <;> simpa [I.sub] using hs
    cases this
    cases x <;> simpa [I.put] using hu
  | cons i r ih =>
    intro x o u u' hs hu
    cases x with
    | agg l =>
      simp only [I.sub] at hs
      cases hy : l[i]? with
      | none => simp [hy] at hs
      | some y =>
        simp only [hy] at hs
        cases hk : y.sub r with
        | none => simp [hk] at hs
        | some p =>
          obtain ⟨o', u1⟩ := p
          simp only [hk, Option.some.injEq, Prod.mk.injEq] at hs
          obtain ⟨rfl, rfl⟩ := hs
          simp only [I.put, hy, I.size]
          exact sizes_set hy (ih hk hu)
    | arr sz l =>
      simp only [I.sub] at hs
      cases hy : l[i]? with
      | none => simp [hy] at hs
      | some y => simp [I.put, hy, I.size]
    | _ => simp [I.sub] at hs

theorem RepI.put {G : Mem} : ∀ (r : List Nat) {x : I} {cs : List Value} {o : Nat} {u : I}, RepI G x cs → x.sub r = some (o, u) →
    ∃ c1 c c2, cs = c1 ++ c ++ c2 ∧ c1.length = o ∧ RepI G u c ∧ (∀ u' c', u'.size = u.size → RepI G u' c' → RepI G (x.put r u') (c1 ++ c' ++ c2)) := by
  intro r
  induction r with
  | nil =>
    intro x cs o u h hs
    have : (0, x) = (o, u) := by cases x <;> simpa [I.sub] using hs
    cases this
    refine ⟨[], cs, [], by simp, rfl, h, ?_⟩
    intro u' c' _ hu
    cases x <;> simpa [I.put] using hu
  | cons i r ih =>
    intro x cs o u h hs
    cases x with
    | agg l =>
      simp only [I.sub] at hs
      simp only [RepI] at h
      cases hy : l[i]? with
      | none => simp [hy] at hs
      | some y =>
        simp only [hy] at hs
        cases hk : y.sub r with
        | none => simp [hk] at hs
        | some p =>
          obtain ⟨o', u'⟩ := p
          simp only [hk, Option.some.injEq, Prod.mk.injEq] at hs
          obtain ⟨rfl, rfl⟩ := hs
          obtain ⟨c1, c, c2, e, hl, hr, hset⟩ := RepIs.nth i h hy
          obtain ⟨d1, d, d2, e', hl', hr', hput⟩ := ih hr hk
          refine ⟨c1 ++ d1, d, d2 ++ c2, by simp [e, e'], by simp [hl, hl'], hr', ?_⟩
          intro v cv hv hrv
          have := hset _ _ (hput v cv hv hrv)
          simp only [I.put, hy, RepI]
          simpa using this
    | arr sz l =>
      simp only [I.sub] at hs
      simp only [RepI] at h
      cases hy : l[i]? with
      | none => simp [hy] at hs
      | some y =>
        simp only [hy] at hs
        cases hk : y.sub r with
        | none => simp [hk] at hs
        | some p =>
          obtain ⟨o', u'⟩ := p
          simp only [hk, Option.some.injEq, Prod.mk.injEq] at hs
          obtain ⟨rfl, rfl⟩ := hs
          obtain ⟨c1, c, c2, e, hl, hr, hset⟩ := RepIs.nth i h.1 hy
          obtain ⟨d1, d, d2, e', hl', hr', hput⟩ := ih hr hk
          have hi : i < l.length := (List.getElem?_eq_some_iff.1 hy).1
          have hsz : sizes (l.take i) = i * sz := by
            rw [sizes_const (sz := sz) fun z hz => h.2 z (List.mem_of_mem_take hz), List.length_take, Nat.min_eq_left (Nat.le_of_lt hi)]
          refine ⟨c1 ++ d1, d, d2 ++ c2, by simp [e, e'], by simp [hl, hl', hsz], hr', ?_⟩
          intro v cv hv hrv
          have := hset _ _ (hput v cv hv hrv)
          simp only [I.put, hy, RepI]
          refine ⟨by simpa using this, ?_⟩
          intro z hz
          rcases List.mem_or_eq_of_mem_set hz with hz | hz
          · exact h.2 z hz
          · subst hz
            rw [I.put_size r hk hv]
            exact h.2 y (List.mem_of_getElem? hy)
    | _ => simp [I.sub] at hs

/-- An item as a value. -/
def RepV (G : Mem) (x : I) (c : Value) : Prop := if x.isAgg then ∃ a, c = .agg a ∧ RepI G x a.toList else RepI G x [c]
theorem RepV.mono {G G' : Mem} (hG : G.le G') {x : I} {c : Value} (h : RepV G x c) : RepV G' x c := by
  unfold RepV at *
  split
  · rename_i hx
    rw [if_pos hx] at h
    obtain ⟨a, ha, h⟩ := h
    exact ⟨a, ha, RepI.mono hG x _ h⟩
  · rename_i hx
    rw [if_neg hx] at h
    exact RepI.mono hG x _ h
theorem RepV.cells {G : Mem} {x : I} {c : Value} (h : RepV G x c) : RepI G x c.cells.toList := by
  unfold RepV at h
  split at h
  · obtain ⟨a, rfl, h⟩ := h
    simpa [Value.cells] using h
  · have hone := RepI.one x _ h c (by simp)
    cases c <;> simp_all [Value.cells, Value.oneCell']
theorem RepIs.append {G : Mem} : ∀ {l m : List I} {cs ds : List Value}, RepIs G l cs → RepIs G m ds → RepIs G (l ++ m) (cs ++ ds)
  | [], m, cs, ds, h, k => by simp only [RepIs] at h; subst h; simpa using k
  | x :: l, m, cs, ds, h, k => by
    simp only [RepIs] at h
    obtain ⟨c, d, e, h1, h2⟩ := h
    simp only [List.cons_append, RepIs]
    exact ⟨c, d ++ ds, by simp [e], h1, RepIs.append h2 k⟩
theorem RepIs.split {G : Mem} : ∀ {l m : List I} {cs : List Value}, RepIs G (l ++ m) cs → ∃ c d, cs = c ++ d ∧ RepIs G l c ∧ RepIs G m d
  | [], m, cs, h => ⟨[], cs, by simp, by simp [RepIs], by simpa using h⟩
  | x :: l, m, cs, h => by
    simp only [List.cons_append, RepIs] at h
    obtain ⟨c, d, e, h1, h2⟩ := h
    obtain ⟨c', d', e', h3, h4⟩ := RepIs.split h2
    refine ⟨c ++ c', d', by simp [e, e'], ?_, h4⟩
    simp only [RepIs]
    exact ⟨c, c', rfl, h1, h3⟩
end Go.Ab

namespace Go.Ab

/-- The row of an owned slice. A type's number beyond 1000000 stands for a row that may be frozen behind its end. -/
def Row (w : World) (g : Nat) (e : TypeId) (cur : Array Value) : Prop := ∃ ty fz, w.heap[g]? = some (.cells cur ty fz) ∧ (fz = (0, 0) ∨ cur.size ≤ fz.1) ∧ (e < 1000000 → ty = e ∧ fz = (0, 0))
theorem Row.of {w : World} {g : Nat} {e : TypeId} {cur : Array Value} (h : w.heap[g]? = some (.cells cur e (0, 0))) : Row w g e cur := ⟨e, (0, 0), h, .inl rfl, fun _ => ⟨rfl, rfl⟩⟩
theorem Row.to {w : World} {g : Nat} {e : TypeId} {cur : Array Value} (h : Row w g e cur) (he : e < 1000000) : w.heap[g]? = some (.cells cur e (0, 0)) := by
  obtain ⟨ty, fz, h1, _, h2⟩ := h
  obtain ⟨rfl, rfl⟩ := h2 he
  exact h1
theorem Row.same {w w' : World} {g : Nat} {e : TypeId} {cur : Array Value} (h : Row w g e cur) (hk : w'.heap[g]? = w.heap[g]?) : Row w' g e cur := by
  obtain ⟨ty, fz, h1, h2⟩ := h
  exact ⟨ty, fz, by rw [hk]; exact h1, h2⟩

/-- What is owned, with all that it leads to: a tree. -/
inductive D where
  | it (x : I)
  | st (l : List D)
  | vec (e : TypeId) (sz : Nat) (l : List D)
  | ptr (d : D)
  | map (ks : List I) (vs : List D)
  deriving Inhabited

mutual
def D.size : D → Nat
  | .it x => x.size
  | .st l => dsizes l
  | _ => 1
def dsizes : List D → Nat
  | [] => 0
  | d :: l => d.size + dsizes l
end
def D.isAgg : D → Bool
  | .it x => x.isAgg
  | .st _ => true
  | _ => false
/-- A value that is one thing or a row of cells. -/
def valOf (agg : Bool) (v : Value) : Bool := match v with
  | .agg _ => agg
  | _ => !agg

mutual
/-- 'd' lies in the cells 'cs'; 'bs': the blocks that it owns. -/
def RepD (G : Mem) (w : World) : D → List Value → List Nat → Prop
  | .it x, cs, bs => RepI G x cs ∧ bs = []
  | .st l, cs, bs => RepDs G w l cs bs
  | .vec e sz l, cs, bs => (cs = [.slice none 0 0] ∧ l = [] ∧ bs = []) ∨
      ∃ g cap cur xs bs', cs = [.slice (some ⟨g, 0, none⟩) l.length cap] ∧ Row w g e cur ∧ l.length ≤ cap ∧ cap ≤ maxLen ∧ cur.size = cap * sz ∧ cur.toList.take (l.length * sz) = xs ∧
        RepDs G w l xs bs' ∧ (∀ x ∈ l, x.size = sz) ∧ bs = g :: bs'
  | .ptr d, cs, bs => ∃ b cells ty bs', cs = [.pointer (some ⟨b, 0, none⟩)] ∧ w.heap[b]? = some (.cells cells ty (0, 0)) ∧ RepD G w d cells.toList bs' ∧ bs = b :: bs'
  | .map ks vs, cs, bs => ∃ b es clock kc vc bs', cs = [.map (some b)] ∧ w.heap[b]? = some (.map es clock) ∧ es.toList.map (·.key) = kc ∧ es.toList.map (·.val) = vc ∧ RepKs G ks kc ∧ RepVs G w vs vc bs' ∧
        (es.toList.map (·.born)).Pairwise (· < ·) ∧ (∀ e ∈ es.toList, e.born < clock) ∧ bs = b :: bs'
def RepDs (G : Mem) (w : World) : List D → List Value → List Nat → Prop
  | [], cs, bs => cs = [] ∧ bs = []
  | d :: l, cs, bs => ∃ c c' b b', cs = c ++ c' ∧ bs = b ++ b' ∧ RepD G w d c b ∧ RepDs G w l c' b'
def RepVs (G : Mem) (w : World) : List D → List Value → List Nat → Prop
  | [], cs, bs => cs = [] ∧ bs = []
  | d :: l, cs, bs => ∃ v c' b b', cs = v :: c' ∧ bs = b ++ b' ∧ valOf d.isAgg v = true ∧ RepD G w d v.cells.toList b ∧ RepVs G w l c' b'
def RepKs (G : Mem) : List I → List Value → Prop
  | [], cs => cs = []
  | x :: l, cs => ∃ v c', cs = v :: c' ∧ valOf x.isAgg v = true ∧ RepI G x v.cells.toList ∧ RepKs G l c'
end

theorem RepKs.mono {G G' : Mem} (hG : G.le G') : ∀ {ks : List I} {cs : List Value}, RepKs G ks cs → RepKs G' ks cs
  | [], _, h => by simpa only [RepKs] using h
  | x :: l, cs, h => by
    simp only [RepKs] at h ⊢
    obtain ⟨v, c', h1, h2, h3, h4⟩ := h
    exact ⟨v, c', h1, h2, h3.mono hG, RepKs.mono hG h4⟩

mutual
/-- What is fixed grows, and the tree's own blocks stay. -/
theorem RepD.tr {G G' : Mem} {w w' : World} (hG : G.le G') : ∀ {d : D} {cs : List Value} {bs : List Nat}, RepD G w d cs bs → (∀ b ∈ bs, w'.heap[b]? = w.heap[b]?) → RepD G' w' d cs bs
  | .it x, cs, bs, h, _ => by
    simp only [RepD] at h ⊢
    exact ⟨RepI.mono hG x cs h.1, h.2⟩
  | .st l, cs, bs, h, hk => by
    simp only [RepD] at h ⊢
    exact RepDs.tr hG h hk
  | .vec e sz l, cs, bs, h, hk => by
    simp only [RepD] at h ⊢
    rcases h with h | ⟨g, cap, cur, xs, bs', h1, h2, h3, h4, h5, h6, h7, h8, rfl⟩
    · exact .inl h
    · exact .inr ⟨g, cap, cur, xs, bs', h1, h2.same (hk g (by simp)), h3, h4, h5, h6, RepDs.tr hG h7 fun b hb => hk b (by simp [hb]), h8, rfl⟩
  | .ptr d, cs, bs, h, hk => by
    simp only [RepD] at h ⊢
    obtain ⟨b, cells, ty, bs', h1, h2, h3, rfl⟩ := h
    exact ⟨b, cells, ty, bs', h1, by rw [hk b (by simp)]; exact h2, RepD.tr hG h3 fun b hb => hk b (by simp [hb]), rfl⟩
  | .map ks vs, cs, bs, h, hk => by
    simp only [RepD] at h ⊢
    obtain ⟨b, es, clock, kc, vc, bs', h1, h2, h3, h4, h5, h6, h7, h8, rfl⟩ := h
    exact ⟨b, es, clock, kc, vc, bs', h1, by rw [hk b (by simp)]; exact h2, h3, h4, h5.mono hG, RepVs.tr hG h6 fun b hb => hk b (by simp [hb]), h7, h8, rfl⟩
theorem RepDs.tr {G G' : Mem} {w w' : World} (hG : G.le G') : ∀ {l : List D} {cs : List Value} {bs : List Nat}, RepDs G w l cs bs → (∀ b ∈ bs, w'.heap[b]? = w.heap[b]?) → RepDs G' w' l cs bs
  | [], cs, bs, h, _ => by simpa only [RepDs] using h
  | d :: l, cs, bs, h, hk => by
    simp only [RepDs] at h ⊢
    obtain ⟨c, c', b, b', h1, rfl, h3, h4⟩ := h
    exact ⟨c, c', b, b', h1, rfl, RepD.tr hG h3 fun x hx => hk x (by simp [hx]), RepDs.tr hG h4 fun x hx => hk x (by simp [hx])⟩
theorem RepVs.tr {G G' : Mem} {w w' : World} (hG : G.le G') : ∀ {l : List D} {cs : List Value} {bs : List Nat}, RepVs G w l cs bs → (∀ b ∈ bs, w'.heap[b]? = w.heap[b]?) → RepVs G' w' l cs bs
  | [], cs, bs, h, _ => by simpa only [RepVs] using h
  | d :: l, cs, bs, h, hk => by
    simp only [RepVs] at h ⊢
    obtain ⟨v, c', b, b', h1, rfl, hv, h3, h4⟩ := h
    exact ⟨v, c', b, b', h1, rfl, hv, RepD.tr hG h3 fun x hx => hk x (by simp [hx]), RepVs.tr hG h4 fun x hx => hk x (by simp [hx])⟩
end

mutual
theorem RepD.length {G : Mem} {w : World} : ∀ {d : D} {cs : List Value} {bs : List Nat}, RepD G w d cs bs → cs.length = d.size
  | .it x, cs, bs, h => by
    simp only [RepD] at h
    exact RepI.length x cs h.1
  | .st l, cs, bs, h => by
    simp only [RepD] at h
    exact RepDs.length h
  | .vec e sz l, cs, bs, h => by
    simp only [RepD] at h
    rcases h with ⟨rfl, _⟩ | ⟨g, cap, cur, xs, bs', rfl, _⟩ <;> rfl
  | .ptr d, cs, bs, h => by
    simp only [RepD] at h
    obtain ⟨b, cells, ty, bs', rfl, _⟩ := h
    rfl
  | .map ks vs, cs, bs, h => by
    simp only [RepD] at h
    obtain ⟨b, es, clock, kc, vc, bs', rfl, _⟩ := h
    rfl
theorem RepDs.length {G : Mem} {w : World} : ∀ {l : List D} {cs : List Value} {bs : List Nat}, RepDs G w l cs bs → cs.length = dsizes l
  | [], cs, bs, h => by
    simp only [RepDs] at h
    simp [h.1, dsizes]
  | d :: l, cs, bs, h => by
    simp only [RepDs] at h
    obtain ⟨c, c', b, b', rfl, _, h3, h4⟩ := h
    simp [dsizes, RepD.length h3, RepDs.length h4]
end

mutual
theorem RepD.one {G : Mem} {w : World} : ∀ {d : D} {cs : List Value} {bs : List Nat}, RepD G w d cs bs → ∀ c ∈ cs, c.oneCell' = true
  | .it x, cs, bs, h => by
    simp only [RepD] at h
    exact RepI.one x cs h.1
  | .st l, cs, bs, h => by
    simp only [RepD] at h
    exact RepDs.one h
  | .vec e sz l, cs, bs, h => by
    simp only [RepD] at h
    rcases h with ⟨rfl, _⟩ | ⟨g, cap, cur, xs, bs', rfl, _⟩ <;> simp [Value.oneCell']
  | .ptr d, cs, bs, h => by
    simp only [RepD] at h
    obtain ⟨b, cells, ty, bs', rfl, _⟩ := h
    simp [Value.oneCell']
  | .map ks vs, cs, bs, h => by
    simp only [RepD] at h
    obtain ⟨b, es, clock, kc, vc, bs', rfl, _⟩ := h
    simp [Value.oneCell']
theorem RepDs.one {G : Mem} {w : World} : ∀ {l : List D} {cs : List Value} {bs : List Nat}, RepDs G w l cs bs → ∀ c ∈ cs, c.oneCell' = true
  | [], cs, bs, h => by
    simp only [RepDs] at h
    simp [h.1]
  | d :: l, cs, bs, h => by
    simp only [RepDs] at h
    obtain ⟨c, c', b, b', rfl, _, h3, h4⟩ := h
    intro v hv
    rcases List.mem_append.1 hv with hv | hv
    · exact RepD.one h3 v hv
    · exact RepDs.one h4 v hv
end

theorem RepDs.its {G : Mem} {w : World} : ∀ {l : List I} {cs : List Value} {bs : List Nat}, RepDs G w (l.map D.it) cs bs ↔ RepIs G l cs ∧ bs = []
  | [], cs, bs => by simp [RepDs, RepIs]
  | x :: l, cs, bs => by
    simp only [List.map_cons, RepDs, RepD, RepIs]
    constructor
    · rintro ⟨c, c', b, b', rfl, rfl, ⟨h1, rfl⟩, h2⟩
      obtain ⟨h3, rfl⟩ := RepDs.its.1 h2
      exact ⟨⟨c, c', rfl, h1, h3⟩, rfl⟩
    · rintro ⟨⟨c, c', rfl, h1, h2⟩, rfl⟩
      exact ⟨c, c', [], [], rfl, rfl, ⟨h1, rfl⟩, RepDs.its.2 ⟨h2, rfl⟩⟩
theorem dsizes_its : ∀ (l : List I), dsizes (l.map D.it) = sizes l
  | [] => rfl
  | x :: l => by simp [dsizes, sizes, D.size, dsizes_its l]

/-- All of them items. -/
def allIt : List D → Option (List I)
  | [] => some []
  | .it x :: l => match allIt l with
    | some r => some (x :: r)
    | none => none
  | _ :: _ => none
theorem allIt_eq : ∀ {l : List D} {r : List I}, allIt l = some r → l = r.map D.it
  | [], r, h => by simp only [allIt, Option.some.injEq] at h; subst h; rfl
  | .it x :: l, r, h => by
    simp only [allIt] at h
    split at h
    · rename_i r' hr
      cases h
      simp [allIt_eq hr]
    · cases h
  | .st _ :: l, r, h => by simp [allIt] at h
  | .vec _ _ _ :: l, r, h => by simp [allIt] at h
  | .ptr _ :: l, r, h => by simp [allIt] at h
  | .map _ _ :: l, r, h => by simp [allIt] at h
/-- A struct out of its parts: an item, where all are. -/
def mkSt (l : List D) : D := match allIt l with
  | some r => .it (.agg r)
  | none => .st l
theorem RepD.mkSt {G : Mem} {w : World} {l : List D} {cs : List Value} {bs : List Nat} : RepD G w (Ab.mkSt l) cs bs ↔ RepDs G w l cs bs := by
  unfold Ab.mkSt
  split
  · rename_i r hr
    rw [allIt_eq hr, RepDs.its]
    simp only [RepD, RepI]
  · simp only [RepD]
theorem mkSt_size (l : List D) : (mkSt l).size = dsizes l := by
  unfold mkSt
  split
  · rename_i r hr
    rw [allIt_eq hr, dsizes_its]
    rfl
  · rfl

theorem mkSt_isAgg (l : List D) : (mkSt l).isAgg = true := by
  unfold mkSt
  split <;> rfl

/-- A part. -/
def D.kid : D → Nat → Option D
  | .it (.agg l), i => match l[i]? with
    | some y => some (.it y)
    | none => none
  | .it (.arr _ l), i => match l[i]? with
    | some y => some (.it y)
    | none => none
  | .it _, _ => none
  | .st l, i => l[i]?
  | .vec _ _ l, i => l[i]?
  | .ptr d, i => match i with
    | 0 => some d
    | _ + 1 => none
  | .map _ vs, i => vs[i]?
/-- Another part. -/
def D.setKid : D → Nat → D → Option D
  | .it (.agg l), i, y => some (mkSt ((l.map D.it).set i y))
  | .it (.arr sz l), i, y => match y with
    | .it y => some (.it (.arr sz (l.set i y)))
    | _ => none
  | .it _, _, _ => none
  | .st l, i, y => some (mkSt (l.set i y))
  | .vec e sz l, i, y => some (.vec e sz (l.set i y))
  | .ptr _, _, y => some (.ptr y)
  | .map ks vs, i, y => some (.map ks (vs.set i y))
/-- What lies at a place. -/
def D.at : List Nat → D → Option D
  | [], d => some d
  | i :: p, d => match d.kid i with
    | some y => y.at p
    | none => none
/-- Another thing at a place. -/
def D.put : List Nat → D → D → Option D
  | [], _, u => some u
  | i :: p, d, u => match d.kid i with
    | some y => match D.put p y u with
      | some y' => d.setKid i y'
      | none => none
    | none => none
/-- Nothing lies within. -/
def D.leaf : D → Bool
  | .it x => !x.isAgg
  | _ => false
/-- One cell, that leads on. -/
def D.head : D → Bool
  | .vec _ _ _ | .ptr _ | .map _ _ => true
  | _ => false
abbrev Spot := Option (Nat × Nat) × List Value
def hop (here : Option (Nat × Nat)) (o : Nat) : Option (Nat × Nat) := match here with
  | some (b, k) => some (b, k + o)
  | none => none
/-- Where a part lies, and its cells. -/
def kidSpot (w : World) : D → Spot → Nat → Option Spot
  | .it (.agg l), (here, cs), i => match l[i]? with
    | some y => some (hop here (sizes (l.take i)), (cs.drop (sizes (l.take i))).take y.size)
    | none => none
  | .it (.arr sz l), (here, cs), i => match l[i]? with
    | some _ => some (hop here (i * sz), (cs.drop (i * sz)).take sz)
    | none => none
  | .it _, _, _ => none
  | .st l, (here, cs), i => match l[i]? with
    | some y => some (hop here (dsizes (l.take i)), (cs.drop (dsizes (l.take i))).take y.size)
    | none => none
  | .vec _ sz l, (_, cs), i => match l[i]?, cs with
    | some _, [.slice (some ⟨g, 0, none⟩) _ _] => match w.heap[g]? with
      | some (.cells cur _ _) => some (some (g, i * sz), (cur.toList.drop (i * sz)).take sz)
      | _ => none
    | _, _ => none
  | .ptr _, (_, cs), i => match i, cs with
    | 0, [.pointer (some ⟨b, 0, none⟩)] => match w.heap[b]? with
      | some (.cells cur _ _) => some (some (b, 0), cur.toList)
      | _ => none
    | _, _ => none
  | .map _ _, (_, cs), i => match cs with
    | [.map (some b)] => match w.heap[b]? with
      | some (.map es _) => match es.toList[i]? with
        | some e => some (none, e.val.cells.toList)
        | none => none
      | _ => none
    | _ => none
def spot (w : World) : List Nat → D → Spot → Option Spot
  | [], _, s => some s
  | i :: p, d, s => match d.kid i, kidSpot w d s i with
    | some y, some s' => spot w p y s'
    | _, _ => none

theorem mkSt_kid {l : List D} {j : Nat} : (mkSt l).kid j = l[j]? := by
  unfold mkSt
  split
  · rename_i r hr
    rw [allIt_eq hr]
    simp only [D.kid, List.getElem?_map]
    cases r[j]? <;> rfl
  · rfl
theorem dsizes_take_its (l : List I) (i : Nat) : dsizes ((l.map D.it).take i) = sizes (l.take i) := by rw [← List.map_take, dsizes_its]
theorem kidSpot_mkSt {w : World} {l : List D} {s : Spot} {j : Nat} : kidSpot w (mkSt l) s j = match l[j]? with
    | some y => some (hop s.1 (dsizes (l.take j)), (s.2.drop (dsizes (l.take j))).take y.size)
    | none => none := by
  obtain ⟨here, cs⟩ := s
  unfold mkSt
  split
  · rename_i r hr
    rw [allIt_eq hr, dsizes_take_its, List.getElem?_map]
    simp only [kidSpot]
    cases r[j]? <;> rfl
  · simp only [kidSpot]

theorem nodup_swap {b1 b b2 b' : List Nat} (h : (b1 ++ b ++ b2).Nodup) (hb : b'.Nodup) (hf : ∀ c ∈ b', c ∈ b ∨ c ∉ b1 ++ b ++ b2) :
    (b1 ++ b' ++ b2).Nodup ∧ ∀ c, c ∈ b1 ++ b' ++ b2 ↔ (c ∈ b1 ++ b ++ b2 ∧ c ∉ b) ∨ c ∈ b' := by
  simp only [List.nodup_append, List.mem_append] at h hf ⊢
  obtain ⟨⟨h1, h2, h3⟩, h4, h5⟩ := h
  refine ⟨⟨⟨h1, hb, fun a ha c hc => ?_⟩, h4, fun a ha c hc => ?_⟩, fun c => ?_⟩
  · rintro rfl
    rcases hf a hc with h6 | h6
    · exact h3 a ha a h6 rfl
    · exact h6 (.inl (.inl ha))
  · rintro rfl
    rcases ha with ha | ha
    · exact h5 a (.inl ha) a hc rfl
    · rcases hf a ha with h6 | h6
      · exact h5 a (.inr h6) a hc rfl
      · exact h6 (.inr hc)
  · constructor
    · rintro ((h6 | h6) | h6)
      · exact .inl ⟨.inl (.inl h6), fun h7 => h3 c h6 c h7 rfl⟩
      · exact .inr h6
      · exact .inl ⟨.inr h6, fun h7 => h5 c (.inr h7) c h6 rfl⟩
    · rintro (⟨(h6 | h6) | h6, h7⟩ | h6)
      · exact .inl (.inl h6)
      · exact absurd h6 h7
      · exact .inr h6
      · exact .inl (.inr h6)

theorem drop_take_mid {a b c : List Value} : ((a ++ b ++ c).drop a.length).take b.length = b := by
  rw [List.append_assoc, List.drop_left, List.take_left]
theorem RepDs.nth {G : Mem} {w : World} : ∀ {l : List D} {cs : List Value} {bs : List Nat} {i : Nat} {y : D}, RepDs G w l cs bs → l[i]? = some y →
    ∃ c1 c c2 b1 b b2, cs = c1 ++ c ++ c2 ∧ bs = b1 ++ b ++ b2 ∧ c1.length = dsizes (l.take i) ∧ RepD G w y c b ∧
      (∀ G' w' y' c' b', G.le G' → RepD G' w' y' c' b' → (∀ x ∈ b1 ++ b2, w'.heap[x]? = w.heap[x]?) → RepDs G' w' (l.set i y') (c1 ++ c' ++ c2) (b1 ++ b' ++ b2)) ∧
      ∀ j z, j ≠ i → l[j]? = some z → ∃ bz, RepD G w z ((cs.drop (dsizes (l.take j))).take z.size) bz ∧ bz.Sublist (b1 ++ b2)
  | [], cs, bs, i, y, _, h => by simp at h
  | d :: l, cs, bs, 0, y, h, hy => by
    simp only [RepDs] at h
    obtain ⟨c, c', b, b', rfl, rfl, h1, h2⟩ := h
    simp only [List.getElem?_cons_zero, Option.some.injEq] at hy
    subst hy
    refine ⟨[], c, c', [], b, b', by simp, by simp, by simp [dsizes], h1, ?_, ?_⟩
    · intro G' w' y' c2 b2 hG hy' hk
      simp only [List.set_cons_zero, List.nil_append, RepDs]
      exact ⟨c2, c', b2, b', rfl, rfl, hy', h2.tr hG fun x hx => hk x (by simpa using hx)⟩
    · intro j z hj hz
      cases j with
      | zero => exact absurd rfl hj
      | succ j =>
        simp only [List.getElem?_cons_succ] at hz
        obtain ⟨c1, cc, c2, b1, bb, b2, rfl, rfl, hl, hr, _⟩ := RepDs.nth h2 hz
        refine ⟨bb, ?_, by simp⟩
        simp only [List.take_succ_cons, dsizes]
        rw [← RepD.length h1, ← hl, ← RepD.length hr, List.drop_length_add_append, drop_take_mid]
        exact hr
  | d :: l, cs, bs, i + 1, y, h, hy => by
    simp only [RepDs] at h
    obtain ⟨c, c', b, b', rfl, rfl, h1, h2⟩ := h
    simp only [List.getElem?_cons_succ] at hy
    obtain ⟨c1, cc, c2, b1, bb, b2, rfl, rfl, hl, hr, hset, hoth⟩ := RepDs.nth h2 hy
    refine ⟨c ++ c1, cc, c2, b ++ b1, bb, b2, by simp, by simp, by simp [dsizes, hl, RepD.length h1], hr, ?_, ?_⟩
    · intro G' w' y' c3 b3 hG hy' hk
      simp only [List.set_cons_succ, RepDs]
      refine ⟨c, c1 ++ c3 ++ c2, b, b1 ++ b3 ++ b2, by simp, by simp, h1.tr hG fun x hx => hk x (by simp [hx]), hset G' w' y' c3 b3 hG hy' fun x hx => hk x ?_⟩
      simp only [List.mem_append] at hx ⊢
      rcases hx with hx | hx
      · exact .inl (.inr hx)
      · exact .inr hx
    · intro j z hj hz
      cases j with
      | zero =>
        simp only [List.getElem?_cons_zero, Option.some.injEq] at hz
        subst hz
        refine ⟨b, ?_, by simp⟩
        simp only [List.take_zero, dsizes, List.drop_zero]
        rw [← RepD.length h1, List.take_left]
        exact h1
      | succ j =>
        simp only [List.getElem?_cons_succ] at hz
        obtain ⟨bz, e1, e2⟩ := hoth j z (by omega) hz
        refine ⟨bz, ?_, by rw [List.append_assoc]; exact e2.trans (List.sublist_append_right _ _)⟩
        simp only [List.take_succ_cons, dsizes]
        rw [← RepD.length h1, List.drop_length_add_append]
        exact e1
theorem dsizes_set {l : List D} {i : Nat} {y y' : D} (h : l[i]? = some y) (hs : y'.size = y.size) (j : Nat) : dsizes ((l.set i y').take j) = dsizes (l.take j) := by
  induction l generalizing i j with
  | nil => simp at h
  | cons x l ih =>
    cases j with
    | zero => simp
    | succ j =>
      cases i with
      | zero =>
        simp only [List.getElem?_cons_zero, Option.some.injEq] at h
        subst h
        simp [dsizes, hs]
      | succ i =>
        simp only [List.getElem?_cons_succ] at h
        simp [dsizes, ih h j]

/-- How a part lies in what holds it: inline, in a block, or as a map's value. -/
inductive Lie where
  | inl (pre post : List Value)
  | blk (g : Nat) (pre post : List Value) (ty : TypeId) (fz : Nat × Nat)
  | val
def Lie.cells (m : Lie) (cs c : List Value) : List Value := match m with
  | .inl pre post => pre ++ c ++ post
  | _ => cs
def Lie.fits (m : Lie) (w : World) (bs ybs : List Nat) (s s' : Spot) : Prop := match m with
  | .inl pre post => s.2 = pre ++ s'.2 ++ post ∧ s'.1 = hop s.1 pre.length
  | .blk g pre post ty fz => g ∈ bs ∧ g ∉ ybs ∧ (∃ row, w.heap[g]? = some (.cells row ty fz) ∧ (fz = (0, 0) ∨ row.size ≤ fz.1) ∧ row.toList = pre ++ s'.2 ++ post) ∧ s'.1 = some (g, pre.length)
  | .val => s'.1 = none
def Lie.new (m : Lie) (w w' : World) (bs ybs : List Nat) (cs' c : List Value) : Prop := match m with
  | .inl _ _ => ∀ b ∈ bs, b ∉ ybs → w'.heap[b]? = w.heap[b]?
  | .blk g pre post ty fz => w'.heap[g]? = some (.cells (pre ++ c ++ post).toArray ty fz) ∧ ∀ b ∈ bs, b ∉ ybs → b ≠ g → w'.heap[b]? = w.heap[b]?
  | .val => c = cs' ∧ ∀ b ∈ bs, b ∉ ybs → w'.heap[b]? = w.heap[b]?

/-- What a part's other reading makes of the whole. -/
def Again (G : Mem) (w : World) (d : D) (s : Spot) (bs : List Nat) (i : Nat) (y : D) (s' : Spot) (ybs : List Nat) (m : Lie) : Prop :=
  ∀ G' w' y' c ybs' d', G.le G' → c.length = s'.2.length → y'.isAgg = y.isAgg → RepD G' w' y' c ybs' → ybs'.Nodup → (∀ b ∈ ybs', b ∈ ybs ∨ b ∉ bs) → m.new w w' bs ybs s'.2 c → d.setKid i y' = some d' →
    ∃ bs', RepD G' w' d' (m.cells s.2 c) bs' ∧ bs'.Nodup ∧ (∀ b, b ∈ bs' ↔ (b ∈ bs ∧ b ∉ ybs) ∨ b ∈ ybs') ∧ d'.isAgg = d.isAgg ∧ d'.head = d.head ∧ d'.kid i = some y' ∧
      kidSpot w' d' (s.1, m.cells s.2 c) i = some (s'.1, c) ∧ ∀ j, j ≠ i → d'.kid j = d.kid j ∧ kidSpot w' d' (s.1, m.cells s.2 c) j = kidSpot w d s j

theorem drop_take_eq {c1 c c' c2 : List Value} (hl : c'.length = c.length) {o n : Nat} (h : o + n ≤ c1.length ∨ c1.length + c.length ≤ o) : ((c1 ++ c' ++ c2).drop o).take n = ((c1 ++ c ++ c2).drop o).take n := by
  rcases h with h | h
  · rw [List.append_assoc, List.append_assoc, List.drop_append_of_le_length (by omega), List.drop_append_of_le_length (by omega), List.take_append_of_le_length (by simp; omega), List.take_append_of_le_length (by simp; omega)]
  · obtain ⟨k, rfl⟩ := Nat.exists_eq_add_of_le h
    rw [show c1.length + c.length + k = (c1 ++ c').length + k by simp [hl], List.drop_length_add_append, show (c1 ++ c').length + k = (c1 ++ c).length + k by simp [hl], List.drop_length_add_append]
theorem dsizes_split : ∀ {l : List D} {i : Nat} {y : D}, l[i]? = some y → ∀ j, j < i → ∀ z, l[j]? = some z → dsizes (l.take j) + z.size ≤ dsizes (l.take i)
  | [], i, y, h, _, _, _, _ => by simp at h
  | x :: l, 0, y, _, j, hj, _, _ => by omega
  | x :: l, i + 1, y, h, 0, _, z, hz => by
    simp only [List.getElem?_cons_zero, Option.some.injEq] at hz
    subst hz
    simp [dsizes]
  | x :: l, i + 1, y, h, j + 1, hj, z, hz => by
    simp only [List.getElem?_cons_succ] at h hz
    have := dsizes_split h j (by omega) z hz
    simp only [List.take_succ_cons, dsizes]
    omega

/-- What another part owns, is its own. -/
def Apart (G : Mem) (w : World) (bs ybs : List Nat) (m : Lie) (z : D) (cz : List Value) : Prop :=
  ∃ zbs, RepD G w z cz zbs ∧ zbs.Nodup ∧ (∀ b ∈ zbs, b ∈ bs ∧ b ∉ ybs) ∧ ∀ g pre post ty fz, m = .blk g pre post ty fz → g ∉ zbs
theorem st_step {G : Mem} {w : World} {l : List D} {cs : List Value} {bs : List Nat} {i : Nat} {y : D} (h : RepDs G w l cs bs) (hn : bs.Nodup) (hk : l[i]? = some y) (here : Option (Nat × Nat)) :
    ∃ (m : Lie) (s' : Spot) (ybs : List Nat), s' = (hop here (dsizes (l.take i)), (cs.drop (dsizes (l.take i))).take y.size) ∧ RepD G w y s'.2 ybs ∧ ybs.Nodup ∧ (∀ b ∈ ybs, b ∈ bs) ∧ m.fits w bs ybs (here, cs) s' ∧ (∀ j z, j ≠ i → l[j]? = some z → Apart G w bs ybs m z ((cs.drop (dsizes (l.take j))).take z.size)) ∧
      ∀ G' w' y' c ybs', G.le G' → c.length = s'.2.length → y'.isAgg = y.isAgg → RepD G' w' y' c ybs' → ybs'.Nodup → (∀ b ∈ ybs', b ∈ ybs ∨ b ∉ bs) → m.new w w' bs ybs s'.2 c →
        ∃ bs', RepD G' w' (mkSt (l.set i y')) (m.cells cs c) bs' ∧ bs'.Nodup ∧ (∀ b, b ∈ bs' ↔ (b ∈ bs ∧ b ∉ ybs) ∨ b ∈ ybs') ∧ (mkSt (l.set i y')).kid i = some y' ∧
          kidSpot w' (mkSt (l.set i y')) (here, m.cells cs c) i = some (s'.1, c) ∧ ∀ j, j ≠ i → (mkSt (l.set i y')).kid j = l[j]? ∧ kidSpot w' (mkSt (l.set i y')) (here, m.cells cs c) j = match l[j]? with
            | some z => some (hop here (dsizes (l.take j)), (cs.drop (dsizes (l.take j))).take z.size)
            | none => none := by
  obtain ⟨c1, c, c2, b1, b, b2, rfl, rfl, hl, hr, hset, hoth⟩ := RepDs.nth h hk
  have hlt : i < l.length := (List.getElem?_eq_some_iff.1 hk).1
  have hcut : ((c1 ++ c ++ c2).drop (dsizes (l.take i))).take y.size = c := by
    rw [← hl, ← RepD.length hr, drop_take_mid]
  refine ⟨.inl c1 c2, _, b, rfl, by rw [hcut]; exact hr, ?_, by simp; intro x hx; exact .inr (.inl hx), ⟨by rw [hcut], by rw [hl]⟩, ?_, ?_⟩
  · simp only [List.nodup_append] at hn
    exact hn.1.2.1
  · intro j z hj hz
    obtain ⟨bz, e1, e2⟩ := hoth j z hj hz
    have hn2 : (b1 ++ b2).Nodup := by
      simp only [List.nodup_append, List.mem_append] at hn ⊢
      exact ⟨hn.1.1, hn.2.1, fun x hx y hy => hn.2.2 x (.inl hx) y hy⟩
    refine ⟨bz, e1, e2.nodup hn2, fun x hx => ?_, fun _ _ _ _ _ e => by cases e⟩
    have := e2.subset hx
    simp only [List.nodup_append, List.mem_append] at hn this ⊢
    rcases this with h | h
    · exact ⟨.inl (.inl h), fun hb => hn.1.2.2 x h x hb rfl⟩
    · exact ⟨.inr h, fun hb => hn.2.2 x (.inr hb) x h rfl⟩
  · intro G' w' y' c' ybs' hG hcl hag hy' hnb hfr hnew
    rw [hcut] at hcl
    have hsz : y'.size = y.size := by rw [← RepD.length hy', ← RepD.length hr, hcl]
    obtain ⟨g1, g2⟩ := nodup_swap hn hnb hfr
    have hdj : ∀ x ∈ b1 ++ b2, x ∉ b := by
      intro x hx hb
      simp only [List.nodup_append, List.mem_append] at hn hx
      rcases hx with hx | hx
      · exact hn.1.2.2 x hx x hb rfl
      · exact hn.2.2 x (.inr hb) x hx rfl
    refine ⟨_, RepD.mkSt.2 (hset G' w' y' c' ybs' hG hy' fun x hx => hnew x ?_ (hdj x hx)), g1, g2, ?_, ?_, ?_⟩
    · simp only [List.mem_append] at hx ⊢
      rcases hx with hx | hx
      · exact .inl (.inl hx)
      · exact .inr hx
    · rw [mkSt_kid]; simp [hlt]
    · rw [kidSpot_mkSt]
      simp only [List.getElem?_set_self hlt, dsizes_set hk hsz, Lie.cells, hsz]
      rw [← hl, ← RepD.length hr, ← hcl, drop_take_mid]
    · intro j hj
      refine ⟨by rw [mkSt_kid, List.getElem?_set_ne (Ne.symm hj)], ?_⟩
      rw [kidSpot_mkSt]
      simp only [List.getElem?_set_ne (Ne.symm hj), dsizes_set hk hsz, Lie.cells]
      cases hz : l[j]? with
      | none => rfl
      | some z =>
        simp only
        rw [drop_take_eq hcl]
        rcases Nat.lt_or_gt_of_ne hj with hlt' | hgt
        · left
          rw [hl]
          exact dsizes_split hk j hlt' z hz
        · right
          rw [hl, RepD.length hr]
          exact dsizes_split hz i hgt y hk
theorem allIt_its : ∀ (l : List I), allIt (l.map D.it) = some l
  | [] => rfl
  | x :: l => by simp [allIt, allIt_its l]
theorem mkSt_its (l : List I) : mkSt (l.map D.it) = .it (.agg l) := by
  unfold mkSt
  rw [allIt_its]
theorem elems_size {sz : Nat} : ∀ {l : List D}, (∀ x ∈ l, x.size = sz) → dsizes l = l.length * sz
  | [], _ => by simp [dsizes]
  | x :: l, h => by
    have h1 := h x (List.mem_cons_self ..)
    have h2 := elems_size (l := l) fun y hy => h y (List.mem_cons_of_mem _ hy)
    simp only [dsizes, h1, h2, List.length_cons, Nat.add_mul, Nat.one_mul]
    omega
theorem elems_take {sz : Nat} {l : List D} (h : ∀ x ∈ l, x.size = sz) {i : Nat} (hi : i ≤ l.length) : dsizes (l.take i) = i * sz := by
  rw [elems_size fun x hx => h x (List.mem_of_mem_take hx), List.length_take, Nat.min_eq_left hi]
theorem setKid_agg {d d' : D} {i : Nat} {y : D} (h : d.setKid i y = some d') : d'.isAgg = d.isAgg ∧ d'.head = d.head := by
  cases d with
  | it x =>
    cases x with
    | agg l =>
      simp only [D.setKid, Option.some.injEq] at h
      subst h
      refine ⟨mkSt_isAgg _, ?_⟩
      unfold mkSt
      split <;> rfl
    | arr sz l =>
      cases y <;> simp only [D.setKid, Option.some.injEq, reduceCtorEq] at h
      subst h
      exact ⟨rfl, rfl⟩
    | _ => simp [D.setKid] at h
  | st l =>
    simp only [D.setKid, Option.some.injEq] at h
    subst h
    refine ⟨mkSt_isAgg _, ?_⟩
    unfold mkSt
    split <;> rfl
  | vec e sz l => simp only [D.setKid, Option.some.injEq] at h; subst h; exact ⟨rfl, rfl⟩
  | ptr d => simp only [D.setKid, Option.some.injEq] at h; subst h; exact ⟨rfl, rfl⟩
  | map ks vs => simp only [D.setKid, Option.some.injEq] at h; subst h; exact ⟨rfl, rfl⟩
theorem RepVs.nth {G : Mem} {w : World} : ∀ {l : List D} {cs : List Value} {bs : List Nat} {i : Nat} {y : D}, RepVs G w l cs bs → l[i]? = some y →
    ∃ v b1 b b2, cs[i]? = some v ∧ bs = b1 ++ b ++ b2 ∧ valOf y.isAgg v = true ∧ RepD G w y v.cells.toList b ∧
      (∀ G' w' y' b', G.le G' → valOf y'.isAgg v = true → RepD G' w' y' v.cells.toList b' → (∀ x ∈ b1 ++ b2, w'.heap[x]? = w.heap[x]?) → RepVs G' w' (l.set i y') cs (b1 ++ b' ++ b2)) ∧
      ∀ j z, j ≠ i → l[j]? = some z → ∃ u bz, cs[j]? = some u ∧ RepD G w z u.cells.toList bz ∧ bz.Sublist (b1 ++ b2)
  | [], cs, bs, i, y, _, h => by simp at h
  | d :: l, cs, bs, 0, y, h, hy => by
    simp only [RepVs] at h
    obtain ⟨v, c', b, b', rfl, rfl, hv, h1, h2⟩ := h
    simp only [List.getElem?_cons_zero, Option.some.injEq] at hy
    subst hy
    refine ⟨v, [], b, b', rfl, by simp, hv, h1, ?_, ?_⟩
    · intro G' w' y' b2 hG hv' hy' hk
      simp only [List.set_cons_zero, List.nil_append, RepVs]
      exact ⟨v, c', b2, b', rfl, rfl, hv', hy', h2.tr hG fun x hx => hk x (by simpa using hx)⟩
    · intro j z hj hz
      cases j with
      | zero => exact absurd rfl hj
      | succ j =>
        simp only [List.getElem?_cons_succ] at hz
        obtain ⟨u, b1, bb, b2, hu, rfl, _, hr, _⟩ := RepVs.nth h2 hz
        exact ⟨u, bb, by simpa using hu, hr, by simp⟩
  | d :: l, cs, bs, i + 1, y, h, hy => by
    simp only [RepVs] at h
    obtain ⟨v, c', b, b', rfl, rfl, hv, h1, h2⟩ := h
    simp only [List.getElem?_cons_succ] at hy
    obtain ⟨u, b1, bb, b2, hu, rfl, hvu, hr, hset, hoth⟩ := RepVs.nth h2 hy
    refine ⟨u, b ++ b1, bb, b2, by simpa using hu, by simp, hvu, hr, ?_, ?_⟩
    · intro G' w' y' b3 hG hv' hy' hk
      simp only [List.set_cons_succ, RepVs]
      refine ⟨v, c', b, b1 ++ b3 ++ b2, rfl, by simp, hv, h1.tr hG fun x hx => hk x (by simp [hx]), hset G' w' y' b3 hG hv' hy' fun x hx => hk x ?_⟩
      simp only [List.mem_append] at hx ⊢
      rcases hx with hx | hx
      · exact .inl (.inr hx)
      · exact .inr hx
    · intro j z hj hz
      cases j with
      | zero =>
        simp only [List.getElem?_cons_zero, Option.some.injEq] at hz
        subst hz
        exact ⟨v, b, rfl, h1, by simp⟩
      | succ j =>
        simp only [List.getElem?_cons_succ] at hz
        obtain ⟨u', bz, e0, e1, e2⟩ := hoth j z (by omega) hz
        exact ⟨u', bz, by simpa using e0, e1, by rw [List.append_assoc]; exact e2.trans (List.sublist_append_right _ _)⟩

theorem kid_step {G : Mem} {w : World} {d : D} {cs : List Value} {bs : List Nat} {i : Nat} {y : D} (h : RepD G w d cs bs) (hn : bs.Nodup) (hk : d.kid i = some y) (here : Option (Nat × Nat)) :
    ∃ (m : Lie) (s' : Spot) (ybs : List Nat), kidSpot w d (here, cs) i = some s' ∧ RepD G w y s'.2 ybs ∧ ybs.Nodup ∧ (∀ b ∈ ybs, b ∈ bs) ∧ m.fits w bs ybs (here, cs) s' ∧ Again G w d (here, cs) bs i y s' ybs m ∧ (d.head = true → ∀ a b, m ≠ .inl a b) ∧
      ∀ j z, j ≠ i → d.kid j = some z → ∃ sz, kidSpot w d (here, cs) j = some sz ∧ Apart G w bs ybs m z sz.2 := by
  cases d with
  | it x =>
    cases x with
    | agg l =>
      have h' : RepDs G w (l.map D.it) cs bs := by
        simp only [RepD, RepI] at h
        exact RepDs.its.2 h
      have hk' : (l.map D.it)[i]? = some y := by
        simp only [D.kid] at hk
        rw [List.getElem?_map]
        cases hl : l[i]? <;> simp_all
      obtain ⟨m, s', ybs, rfl, h2, h3, h4, h5, hap, h6⟩ := st_step h' hn hk' here
      refine ⟨m, _, ybs, ?_, h2, h3, h4, h5, ?_, fun hh => (by cases hh), ?_⟩
      rotate_left 2
      · intro j z hj hz
        have hz' : (l.map D.it)[j]? = some z := by
          simp only [D.kid] at hz
          rw [List.getElem?_map]
          cases hl : l[j]? <;> simp_all
        exact ⟨(hop here (dsizes ((l.map D.it).take j)), (cs.drop (dsizes ((l.map D.it).take j))).take z.size), by rw [← mkSt_its, kidSpot_mkSt, hz'], hap j z hj hz'⟩
      · rw [← mkSt_its, kidSpot_mkSt, hk']
      · intro G' w' y' c ybs' d' hG hc hag hy' hnb hfr hnew hd
        obtain ⟨g1, g2⟩ := setKid_agg hd
        simp only [D.setKid, Option.some.injEq] at hd
        subst hd
        obtain ⟨bs', q1, q2, q3, q4, q5, q6⟩ := h6 G' w' y' c ybs' hG hc hag hy' hnb hfr hnew
        refine ⟨bs', q1, q2, q3, g1, g2, q4, q5, fun j hj => ?_⟩
        obtain ⟨r1, r2⟩ := q6 j hj
        refine ⟨by rw [r1, ← mkSt_its, mkSt_kid], ?_⟩
        rw [r2]
        conv => rhs; rw [← mkSt_its, kidSpot_mkSt]
    | arr sz l =>
      simp only [RepD, RepI] at h
      obtain ⟨⟨h1, h2⟩, rfl⟩ := h
      simp only [D.kid] at hk
      cases hl : l[i]? with
      | none => simp [hl] at hk
      | some x =>
        simp only [hl, Option.some.injEq] at hk
        subst hk
        obtain ⟨c1, c, c2, rfl, e1, hr, hset⟩ := RepIs.nth i h1 hl
        have hi : i < l.length := (List.getElem?_eq_some_iff.1 hl).1
        have hx : x.size = sz := h2 x (List.mem_of_getElem? hl)
        have ho : c1.length = i * sz := by
          rw [e1, sizes_const (sz := sz) fun z hz => h2 z (List.mem_of_mem_take hz), List.length_take, Nat.min_eq_left (Nat.le_of_lt hi)]
        have hcl : c.length = sz := by rw [RepI.length x c hr, hx]
        have hcut : ((c1 ++ c ++ c2).drop (i * sz)).take sz = c := by
          rw [← ho, ← hcl, drop_take_mid]
        refine ⟨.inl c1 c2, (hop here (i * sz), c), [], by simp only [kidSpot, hl, hcut], by simp only [RepD, and_true]; exact hr, List.nodup_nil, by simp, ⟨rfl, by rw [ho]⟩, ?_, fun hh => (by cases hh), ?_⟩
        rotate_left 1
        · intro j z hj hz
          simp only [D.kid] at hz
          cases hlj : l[j]? with
          | none => simp [hlj] at hz
          | some u =>
            simp only [hlj, Option.some.injEq] at hz
            subst hz
            obtain ⟨d1, dd, d2, e2, e3, hr2, _⟩ := RepIs.nth j h1 hlj
            have hjl : j < l.length := (List.getElem?_eq_some_iff.1 hlj).1
            have hu : u.size = sz := h2 u (List.mem_of_getElem? hlj)
            have hd1 : d1.length = j * sz := by
              rw [e3, sizes_const (sz := sz) fun z hz => h2 z (List.mem_of_mem_take hz), List.length_take, Nat.min_eq_left (Nat.le_of_lt hjl)]
            refine ⟨_, by simp only [kidSpot, hlj]; rfl, [], ?_, List.nodup_nil, by simp, fun _ _ _ _ _ e => by cases e⟩
            simp only [RepD, and_true]
            rw [e2, ← hd1, ← hu, ← RepI.length u dd hr2, drop_take_mid]
            exact hr2
        intro G' w' y' c' ybs' d' hG hc hag hy' hnb hfr hnew hd
        obtain ⟨g1, g2⟩ := setKid_agg hd
        cases y' with
        | it u =>
          simp only [D.setKid, Option.some.injEq] at hd
          subst hd
          simp only [RepD] at hy'
          obtain ⟨hu, rfl⟩ := hy'
          have hul : u.size = sz := by rw [← RepI.length u c' hu, hc, hcl]
          refine ⟨[], ?_, List.nodup_nil, by simp, g1, g2, by simp [D.kid, hi], ?_, ?_⟩
          · simp only [RepD, RepI, Lie.cells, and_true]
            refine ⟨?_, ?_⟩
            · obtain ⟨d1, dd, d2, e2, e3, hr2, hset2⟩ := RepIs.nth i (RepIs.mono hG l _ h1) hl
              have hd1 : d1.length = c1.length := by rw [e3, e1]
              obtain ⟨rfl, e4⟩ := List.append_inj (by simpa using e2) hd1.symm
              have : dd.length = c.length := by rw [RepI.length x dd hr2, RepI.length x c hr]
              obtain ⟨rfl, rfl⟩ := List.append_inj e4 this.symm
              exact hset2 u c' hu
            · intro z hz
              rcases List.mem_or_eq_of_mem_set hz with hz | rfl
              · exact h2 z hz
              · exact hul
          · simp only [kidSpot, List.getElem?_set_self hi, Lie.cells]
            rw [← ho, ← hcl, ← hc, drop_take_mid]
          · intro j hj
            refine ⟨by simp only [D.kid, List.getElem?_set_ne (Ne.symm hj)], ?_⟩
            simp only [kidSpot, List.getElem?_set_ne (Ne.symm hj), Lie.cells]
            cases hz : l[j]? with
            | none => rfl
            | some z =>
              simp only
              rw [drop_take_eq hc]
              rw [hcl, ho]
              rcases Nat.lt_or_gt_of_ne hj with hlt | hgt
              · left
                calc j * sz + sz = (j + 1) * sz := by rw [Nat.add_mul, Nat.one_mul]
                  _ ≤ i * sz := Nat.mul_le_mul_right sz hlt
              · right
                calc i * sz + sz = (i + 1) * sz := by rw [Nat.add_mul, Nat.one_mul]
                  _ ≤ j * sz := Nat.mul_le_mul_right sz hgt
        | _ => simp [D.setKid] at hd
    | _ => simp [D.kid] at hk
  | st l =>
    simp only [RepD] at h
    simp only [D.kid] at hk
    obtain ⟨m, s', ybs, rfl, h2, h3, h4, h5, hap, h6⟩ := st_step h hn hk here
    refine ⟨m, _, ybs, by simp only [kidSpot, hk], h2, h3, h4, h5, ?_, fun hh => (by cases hh), fun j z hj hz => ⟨_, by simp only [D.kid] at hz; simp only [kidSpot, hz]; rfl, hap j z hj hz⟩⟩
    intro G' w' y' c ybs' d' hG hc hag hy' hnb hfr hnew hd
    obtain ⟨g1, g2⟩ := setKid_agg hd
    simp only [D.setKid, Option.some.injEq] at hd
    subst hd
    obtain ⟨bs', q1, q2, q3, q4, q5, q6⟩ := h6 G' w' y' c ybs' hG hc hag hy' hnb hfr hnew
    refine ⟨bs', q1, q2, q3, g1, g2, q4, q5, fun j hj => ?_⟩
    obtain ⟨r1, r2⟩ := q6 j hj
    refine ⟨r1, ?_⟩
    rw [r2]
    simp only [kidSpot]
  | vec e sz l =>
    simp only [RepD] at h
    simp only [D.kid] at hk
    have hi : i < l.length := (List.getElem?_eq_some_iff.1 hk).1
    rcases h with ⟨_, rfl, _⟩ | ⟨g, cap, cur, xs, bs0, rfl, ⟨ty, fz, hg, hfz, hty⟩, hlc, hcm, hcs, hxs, hds, hsz, rfl⟩
    · simp at hi
    · obtain ⟨c1, c, c2, b1, b, b2, e1, rfl, hl, hr, hset, hoth⟩ := RepDs.nth hds hk
      rw [elems_take hsz (Nat.le_of_lt hi)] at hl
      have hcl : c.length = sz := by rw [RepD.length hr, hsz y (List.mem_of_getElem? hk)]
      have hcur : cur.toList = c1 ++ c ++ (c2 ++ cur.toList.drop (l.length * sz)) := by
        rw [← List.append_assoc, ← e1, ← hxs, List.take_append_drop]
      generalize cur.toList.drop (l.length * sz) = tl at hcur
      have hcut : (cur.toList.drop (i * sz)).take sz = c := by
        rw [hcur, ← hl, ← hcl, drop_take_mid]
      have hgn : g ∉ b1 ++ b ++ b2 := (List.nodup_cons.1 hn).1
      have hn' : (b1 ++ b ++ b2).Nodup := (List.nodup_cons.1 hn).2
      refine ⟨.blk g c1 (c2 ++ tl) ty fz, (some (g, i * sz), c), b, by simp only [kidSpot, hk, hg, hcut], hr, ?_, ?_, ⟨by simp, fun hb => hgn (by simp [hb]), ⟨cur, hg, hfz, hcur⟩, by rw [hl]⟩, ?_, fun _ _ _ e => (by cases e), ?_⟩
      rotate_left 3
      · intro j z hj hz
        simp only [D.kid] at hz
        obtain ⟨bz, q1, q2⟩ := hoth j z hj hz
        have hjl : j < l.length := (List.getElem?_eq_some_iff.1 hz).1
        rw [elems_take hsz (Nat.le_of_lt hjl), hsz z (List.mem_of_getElem? hz)] at q1
        have hn2 : (b1 ++ b2).Nodup := by
          simp only [List.nodup_append, List.mem_append] at hn' ⊢
          exact ⟨hn'.1.1, hn'.2.1, fun x hx y hy => hn'.2.2 x (.inl hx) y hy⟩
        have hcz : (cur.toList.drop (j * sz)).take sz = (xs.drop (j * sz)).take sz := by
          rw [← hxs, List.drop_take, List.take_take, Nat.min_eq_left]
          calc sz = (j + 1) * sz - j * sz := by rw [Nat.add_mul, Nat.one_mul]; omega
            _ ≤ l.length * sz - j * sz := Nat.sub_le_sub_right (Nat.mul_le_mul_right sz hjl) _
        refine ⟨_, by simp only [kidSpot, hz, hg]; rfl, bz, by rw [hcz]; exact q1, q2.nodup hn2, fun x hx => ?_, fun g' _ _ _ _ e hx => ?_⟩
        · have := q2.subset hx
          simp only [List.nodup_append, List.mem_append] at hn' this
          simp only [List.mem_cons, List.mem_append]
          rcases this with h | h
          · exact ⟨.inr (.inl (.inl h)), fun hb => hn'.1.2.2 x h x hb rfl⟩
          · exact ⟨.inr (.inr h), fun hb => hn'.2.2 x (.inr hb) x h rfl⟩
        · cases e
          have := q2.subset hx
          simp only [List.mem_append] at this hgn
          rcases this with h | h
          · exact hgn (.inl (.inl h))
          · exact hgn (.inr h)
      · simp only [List.nodup_append] at hn'
        exact hn'.1.2.1
      · intro x hx
        simp [hx]
      · intro G' w' y' c' ybs' d' hG hc hag hy' hnb hfr hnew hd
        obtain ⟨g1, g2⟩ := setKid_agg hd
        simp only [D.setKid, Option.some.injEq] at hd
        subst hd
        have hc : c'.length = c.length := hc
        obtain ⟨hn1, hn2⟩ := hnew
        have hys : y'.size = sz := by rw [← RepD.length hy', hc, hcl]
        obtain ⟨p1, p2⟩ := nodup_swap hn' hnb fun x hx => by
          rcases hfr x hx with h | h
          · exact .inl h
          · exact .inr fun hh => h (List.mem_cons_of_mem _ hh)
        have hgy : g ∉ ybs' := by
          intro hx
          rcases hfr g hx with h | h
          · exact hgn (by simp [h])
          · exact h (by simp)
        have hdj : ∀ x ∈ b1 ++ b2, x ∉ b ∧ x ≠ g := by
          intro x hx
          simp only [List.nodup_append, List.mem_append] at hn' hx hgn
          constructor
          · intro hb
            rcases hx with hx | hx
            · exact hn'.1.2.2 x hx x hb rfl
            · exact hn'.2.2 x (.inr hb) x hx rfl
          · rintro rfl
            rcases hx with hx | hx
            · exact hgn (.inl (.inl hx))
            · exact hgn (.inr hx)
        have hnd : (g :: (b1 ++ ybs' ++ b2)).Nodup := by
          refine List.nodup_cons.2 ⟨fun hx => ?_, p1⟩
          rcases (p2 g).1 hx with ⟨h, _⟩ | h
          · exact hgn h
          · exact hgy h
        refine ⟨g :: (b1 ++ ybs' ++ b2), ?_, hnd, ?_, g1, g2, by simp [D.kid, hi], ?_, ?_⟩
        · simp only [RepD, Lie.cells]
          refine .inr ⟨g, cap, (c1 ++ c' ++ (c2 ++ tl)).toArray, c1 ++ c' ++ c2, b1 ++ ybs' ++ b2, by simp, ⟨ty, fz, hn1, ?_, hty⟩, by simpa using hlc, hcm, ?_, ?_, ?_, ?_, rfl⟩
          · rcases hfz with h | h
            · exact .inl h
            · right
              have : (c1 ++ c' ++ (c2 ++ tl)).toArray.size = cur.size := by
                have := congrArg List.length hcur
                simp [hc] at this ⊢
                omega
              rw [this]
              exact h
          · have := congrArg List.length hcur
            simp [hc] at this ⊢
            omega
          · have hlen : (c1 ++ c' ++ c2).length = (l.set i y').length * sz := by
              have h1 := congrArg List.length e1
              rw [RepDs.length hds, elems_size hsz] at h1
              simp [hc] at h1 ⊢
              omega
            rw [← hlen]
            show ((c1 ++ c' ++ (c2 ++ tl))).take _ = _
            rw [← List.append_assoc, List.take_left]
          · refine hset G' w' y' c' ybs' hG hy' fun x hx => hn2 x ?_ (hdj x hx).1 (hdj x hx).2
            simp only [List.mem_append, List.mem_cons] at hx ⊢
            rcases hx with hx | hx
            · exact .inr (.inl (.inl hx))
            · exact .inr (.inr hx)
          · intro z hz
            rcases List.mem_or_eq_of_mem_set hz with hz | rfl
            · exact hsz z hz
            · exact hys
        · intro x
          simp only [List.mem_cons]
          rw [show x ∈ b1 ++ ybs' ++ b2 ↔ _ from p2 x]
          constructor
          · rintro (rfl | ⟨h1, h2⟩ | h1)
            · exact .inl ⟨.inl rfl, fun hb => hgn (by simp [hb])⟩
            · exact .inl ⟨.inr h1, h2⟩
            · exact .inr h1
          · rintro (⟨rfl | h1, h2⟩ | h1)
            · exact .inl rfl
            · exact .inr (.inl ⟨h1, h2⟩)
            · exact .inr (.inr h1)
        · simp only [kidSpot, List.getElem?_set_self hi, Lie.cells, hn1]
          rw [← hl, ← hcl, ← hc, drop_take_mid]
        · intro j hj
          refine ⟨by simp only [D.kid, List.getElem?_set_ne (Ne.symm hj)], ?_⟩
          simp only [kidSpot, List.getElem?_set_ne (Ne.symm hj), Lie.cells]
          cases hz : l[j]? with
          | none => rfl
          | some z =>
            simp only
            rw [hn1, hg]
            simp only
            rw [hcur, drop_take_eq hc]
            rw [hcl, hl]
            rcases Nat.lt_or_gt_of_ne hj with hlt | hgt
            · left
              calc j * sz + sz = (j + 1) * sz := by rw [Nat.add_mul, Nat.one_mul]
                _ ≤ i * sz := Nat.mul_le_mul_right sz hlt
            · right
              calc i * sz + sz = (i + 1) * sz := by rw [Nat.add_mul, Nat.one_mul]
                _ ≤ j * sz := Nat.mul_le_mul_right sz hgt
  | ptr d =>
    simp only [RepD] at h
    obtain rfl : i = 0 := by cases i with | zero => rfl | succ i => simp [D.kid] at hk
    simp only [D.kid, Option.some.injEq] at hk
    subst hk
    obtain ⟨b, cells, ty, bs0, rfl, hb, hr, rfl⟩ := h
    have hbn : b ∉ bs0 := (List.nodup_cons.1 hn).1
    refine ⟨.blk b [] [] ty (0, 0), (some (b, 0), cells.toList), bs0, by simp only [kidSpot, hb], hr, (List.nodup_cons.1 hn).2, fun x hx => by simp [hx], ⟨by simp, hbn, ⟨cells, hb, .inl rfl, by simp⟩, rfl⟩, ?_, fun _ _ _ e => (by cases e), fun j z hj hz => by cases j with | zero => exact absurd rfl hj | succ j => cases hz⟩
    intro G' w' y' c' ybs' d' hG hc hag hy' hnb hfr hnew hd
    obtain ⟨g1, g2⟩ := setKid_agg hd
    simp only [D.setKid, Option.some.injEq] at hd
    subst hd
    obtain ⟨hn1, hn2⟩ := hnew
    simp only [List.nil_append, List.append_nil] at hn1
    have hby : b ∉ ybs' := by
      intro hx
      rcases hfr b hx with h | h
      · exact hbn h
      · exact h (by simp)
    refine ⟨b :: ybs', ?_, List.nodup_cons.2 ⟨hby, hnb⟩, ?_, g1, g2, rfl, by simp only [kidSpot, Lie.cells, hn1], fun j hj => ?_⟩
    · simp only [RepD, Lie.cells]
      exact ⟨b, _, ty, ybs', rfl, hn1, hy', rfl⟩
    · intro x
      simp only [List.mem_cons]
      constructor
      · rintro (rfl | h1)
        · exact .inl ⟨.inl rfl, hbn⟩
        · exact .inr h1
      · rintro (⟨rfl | h1, h2⟩ | h1)
        · exact .inl rfl
        · exact absurd h1 h2
        · exact .inr h1
    · cases j with
      | zero => exact absurd rfl hj
      | succ j => exact ⟨rfl, rfl⟩
  | map ks vs =>
    simp only [RepD] at h
    simp only [D.kid] at hk
    obtain ⟨b, es, clock, kc, vc, bs0, rfl, hb, hkc, hvc, hks, hvs, hbo, hcl, rfl⟩ := h
    obtain ⟨v, b1, bb, b2, hv, rfl, hag0, hr, hset, hoth⟩ := RepVs.nth hvs hk
    have hi : i < vs.length := (List.getElem?_eq_some_iff.1 hk).1
    obtain ⟨en, hen, rfl⟩ : ∃ en, es.toList[i]? = some en ∧ en.val = v := by
      rw [← hvc, List.getElem?_map] at hv
      cases he : es.toList[i]? <;> simp_all
    have hgn : b ∉ b1 ++ bb ++ b2 := (List.nodup_cons.1 hn).1
    have hn' : (b1 ++ bb ++ b2).Nodup := (List.nodup_cons.1 hn).2
    refine ⟨.val, (none, en.val.cells.toList), bb, by simp only [kidSpot, hb, hen], hr, ?_, ?_, rfl, ?_, fun _ _ _ e => (by cases e), ?_⟩
    rotate_left 3
    · intro j z hj hz
      simp only [D.kid] at hz
      obtain ⟨u, bz, q0, q1, q2⟩ := hoth j z hj hz
      obtain ⟨ej, hej, rfl⟩ : ∃ en, es.toList[j]? = some en ∧ en.val = u := by
        rw [← hvc, List.getElem?_map] at q0
        cases he : es.toList[j]? <;> simp_all
      have hn2 : (b1 ++ b2).Nodup := by
        simp only [List.nodup_append, List.mem_append] at hn' ⊢
        exact ⟨hn'.1.1, hn'.2.1, fun x hx y hy => hn'.2.2 x (.inl hx) y hy⟩
      refine ⟨_, by simp only [kidSpot, hb, hej]; rfl, bz, q1, q2.nodup hn2, fun x hx => ?_, fun _ _ _ _ _ e => by cases e⟩
      have := q2.subset hx
      simp only [List.nodup_append, List.mem_append] at hn' this
      simp only [List.mem_cons, List.mem_append]
      rcases this with h | h
      · exact ⟨.inr (.inl (.inl h)), fun hb => hn'.1.2.2 x h x hb rfl⟩
      · exact ⟨.inr (.inr h), fun hb => hn'.2.2 x (.inr hb) x h rfl⟩
    · simp only [List.nodup_append] at hn'
      exact hn'.1.2.1
    · intro x hx
      simp [hx]
    · intro G' w' y' c' ybs' d' hG hc hag hy' hnb hfr hnew hd
      obtain ⟨g1, g2⟩ := setKid_agg hd
      simp only [D.setKid, Option.some.injEq] at hd
      subst hd
      obtain ⟨rfl, hn2⟩ := hnew
      obtain ⟨p1, p2⟩ := nodup_swap hn' hnb fun x hx => by
        rcases hfr x hx with h | h
        · exact .inl h
        · exact .inr fun hh => h (List.mem_cons_of_mem _ hh)
      have hgy : b ∉ ybs' := by
        intro hx
        rcases hfr b hx with h | h
        · exact hgn (by simp [h])
        · exact h (by simp)
      have hdj : ∀ x ∈ b1 ++ b2, x ∉ bb := by
        intro x hx hb
        simp only [List.nodup_append, List.mem_append] at hn' hx
        rcases hx with hx | hx
        · exact hn'.1.2.2 x hx x hb rfl
        · exact hn'.2.2 x (.inr hb) x hx rfl
      have hbsame : w'.heap[b]? = w.heap[b]? := hn2 b (by simp) fun hx => hgn (by simp [hx])
      refine ⟨b :: (b1 ++ ybs' ++ b2), ?_, List.nodup_cons.2 ⟨fun hx => ?_, p1⟩, ?_, g1, g2, by simp [D.kid, hi], by simp only [kidSpot, Lie.cells, hbsame, hb, hen], fun j hj => ?_⟩
      · simp only [RepD, Lie.cells]
        refine ⟨b, es, clock, kc, vc, _, rfl, by rw [hbsame]; exact hb, hkc, hvc, hks.mono hG, hset G' w' y' ybs' hG (by rw [hag]; exact hag0) hy' fun x hx => hn2 x ?_ (hdj x hx), hbo, hcl, rfl⟩
        simp only [List.mem_append, List.mem_cons] at hx ⊢
        rcases hx with hx | hx
        · exact .inr (.inl (.inl hx))
        · exact .inr (.inr hx)
      · rcases (p2 b).1 hx with ⟨h, _⟩ | h
        · exact hgn h
        · exact hgy h
      · intro x
        simp only [List.mem_cons]
        rw [show x ∈ b1 ++ ybs' ++ b2 ↔ _ from p2 x]
        constructor
        · rintro (rfl | ⟨h1, h2⟩ | h1)
          · exact .inl ⟨.inl rfl, fun hb => hgn (by simp [hb])⟩
          · exact .inl ⟨.inr h1, h2⟩
          · exact .inr h1
        · rintro (⟨rfl | h1, h2⟩ | h1)
          · exact .inl rfl
          · exact .inr (.inl ⟨h1, h2⟩)
          · exact .inr (.inr h1)
      · exact ⟨by simp only [D.kid, List.getElem?_set_ne (Ne.symm hj)], by simp only [kidSpot, Lie.cells, hbsame]⟩

/-- Which places a change leaves where they are. -/
def Stays (p : List Nat) (u : D) (q : List Nat) : Prop := q.length ≤ p.length ∨ u.leaf = true
/-- A place in a tree: what lies there, and what becomes of the whole where it turns. -/
def Focus (G : Mem) (w : World) (d : D) (s : Spot) (bs : List Nat) (p : List Nat) (u : D) (s' : Spot) (ubs : List Nat) (m : Lie) : Prop :=
  ∀ G' w' u' c ubs' d', G.le G' → c.length = s'.2.length → u'.isAgg = u.isAgg → RepD G' w' u' c ubs' → ubs'.Nodup → (∀ b ∈ ubs', b ∈ ubs ∨ b ∉ bs) → m.new w w' bs ubs s'.2 c → d.put p u' = some d' →
    ∃ bs', RepD G' w' d' (m.cells s.2 c) bs' ∧ bs'.Nodup ∧ (∀ b, b ∈ bs' ↔ (b ∈ bs ∧ b ∉ ubs) ∨ b ∈ ubs') ∧ d'.isAgg = (if p = [] then u' else d).isAgg ∧
      ∀ q, Stays p u q → ∀ v, d.at q = some v → ∀ t, spot w q d s = some t → ∃ v' t', d'.at q = some v' ∧ spot w' q d' (s.1, m.cells s.2 c) = some t' ∧ t'.1 = t.1 ∧
        (v.head = true → (q.length < p.length ∨ u.leaf = true) → v'.head = true ∧ t'.2 = t.2)
theorem D.put_isAgg {u' : D} {i : Nat} {p : List Nat} {d d' : D} (h : d.put (i :: p) u' = some d') : d'.isAgg = d.isAgg := by
  simp only [D.put] at h
  split at h
  · split at h
    · exact (setKid_agg h).1
    · cases h
  · cases h
theorem leaf_kid {d : D} (h : d.leaf = true) (i : Nat) : d.kid i = none := by
  cases d with
  | it x => cases x <;> first | rfl | (simp [D.leaf, I.isAgg] at h)
  | _ => cases h
theorem spot_congr {G : Mem} {w w' : World} : ∀ {q : List Nat} {d : D} {s : Spot} {bs : List Nat}, RepD G w d s.2 bs → bs.Nodup → (∀ b ∈ bs, w'.heap[b]? = w.heap[b]?) → ∀ v, d.at q = some v → spot w' q d s = spot w q d s
  | [], d, s, bs, _, _, _, _, _ => rfl
  | i :: q, d, s, bs, h, hn, hk, v, hv => by
    simp only [D.at] at hv
    cases hy : d.kid i with
    | none => simp [hy] at hv
    | some y =>
      simp only [hy] at hv
      obtain ⟨here, cs⟩ := s
      obtain ⟨m, s', ybs, h1, h2, h3, h4, h5, _⟩ := kid_step h hn hy here
      have e : kidSpot w' d (here, cs) i = kidSpot w d (here, cs) i := by
        cases d with
        | it x => cases x <;> rfl
        | st l => rfl
        | vec e sz l =>
          simp only [RepD] at h
          rcases h with ⟨rfl, rfl, _⟩ | ⟨g, cap, cur, xs, bs0, rfl, _, _, _, _, _, _, _, rfl⟩
          · simp [D.kid] at hy
          · simp only [D.kid] at hy
            simp only [kidSpot, hy]
            rw [hk g (by simp)]
        | ptr d =>
          simp only [RepD] at h
          obtain ⟨b, cells, ty, bs0, rfl, _, _, rfl⟩ := h
          cases i with
          | zero =>
            simp only [kidSpot]
            rw [hk b (by simp)]
          | succ i => rfl
        | map ks vs =>
          simp only [RepD] at h
          obtain ⟨b, es, clock, kc, vc, bs0, rfl, _, _, _, _, _, _, _, rfl⟩ := h
          simp only [kidSpot]
          rw [hk b (by simp)]
      simp only [spot, hy, e, h1]
      exact spot_congr h2 h3 (fun b hb => hk b (h4 b hb)) v hv

theorem focus {G : Mem} {w : World} {u : D} : ∀ {p : List Nat} {d : D} {cs : List Value} {bs : List Nat} {here : Option (Nat × Nat)}, RepD G w d cs bs → bs.Nodup → d.at p = some u →
    ∃ (m : Lie) (s' : Spot) (ubs : List Nat), spot w p d (here, cs) = some s' ∧ RepD G w u s'.2 ubs ∧ ubs.Nodup ∧ (∀ b ∈ ubs, b ∈ bs) ∧ m.fits w bs ubs (here, cs) s' ∧ Focus G w d (here, cs) bs p u s' ubs m
  | [], d, cs, bs, here, h, hn, hu => by
    simp only [D.at, Option.some.injEq] at hu
    subst hu
    refine ⟨.inl [] [], (here, cs), bs, rfl, h, hn, fun _ h => h, ⟨by simp, ?_⟩, ?_⟩
    · cases here <;> simp [hop]
    · intro G' w' u' c ubs' d' hG hc hag hu' hnb hfr hnew hd
      simp only [D.put, Option.some.injEq] at hd
      subst hd
      refine ⟨ubs', by simpa [Lie.cells] using hu', hnb, fun b => ⟨fun h => .inr h, fun h => ?_⟩, rfl, ?_⟩
      · rcases h with ⟨h1, h2⟩ | h
        · exact absurd h1 h2
        · exact h
      · intro q hq v hv t ht
        rcases hq with hq | hq
        · obtain rfl : q = [] := List.eq_nil_of_length_eq_zero (by simpa using hq)
          simp only [spot, Option.some.injEq] at ht
          simp only [D.at, Option.some.injEq] at hv
          subst ht hv
          refine ⟨_, _, rfl, rfl, rfl, fun hv h => ?_⟩
          rcases h with h | h
          · simp at h
          · cases d <;> simp_all [D.leaf, D.head]
        · cases q with
          | nil =>
            simp only [spot, Option.some.injEq] at ht
            simp only [D.at, Option.some.injEq] at hv
            subst ht hv
            refine ⟨_, _, rfl, rfl, rfl, fun hv h => ?_⟩
            cases d <;> simp_all [D.leaf, D.head]
          | cons i q =>
            simp only [D.at, leaf_kid hq i] at hv
            cases hv
  | i :: p, d, cs, bs, here, h, hn, hu => by
    simp only [D.at] at hu
    cases hy : d.kid i with
    | none => simp [hy] at hu
    | some y =>
      simp only [hy] at hu
      obtain ⟨m1, ⟨here1, cs1⟩, ybs, a1, a2, a3, a4, a5, a6, a7, a8⟩ := kid_step h hn hy here
      obtain ⟨m2, s2, ubs, b1, b2, b3, b4, b5, b6⟩ := focus (p := p) (here := here1) a2 a3 hu
      have hsub : ∀ b ∈ ubs, b ∈ bs := fun b hb => a4 b (b4 b hb)
      have hspot : spot w (i :: p) d (here, cs) = some s2 := by simp only [spot, hy, a1]; exact b1
      -- how the two ways of lying go together
      obtain ⟨m, hm1, hm2⟩ : ∃ m : Lie, m.fits w bs ubs (here, cs) s2 ∧ ∀ w' c, c.length = s2.2.length → m.new w w' bs ubs s2.2 c →
          m2.new w w' ybs ubs s2.2 c ∧ m1.new w w' bs ybs cs1 (m2.cells cs1 c) ∧ m1.cells cs (m2.cells cs1 c) = m.cells cs c ∧ (m2.cells cs1 c).length = cs1.length ∧ (∀ a b, m = .inl a b → ∃ a' b', m1 = .inl a' b') ∧
            (∀ b ∈ bs, b ∉ ybs → (∀ g pre post ty fz, m1 = .blk g pre post ty fz → b ≠ g) → w'.heap[b]? = w.heap[b]?) := by
        cases m2 with
        | inl pre post =>
          obtain ⟨e1, e2⟩ := b5
          simp only at e1 e2
          cases m1 with
          | inl pre1 post1 =>
            obtain ⟨f1, f2⟩ := a5
            simp only at f1 f2
            refine ⟨.inl (pre1 ++ pre) (post ++ post1), ⟨by simp [f1, e1], ?_⟩, ?_⟩
            · rw [e2, f2]
              cases here <;> simp [hop, Nat.add_assoc]
            · intro w' c hc hnew
              refine ⟨fun b hb hu => hnew b (a4 b hb) hu, fun b hb hu => hnew b hb fun hh => hu (b4 b hh), by simp [Lie.cells], ?_, fun _ _ _ => ⟨_, _, rfl⟩, fun b hb hu _ => hnew b hb fun hh => hu (b4 b hh)⟩
              rw [e1]
              simp [Lie.cells, hc]
          | blk g pre1 post1 ty fz =>
            obtain ⟨f1, f2, ⟨row, f3, f4, f5⟩, f6⟩ := a5
            simp only at f5 f6
            refine ⟨.blk g (pre1 ++ pre) (post ++ post1) ty fz, ⟨f1, fun hh => f2 (b4 g hh), ⟨row, f3, f4, by rw [f5, e1]; simp⟩, ?_⟩, ?_⟩
            · rw [e2, f6]
              simp [hop]
            · intro w' c hc hnew
              obtain ⟨n1, n2⟩ := hnew
              refine ⟨fun b hb hu => n2 b (a4 b hb) hu fun e => f2 (e ▸ hb), ⟨?_, fun b hb hu hg => n2 b hb (fun hh => hu (b4 b hh)) hg⟩, rfl, ?_, fun _ _ e => (by cases e), fun b hb hu hg => n2 b hb (fun hh => hu (b4 b hh)) (hg g _ _ _ _ rfl)⟩
              · rw [n1]
                simp [Lie.cells]
              · rw [e1]
                simp [Lie.cells, hc]
          | val =>
            refine ⟨.val, ?_, ?_⟩
            · show s2.1 = none
              rw [e2, show here1 = none from a5]
              rfl
            · intro w' c hc hnew
              obtain ⟨rfl, n2⟩ := hnew
              exact ⟨fun b hb hu => n2 b (a4 b hb) hu, ⟨e1.symm, fun b hb hu => n2 b hb fun hh => hu (b4 b hh)⟩, rfl, by rw [e1]; rfl, fun _ _ e => (by cases e), fun b hb hu _ => n2 b hb fun hh => hu (b4 b hh)⟩
        | blk g pre post ty fz =>
          obtain ⟨f1, f2, f3, f4⟩ := b5
          refine ⟨.blk g pre post ty fz, ⟨a4 g f1, f2, f3, f4⟩, ?_⟩
          intro w' c hc hnew
          obtain ⟨n1, n2⟩ := hnew
          have keep : ∀ b ∈ bs, b ∉ ybs → w'.heap[b]? = w.heap[b]? := fun b hb hu => n2 b hb (fun hh => hu (b4 b hh)) fun e => hu (e ▸ f1)
          refine ⟨⟨n1, fun b hb hu hg => n2 b (a4 b hb) hu hg⟩, ?_, ?_, rfl, fun _ _ e => (by cases e), fun b hb hu _ => keep b hb hu⟩
          · cases m1 with
            | inl pre1 post1 => exact keep
            | blk g1 pre1 post1 ty1 fz1 =>
              obtain ⟨q1, q2, ⟨row, q3, _, q5⟩, _⟩ := a5
              refine ⟨?_, fun b hb hu _ => keep b hb hu⟩
              rw [keep g1 q1 q2, q3]
              simp only [Lie.cells]
              have : row = (pre1 ++ cs1 ++ post1).toArray := by rw [← q5]
              rw [this]
            | val => exact ⟨rfl, keep⟩
          · cases m1 with
            | inl pre1 post1 => exact a5.1.symm
            | blk g1 pre1 post1 ty1 fz1 => rfl
            | val => rfl
        | val =>
          refine ⟨.val, b5, ?_⟩
          intro w' c hc hnew
          obtain ⟨rfl, n2⟩ := hnew
          have keep : ∀ b ∈ bs, b ∉ ybs → w'.heap[b]? = w.heap[b]? := fun b hb hu => n2 b hb (fun hh => hu (b4 b hh))
          refine ⟨⟨rfl, fun b hb hu => n2 b (a4 b hb) hu⟩, ?_, ?_, rfl, fun _ _ e => (by cases e), fun b hb hu _ => keep b hb hu⟩
          · cases m1 with
            | inl pre1 post1 => exact keep
            | blk g1 pre1 post1 ty1 fz1 =>
              obtain ⟨q1, q2, ⟨row, q3, _, q5⟩, _⟩ := a5
              refine ⟨?_, fun b hb hu _ => keep b hb hu⟩
              rw [keep g1 q1 q2, q3]
              simp only [Lie.cells]
              have : row = (pre1 ++ cs1 ++ post1).toArray := by rw [← q5]
              rw [this]
            | val => exact ⟨rfl, keep⟩
          · cases m1 with
            | inl pre1 post1 => exact a5.1.symm
            | blk g1 pre1 post1 ty1 fz1 => rfl
            | val => rfl
      refine ⟨m, s2, ubs, hspot, b2, b3, hsub, hm1, ?_⟩
      intro G' w' u' c ubs' d' hG hc hag hu' hnb hfr hnew hd
      simp only [D.put, hy] at hd
      obtain ⟨n2, n1, ncell, nlen, ninl, nkeep⟩ := hm2 w' c hc hnew
      cases hp : y.put p u' with
      | none => simp [hp] at hd
      | some y' =>
        simp only [hp] at hd
        obtain ⟨ybs', r1, r2, r3, r4, r5⟩ := b6 G' w' u' c ubs' y' hG hc hag hu' hnb (fun b hb => (hfr b hb).imp id fun hh hx => hh (a4 b hx)) n2 hp
        have hyag : y'.isAgg = y.isAgg := by
          rw [r4]
          split
          · rename_i hp0
            subst hp0
            simp only [D.at, Option.some.injEq] at hu
            rw [hag, hu]
          · rfl
        obtain ⟨bs', q1, q2, q3, q4, q5, q6, q7, q8⟩ := a6 G' w' y' _ ybs' d' hG nlen hyag r1 r2 (fun b hb => by
          rcases (r3 b).1 hb with ⟨h1, _⟩ | h1
          · exact .inl h1
          · rcases hfr b h1 with h2 | h2
            · exact .inl (b4 b h2)
            · exact .inr h2) n1 hd
        rw [ncell] at q1 q7 q8
        refine ⟨bs', q1, q2, fun b => ?_, by rw [if_neg (by simp)]; exact q4, ?_⟩
        · rw [q3, r3]
          constructor
          · rintro (⟨h1, h2⟩ | ⟨h1, h2⟩ | h1)
            · exact .inl ⟨h1, fun hh => h2 (b4 b hh)⟩
            · exact .inl ⟨a4 b h1, h2⟩
            · exact .inr h1
          · rintro (⟨h1, h2⟩ | h1)
            · by_cases h3 : b ∈ ybs
              · exact .inr (.inl ⟨h3, h2⟩)
              · exact .inl ⟨h1, h3⟩
            · exact .inr (.inr h1)
        · intro q hq v hv t ht
          cases q with
          | nil =>
            simp only [spot, Option.some.injEq] at ht
            simp only [D.at, Option.some.injEq] at hv
            subst ht hv
            refine ⟨_, _, rfl, rfl, rfl, fun hh _ => ⟨by rw [q5]; exact hh, ?_⟩⟩
            cases m with
            | inl pre post =>
              obtain ⟨a', b', hab⟩ := ninl _ _ rfl
              exact absurd hab (a7 hh a' b')
            | blk _ _ _ _ _ => rfl
            | val => rfl
          | cons j q =>
            simp only [D.at] at hv
            simp only [spot] at ht
            by_cases hj : j = i
            · subst hj
              simp only [hy] at hv
              simp only [hy, a1] at ht
              obtain ⟨v', t', g1, g2, g3, g4⟩ := r5 q (hq.imp (fun h => by simpa using h) id) v hv t ht
              exact ⟨v', t', by simp only [D.at, q6]; exact g1, by simp only [spot, q6, q7]; exact g2, g3, fun hh hl => g4 hh (hl.imp (fun h => by simpa using h) id)⟩
            · obtain ⟨k1, k2⟩ := q8 j hj
              cases hz : d.kid j with
              | none => simp [hz] at hv
              | some z =>
                simp only [hz] at hv ht
                obtain ⟨sz, c1, zbs, c2, c3, c4, c5⟩ := a8 j z hj hz
                simp only [c1] at ht
                have : spot w' q z sz = spot w q z sz := spot_congr c2 c3 (fun b hb => nkeep b (c4 b hb).1 (c4 b hb).2 fun g pre post ty fz e hg => c5 g pre post ty fz e (hg ▸ hb)) v hv
                exact ⟨v, t, by simp only [D.at, k1, hz]; exact hv, by simp only [spot, k1, hz, k2, c1]; rw [this]; exact ht, rfl, fun hh _ => ⟨hh, rfl⟩⟩
end Go.Ab

namespace Go.Ab

/-- A place of a slot's own: an item, or a slice whose row the slot owns. -/
inductive F where
  | i (x : I)
  | vec (e : TypeId) (sz : Nat) (l : List I)
  deriving Inhabited

/-- What a box holds: one thing, or a struct field by field. -/
inductive T where
  | one (f : F)
  | st (fs : List F)
  deriving Inhabited

/-- What a slot holds. -/
inductive SV where
  | no
  | v (x : I)
  | vec (e : TypeId) (sz : Nat) (l : List I)
  | box (t : T)
  | st (fs : List F)
  | tup (fs : List F)
  | bor (s k ver : Nat)
  | sub (s k ver n : Nat)
  | suf (s k ver n : Nat)
  | pt (s k ver off : Nat) (r : List Nat)
  | rp (x : I)
  | par (h : Nat)
  | own (inv : List Nat) (d : D)
  | pd (s ver : Nat) (p : List Nat)
  | bd (s ver : Nat) (p : List Nat)
  | tupd (l : List D)
  deriving Inhabited

abbrev St := List (Nat × SV)
abbrev Lab := Nat → Option (Nat × Nat)

/-- The owned slice of a slot at its place 'k' (0: the slot itself; j + 1: its field j). -/
def SV.vecAt : SV → Nat → Option (TypeId × Nat × List I)
  | .vec e sz l, 0 => some (e, sz, l)
  | .box (.one (.vec e sz l)), 1 => some (e, sz, l)
  | .box (.st fs), j + 1 => match fs[j]? with
    | some (.vec e sz l) => some (e, sz, l)
    | _ => none
  | _, _ => none

theorem vecAt_par (h k : Nat) : (SV.par h).vecAt k = none := by cases k <;> rfl

theorem Row.set {w : World} {g : Nat} {e : TypeId} {cur row : Array Value} (h : Row w g e cur) (hs : row.size = cur.size) : Row (w.setRow g row) g e row := by
  obtain ⟨ty, fz, h1, h2, h3⟩ := h
  exact ⟨ty, fz, setRow_heap w g cur row ty fz h1, by rw [hs]; exact h2, h3⟩
def OwnsR (w : World) (e : TypeId) (sz : Nat) (c : Value) (n : Nat) (xs : List Value) : Prop :=
  xs.length = n * sz ∧
  ((c = .slice none 0 0 ∧ n = 0) ∨
   ∃ g cap cur, c = .slice (some ⟨g, 0, none⟩) n cap ∧ 0 ≤ g ∧ Row w g e cur ∧ n ≤ cap ∧ cap ≤ maxLen ∧ cur.size = cap * sz ∧ cur.toList.take (n * sz) = xs)
theorem OwnsR.nil (w : World) (e : TypeId) (sz : Nat) : OwnsR w e sz (.slice none 0 0) 0 [] := ⟨by simp, .inl ⟨rfl, rfl⟩⟩
theorem OwnsR.of {w : World} {e : TypeId} {sz n : Nat} {c : Value} {xs : List Value} (h : w.ownsRow 0 e sz c n xs) : OwnsR w e sz c n xs := by
  refine ⟨h.1, ?_⟩
  rcases h.2 with h | ⟨g, cap, cur, h1, h2, h3, h4⟩
  · exact .inl h
  · exact .inr ⟨g, cap, cur, h1, h2, .of h3, h4⟩
theorem OwnsR.lt {w : World} {e : TypeId} {sz n : Nat} {c : Value} {xs : List Value} (h : OwnsR w e sz c n xs) (b : Nat) (hb : c.ownBlock = some b) : b < w.heap.size := by
  rcases h.2 with ⟨rfl, _⟩ | ⟨g, cap, cur, rfl, _, ⟨ty, fz, h3, _⟩, _⟩
  · simp [Value.ownBlock] at hb
  · simp only [Value.ownBlock, Option.some.injEq] at hb
    subst hb
    exact (Array.getElem?_eq_some_iff.1 h3).1
theorem OwnsR.to {w : World} {e : TypeId} {sz n : Nat} {c : Value} {xs : List Value} (h : OwnsR w e sz c n xs) (he : e < 1000000) : w.ownsRow 0 e sz c n xs := by
  refine ⟨h.1, ?_⟩
  rcases h.2 with h | ⟨g, cap, cur, h1, h2, h3, h4⟩
  · exact .inl h
  · exact .inr ⟨g, cap, cur, h1, h2, h3.to he, h4⟩
def VecAt (G : Mem) (σ : Lab) (w : World) (lab : Nat × Nat) (e : TypeId) (sz : Nat) (l : List I) (c : Value) : Prop :=
  ∃ xs, OwnsR w e sz c l.length xs ∧ RepIs G l xs ∧ (∀ x ∈ l, x.size = sz) ∧ ∀ b, c.ownBlock = some b → σ b = some lab

def RepF (G : Mem) (σ : Lab) (w : World) (lab : Nat × Nat) : F → List Value → Prop
  | .i x, cs => RepI G x cs
  | .vec e sz l, cs => ∃ c, cs = [c] ∧ VecAt G σ w lab e sz l c

def RepFs (G : Mem) (σ : Lab) (w : World) (s : Nat) : Nat → List F → List Value → Prop
  | _, [], cs => cs = []
  | j, f :: fs, cs => ∃ c d, cs = c ++ d ∧ RepF G σ w (s, j + 1) f c ∧ RepFs G σ w s (j + 1) fs d

def RepT (G : Mem) (σ : Lab) (w : World) (s : Nat) : T → List Value → Prop
  | .one f, cs => RepF G σ w (s, 1) f cs
  | .st fs, cs => RepFs G σ w s 0 fs cs

def RepTup (G : Mem) (σ : Lab) (w : World) (s : Nat) : Nat → List F → List Value → Prop
  | _, [], cs => cs = []
  | j, .i x :: fs, cs => ∃ c d, cs = c :: d ∧ RepV G x c ∧ RepTup G σ w s (j + 1) fs d
  | j, .vec e sz l :: fs, cs => ∃ c d, cs = c :: d ∧ VecAt G σ w (s, j + 1) e sz l c ∧ RepTup G σ w s (j + 1) fs d

def RepRp (G : Mem) (x : I) (c : Value) : Prop :=
  ∃ b off bl ty fz pre cs post, c = .pointer (some ⟨b, off, none⟩) ∧ G b = some (.cells bl ty fz) ∧ bl.toList = pre ++ cs ++ post ∧ pre.length = off ∧ RepI G x cs

/-- The end of a slice. -/
def SufOf (sz n len : Nat) (c0 c : Value) : Prop := ∃ ad cap, c0 = .slice ad len cap ∧ n ≤ len ∧ len ≤ cap ∧ c = .slice (if cap = n then ad else ad.map (·.add (n * sz))) (len - n) (cap - n)

/-- A tree that a slot owns. -/
def OwnD (G : Mem) (σ : Lab) (w : World) (s : Nat) (d : D) (c : Value) : Prop :=
  ∃ bs, RepD G w d c.cells.toList bs ∧ valOf d.isAgg c = true ∧ bs.Nodup ∧ ∀ b ∈ bs, ∃ k, σ b = some (s, k)
theorem OwnD.tr {G G' : Mem} {σ σ' : Lab} {w w' : World} {s s' : Nat} {d : D} {c : Value} (h : OwnD G σ w s d c) (hG : G.le G')
    (hk : ∀ b k, σ b = some (s, k) → σ' b = some (s', k) ∧ w'.heap[b]? = w.heap[b]?) : OwnD G' σ' w' s' d c := by
  obtain ⟨bs, h1, h2, h3, h4⟩ := h
  refine ⟨bs, h1.tr hG fun b hb => ?_, h2, h3, fun b hb => ?_⟩
  · obtain ⟨k, hk'⟩ := h4 b hb
    exact (hk b k hk').2
  · obtain ⟨k, hk'⟩ := h4 b hb
    exact ⟨k, (hk b k hk').1⟩
/-- A tuple of trees. -/
def OwnT (G : Mem) (σ : Lab) (w : World) (s : Nat) (l : List D) (c : Value) : Prop :=
  ∃ a bs, c = .tuple a ∧ RepVs G w l a.toList bs ∧ bs.Nodup ∧ ∀ b ∈ bs, ∃ k, σ b = some (s, k)
theorem OwnT.tr {G G' : Mem} {σ σ' : Lab} {w w' : World} {s s' : Nat} {l : List D} {c : Value} (h : OwnT G σ w s l c) (hG : G.le G')
    (hk : ∀ b k, σ b = some (s, k) → σ' b = some (s', k) ∧ w'.heap[b]? = w.heap[b]?) : OwnT G' σ' w' s' l c := by
  obtain ⟨a, bs, h0, h1, h3, h4⟩ := h
  refine ⟨a, bs, h0, h1.tr hG fun b hb => ?_, h3, fun b hb => ?_⟩
  · obtain ⟨k, hk'⟩ := h4 b hb
    exact (hk b k hk').2
  · obtain ⟨k, hk'⟩ := h4 b hb
    exact ⟨k, (hk b k hk').1⟩
/-- A pointer of version 'v', 'm' steps deep, still leads where it led. -/
def alive (v : Nat) (inv : List Nat) (m : Nat) : Bool := (inv.take m).all fun x => x ≤ v
theorem alive_dead {v x : Nat} {inv : List Nat} {m : Nat} (h : v < x) (hm : 0 < m) : alive v (x :: inv) m = false := by
  cases m with
  | zero => omega
  | succ m => simp [alive]; intro; omega
/-- Where a place lies. -/
def PtD (w : World) (d : D) (cr : Value) (p : List Nat) (c : Value) : Prop := ∃ v b o cs, d.at p = some v ∧ spot w p d (none, cr.cells.toList) = some (some (b, o), cs) ∧ c = .pointer (some ⟨b, o, none⟩)
/-- What lies at a place. -/
def HdD (w : World) (d : D) (cr : Value) (p : List Nat) (c : Value) : Prop := ∃ v h, d.at p = some v ∧ v.head = true ∧ spot w p d (none, cr.cells.toList) = some (h, [c])
theorem OwnD.spot {G : Mem} {σ σ' : Lab} {w w' : World} {s : Nat} {d : D} {c : Value} (h : OwnD G σ w s d c) (hk : ∀ b k, σ b = some (s, k) → σ' b = some (s, k) ∧ w'.heap[b]? = w.heap[b]?) {p : List Nat} {v : D} (hv : d.at p = some v) (here : Option (Nat × Nat)) :
    Ab.spot w' p d (here, c.cells.toList) = Ab.spot w p d (here, c.cells.toList) := by
  obtain ⟨bs, h1, h2, h3, h4⟩ := h
  exact spot_congr h1 h3 (fun b hb => (h4 b hb).elim fun k hk' => (hk b k hk').2) v hv
theorem PtD.tr {G : Mem} {σ σ' : Lab} {w w' : World} {s : Nat} {d : D} {cr : Value} {p : List Nat} {c : Value} (h : PtD w d cr p c) (ho : OwnD G σ w s d cr) (hk : ∀ b k, σ b = some (s, k) → σ' b = some (s, k) ∧ w'.heap[b]? = w.heap[b]?) : PtD w' d cr p c := by
  obtain ⟨v, b, o, cs, h1, h2, h3⟩ := h
  exact ⟨v, b, o, cs, h1, by rw [ho.spot hk h1]; exact h2, h3⟩
theorem HdD.tr {G : Mem} {σ σ' : Lab} {w w' : World} {s : Nat} {d : D} {cr : Value} {p : List Nat} {c : Value} (h : HdD w d cr p c) (ho : OwnD G σ w s d cr) (hk : ∀ b k, σ b = some (s, k) → σ' b = some (s, k) ∧ w'.heap[b]? = w.heap[b]?) : HdD w' d cr p c := by
  obtain ⟨v, hh, h1, h2, h3⟩ := h
  exact ⟨v, hh, h1, h2, by rw [ho.spot hk h1]; exact h3⟩

theorem valOf_one {c : Value} (h : valOf false c = true) : c.cells.toList = [c] := by
  cases c <;> first | rfl | cases h
theorem valOf_agg {c : Value} (h : valOf true c = true) : ∃ a, c = .agg a := by
  cases c <;> first | exact ⟨_, rfl⟩ | cases h
theorem OwnD.pt {G : Mem} {σ : Lab} {w : World} {s : Nat} {d : D} {c : Value} (h : OwnD G σ w s (.ptr d) c) : PtD w (.ptr d) c [0] c := by
  obtain ⟨bs, h1, h2, _⟩ := h
  rw [valOf_one h2] at h1
  simp only [RepD] at h1
  obtain ⟨b, cells, ty, bs', h3, h4, _⟩ := h1
  injection h3 with h3
  subst h3
  exact ⟨d, b, 0, cells.toList, rfl, by simp [Ab.spot, D.kid, kidSpot, Value.cells, h4], rfl⟩
theorem OwnD.pt_eq {G : Mem} {σ : Lab} {w : World} {s : Nat} {d : D} {c cr : Value} (h : OwnD G σ w s (.ptr d) cr) (hp : PtD w (.ptr d) cr [0] c) : c = cr := by
  obtain ⟨bs, h1, h2, _⟩ := h
  rw [valOf_one h2] at h1
  simp only [RepD] at h1
  obtain ⟨b, cells, ty, bs', h3, h4, _⟩ := h1
  injection h3 with h3
  subst h3
  obtain ⟨v, b', o, cs, _, h5, rfl⟩ := hp
  simp [Ab.spot, D.kid, kidSpot, Value.cells, h4] at h5
  obtain ⟨⟨rfl, rfl⟩, _⟩ := h5
  rfl
theorem OwnD.hd {G : Mem} {σ : Lab} {w : World} {s : Nat} {d : D} {c : Value} (h : OwnD G σ w s d c) (hh : d.head = true) : HdD w d c [] c := by
  obtain ⟨bs, h1, h2, _⟩ := h
  have : d.isAgg = false := by cases d <;> first | rfl | cases hh
  rw [this] at h2
  exact ⟨d, none, rfl, hh, by simp [Ab.spot, valOf_one h2]⟩

/-- What a slot holds for itself. -/
def RepOwn (G : Mem) (σ : Lab) (w : World) (s : Nat) : SV → Value → Prop
  | .v x, c => RepV G x c
  | .vec e sz l, c => VecAt G σ w (s, 0) e sz l c
  | .box t, c => ∃ b cells ty, c = .pointer (some ⟨b, 0, none⟩) ∧ σ b = some (s, 0) ∧ w.heap[b]? = some (.cells cells ty (0, 0)) ∧ RepT G σ w s t cells.toList
  | .st fs, c => ∃ a, c = .agg a ∧ RepFs G σ w s 0 fs a.toList
  | .tup fs, c => ∃ a, c = .tuple a ∧ RepTup G σ w s 0 fs a.toList
  | .rp x, c => RepRp G x c
  | .own _ d, c => OwnD G σ w s d c
  | .tupd l, c => OwnT G σ w s l c
  | _, _ => True

def RepSV (G : Mem) (σ : Lab) (w : World) (st : St) (vv : Nat → Value) (s : Nat) : SV → Value → Prop
  | .bor s' k ver, c => ∃ cur, st[s']? = some cur ∧ ver ≤ cur.1 ∧ (ver = cur.1 → ∃ e sz l, cur.2.vecAt k = some (e, sz, l) ∧ VecAt G σ w (s', k) e sz l c)
  | .sub s' k ver n, c => ∃ cur, st[s']? = some cur ∧ ver ≤ cur.1 ∧ (ver = cur.1 → ∃ e sz l, cur.2.vecAt k = some (e, sz, l) ∧ VecAt G σ w (s', k) e sz (l.take n) c)
  | .suf s' k ver n, c => ∃ cur, st[s']? = some cur ∧ ver ≤ cur.1 ∧ (ver = cur.1 → ∃ e sz l c0, cur.2.vecAt k = some (e, sz, l) ∧ VecAt G σ w (s', k) e sz l c0 ∧ SufOf sz n l.length c0 c)
  | .pt s' k ver off _, c => ∃ cur, st[s']? = some cur ∧ ver ≤ cur.1 ∧ (ver = cur.1 → ∃ b, σ b = some (s', k) ∧ c = .pointer (some ⟨b, off, none⟩))
  | .pd s' ver p, c => ∃ cur, st[s']? = some cur ∧ ver ≤ cur.1 ∧ ∀ inv d, cur.2 = .own inv d → p ≠ [] → alive ver inv p.length = true → PtD w d (vv s') p c
  | .bd s' ver p, c => ∃ cur, st[s']? = some cur ∧ ver ≤ cur.1 ∧ ∀ inv d, cur.2 = .own inv d → alive ver inv (p.length + 1) = true → HdD w d (vv s') p c
  | sv, c => RepOwn G σ w s sv c

/-- Where a call began: its world, how many slots it has of its own, and the values that lie behind them (what it was handed). -/
structure Base where
  w : World
  n : Nat
  hid : Array Value
def val (a : Act) (B : Base) (s : Nat) : Value := (a.tmps ++ B.hid).getD s undef

/-- The memory: what lies fixed, what is owned, what is others'. -/
structure WOk (G : Mem) (σ : Lab) (Fr : Mem) (w0 : Base) (w : World) : Prop where
  fixed : ∀ b o, G b = some o → w.heap[b]? = some o
  own : ∀ b lab, σ b = some lab → G b = none ∧ Fr b = none ∧ b < w.heap.size
  inj : ∀ b b' lab, σ b = some lab → σ b' = some lab → b = b'
  frame : ∀ b o, Fr b = some o → w.heap[b]? = some o
  os : w.os = w0.w.os
  tape : w.tape = w0.w.tape
  output : w.output = w0.w.output
  size : w0.w.heap.size ≤ w.heap.size
  apart : ∀ b o, Fr b = some o → G b = none

structure Rel (G : Mem) (σ : Lab) (Fr : Mem) (w0 : Base) (st : St) (a : Act) (w : World) : Prop where
  wok : WOk G σ Fr w0 w
  defers : a.defers = []
  n : a.tmps.size = w0.n
  len : a.tmps.size + w0.hid.size = st.length
  slots : ∀ s ver sv, st[s]? = some (ver, sv) → RepSV G σ w st (val a w0) s sv (val a w0 s)
  pars : ∀ s ver h, st[s]? = some (ver, .par h) → val a w0 s = val a w0 h ∧ w0.n ≤ h

/-- What is labelled under a slot has stayed. -/
def Kept (σ σ' : Lab) (w w' : World) (s : Nat) : Prop := ∀ b k, σ b = some (s, k) → σ' b = some (s, k) ∧ w'.heap[b]? = w.heap[b]?
theorem Kept.refl (σ : Lab) (w : World) (s : Nat) : Kept σ σ w w s := fun _ _ h => ⟨h, rfl⟩

theorem OwnsR.same {w w' : World} {e : TypeId} {sz n : Nat} {c : Value} {xs : List Value} (h : OwnsR w e sz c n xs)
    (hk : ∀ b, c.ownBlock = some b → w'.heap[b]? = w.heap[b]?) : OwnsR w' e sz c n xs := by
  refine ⟨h.1, ?_⟩
  rcases h.2 with hn | ⟨g, cap, cur, rfl, hb, hg, r⟩
  · exact .inl hn
  · exact .inr ⟨g, cap, cur, rfl, hb, hg.same (hk g (by simp [Value.ownBlock])), r⟩

theorem VecAt.tr {G G' : Mem} {σ σ' : Lab} {w w' : World} {lab lab' : Nat × Nat} {e : TypeId} {sz : Nat} {l : List I} {c : Value} (h : VecAt G σ w lab e sz l c)
    (hG : G.le G') (hk : ∀ b, σ b = some lab → σ' b = some lab' ∧ w'.heap[b]? = w.heap[b]?) : VecAt G' σ' w' lab' e sz l c := by
  obtain ⟨xs, h1, h2, h3, h4⟩ := h
  exact ⟨xs, OwnsR.same h1 fun b hb => (hk b (h4 b hb)).2, RepIs.mono hG l xs h2, h3, fun b hb => (hk b (h4 b hb)).1⟩

theorem RepF.tr {G G' : Mem} {σ σ' : Lab} {w w' : World} {lab lab' : Nat × Nat} {f : F} {cs : List Value} (h : RepF G σ w lab f cs)
    (hG : G.le G') (hk : ∀ b, σ b = some lab → σ' b = some lab' ∧ w'.heap[b]? = w.heap[b]?) : RepF G' σ' w' lab' f cs := by
  cases f with
  | i x => exact RepI.mono hG x cs h
  | vec e sz l =>
    obtain ⟨c, hc, h⟩ := h
    exact ⟨c, hc, h.tr hG hk⟩

theorem RepFs.tr {G G' : Mem} {σ σ' : Lab} {w w' : World} {s s' : Nat} (hG : G.le G') : ∀ {fs : List F} {j : Nat} {cs : List Value}, RepFs G σ w s j fs cs →
    (∀ b k, j < k → σ b = some (s, k) → σ' b = some (s', k) ∧ w'.heap[b]? = w.heap[b]?) → RepFs G' σ' w' s' j fs cs
  | [], _, _, h, _ => h
  | f :: fs, j, cs, h, hk => by
    obtain ⟨c, d, e, h1, h2⟩ := h
    exact ⟨c, d, e, h1.tr hG fun b hb => hk b (j + 1) (by omega) hb, RepFs.tr hG h2 fun b k hj hb => hk b k (by omega) hb⟩

theorem RepTup.tr {G G' : Mem} {σ σ' : Lab} {w w' : World} {s s' : Nat} (hG : G.le G') : ∀ {fs : List F} {j : Nat} {cs : List Value}, RepTup G σ w s j fs cs →
    (∀ b k, j < k → σ b = some (s, k) → σ' b = some (s', k) ∧ w'.heap[b]? = w.heap[b]?) → RepTup G' σ' w' s' j fs cs
  | [], _, _, h, _ => h
  | .i x :: fs, j, cs, h, hk => by
    obtain ⟨c, d, e, h1, h2⟩ := h
    exact ⟨c, d, e, h1.mono hG, RepTup.tr hG h2 fun b k hj hb => hk b k (by omega) hb⟩
  | .vec _ _ _ :: fs, j, cs, h, hk => by
    obtain ⟨c, d, e, h1, h2⟩ := h
    exact ⟨c, d, e, h1.tr hG fun b hb => hk b (j + 1) (by omega) hb, RepTup.tr hG h2 fun b k hj hb => hk b k (by omega) hb⟩

theorem RepT.tr {G G' : Mem} {σ σ' : Lab} {w w' : World} {s s' : Nat} {t : T} {cs : List Value} (h : RepT G σ w s t cs) (hG : G.le G')
    (hk : ∀ b k, 0 < k → σ b = some (s, k) → σ' b = some (s', k) ∧ w'.heap[b]? = w.heap[b]?) : RepT G' σ' w' s' t cs := by
  cases t with
  | one f => exact RepF.tr h hG fun b hb => hk b 1 (by omega) hb
  | st fs => exact RepFs.tr hG h hk

theorem RepRp.mono {G G' : Mem} (hG : G.le G') {x : I} {c : Value} (h : RepRp G x c) : RepRp G' x c := by
  obtain ⟨b, off, bl, ty, fz, pre, cs, post, h1, h2, h3, h4, h5⟩ := h
  exact ⟨b, off, bl, ty, fz, pre, cs, post, h1, hG _ _ h2, h3, h4, RepI.mono hG x cs h5⟩

theorem RepOwn.tr {G G' : Mem} {σ σ' : Lab} {w w' : World} {s s' : Nat} {sv : SV} {c : Value} (h : RepOwn G σ w s sv c) (hG : G.le G')
    (hk : ∀ b k, σ b = some (s, k) → σ' b = some (s', k) ∧ w'.heap[b]? = w.heap[b]?) : RepOwn G' σ' w' s' sv c := by
  cases sv with
  | v x => exact RepV.mono hG h
  | vec e sz l => exact VecAt.tr h hG fun b hb => hk b 0 hb
  | box t =>
    obtain ⟨b, cells, ty, h1, h2, h3, h4⟩ := h
    obtain ⟨k1, k2⟩ := hk b 0 h2
    exact ⟨b, cells, ty, h1, k1, by rw [k2]; exact h3, RepT.tr h4 hG fun b k _ hb => hk b k hb⟩
  | st fs =>
    obtain ⟨a, h1, h2⟩ := h
    exact ⟨a, h1, RepFs.tr hG h2 fun b k _ hb => hk b k hb⟩
  | tup fs =>
    obtain ⟨a, h1, h2⟩ := h
    exact ⟨a, h1, RepTup.tr hG h2 fun b k _ hb => hk b k hb⟩
  | rp x => exact RepRp.mono hG h
  | own _ d => exact OwnD.tr h hG hk
  | tupd l => exact OwnT.tr h hG hk
  | _ => trivial

/-- The root of what is borrowed. -/
def SV.root : SV → Option Nat
  | .bor s _ _ | .sub s _ _ _ | .suf s _ _ _ | .pt s _ _ _ _ | .pd s _ _ | .bd s _ _ => some s
  | _ => none

theorem RepSV.own {G : Mem} {σ : Lab} {w : World} {st : St} {vv : Nat → Value} {s : Nat} {sv : SV} {c : Value} (hr : sv.root = none) : RepSV G σ w st vv s sv c = RepOwn G σ w s sv c := by
  cases sv <;> first | rfl | simp [SV.root] at hr

/-- A slot's reading, where another slot has turned (its version with it), or nothing. -/
theorem RepSV.tr {G G' : Mem} {σ σ' : Lab} {w w' : World} {st : St} {vv vv' : Nat → Value} {s d ver : Nat} {sv new : SV} {old : Nat × SV} {c : Value} (h : RepSV G σ w st vv s sv c) (hG : G.le G') (hs : s ≠ d)
    (hd : st[d]? = some old) (hv : old.1 < ver) (hk : ∀ s', s' ≠ d → Kept σ σ' w w' s') (hvv : ∀ s', s' ≠ d → vv' s' = vv s') (hdead : ∀ inv t, new = .own inv t → ∃ r, inv = ver :: r)
    (hall : ∀ s ver sv, st[s]? = some (ver, sv) → RepSV G σ w st vv s sv (vv s)) : RepSV G' σ' w' (st.set d (ver, new)) vv' s sv c := by
  have look : ∀ s' cur, s' ≠ d → st[s']? = some cur → (st.set d (ver, new))[s']? = some cur := fun s' cur hne hc => by
    rw [List.getElem?_set_ne (Ne.symm hne)]
    exact hc
  have here : (st.set d (ver, new))[d]? = some (ver, new) := by
    have : d < st.length := (List.getElem?_eq_some_iff.1 hd).1
    simp [this]
  cases sv with
  | bor s' k ver' =>
    obtain ⟨cur, h1, h2, h3⟩ := h
    by_cases hne : s' = d
    · subst hne
      rw [hd] at h1
      cases h1
      exact ⟨_, here, by show ver' ≤ ver; omega, fun e => by exfalso; have : ver' = ver := e; omega⟩
    · refine ⟨cur, look s' cur hne h1, h2, fun e => ?_⟩
      obtain ⟨e, sz, l, h4, h5⟩ := h3 e
      exact ⟨e, sz, l, h4, h5.tr hG fun b hb => hk s' hne b k hb⟩
  | sub s' k ver' n =>
    obtain ⟨cur, h1, h2, h3⟩ := h
    by_cases hne : s' = d
    · subst hne
      rw [hd] at h1
      cases h1
      exact ⟨_, here, by show ver' ≤ ver; omega, fun e => by exfalso; have : ver' = ver := e; omega⟩
    · refine ⟨cur, look s' cur hne h1, h2, fun e => ?_⟩
      obtain ⟨e, sz, l, h4, h5⟩ := h3 e
      exact ⟨e, sz, l, h4, h5.tr hG fun b hb => hk s' hne b k hb⟩
  | suf s' k ver' n =>
    obtain ⟨cur, h1, h2, h3⟩ := h
    by_cases hne : s' = d
    · subst hne
      rw [hd] at h1
      cases h1
      exact ⟨_, here, by show ver' ≤ ver; omega, fun e => by exfalso; have : ver' = ver := e; omega⟩
    · refine ⟨cur, look s' cur hne h1, h2, fun e => ?_⟩
      obtain ⟨e, sz, l, c0, h4, h5, h6⟩ := h3 e
      exact ⟨e, sz, l, c0, h4, h5.tr hG fun b hb => hk s' hne b k hb, h6⟩
  | pt s' k ver' off r =>
    obtain ⟨cur, h1, h2, h3⟩ := h
    by_cases hne : s' = d
    · subst hne
      rw [hd] at h1
      cases h1
      exact ⟨_, here, by show ver' ≤ ver; omega, fun e => by exfalso; have : ver' = ver := e; omega⟩
    · refine ⟨cur, look s' cur hne h1, h2, fun e => ?_⟩
      obtain ⟨b, h4, h5⟩ := h3 e
      exact ⟨b, (hk s' hne b k h4).1, h5⟩
  | pd s' ver' p =>
    obtain ⟨cur, h1, h2, h3⟩ := h
    by_cases hne : s' = d
    · subst hne
      rw [hd] at h1
      cases h1
      refine ⟨_, here, by show ver' ≤ ver; omega, fun inv t e hp ha => ?_⟩
      obtain ⟨r, rfl⟩ := hdead inv t e
      cases p with
      | nil => exact absurd rfl hp
      | cons i p => rw [alive_dead (by omega) (by simp)] at ha; cases ha
    · refine ⟨cur, look s' cur hne h1, h2, fun inv t e hp ha => ?_⟩
      rw [hvv s' hne]
      obtain ⟨v, sv'⟩ := cur
      simp only at e
      subst e
      exact (h3 inv t rfl hp ha).tr (show OwnD G σ w s' t (vv s') from hall s' v _ h1) (hk s' hne)
  | bd s' ver' p =>
    obtain ⟨cur, h1, h2, h3⟩ := h
    by_cases hne : s' = d
    · subst hne
      rw [hd] at h1
      cases h1
      refine ⟨_, here, by show ver' ≤ ver; omega, fun inv t e ha => ?_⟩
      obtain ⟨r, rfl⟩ := hdead inv t e
      rw [alive_dead (by omega) (by simp)] at ha
      cases ha
    · refine ⟨cur, look s' cur hne h1, h2, fun inv t e ha => ?_⟩
      rw [hvv s' hne]
      obtain ⟨v, sv'⟩ := cur
      simp only at e
      subst e
      exact (h3 inv t rfl ha).tr (show OwnD G σ w s' t (vv s') from hall s' v _ h1) (hk s' hne)
  | _ =>
    rw [RepSV.own rfl] at h ⊢
    exact RepOwn.tr h hG fun b k hb => hk s hs b k hb

/-- A tree that is laid into a slot: whatever pointed into the slot is dead. -/
def SV.fresh (sv : SV) (ver : Nat) : SV := match sv with
  | .own _ t => .own [ver] t
  | sv => sv
theorem fresh_dead {sv : SV} {ver : Nat} : ∀ inv t, sv.fresh ver = .own inv t → ∃ r, inv = ver :: r := by
  intro inv t e
  cases sv <;> simp only [SV.fresh, SV.own.injEq, reduceCtorEq] at e
  exact ⟨[], e.1.symm⟩
theorem fresh_root {sv : SV} {ver : Nat} : (sv.fresh ver).root = sv.root := by cases sv <;> rfl
theorem fresh_par {sv : SV} {ver h : Nat} : sv.fresh ver = .par h ↔ sv = .par h := by cases sv <;> simp [SV.fresh]
theorem fresh_rep {G : Mem} {σ : Lab} {w : World} {s : Nat} {sv : SV} {ver : Nat} {c : Value} : RepOwn G σ w s (sv.fresh ver) c = RepOwn G σ w s sv c := by cases sv <;> rfl

theorem val_put_same {a : Act} {B : Base} {d : Nat} {c : Value} (h : d < a.tmps.size) : val (a.put (some d) c) B d = c := by
  unfold val Act.put
  have : d < (a.tmps.setIfInBounds d c ++ B.hid).size := by simp; omega
  rw [Array.getD_eq_getD_getElem?, Array.getElem?_append_left (by simpa using h)]
  simp [h]
theorem val_put_other {a : Act} {B : Base} {d s : Nat} {c : Value} (h : s ≠ d) : val (a.put (some d) c) B s = val a B s := by
  unfold val Act.put
  rw [Array.getD_eq_getD_getElem?, Array.getD_eq_getD_getElem?]
  by_cases hs : s < a.tmps.size
  · rw [Array.getElem?_append_left (by simpa using hs), Array.getElem?_append_left hs, Array.getElem?_setIfInBounds_ne (Ne.symm h)]
  · rw [Array.getElem?_append_right (by simp; omega), Array.getElem?_append_right (by omega)]
    simp
theorem val_tmp {a : Act} {B : Base} {s : Nat} (h : s < a.tmps.size) : val a B s = a.eval (.tmp s) := by
  unfold val
  rw [Array.getD_eq_getD_getElem?, Array.getElem?_append_left h]
  simp [Act.eval]

/-- A slot is laid anew, its value as it was. -/
theorem Rel.self {G G' : Mem} {σ σ' : Lab} {Fr : Mem} {w0 : Base} {w w' : World} {st : St} {a : Act} {d ver : Nat} {new : SV} {old : Nat × SV}
    (h : Rel G σ Fr w0 st a w) (hok : WOk G' σ' Fr w0 w') (hG : G.le G') (hd : st[d]? = some old) (hv : old.1 < ver)
    (hk : ∀ s', s' ≠ d → Kept σ σ' w w' s') (hnew : RepSV G' σ' w' (st.set d (ver, new)) (val a w0) d new (val a w0 d)) (hp : ∀ h, new = .par h → val a w0 d = val a w0 h ∧ w0.n ≤ h := by intro _ e; cases e)
    (hdead : ∀ inv t, new = .own inv t → ∃ r, inv = ver :: r := by intro _ _ e; cases e) :
    Rel G' σ' Fr w0 (st.set d (ver, new)) a w' := by
  have hlt : d < st.length := (List.getElem?_eq_some_iff.1 hd).1
  have here : (st.set d (ver, new))[d]? = some (ver, new) := by simp [hlt]
  refine ⟨hok, h.defers, h.n, by simp [h.len], ?_, ?_⟩
  · intro s ver' sv hs
    by_cases hsd : s = d
    · subst hsd
      rw [here] at hs
      cases hs
      exact hnew
    · rw [List.getElem?_set_ne (Ne.symm hsd)] at hs
      exact (h.slots s ver' sv hs).tr hG hsd hd hv hk (fun _ _ => rfl) hdead h.slots
  · intro s ver' h' hs
    by_cases hsd : s = d
    · subst hsd
      rw [here] at hs
      cases hs
      exact hp h' rfl
    · rw [List.getElem?_set_ne (Ne.symm hsd)] at hs
      exact h.pars s ver' h' hs
/-- A slot is laid anew, its value too. -/
theorem Rel.put {G G' : Mem} {σ σ' : Lab} {Fr : Mem} {w0 : Base} {w w' : World} {st : St} {a : Act} {d ver : Nat} {new : SV} {old : Nat × SV} {c : Value}
    (h : Rel G σ Fr w0 st a w) (hdn : d < w0.n) (hok : WOk G' σ' Fr w0 w') (hG : G.le G') (hd : st[d]? = some old) (hv : old.1 < ver)
    (hk : ∀ s', s' ≠ d → Kept σ σ' w w' s') (hnew : RepSV G' σ' w' (st.set d (ver, new)) (val (a.put (some d) c) w0) d new c) (hp : ∀ h, new = .par h → c = val a w0 h ∧ w0.n ≤ h := by intro _ e; cases e)
    (hdead : ∀ inv t, new = .own inv t → ∃ r, inv = ver :: r := by intro _ _ e; cases e) :
    Rel G' σ' Fr w0 (st.set d (ver, new)) (a.put (some d) c) w' := by
  have hlt : d < st.length := (List.getElem?_eq_some_iff.1 hd).1
  have here : (st.set d (ver, new))[d]? = some (ver, new) := by simp [hlt]
  refine ⟨hok, h.defers, by simpa [Act.put] using h.n, by simpa [Act.put] using h.len, ?_, ?_⟩
  · intro s ver' sv hs
    by_cases hsd : s = d
    · subst hsd
      rw [here] at hs
      cases hs
      rw [val_put_same (by rw [h.n]; exact hdn)]
      exact hnew
    · rw [List.getElem?_set_ne (Ne.symm hsd)] at hs
      rw [val_put_other hsd]
      exact (h.slots s ver' sv hs).tr hG hsd hd hv hk (fun s' hs' => val_put_other hs') hdead h.slots
  · intro s ver' h' hs
    by_cases hsd : s = d
    · subst hsd
      rw [here] at hs
      cases hs
      obtain ⟨h1, h2⟩ := hp h' rfl
      rw [val_put_same (by rw [h.n]; exact hdn), val_put_other (by omega)]
      exact ⟨h1, h2⟩
    · rw [List.getElem?_set_ne (Ne.symm hsd)] at hs
      obtain ⟨h1, h2⟩ := h.pars s ver' h' hs
      rw [val_put_other hsd, val_put_other (by omega)]
      exact ⟨h1, h2⟩

/-- A slot is given up. -/
def Lab.drop (σ : Lab) (d : Nat) : Lab := fun b => match σ b with
  | some (s, k) => if s = d then none else some (s, k)
  | none => none
theorem Lab.drop_some {σ : Lab} {d b : Nat} {s k : Nat} : σ.drop d b = some (s, k) ↔ s ≠ d ∧ σ b = some (s, k) := by
  unfold Lab.drop
  split
  · rename_i s' k' h
    split
    · rename_i e; subst e; simp [h]; intro hne e; exact absurd e.symm hne
    · rename_i e
      simp only [h, Option.some.injEq, Prod.mk.injEq]
      constructor
      · rintro ⟨rfl, rfl⟩; exact ⟨e, rfl, rfl⟩
      · exact fun x => x.2
  · rename_i h; simp [h]
theorem Lab.drop_le {σ : Lab} {d b : Nat} {lab : Nat × Nat} (h : σ.drop d b = some lab) : σ b = some lab := by
  obtain ⟨s, k⟩ := lab
  exact (Lab.drop_some.1 h).2
theorem WOk.drop {G : Mem} {σ : Lab} {Fr : Mem} {w0 : Base} {w : World} (h : WOk G σ Fr w0 w) (d : Nat) : WOk G (σ.drop d) Fr w0 w :=
  ⟨h.fixed, fun b lab hb => h.own b lab (Lab.drop_le hb), fun b b' lab hb hb' => h.inj b b' lab (Lab.drop_le hb) (Lab.drop_le hb'), h.frame, h.os, h.tape, h.output, h.size, h.apart⟩
theorem Kept.drop (σ : Lab) (w : World) {d s : Nat} (hs : s ≠ d) : Kept σ (σ.drop d) w w s := fun _ _ hb => ⟨Lab.drop_some.2 ⟨hs, hb⟩, rfl⟩

theorem Rel.drop {G : Mem} {σ : Lab} {Fr : Mem} {w0 : Base} {w : World} {st : St} {a : Act} {d ver : Nat} {old : Nat × SV}
    (h : Rel G σ Fr w0 st a w) (hd : st[d]? = some old) (hv : old.1 < ver) : Rel G (σ.drop d) Fr w0 (st.set d (ver, .no)) a w := by
  exact Rel.self (new := .no) h (h.wok.drop d) (Mem.le.refl G) hd hv (fun s' hs => Kept.drop σ w hs) trivial

/-- What is stored behind a slot's back, its version as it was: no label turns. -/
theorem Rel.poke {G : Mem} {σ : Lab} {Fr : Mem} {w0 : Base} {w w' : World} {st : St} {a : Act} {d ver : Nat} {old new : SV}
    (h : Rel G σ Fr w0 st a w) (hok : WOk G σ Fr w0 w') (hd : st[d]? = some (ver, old))
    (hk : ∀ s', s' ≠ d → Kept σ σ w w' s') (hroot : old.root = none) (hnr : new.root = none) (hnp : ∀ h, new ≠ .par h) (hno : ∀ inv t, new ≠ .own inv t)
    (hnew : ∀ c, RepOwn G σ w d old c → RepOwn G σ w' d new c)
    (hb : ∀ k e sz l c, old.vecAt k = some (e, sz, l) → ∃ l', new.vecAt k = some (e, sz, l') ∧ (VecAt G σ w (d, k) e sz l c → VecAt G σ w' (d, k) e sz l' c) ∧
      ∀ n, VecAt G σ w (d, k) e sz (l.take n) c → VecAt G σ w' (d, k) e sz (l'.take n) c) :
    Rel G σ Fr w0 (st.set d (ver, new)) a w' := by
  have hlt : d < st.length := (List.getElem?_eq_some_iff.1 hd).1
  refine ⟨hok, h.defers, h.n, by simp [h.len], ?_, ?_⟩
  rotate_left
  · intro s ver' h' hs
    by_cases hsd : s = d
    · subst hsd
      have : (st.set s (ver, new))[s]? = some (ver, new) := by simp [hlt]
      rw [this] at hs
      cases hs
      exact absurd rfl (hnp h')
    · rw [List.getElem?_set_ne (Ne.symm hsd)] at hs
      exact h.pars s ver' h' hs
  intro s ver' sv hs
  have look : ∀ s' cur, s' ≠ d → st[s']? = some cur → (st.set d (ver, new))[s']? = some cur := fun s' cur hne hc => by
    rw [List.getElem?_set_ne (Ne.symm hne)]
    exact hc
  have here : (st.set d (ver, new))[d]? = some (ver, new) := by simp [hlt]
  by_cases hsd : s = d
  · subst hsd
    rw [here] at hs
    cases hs
    rw [RepSV.own hnr]
    have := h.slots s ver old hd
    rw [RepSV.own hroot] at this
    exact hnew _ this
  · rw [List.getElem?_set_ne (Ne.symm hsd)] at hs
    have h0 := h.slots s ver' sv hs
    generalize val a w0 s = c at h0
    cases sv with
    | bor s' k ver' =>
      obtain ⟨cur, h1, h2, h3⟩ := h0
      by_cases hne : s' = d
      · subst hne
        rw [hd] at h1
        cases h1
        refine ⟨_, here, h2, fun e => ?_⟩
        obtain ⟨e, sz, l, h4, h5⟩ := h3 e
        obtain ⟨l', h6, h7, _⟩ := hb k e sz l c h4
        exact ⟨e, sz, l', h6, h7 h5⟩
      · refine ⟨cur, look s' cur hne h1, h2, fun e => ?_⟩
        obtain ⟨e, sz, l, h4, h5⟩ := h3 e
        exact ⟨e, sz, l, h4, h5.tr (Mem.le.refl G) fun b hb => hk s' hne b k hb⟩
    | sub s' k ver' n =>
      obtain ⟨cur, h1, h2, h3⟩ := h0
      by_cases hne : s' = d
      · subst hne
        rw [hd] at h1
        cases h1
        refine ⟨_, here, h2, fun e => ?_⟩
        obtain ⟨e, sz, l, h4, h5⟩ := h3 e
        obtain ⟨l', h6, _, h7⟩ := hb k e sz l c h4
        exact ⟨e, sz, l', h6, h7 n h5⟩
      · refine ⟨cur, look s' cur hne h1, h2, fun e => ?_⟩
        obtain ⟨e, sz, l, h4, h5⟩ := h3 e
        exact ⟨e, sz, l, h4, h5.tr (Mem.le.refl G) fun b hb => hk s' hne b k hb⟩
    | suf s' k ver' n =>
      obtain ⟨cur, h1, h2, h3⟩ := h0
      by_cases hne : s' = d
      · subst hne
        rw [hd] at h1
        cases h1
        refine ⟨_, here, h2, fun e => ?_⟩
        obtain ⟨e, sz, l, c0, h4, h5, h8⟩ := h3 e
        obtain ⟨l', h6, h7, _⟩ := hb k e sz l c0 h4
        have h9 := h7 h5
        refine ⟨e, sz, l', c0, h6, h9, ?_⟩
        have : l'.length = l.length := by
          obtain ⟨x1, y1, _⟩ := h5
          obtain ⟨x2, y2, _⟩ := h9
          obtain ⟨ad, cap, e1, _⟩ := h8
          rcases y1.2 with ⟨p1, q1⟩ | ⟨g1, cap1, cur1, p1, _⟩ <;> rcases y2.2 with ⟨p2, q2⟩ | ⟨g2, cap2, cur2, p2, _⟩
          · rw [q1, q2]
          · rw [p1] at p2; cases p2
          · rw [p1] at p2; cases p2
          · rw [p1] at p2
            injection p2 with _ e3 _
            exact e3.symm
        rw [this]
        exact h8
      · refine ⟨cur, look s' cur hne h1, h2, fun e => ?_⟩
        obtain ⟨e, sz, l, c0, h4, h5, h6⟩ := h3 e
        exact ⟨e, sz, l, c0, h4, h5.tr (Mem.le.refl G) fun b hb => hk s' hne b k hb, h6⟩
    | pt s' k ver' off r =>
      obtain ⟨cur, h1, h2, h3⟩ := h0
      by_cases hne : s' = d
      · subst hne
        rw [hd] at h1
        cases h1
        exact ⟨_, here, h2, h3⟩
      · exact ⟨cur, look s' cur hne h1, h2, h3⟩
    | pd s' ver' p =>
      obtain ⟨cur, h1, h2, h3⟩ := h0
      by_cases hne : s' = d
      · subst hne
        rw [hd] at h1
        cases h1
        exact ⟨_, here, h2, fun inv t e => absurd e (hno inv t)⟩
      · refine ⟨cur, look s' cur hne h1, h2, fun inv t e hp ha => ?_⟩
        obtain ⟨v, sv'⟩ := cur
        simp only at e
        subst e
        exact (h3 inv t rfl hp ha).tr (show OwnD G σ w s' t (val a w0 s') from h.slots s' v _ h1) (hk s' hne)
    | bd s' ver' p =>
      obtain ⟨cur, h1, h2, h3⟩ := h0
      by_cases hne : s' = d
      · subst hne
        rw [hd] at h1
        cases h1
        exact ⟨_, here, h2, fun inv t e => absurd e (hno inv t)⟩
      · refine ⟨cur, look s' cur hne h1, h2, fun inv t e ha => ?_⟩
        obtain ⟨v, sv'⟩ := cur
        simp only at e
        subst e
        exact (h3 inv t rfl ha).tr (show OwnD G σ w s' t (val a w0 s') from h.slots s' v _ h1) (hk s' hne)
    | _ =>
      rw [RepSV.own rfl] at h0 ⊢
      exact RepOwn.tr h0 (Mem.le.refl G) fun b k hb => hk s hsd b k hb
end Go.Ab

namespace Go.Ab

/-- What a called function comes to: from what is handed in ('args': slot i owns args[i]) to its result and to what it leaves of what it was handed. -/
def Fn (P : Program) (f : FuncId) (args : List SV) (Post : SV → List SV → Prop) : Prop :=
  ∀ (G : Mem) (σ : Lab) (Fr : Mem) (w : World) (cargs : Array Value), WOk G σ Fr ⟨w, 0, #[]⟩ w → cargs.size = args.length →
    (∀ i sv, args[i]? = some sv → sv.root = none ∧ RepOwn G σ w i sv (cargs.getD i undef)) →
    Calls P f cargs w fun e w' => ∃ (r : SV) (as : List SV) (c : Value) (G' : Mem) (σ' : Lab), e = .returned c ∧ Post r as ∧ G.le G' ∧ WOk G' σ' Fr ⟨w, 0, #[]⟩ w' ∧
      r.root = none ∧ RepOwn G' σ' w' args.length r c ∧ as.length = args.length ∧ ∀ i sv, as[i]? = some sv → sv.root = none ∧ RepOwn G' σ' w' i sv (cargs.getD i undef)

/-- The steps of the abstract machine: what an operation does to the slots. -/
inductive M where
  | get (i : Nat) (k : Nat → SV → M)
  | getp (i : Nat) (f : Nat → SV → Nat × SV) (k : Nat → SV → M)
  | set (i ver : Nat) (sv : SV) (k : M)
  | done
  | chk (p : St → Prop)
  | fail
  | need (p : Prop) (k : p → M)
  | all (p : Bool → Prop) (k : Bool → M)
  | fact (p : Prop) (k : M)
  | ite (b : Bool) (x y : M)
  | call (f : FuncId) (args : List SV) (k : SV → List SV → M)

/-- A call, as the walk stops at it. -/
structure CallWp (P : Program) (f : FuncId) (args : List SV) (Q : SV → List SV → Prop) : Prop where
  out : ∃ Post, Fn P f args Post ∧ ∀ r as, Post r as → Q r as

def M.wp (P : Program) : M → (St → Prop) → St → Prop
  | .get i k, Q, st => match st[i]? with
    | some cur => (k cur.1 cur.2).wp P Q st
    | none => False
  | .getp i f k, Q, st => match st[i]? with
    | some cur => (k (f cur.1 cur.2).1 (f cur.1 cur.2).2).wp P Q st
    | none => False
  | .set i ver sv k, Q, st => k.wp P Q (st.set i (ver, sv))
  | .done, Q, st => Q st
  | .chk p, _, st => p st
  | .fail, _, _ => False
  | .need p k, Q, st => ∃ h : p, (k h).wp P Q st
  | .all p k, Q, st => ∀ b, p b → (k b).wp P Q st
  | .fact p k, Q, st => p → k.wp P Q st
  | .ite b x y, Q, st => (b = true → x.wp P Q st) ∧ (b = false → y.wp P Q st)
  | .call f args k, Q, st => CallWp P f args fun r as => (k r as).wp P Q st

theorem M.wp_mono {P : Program} {Q Q' : St → Prop} (hQ : ∀ st, Q st → Q' st) : ∀ (m : M) (st : St), m.wp P Q st → m.wp P Q' st := by
  intro m
  induction m with
  | get i k ih =>
    intro st h
    simp only [M.wp] at h ⊢
    split at h
    · exact ih _ _ _ h
    · exact h
  | getp i f k ih =>
    intro st h
    simp only [M.wp] at h ⊢
    split at h
    · exact ih _ _ _ h
    · exact h
  | set i ver sv k ih => intro st h; exact ih _ h
  | done => intro st h; exact hQ _ h
  | chk p => intro st h; exact h
  | fail => intro st h; exact h
  | need p k ih => intro st ⟨h1, h2⟩; exact ⟨h1, ih _ _ h2⟩
  | all p k ih => intro st h b hb; exact ih _ _ (h b hb)
  | fact p k ih => intro st h hp; exact ih _ (h hp)
  | ite b x y ihx ihy =>
    intro st h
    exact ⟨fun hb => ihx _ (h.1 hb), fun hb => ihy _ (h.2 hb)⟩
  | call f args k ih => intro st ⟨Post, h1, h2⟩; exact ⟨Post, h1, fun r as hp => ih _ _ _ (h2 r as hp)⟩

/-- An operand. -/
inductive Opd where
  | t (n : Nat)
  | c (x : I)
  | nils (e : TypeId) (sz : Nat)
  deriving Inhabited

def setD (d : Option Nat) (sv : SV) (k : M) : M := match d with
  | some d => .get d fun ver _ => .set d (ver + 1) sv k
  | none => k

/-- An immutable item is read. -/
def rdI (x : Opd) (k : I → M) : M := match x with
  | .c x => k x
  | .nils _ _ => k (.list [])
  | .t n => .get n fun _ sv => match sv with
    | .v x => k x
    | _ => .fail

section
variable {P : Program} {N : Nat} {G : Mem} {σ : Lab} {Fr : Mem} {w0 : Base} {w : World} {st : St} {a : Act}

theorem Rel.slot (h : Rel G σ Fr w0 st a w) {n ver : Nat} {sv : SV} (hlt : n < w0.n) (hn : st[n]? = some (ver, sv)) : RepSV G σ w st (val a w0) n sv (a.eval (.tmp n)) := by
  have := h.slots n ver sv hn
  rwa [val_tmp (by rw [h.n]; exact hlt)] at this

/-- What an operation of the program must be for its steps to be sound. -/
def Sound (P : Program) (N : Nat) (o : Oper) (m : M) : Prop :=
  ∀ (G : Mem) (σ : Lab) (Fr : Mem) (w0 : Base) (st : St) (a : Act) (w : World) (Q : St → Prop) (next : Act → World → Prop) (E : Exit → Act → World → Prop),
    w0.n = N → Rel G σ Fr w0 st a w → m.wp P Q st →
    (∀ G' σ' st' a' w', G.le G' → Rel G' σ' Fr w0 st' a' w' → Q st' → next a' w') → (∀ d, o.dst = some d → d < w0.n) → o.wp P a w next E

theorem wp_value {o : Oper} {next : Act → World → Prop} {E : Exit → Act → World → Prop} {v : Value} {w' : World}
    (h : (execOp a.eval o).run P w = .ok (.value v) w') (k : next (a.put o.dst v) w') : o.wp P a w next E := by
  unfold Oper.wp
  rw [h]
  exact k
theorem wp_skipped {o : Oper} {next : Act → World → Prop} {E : Exit → Act → World → Prop} {w' : World}
    (h : (execOp a.eval o).run P w = .ok .skip w') (k : next (a.put o.dst undef) w') : o.wp P a w next E := by
  unfold Oper.wp
  rw [h]
  exact k

/-- The common end: a value that means 'sv', the world as it was (but for what is fixed by now). -/
theorem Rel.setD {Q : St → Prop} {d : Option Nat} {sv : SV} {c : Value} (h : Rel G σ Fr w0 st a w) (hb : ∀ d', d = some d' → d' < w0.n)
    (hnew : ∀ d', d = some d' → ∀ ver, (st.set d' (ver, sv))[d']? = some (ver, sv) → RepSV G (σ.drop d') w (st.set d' (ver, sv)) (val (a.put (some d') c) w0) d' sv c)
    (hq : (setD d sv .done).wp P Q st) (hp : ∀ h, sv = .par h → c = val a w0 h ∧ w0.n ≤ h := by intro _ e; cases e)
    (hno : ∀ inv t, sv ≠ .own inv t := by intro _ _ e; cases e) : ∃ σ' st', Rel G σ' Fr w0 st' (a.put d c) w ∧ Q st' := by
  cases d with
  | none => exact ⟨σ, st, h, hq⟩
  | some d =>
    simp only [Ab.setD, M.wp] at hq
    cases hd : st[d]? with
    | none => simp [hd] at hq
    | some cur =>
      simp only [hd] at hq
      have hlt : d < st.length := (List.getElem?_eq_some_iff.1 hd).1
      exact ⟨σ.drop d, _, h.put (hb d rfl) (h.wok.drop d) (Mem.le.refl G) hd (Nat.lt_succ_self _) (fun s' hs => Kept.drop σ w hs)
        (hnew d rfl (cur.1 + 1) (by simp [hlt])) hp (fun inv t e => absurd e (hno inv t)), hq⟩

/-- 'x' is an operand that means 'v'. -/
theorem rdI_spec {x : Opd} {k : I → M} {Q : St → Prop} (h : (rdI x k).wp P Q st) :
    ∃ i, (k i).wp P Q st ∧ ((∃ n ver, x = .t n ∧ st[n]? = some (ver, .v i)) ∨ x = .c i ∨ (∃ e sz, x = .nils e sz ∧ i = .list [])) := by
  cases x with
  | c i => exact ⟨i, h, .inr (.inl rfl)⟩
  | nils e sz => exact ⟨_, h, .inr (.inr ⟨e, sz, rfl, rfl⟩)⟩
  | t n =>
    simp only [rdI, M.wp] at h
    cases hn : st[n]? with
    | none => simp [hn] at h
    | some cur =>
      obtain ⟨ver, sv⟩ := cur
      simp only [hn] at h
      cases sv with
      | v i => exact ⟨i, h, .inl ⟨n, ver, rfl, hn⟩⟩
      | _ => simp [M.wp] at h
end

/-- A constant's reading. -/
def cOk : I → Value → Bool
  | .int k n, .int k' n' => k == k' && n == n'
  | .bool b, .bool b' => b == b'
  | .str s, .string t => s == t.data.toList && s.length ≤ maxLen
  | .fn f, .func (.func g) a b => f == g && a.isEmpty && b.isEmpty
  | .nili, .nilIface => true
  | .nilp, .pointer none => true
  | .nilm, .map none => true
  | _, _ => false
theorem cOk_spec {x : I} {c : Value} (h : cOk x c = true) (G : Mem) : RepV G x c := by
  unfold cOk at h
  split at h
  · simp only [Bool.and_eq_true, beq_iff_eq] at h; simp [RepV, I.isAgg, RepI, h]
  · simp only [beq_iff_eq] at h; simp [RepV, I.isAgg, RepI, h]
  · rename_i s t
    simp only [Bool.and_eq_true, beq_iff_eq, decide_eq_true_eq] at h
    obtain ⟨h1, h2⟩ := h
    subst h1
    unfold RepV
    rw [if_neg (by simp [I.isAgg])]
    exact ⟨rfl, h2⟩
  · simp only [Bool.and_eq_true, beq_iff_eq, Array.isEmpty_iff] at h
    obtain ⟨⟨h1, h2⟩, h3⟩ := h
    simp [RepV, I.isAgg, RepI, h1, h2, h3]
  · simp [RepV, I.isAgg, RepI]
  · simp [RepV, I.isAgg, RepI]
  · simp [RepV, I.isAgg, RepI]
  · cases h

/-- An operand of the program's own, and ours. -/
def opdOk (N : Nat) : Operand → Opd → Bool
  | .tmp n, .t m => n == m && n < N
  | .const c, .c x => cOk x c
  | .const (.slice none 0 0), .nils _ _ => true
  | .func f, .c (.fn g) => f == g
  | _, _ => false
theorem opdOk_t {N : Nat} {x : Operand} {n : Nat} (h : opdOk N x (.t n) = true) : x = .tmp n ∧ n < N := by
  cases x <;> simp only [opdOk, Bool.and_eq_true, beq_iff_eq, decide_eq_true_eq] at h
  · obtain ⟨rfl, h⟩ := h; exact ⟨rfl, h⟩
  · cases h
  · cases h
  · cases h
section
variable {P : Program} {N : Nat} {G : Mem} {σ : Lab} {Fr : Mem} {w0 : Base} {w : World} {st : St} {a : Act}
theorem opdOk_c {x : Operand} {i : I} (h : opdOk N x (.c i) = true) (G : Mem) : RepV G i (a.eval x) := by
  unfold opdOk at h
  split at h
  · simp_all
  · rename_i c y he
    cases he
    exact cOk_spec h G
  · simp_all
  · rename_i f g he
    cases he
    simp only [beq_iff_eq] at h
    subst h
    simp [RepV, I.isAgg, RepI, Act.eval]
  · cases h
theorem opdOk_nils {x : Operand} {e : TypeId} {sz : Nat} (h : opdOk N x (.nils e sz) = true) : a.eval x = .slice none 0 0 := by
  unfold opdOk at h
  split at h <;> simp_all [Act.eval]

/-- The reading of an operand that is an item. -/
theorem rdI_rep {x : Operand} {y : Opd} {k : I → M} {Q : St → Prop} (h : Rel G σ Fr w0 st a w) (ho : opdOk w0.n x y = true) (hq : (rdI y k).wp P Q st) :
    ∃ i, (k i).wp P Q st ∧ RepV G i (a.eval x) := by
  obtain ⟨i, h1, h2⟩ := rdI_spec hq
  refine ⟨i, h1, ?_⟩
  rcases h2 with ⟨n, ver, rfl, hn⟩ | rfl | ⟨e, sz, rfl, rfl⟩
  · obtain ⟨rfl, hnlt⟩ := opdOk_t ho
    exact h.slot hnlt hn
  · exact opdOk_c ho G
  · rw [opdOk_nils ho]
    unfold RepV
    rw [if_neg (by simp [I.isAgg])]
    exact ⟨none, 0, rfl, Nat.le_refl _, by simp [maxLen], .inl rfl⟩
end
end Go.Ab
