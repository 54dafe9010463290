/- One text of the proof whose last text says what is proved. -/
import Derived.Test.YtbpnhefkfamhaaaAb12
set_option linter.unusedVariables false
set_option linter.unusedSimpArgs false
namespace Go.Ab

/-- The parts of a composite literal are taken, one behind the other. -/
def takeParts : List (Nat × Opd) → List I → (List I → M) → M
  | [], zs, k => k zs
  | (i, x) :: ps, zs, k => takeV x fun u => match zs[i]? with
    | some z => .need (u.size = z.size) fun _ => takeParts ps (zs.set i u) k
    | none => .fail

def partsOk (N : Nat) : List (Nat × Operand) → List (Nat × Opd) → Bool
  | [], [] => true
  | (i, x) :: l, (j, y) :: m => i == j && opdOk N x y && partsOk N l m
  | _, _ => false

section
variable {P : Program} {N : Nat} {G : Mem} {σ : Lab} {Fr : Mem} {w0 : Base} {w : World} {st : St} {a : Act}

theorem fill_fold : ∀ (vs pre old post : List Value) (n : Nat) (cells : Array Value), cells.toList = pre ++ old ++ post → old.length = vs.length →
    ((vs.zipIdx n).foldl (fun (cs : Array Value) (p : Value × Nat) => cs.setIfInBounds (pre.length - n + p.2) p.1) cells).toList = pre ++ vs ++ post ∨ pre.length < n
  | [], pre, old, post, n, cells, h, hl => by
    left
    have : old = [] := List.eq_nil_of_length_eq_zero hl
    subst this
    simpa using h
  | v :: vs, pre, old, post, n, cells, h, hl => by
    by_cases hn : pre.length < n
    · exact .inr hn
    · left
      cases old with
      | nil => simp at hl
      | cons o old =>
        have h1 : (cells.setIfInBounds (pre.length - n + n) v).toList = (pre ++ [v]) ++ old ++ post := by
          rw [Array.toList_setIfInBounds, h, Nat.sub_add_cancel (by omega)]
          simp
        have := fill_fold vs (pre ++ [v]) old post (n + 1) _ h1 (by simpa using hl)
        rcases this with h2 | h2
        · have e : (pre ++ [v]).length - (n + 1) = pre.length - n := by simp
          rw [e] at h2
          simp only [List.zipIdx_cons, List.foldl_cons]
          simpa using h2
        · simp at h2; omega

theorem fill_one {cells : Array Value} {v : Value} {pre old post : List Value} {off : Nat} (h : cells.toList = pre ++ old ++ post) (hp : pre.length = off) (ho : old.length = v.cells.size) :
    (v.cells.zipIdx.foldl (fun (cs : Array Value) (p : Value × Nat) => cs.setIfInBounds (off + p.2) p.1) cells).toList = pre ++ v.cells.toList ++ post := by
  have := fill_fold v.cells.toList pre old post 0 cells h (by rw [ho]; simp)
  rcases this with h1 | h1
  · rw [← Array.foldl_toList, Array.toList_zipIdx]
    rw [Nat.sub_zero, hp] at h1
    exact h1
  · omega

theorem fill_parts {place : Nat → Option (Nat × Nat)} {Q : St → Prop} : ∀ {ps : List (Nat × Operand)} {ps' : List (Nat × Opd)} {zs : List I} {cells : Array Value} {k : List I → M} {G : Mem} {σ : Lab} {st : St},
    Rel G σ Fr w0 st a w → partsOk w0.n ps ps' = true → (takeParts ps' zs k).wp P Q st → RepIs G zs cells.toList →
    (∀ i z, zs[i]? = some z → place i = some (sizes (zs.take i), z.size)) →
    ∃ zs' cells' G' σ' st', G.le G' ∧ Rel G' σ' Fr w0 st' a w ∧ (k zs').wp P Q st' ∧ RepIs G' zs' cells'.toList ∧ Instr.fill place cells (ps.map fun p => (p.1, a.eval p.2)) = some cells'
  | [], [], zs, cells, k, G, σ, st, hr, _, hq, hz, _ => ⟨zs, cells, G, σ, st, Mem.le.refl G, hr, hq, hz, rfl⟩
  | (i, x) :: ps, (j, y) :: ps', zs, cells, k, G, σ, st, hr, ho, hq, hz, hpl => by
    simp only [partsOk, Bool.and_eq_true, beq_iff_eq] at ho
    obtain ⟨⟨rfl, ho⟩, hos⟩ := ho
    obtain ⟨u, G', σ', st', hG, hr', h1, hv⟩ := takeV_rep hr ho hq
    cases hzi : zs[i]? with
    | none => simp only [hzi] at h1; exact h1.elim
    | some z =>
      simp only [hzi] at h1
      obtain ⟨hsz, h1⟩ := h1
      obtain ⟨c1, c, c2, e1, e2, e3, hset⟩ := RepIs.nth i (RepIs.mono hG _ _ hz) hzi
      have hvc := hv.cells
      have hcl : c.length = (a.eval x).cells.size := by
        rw [RepI.length _ _ e3, ← hsz, ← RepI.length _ _ hvc]
        simp
      have hfold := fill_one (v := a.eval x) (off := sizes (zs.take i)) e1 e2 hcl
      have hplace := hpl i z hzi
      obtain ⟨zs', cells', G'', σ'', st'', hG', hr'', h2, h3, h4⟩ := fill_parts (place := place) hr' hos h1 (cells := (a.eval x).cells.zipIdx.foldl (fun (cs : Array Value) (p : Value × Nat) => cs.setIfInBounds (sizes (zs.take i) + p.2) p.1) cells)
        (by rw [hfold]; exact hset u _ hvc) (by
          intro i' z' hz'
          have hi : i < zs.length := (List.getElem?_eq_some_iff.1 hzi).1
          by_cases hii : i' = i
          · subst hii
            rw [List.getElem?_set_self hi] at hz'
            cases hz'
            rw [hplace, hsz, List.take_set_of_le (Nat.le_refl _)]
          · rw [List.getElem?_set_ne (Ne.symm hii)] at hz'
            rw [hpl i' z' hz']
            congr 2
            rw [List.take_set]
            by_cases hlt : i < i'
            · have : (zs.take i')[i]? = some z := by rw [List.getElem?_take, if_pos hlt]; exact hzi
              exact (sizes_set this hsz).symm
            · rw [List.set_eq_of_length_le (by rw [List.length_take]; omega)])
      refine ⟨zs', cells', G'', σ'', st'', hG.trans hG', hr'', h2, h3, ?_⟩
      simp only [List.map_cons, Instr.fill, hplace]
      have hszc : (a.eval x).cells.size = z.size := by rw [← hcl, RepI.length _ _ e3]
      have hle : ¬ (sizes (zs.take i) + (a.eval x).cells.size > cells.size) := by
        have : cells.size = cells.toList.length := by simp
        rw [this, e1, ← e2, ← hcl]
        simp
      rw [if_neg (by simp [hszc] at hle ⊢; omega)]
      exact h4
  | [], _ :: _, _, _, _, _, _, _, _, ho, _, _, _ => by cases ho
  | _ :: _, [], _, _, _, _, _, _, _, ho, _, _, _ => by simp [partsOk] at ho

/-- A struct's value out of its parts. -/
def semBuild (d : Option Nat) (zs : List I) (ps : List (Nat × Opd)) : M := takeParts ps zs fun l => setD d (.v (.agg l)) .done

def buildOk (P : Program) (t : TypeId) (zs : List I) : Bool := match P.underlying t, P.info? t with
  | some (.struct fs), some i => (match i.zero with
      | some z => match zIs zs z.cells.toList with
        | some [] => true
        | _ => false
      | none => false) &&
    fs.size == zs.length && (List.range zs.length).all fun j => match fs[j]?, zs[j]? with
      | some f, some z => f.offset == sizes (zs.take j) && match P.info? f.type with
        | some i => i.size == z.size
        | none => false
      | _, _ => false
  | _, _ => false

theorem mapM_places {fs : List Field} {sz : Field → Nat} (h : ∀ f ∈ fs, (sizeOf f.type).run P w = .ok (sz f) w) :
    (fs.mapM fun f => (do pure (f.offset, ← sizeOf f.type) : Sem (Nat × Nat))).run P w = .ok (fs.map fun f => (f.offset, sz f)) w := by
  induction fs with
  | nil => simp
  | cons f fs ih =>
    have h1 := h f (by simp)
    have h2 := ih fun g hg => h g (by simp [hg])
    simp only [List.mapM_cons, Sem.run_bind, h1, Result.andThen, Sem.run_pure, h2, List.map_cons]

theorem sound_build {o : Oper} {t : TypeId} {ps : Array (Nat × Operand)} {zs : List I} {ps' : List (Nat × Opd)} (ho : o.op = .build t ps) (hp : partsOk N ps.toList ps' = true) (ht : buildOk P t zs = true) :
    Sound P N o (semBuild o.dst zs ps') := by
  intro G σ Fr w0 st a w Q next E hN hr hw hn hdst
  subst hN
  unfold buildOk at ht
  split at ht
  · rename_i fs i hu hi
    simp only [Bool.and_eq_true, beq_iff_eq] at ht
    obtain ⟨⟨hz, hlen⟩, hall⟩ := ht
    cases hzv : i.zero with
    | none => simp [hzv] at hz
    | some z =>
      simp only [hzv] at hz
      have hz' : ∃ c, z.cells.toList = c ++ [] ∧ RepIs G zs c := by
        split at hz
        · rename_i h; exact zIs_spec G zs _ _ h
        · cases hz
      obtain ⟨c, hc, hz'⟩ := hz'
      rw [List.append_nil] at hc
      subst hc
      have hfield : ∀ j f zz, fs[j]? = some f → zs[j]? = some zz → f.offset = sizes (zs.take j) ∧ (sizeOf f.type).run P w = .ok zz.size w := by
        intro j f zz hf hzz
        have hj : j < zs.length := (List.getElem?_eq_some_iff.1 hzz).1
        have := List.all_eq_true.1 hall j (List.mem_range.2 hj)
        simp only [hf, hzz, Bool.and_eq_true, beq_iff_eq] at this
        obtain ⟨h1, h2⟩ := this
        refine ⟨h1, ?_⟩
        cases hfi : P.info? f.type with
        | none => simp [hfi] at h2
        | some jn =>
          simp only [hfi, beq_iff_eq] at h2
          simp [sizeOf, typeInfo, hfi, h2]
      let szf : Field → Nat := fun f => ((P.info? f.type).map (·.size)).getD 0
      have hszf : ∀ f ∈ fs.toList, (sizeOf f.type).run P w = .ok (szf f) w := by
        intro f hf
        obtain ⟨j, hj⟩ := List.mem_iff_getElem?.1 hf
        have hj' : j < zs.length := by
          have := (List.getElem?_eq_some_iff.1 hj).1
          simp at this; omega
        have h2 := (hfield j f zs[j] (by simpa using hj) (List.getElem?_eq_getElem hj')).2
        cases hfi : P.info? f.type with
        | none => simp [sizeOf, typeInfo, hfi] at h2
        | some jn => simp [sizeOf, typeInfo, hfi, szf]
      have hplaces : ∀ j zz, zs[j]? = some zz → (fs.toList.map fun f => (f.offset, szf f)).toArray[j]? = some (sizes (zs.take j), zz.size) := by
        intro j zz hzz
        have hj : j < zs.length := (List.getElem?_eq_some_iff.1 hzz).1
        have hjf : fs[j]? = some (fs[j]'(by omega)) := Array.getElem?_eq_getElem (by omega)
        obtain ⟨h1, h2⟩ := hfield j _ zz hjf hzz
        have h3 := hszf _ (by simp : fs[j]'(by omega) ∈ fs.toList)
        rw [h2] at h3
        have h4 : zz.size = szf (fs[j]'(by omega)) := by injection h3
        simp [hjf, h1, h4]
      obtain ⟨zs', cells', G', σ', st', hG, hr', h2, h3, h4⟩ := fill_parts (place := fun j => (fs.toList.map fun f => (f.offset, szf f)).toArray[j]?) hr hp hw hz' hplaces
      have hv : RepV G' (.agg zs') (.agg cells') := by
        unfold RepV
        rw [if_pos (show (I.agg zs').isAgg = true from rfl)]
        exact ⟨cells', rfl, h3⟩
      refine done_v hr' (fun G'' σ'' st'' a' w' hG'' => hn G'' σ'' st'' a' w' (hG.trans hG'')) hdst hv h2 ?_
      have hm := mapM_places (P := P) (w := w) hszf
      have hparts : (ps.map fun (p : Nat × Operand) => (p.1, a.eval p.2)).toList = ps.toList.map fun p => (p.1, a.eval p.2) := by simp
      have hm' : (fs.mapM fun f => (do pure (f.offset, ← sizeOf f.type) : Sem (Nat × Nat))).run P w = .ok (fs.toList.map fun f => (f.offset, szf f)).toArray w := by
        rw [Array.mapM_eq_mapM_toList, Sem.run_map, hm]
        rfl
      have hzero : (zeroValue t).run P w = .ok z w := by simp [zeroValue, typeInfo, hi, hzv]
      simp only [execOp, ho, Instr.build, Sem.run_bind, hzero, Result.andThen, run_underlying hu, hm', hparts, h4, Sem.run_pure]
  · cases ht
end
end Go.Ab
