/- One text of the proof whose last text says what is proved. -/
import Derived.Test.YtoombangidlpjaaAbE4
import Derived.Deep.AppendSrc
import Derived.Laws.OwnMore
set_option linter.unusedVariables false
set_option linter.unusedSimpArgs false
namespace Go.Ab
open Go.Op
mutual
def zD : D → List Value → Option (List Value)
  | .it x, cs => zI x cs
  | .st l, cs => zDs l cs
  | .vec _ _ [], .slice none 0 0 :: cs => some cs
  | _, _ => none
def zDs : List D → List Value → Option (List Value)
  | [], cs => some cs
  | d :: l, cs => match zD d cs with
    | some cs => zDs l cs
    | none => none
end
mutual
theorem zD_spec (G : Mem) (w : World) : ∀ (d : D) (cs rest : List Value), zD d cs = some rest → ∃ c, cs = c ++ rest ∧ RepD G w d c []
  | .it x, cs, rest, h => by
    simp only [zD] at h
    obtain ⟨c, e, h⟩ := zI_spec G x cs rest h
    exact ⟨c, e, by simp only [RepD, and_true]; exact h⟩
  | .st l, cs, rest, h => by
    simp only [zD] at h
    obtain ⟨c, e, h⟩ := zDs_spec G w l cs rest h
    exact ⟨c, e, by simp only [RepD]; exact h⟩
  | .vec e sz [], cs, rest, h => by
    cases cs with
    | nil => simp [zD] at h
    | cons c r =>
      cases c <;> first | (simp [zD] at h; done) | skip
      rename_i ad n m
      cases ad <;> cases n <;> cases m <;> first | (simp [zD] at h; done) | skip
      simp only [zD, Option.some.injEq] at h
      subst h
      exact ⟨[.slice none 0 0], rfl, by simp [RepD]⟩
  | .vec e sz (_ :: _), cs, rest, h => by simp [zD] at h
  | .ptr d, cs, rest, h => by simp [zD] at h
  | .map ks vs, cs, rest, h => by simp [zD] at h
theorem zDs_spec (G : Mem) (w : World) : ∀ (l : List D) (cs rest : List Value), zDs l cs = some rest → ∃ c, cs = c ++ rest ∧ RepDs G w l c []
  | [], cs, rest, h => by simp only [zDs, Option.some.injEq] at h; subst h; exact ⟨[], rfl, by simp [RepDs]⟩
  | d :: l, cs, rest, h => by
    simp only [zDs] at h
    split at h
    · rename_i cs' hd
      obtain ⟨c, rfl, h1⟩ := zD_spec G w d cs cs' hd
      obtain ⟨c', rfl, h2⟩ := zDs_spec G w l cs' rest h
      refine ⟨c ++ c', by simp, ?_⟩
      simp only [RepDs]
      exact ⟨c, c', [], [], rfl, rfl, h1, h2⟩
    · cases h
end
def zeroOkD (P : Program) (t : TypeId) (x : D) : Bool := match P.info? t with
  | some i => match i.zero with
    | some z => match zD x z.cells.toList with
      | some [] => true
      | _ => false
    | none => false
  | none => false
def semAllocD (d : Nat) (t : D) : M := setN d (.own [] (.ptr t))
def semBoxD (d : Nat) (x : Opd) : M := takeD x fun u => setN d (.own [] (.ptr u))
def takePartsD : List (Nat × Opd) → List D → (List D → M) → M
  | [], zs, k => k zs
  | (i, x) :: ps, zs, k => takeD x fun u => match zs[i]? with
    | some z => .need (u.size = z.size) fun _ => takePartsD ps (zs.set i u) k
    | none => .fail
def semBuildD (d : Nat) (zs : List D) (ps : List (Nat × Opd)) : M := takePartsD ps zs fun l => setN d (.own [] (mkSt l))
def buildOkD (P : Program) (t : TypeId) (zs : List D) : Bool := match P.underlying t, P.info? t with
  | some (.struct fs), some i => (match i.zero with
      | some z => match zDs zs z.cells.toList with
        | some [] => true
        | _ => false
      | none => false) &&
    fs.size == zs.length && (List.range zs.length).all fun j => match fs[j]?, zs[j]? with
      | some f, some z => f.offset == dsizes (zs.take j) && match P.info? f.type with
        | some i => i.size == z.size
        | none => false
      | _, _ => false
  | _, _ => false
def semBSliceD (d : Nat) (e : TypeId) (sz : Nat) (z : I) (n : Nat) (ps : List (Nat × Opd)) : M := takePartsD ps (List.replicate n (.it z)) fun l => .need (l.length = n ∧ ∀ u ∈ l, u.size = sz) fun _ => setN d (.own [] (.vec e sz l))
/-- The elements of what is appended. -/
def elemsD : D → Option (List D)
  | .vec _ _ l => some l
  | .it x => match x with
    | .list l => some (l.map D.it)
    | _ => none
  | _ => none
def semAppD (d : Nat) (e : TypeId) (sz bytes : Nat) (x y : Opd) : M := takeD y fun u => takeD x fun v => match v, elemsD u with
  | .vec e' sz' l, some ys => .need (e' = e ∧ sz' = sz ∧ (l.length + ys.length) * bytes ≤ 140737488355328 ∧ l.length + ys.length ≤ maxLen ∧ (∀ u ∈ ys, u.size = sz) ∧ e < 1000000) fun _ => setN d (.own [] (.vec e sz (l ++ ys)))
  | _, _ => .fail
section
variable {P : Program} {N : Nat} {G : Mem} {σ : Lab} {Fr : Mem} {w0 : Base} {w : World} {st : St} {a : Act}

/-- Only free rows have turned, or new ones have come. -/
theorem Rel.turned {w' : World} {row : Option Nat} (h : Rel G σ Fr w0 st a w) (hg : w.grownBy w' row) (hrow : ∀ b, row = some b → G b = none ∧ Fr b = none ∧ σ b = none) : Rel G σ Fr w0 st a w' := by
  have lt : ∀ {b : Nat} {o : Obj}, w.heap[b]? = some o → b < w.heap.size := fun h => (Array.getElem?_eq_some_iff.1 h).1
  have keep : ∀ b lab, σ b = some lab → w'.heap[b]? = w.heap[b]? := fun b lab hb =>
    hg.block b (h.wok.own b lab hb).2.2 (by intro e; obtain ⟨_, _, k⟩ := hrow b e.symm; rw [k] at hb; cases hb)
  have hok : WOk G σ Fr w0 w' := by
    refine ⟨?_, ?_, h.wok.inj, ?_, hg.os.trans h.wok.os, hg.tape.trans h.wok.tape, hg.output.trans h.wok.output, Nat.le_trans h.wok.size hg.size, h.wok.apart⟩
    · intro b o hb
      have := h.wok.fixed b o hb
      rw [hg.block b (lt this) (by intro e; obtain ⟨k, _, _⟩ := hrow b e.symm; rw [k] at hb; cases hb)]
      exact this
    · intro b lab hb
      obtain ⟨h1, h2, h3⟩ := h.wok.own b lab hb
      exact ⟨h1, h2, Nat.lt_of_lt_of_le h3 hg.size⟩
    · intro b o hb
      have := h.wok.frame b o hb
      rw [hg.block b (lt this) (by intro e; obtain ⟨_, k, _⟩ := hrow b e.symm; rw [k] at hb; cases hb)]
      exact this
  exact ⟨hok, h.defers, h.n, h.len, fun s ver sv hs => (h.slots s ver sv hs).keep (Mem.le.refl G) (fun s' b k hb => ⟨hb, keep b _ hb⟩) h.slots, h.pars⟩

theorem alloc_adopt {Q : St → Prop} {d : Nat} {u : D} {bs : List Nat} {cells : Array Value} {e : TypeId} (h : Rel G σ Fr w0 st a w) (hdn : d < w0.n) (hu : RepD G w u cells.toList bs) (hnd : bs.Nodup)
    (hf : ∀ b ∈ bs, G b = none ∧ Fr b = none ∧ σ b = none ∧ b < w.heap.size) (hq : (setN d (.own [] (.ptr u))).wp P Q st) :
    ∃ σ' st', Rel G σ' Fr w0 st' (a.put (some d) (.pointer (some ⟨w.heap.size, 0, none⟩))) (w.alloc (.cells cells e)) ∧ Q st' := by
  have hr : Rel G σ Fr w0 st a (w.alloc (.cells cells e)) := h.grow rfl rfl rfl (by simp) fun b hb => heap_old w _ b hb
  obtain ⟨f1, f2, f3⟩ := h.wok.fresh (Nat.le_refl w.heap.size)
  refine hr.adopt hdn ⟨w.heap.size :: bs, ?_, rfl, List.nodup_cons.2 ⟨fun hb => ?_, hnd⟩, fun b hb => ?_⟩ hq
  · simp only [RepD, Value.cells]
    exact ⟨w.heap.size, cells, e, bs, rfl, heap_alloc_new w _, hu.tr (Mem.le.refl G) fun b hb => heap_old w _ b (hf b hb).2.2.2, rfl⟩
  · have := (hf _ hb).2.2.2
    omega
  · rcases List.mem_cons.1 hb with rfl | hb
    · exact ⟨f1, f2, f3, by simp⟩
    · obtain ⟨k1, k2, k3, k4⟩ := hf b hb
      exact ⟨k1, k2, k3, by simp; omega⟩
theorem sound_allocD {o : Oper} {e : TypeId} {d : Nat} {t : D} (hd : o.dst = some d) (ho : o.op = .alloc e) (hz : zeroOkD P e t = true) : Sound P N o (semAllocD d t) := by
  intro G σ Fr w0 st a w Q next E hN hr hw hn hdst
  subst hN
  unfold zeroOkD at hz
  split at hz
  · rename_i i hi
    split at hz
    · rename_i z hzv
      split at hz
      · rename_i hzd
        obtain ⟨c, hc, hrep⟩ := zD_spec G w t _ _ hzd
        rw [List.append_nil] at hc
        obtain ⟨σ', st', h1, h2⟩ := alloc_adopt (P := P) (e := e) (cells := z.cells) hr (hdst d hd) (by rw [hc]; exact hrep) List.nodup_nil (by simp) hw
        refine wp_value (w' := w.alloc (.cells z.cells e)) ?_ (by rw [hd]; exact hn G σ' st' _ _ (Mem.le.refl G) h1 h2)
        simp [execOp, ho, Instr.alloc, zeroValue, typeInfo, hi, hzv, newVar, newRow]
      · cases hz
    · cases hz
  · cases hz
theorem sound_boxD {o : Oper} {e : TypeId} {d : Nat} {x : Operand} {x' : Opd} (hd : o.dst = some d) (ho : o.op = .box e x) (hx : opdOk N x x' = true) : Sound P N o (semBoxD d x') := by
  intro G σ Fr w0 st a w Q next E hN hr hw hn hdst
  subst hN
  obtain ⟨u, bs, G', σ', st', hG, hr', h1, ⟨f1, f2, f3, f4⟩, _⟩ := takeD_rep2 hr hx hw
  obtain ⟨σ'', st'', h2, h3⟩ := alloc_adopt (P := P) (e := e) (cells := (a.eval x).cells) hr' (hdst d hd) f1 f3 f4 h1
  refine wp_value (w' := w.alloc (.cells (a.eval x).cells e)) ?_ (by rw [hd]; exact hn G' σ'' st'' _ _ hG h2 h3)
  simp [execOp, ho, Instr.box, newVar, newRow]

theorem fill_partsD {place : Nat → Option (Nat × Nat)} {Q : St → Prop} : ∀ {ps : List (Nat × Operand)} {ps' : List (Nat × Opd)} {zs : List D} {cells : Array Value} {bs : List Nat} {k : List D → M} {G : Mem} {σ : Lab} {st : St},
    Rel G σ Fr w0 st a w → partsOk w0.n ps ps' = true → (takePartsD ps' zs k).wp P Q st → RepDs G w zs cells.toList bs → bs.Nodup → (∀ b ∈ bs, G b = none ∧ Fr b = none ∧ σ b = none ∧ b < w.heap.size) →
    (∀ i z, zs[i]? = some z → place i = some (dsizes (zs.take i), z.size)) →
    ∃ zs' cells' bs' G' σ' st', G.le G' ∧ Rel G' σ' Fr w0 st' a w ∧ (k zs').wp P Q st' ∧ RepDs G' w zs' cells'.toList bs' ∧ bs'.Nodup ∧ (∀ b ∈ bs', G' b = none ∧ Fr b = none ∧ σ' b = none ∧ b < w.heap.size) ∧
      Instr.fill place cells (ps.map fun p => (p.1, a.eval p.2)) = some cells'
  | [], [], zs, cells, bs, k, G, σ, st, hr, _, hq, hz, hnd, hf, _ => ⟨zs, cells, bs, G, σ, st, Mem.le.refl G, hr, hq, hz, hnd, hf, rfl⟩
  | (i, x) :: ps, (j, y) :: ps', zs, cells, bs, k, G, σ, st, hr, ho, hq, hz, hnd, hf, hpl => by
    simp only [partsOk, Bool.and_eq_true, beq_iff_eq] at ho
    obtain ⟨⟨rfl, ho⟩, hos⟩ := ho
    obtain ⟨u, bu, G', σ', st', hG, hr', h1, ⟨g1, g2, g3, g4⟩, g5, g6⟩ := takeD_rep2 hr ho hq
    cases hzi : zs[i]? with
    | none => simp only [hzi] at h1; exact h1.elim
    | some z =>
      simp only [hzi] at h1
      obtain ⟨hsz, h1⟩ := h1
      obtain ⟨c1, c, c2, b1, b, b2, e1, rfl, e2, e3, hset, _⟩ := RepDs.nth hz hzi
      have hcl : c.length = (a.eval x).cells.size := by
        rw [RepD.length e3, ← hsz, ← RepD.length g1]
        simp
      have hfold := fill_one (v := a.eval x) (off := dsizes (zs.take i)) e1 e2 hcl
      have hplace := hpl i z hzi
      have hbu : ∀ x ∈ bu, x ∉ b1 ++ b ++ b2 := fun x hx hm => g5 x hx (hf x hm).2.2.1
      obtain ⟨n1, n2⟩ := nodup_swap hnd g3 fun x hx => .inr (hbu x hx)
      obtain ⟨zs', cells', bs', G'', σ'', st'', hG', hr'', h2, h3, h4, h5, h6⟩ := fill_partsD (place := place) hr' hos h1 (bs := b1 ++ bu ++ b2) (cells := (a.eval x).cells.zipIdx.foldl (fun (cs : Array Value) (p : Value × Nat) => cs.setIfInBounds (dsizes (zs.take i) + p.2) p.1) cells)
        (by rw [hfold]; exact hset G' w u _ bu hG g1 fun _ _ => rfl) n1 (fun x hx => by
          rcases (n2 x).1 hx with ⟨hm, _⟩ | hm
          · obtain ⟨k1, k2, k3, k4⟩ := hf x hm
            obtain ⟨q1, q2⟩ := g6 x k3 k1
            exact ⟨q2, k2, q1, k4⟩
          · exact g4 x hm) (by
          intro i' z' hz'
          have hi : i < zs.length := (List.getElem?_eq_some_iff.1 hzi).1
          rw [dsizes_set hzi hsz]
          by_cases hii : i' = i
          · subst hii
            rw [List.getElem?_set_self hi] at hz'
            cases hz'
            rw [hplace, hsz]
          · rw [List.getElem?_set_ne (Ne.symm hii)] at hz'
            rw [hpl i' z' hz'])
      refine ⟨zs', cells', bs', G'', σ'', st'', hG.trans hG', hr'', h2, h3, h4, h5, ?_⟩
      simp only [List.map_cons, Instr.fill, hplace]
      have hszc : (a.eval x).cells.size = z.size := by rw [← hcl, RepD.length e3]
      have hle : ¬ (dsizes (zs.take i) + (a.eval x).cells.size > cells.size) := by
        have : cells.size = cells.toList.length := by simp
        rw [this, e1, ← e2, ← hcl]
        simp
      rw [if_neg (by simp [hszc] at hle ⊢; omega)]
      exact h6
  | [], _ :: _, _, _, _, _, _, _, _, _, ho, _, _, _, _, _ => by cases ho
  | _ :: _, [], _, _, _, _, _, _, _, _, ho, _, _, _, _, _ => by simp [partsOk] at ho

theorem sound_buildD {o : Oper} {d : Nat} {t : TypeId} {ps : Array (Nat × Operand)} {zs : List D} {ps' : List (Nat × Opd)} (hd : o.dst = some d) (ho : o.op = .build t ps) (hp : partsOk N ps.toList ps' = true) (ht : buildOkD P t zs = true) :
    Sound P N o (semBuildD d zs ps') := by
  intro G σ Fr w0 st a w Q next E hN hr hw hn hdst
  subst hN
  unfold buildOkD at ht
  split at ht
  · rename_i fs i hu hi
    simp only [Bool.and_eq_true, beq_iff_eq] at ht
    obtain ⟨⟨hz, hlen⟩, hall⟩ := ht
    cases hzv : i.zero with
    | none => simp [hzv] at hz
    | some z =>
      simp only [hzv] at hz
      have hz' : ∃ c, z.cells.toList = c ++ [] ∧ RepDs G w zs c [] := by
        split at hz
        · rename_i h; exact zDs_spec G w zs _ _ h
        · cases hz
      obtain ⟨c, hc, hz'⟩ := hz'
      rw [List.append_nil] at hc
      subst hc
      have hfield : ∀ j f zz, fs[j]? = some f → zs[j]? = some zz → f.offset = dsizes (zs.take j) ∧ (sizeOf f.type).run P w = .ok zz.size w := by
        intro j f zz hf hzz
        have hj : j < zs.length := (List.getElem?_eq_some_iff.1 hzz).1
        have := List.all_eq_true.1 hall j (List.mem_range.2 hj)
        simp only [hf, hzz, Bool.and_eq_true, beq_iff_eq] at this
        obtain ⟨h1, h2⟩ := this
        refine ⟨h1, ?_⟩
        cases hfi : P.info? f.type with
        | none => simp [hfi] at h2
        | some jn =>
          simp only [hfi, beq_iff_eq] at h2
          simp [sizeOf, typeInfo, hfi, h2]
      let szf : Field → Nat := fun f => ((P.info? f.type).map (·.size)).getD 0
      have hszf : ∀ f ∈ fs.toList, (sizeOf f.type).run P w = .ok (szf f) w := by
        intro f hf
        obtain ⟨j, hj⟩ := List.mem_iff_getElem?.1 hf
        have hj' : j < zs.length := by
          have := (List.getElem?_eq_some_iff.1 hj).1
          simp at this; omega
        have h2 := (hfield j f zs[j] (by simpa using hj) (List.getElem?_eq_getElem hj')).2
        cases hfi : P.info? f.type with
        | none => simp [sizeOf, typeInfo, hfi] at h2
        | some jn => simp [sizeOf, typeInfo, hfi, szf]
      have hplaces : ∀ j zz, zs[j]? = some zz → (fs.toList.map fun f => (f.offset, szf f)).toArray[j]? = some (dsizes (zs.take j), zz.size) := by
        intro j z0 hzj
        have hj : j < zs.length := (List.getElem?_eq_some_iff.1 hzj).1
        have hjf : fs[j]? = some (fs[j]'(by omega)) := Array.getElem?_eq_getElem (by omega)
        obtain ⟨h1, h2⟩ := hfield j _ z0 hjf hzj
        have h3 := hszf _ (by simp : fs[j]'(by omega) ∈ fs.toList)
        rw [h2] at h3
        have h4 : z0.size = szf (fs[j]'(by omega)) := by injection h3
        simp [hjf, h1, h4]
      obtain ⟨zs', cells', bs', G', σ', st', hG, hr', h2, h3, h4, h5, h6⟩ := fill_partsD (place := fun j => (fs.toList.map fun f => (f.offset, szf f)).toArray[j]?) hr hp hw hz' List.nodup_nil (by simp) hplaces
      obtain ⟨σ2, st2, r1, r2⟩ := hr'.adopt (P := P) (hdst d hd) (c := .agg cells') ⟨bs', RepD.mkSt.2 h3, by rw [mkSt_isAgg]; rfl, h4, h5⟩ h2
      refine wp_value (w' := w) ?_ (by rw [hd]; exact hn G' σ2 st2 _ w hG r1 r2)
      have hm := mapM_places (P := P) (w := w) hszf
      have hparts : (ps.map fun (p : Nat × Operand) => (p.1, a.eval p.2)).toList = ps.toList.map fun p => (p.1, a.eval p.2) := by simp
      have hm' : (fs.mapM fun f => (do pure (f.offset, ← sizeOf f.type) : Sem (Nat × Nat))).run P w = .ok (fs.toList.map fun f => (f.offset, szf f)).toArray w := by
        rw [Array.mapM_eq_mapM_toList, Sem.run_map, hm]
        rfl
      have hzero : (zeroValue t).run P w = .ok z w := by simp [zeroValue, typeInfo, hi, hzv]
      simp only [execOp, ho, Instr.build, Sem.run_bind, hzero, Result.andThen, run_underlying hu, hm', hparts, h6, Sem.run_pure]
  · cases ht

theorem replicate_repD {z : I} {c : List Value} (h : RepI G z c) (n : Nat) : RepDs G w (List.replicate n (.it z)) (List.replicate n c).flatten [] := by
  have := replicate_rep h n
  rw [← List.map_replicate]
  exact RepDs.its.2 ⟨this, rfl⟩
theorem sound_bsliceD {o : Oper} {d : Nat} {t e : TypeId} {sz n : Nat} {z : I} {ps : Array (Nat × Operand)} {ps' : List (Nat × Opd)} (hd : o.dst = some d) (ho : o.op = .buildSlice t n ps) (hp : partsOk N ps.toList ps' = true) (ht : bsliceOk P t e sz z n = true) :
    Sound P N o (semBSliceD d e sz z n ps') := by
  intro G σ Fr w0 st a w Q next E hN hr hw hn hdst
  subst hN
  unfold bsliceOk at ht
  split at ht
  · rename_i e' hu
    simp only [Bool.and_eq_true, beq_iff_eq, bne_iff_ne, ne_eq, decide_eq_true_eq] at ht
    obtain ⟨⟨⟨rfl, hn4⟩, hn0⟩, ht⟩ := ht
    split at ht
    · rename_i i hi
      simp only [Bool.and_eq_true, beq_iff_eq, bne_iff_ne, ne_eq, decide_eq_true_eq] at ht
      obtain ⟨⟨⟨⟨rfl, h0⟩, hs4⟩, hzsz⟩, ht⟩ := ht
      split at ht
      · rename_i v hv
        simp only [Bool.and_eq_true, beq_iff_eq] at ht
        obtain ⟨hvs, hz⟩ := ht
        have hz' : ∃ c, v.cells.toList = c ++ [] ∧ RepI G z c := by
          split at hz
          · rename_i h; exact zI_spec G z _ _ h
          · cases hz
        obtain ⟨c, hc, hz'⟩ := hz'
        rw [List.append_nil] at hc
        subst hc
        have hcells0 : RepDs G w (List.replicate n (.it z)) ((Array.range (n * i.size)).map (fun j => v.cells[j % v.cells.size]!)).toList [] := by
          rw [zeros_list hvs]
          exact replicate_repD hz' n
        have hplace : ∀ (j : Nat) (zz : D), (List.replicate n (D.it z))[j]? = some zz → (fun j : Nat => some (j * i.size, i.size)) j = some (dsizes ((List.replicate n (D.it z)).take j), zz.size) := by
          intro j zz hzz
          have hj : j < n := by have := (List.getElem?_eq_some_iff.1 hzz).1; simpa using this
          have hzz' : zz = .it z := by rw [List.getElem?_replicate, if_pos hj] at hzz; cases hzz; rfl
          subst hzz'
          rw [elems_take (sz := i.size) (by intro x hx; rw [List.eq_of_mem_replicate hx]; exact hzsz) (by simp; omega)]
          simp [D.size, hzsz]
        obtain ⟨l, cells, bs', G', σ', st', hG, hr', h2, h3, h3n, h3f, h4⟩ := fill_partsD (place := fun j => some (j * i.size, i.size)) hr hp hw hcells0 List.nodup_nil (by simp) hplace
        obtain ⟨⟨hl, hsz⟩, h2⟩ := h2
        have hclen : cells.size = n * i.size := by
          have := RepDs.length h3
          rw [elems_size hsz, hl] at this
          simpa using this
        have hnm : n ≤ maxLen := by simp only [maxLen]; omega
        have hg : Rel G' σ' Fr w0 st' a (w.alloc (.cells cells e')) := hr'.grow rfl rfl rfl (by simp) fun b hb => heap_old w _ b hb
        obtain ⟨f1, f2, f3⟩ := hr'.wok.fresh (Nat.le_refl w.heap.size)
        obtain ⟨σ'', st'', r1, r2⟩ := hg.adopt (P := P) (hdst d hd) (c := .slice (some ⟨w.heap.size, 0, none⟩) n n) ⟨w.heap.size :: bs', by
          simp only [RepD, Value.cells]
          refine .inr ⟨w.heap.size, n, cells, cells.toList, bs', by rw [hl], Row.of (heap_alloc_new w _), by rw [hl]; exact Nat.le_refl _, hnm, hclen, ?_, h3.tr (Mem.le.refl G') fun b hb => heap_old w _ b (h3f b hb).2.2.2, hsz, rfl⟩
          rw [hl, ← hclen]
          have : cells.size = cells.toList.length := by simp
          rw [this, List.take_length], rfl, List.nodup_cons.2 ⟨fun hb => by have := (h3f _ hb).2.2.2; omega, h3n⟩, fun b hb => by
          rcases List.mem_cons.1 hb with rfl | hb
          · exact ⟨f1, f2, f3, by simp⟩
          · obtain ⟨k1, k2, k3, k4⟩ := h3f b hb
            exact ⟨k1, k2, k3, by simp; omega⟩⟩ h2
        have hbig : ¬ (n * i.size > 2 ^ 24) := by
          have : n * i.size ≤ 4096 * 4096 := Nat.mul_le_mul hn4 hs4
          omega
        have hparts : (ps.map fun (p : Nat × Operand) => (p.1, a.eval p.2)).toList = ps.toList.map fun p => (p.1, a.eval p.2) := by simp
        have hzero : (zeroValue e').run P w = .ok v w := by simp [zeroValue, typeInfo, hi, hv]
        have hsizeOf : (sizeOf e').run P w = .ok i.size w := by simp [sizeOf, typeInfo, hi]
        refine wp_value (w' := w.alloc (.cells cells e')) ?_ (by rw [hd]; exact hn G' σ'' st'' _ _ hG r1 r2)
        have hne : n * i.size ≠ 0 := Nat.mul_ne_zero hn0 h0
        have h4' : Instr.fill (fun j => some (j * i.size, i.size)) ((Array.range (n * i.size)).map (fun j => v.cells[j % v.cells.size]!)) (ps.toList.map fun p => (p.1, a.eval p.2)) = some cells := h4
        simp only [execOp, ho, Instr.buildSlice, Sem.run_bind, run_underlying hu, Result.andThen, hsizeOf]
        rw [if_neg hbig, if_neg hne]
        simp only [Sem.run_bind, hzero, Result.andThen, Sem.run_pure, hparts, h4']
        simp [newRow]
      · cases ht
    · cases ht
  · cases ht
theorem RepDs.append {l m : List D} {cs ds : List Value} {bs bs' : List Nat} (h : RepDs G w l cs bs) (h' : RepDs G w m ds bs') : RepDs G w (l ++ m) (cs ++ ds) (bs ++ bs') := by
  induction l generalizing cs bs with
  | nil =>
    simp only [RepDs] at h
    obtain ⟨rfl, rfl⟩ := h
    exact h'
  | cons x l ih =>
    simp only [RepDs] at h
    obtain ⟨c, c', b, b', rfl, rfl, h1, h2⟩ := h
    simp only [List.cons_append, RepDs]
    exact ⟨c, c' ++ ds, b, b' ++ bs', by simp, by simp, h1, ih h2⟩
/-- What is appended: where its cells lie. -/
theorem elems_cells {u : D} {ys : List D} {c : Value} {bs : List Nat} {sz : Nat} (h : FreeB G σ Fr w u c bs) (hok : WOk G σ Fr w0 w) (he : elemsD u = some ys) (hsz : ∀ u ∈ ys, u.size = sz) :
    ∃ ad cap, c = .slice ad ys.length cap ∧ ((ad = none ∧ ys = []) ∨ ∃ A news bn, ad = some A ∧ news.length = ys.length * sz ∧ RepDs G w ys news bn ∧ bn.Nodup ∧ (∀ b ∈ bn, b ∈ bs) ∧ ∀ j u, news[j]? = some u → w.cell? (A.add j) = some u) := by
  obtain ⟨h1, h2, h3, h4⟩ := h
  cases u with
  | vec e sz' l =>
    simp only [elemsD, Option.some.injEq] at he
    subst he
    rw [valOf_one h2] at h1
    simp only [RepD] at h1
    rcases h1 with ⟨e1, rfl, _⟩ | ⟨g, cap, cur, xs, bs', e1, ⟨ty, fz, q1, _⟩, q2, q3, q4, q5, q6, q7, rfl⟩
    · injection e1 with e1
      exact ⟨none, 0, e1, .inl ⟨rfl, rfl⟩⟩
    · injection e1 with e1
      refine ⟨_, cap, e1, .inr ⟨_, xs, bs', rfl, ?_, q6, (List.nodup_cons.1 h3).2, fun b hb => by simp [hb], ?_⟩⟩
      · rw [RepDs.length q6, elems_size hsz]
      · intro j u hj
        rw [add_lit, Nat.zero_add, cell_of_row w g j cur ty fz q1]
        have : cur[j]? = cur.toList[j]? := by simp
        rw [this, ← q5] at *
        rw [List.getElem?_take] at hj
        split at hj
        · exact hj
        · cases hj
  | it x =>
    cases x with
    | list l =>
      simp only [elemsD, Option.some.injEq] at he
      subst he
      simp only [RepD] at h1
      obtain ⟨h1, rfl⟩ := h1
      rw [valOf_one h2] at h1
      have hv : RepV G (.list l) c := by
        unfold RepV
        rw [if_neg (by simp [I.isAgg])]
        exact h1
      obtain ⟨ad, cap, hc, hlc, hcm, hcase⟩ := RepV.list.1 hv
      refine ⟨ad, cap, by simpa using hc, ?_⟩
      rcases hcase with rfl | ⟨b, off, bl, ty, fz, sz', rfl, hg, hsz', hle, hrep⟩
      · cases ad with
        | none => exact .inl ⟨rfl, rfl⟩
        | some A => exact .inr ⟨A, [], [], rfl, by simp, by simp [RepDs], List.nodup_nil, by simp, by simp⟩
      · cases l with
        | nil => exact .inr ⟨_, [], [], rfl, by simp, by simp [RepDs], List.nodup_nil, by simp, by simp⟩
        | cons y0 l' =>
          have hszz : sz' = sz := by
            rw [← hsz' y0 (by simp)]
            exact hsz (.it y0) (by simp)
          subst hszz
          refine .inr ⟨_, _, [], rfl, ?_, RepDs.its.2 ⟨hrep, rfl⟩, List.nodup_nil, by simp, ?_⟩
          · rw [List.length_take, List.length_drop, Nat.min_eq_left]
            · simp
            · have : bl.toList.length = bl.size := by simp
              omega
          · intro j u hj
            have hh := hok.fixed b _ hg
            rw [add_lit, cell_of_row w b (off + j) bl ty fz hh]
            have : bl[off + j]? = bl.toList[off + j]? := by simp
            rw [this]
            rw [List.getElem?_take] at hj
            split at hj
            · rwa [List.getElem?_drop] at hj
            · cases hj
    | _ => simp [elemsD] at he
  | _ => simp [elemsD] at he
theorem sound_appD {o : Oper} {d : Nat} {t e : TypeId} {x y : Operand} {x' y' : Opd} {sz bytes : Nat} (hd : o.dst = some d)
    (ho : o.op = .call { callee := .builtin .append, args := #[x, y], argTypes := #[t, t] }) (hx : opdOk N x x' = true) (hy : opdOk N y y' = true) (ht : appOk P t e sz bytes = true) :
    Sound P N o (semAppD d e sz bytes x' y') := by
  intro G0 σ0 Fr w0 st0 a w Q next E hN hr hw hn hdst
  subst hN
  obtain ⟨u, bu, G1, σ1, st1, hG1, hr1, h1, hfu, _, _⟩ := takeD_rep2 hr hy hw
  obtain ⟨v, bv, G, σ, st, hG2, hr2, h2, hfv, hlv, hk2⟩ := takeD_rep2 hr1 hx h1
  have hG : G0.le G := hG1.trans hG2
  clear hw h1
  have hfu1 := hfu
  replace hfu := hfu.later hG2 hk2
  split at h2
  · rename_i e' sz' l ys hys
    obtain ⟨⟨rfl, rfl, hby, hmax, hsz, hbig⟩, h2⟩ := h2
    obtain ⟨v1, v2, v3, v4⟩ := hfv
    rw [valOf_one v2] at v1
    obtain ⟨ad, cap, hcy, hcase⟩ := elems_cells hfu hr2.wok hys hsz
    have hdis : ∀ b ∈ bu, b ∉ bv := fun b hb hb' => hlv b hb' (hfu1.2.2.2 b hb).2.2.1
    unfold appOk at ht
    split at ht
    · rename_i e'' hu
      simp only [Bool.and_eq_true, beq_iff_eq] at ht
      obtain ⟨rfl, ht⟩ := ht
      split at ht
      · rename_i i hi
        simp only [Bool.and_eq_true, beq_iff_eq, bne_iff_ne, ne_eq] at ht
        obtain ⟨⟨⟨rfl, rfl⟩, h0⟩, ht⟩ := ht
        split at ht
        · rename_i z hz
          simp only [beq_iff_eq] at ht
          have exec : ∀ {v' w'}, (Builtin.append_ #[t, t] o.type #[a.eval x, a.eval y]).run P w = .ok v' w' → (execOp a.eval o).run P w = .ok (.value v') w' := by
            intro v' w' hrun
            simp [execOp, ho, resolve, invoke, builtin, hrun]
          -- the row of what is appended to
          obtain ⟨xs, bx, hown, hxs, hxsz, hbx, hrowb⟩ : ∃ xs bx, w.ownsRow 0 e'' i.size (a.eval x) l.length xs ∧ RepDs G w l xs bx ∧ (∀ x ∈ l, x.size = i.size) ∧ bx.Nodup ∧
              ∀ b, (b ∈ bx ∨ (a.eval x).ownBlock = some b) → (b ∈ bv ∧ (b ∈ bx → (a.eval x).ownBlock ≠ some b)) := by
            simp only [RepD] at v1
            rcases v1 with ⟨e1, rfl, rfl⟩ | ⟨g, cp, cur, xs, bs', e1, q1, q2, q3, q4, q5, q6, q7, rfl⟩
            · injection e1 with e1
              rw [e1]
              exact ⟨[], [], (OwnsR.nil w e'' i.size).to hbig, by simp [RepDs], by simp, List.nodup_nil, by simp [Value.ownBlock]⟩
            · injection e1 with e1
              rw [e1]
              refine ⟨xs, bs', ⟨by rw [RepDs.length q6, elems_size q7], .inr ⟨g, cp, cur, rfl, Nat.zero_le _, q1.to hbig, q2, q3, q4, q5⟩⟩, q6, q7, (List.nodup_cons.1 v3).2, ?_⟩
              intro b hb
              simp only [Value.ownBlock, Option.some.injEq] at hb ⊢
              rcases hb with hb | rfl
              · exact ⟨by simp [hb], fun _ e => by cases e; exact (List.nodup_cons.1 v3).1 hb⟩
              · exact ⟨by simp, fun h e => (List.nodup_cons.1 v3).1 h⟩
          have fin : ∀ {v' : Value} {w' : World} {row : Option Nat} {news : List Value} {bn : List Nat}, (Builtin.append_ #[t, t] o.type #[a.eval x, a.eval y]).run P w = .ok v' w' → w.grownBy w' row → row = (a.eval x).ownBlock →
              RepDs G w ys news bn → bn.Nodup → (∀ b ∈ bn, b ∈ bu) → w'.ownsRow 0 e'' i.size v' (l.length + ys.length) (xs ++ news) → (v'.ownBlock = (a.eval x).ownBlock ∨ v'.ownBlock = some w.heap.size) → o.wp P a w next E := by
            intro v' w' row news bn hrun hgr hrow hy1 hy2 hy3 hq1 hq2
            have hrowfree : ∀ b, row = some b → G b = none ∧ Fr b = none ∧ σ b = none := fun b hb => by
              obtain ⟨k1, k2, k3, _⟩ := v4 b (hrowb b (.inr (by rw [← hrow]; exact hb))).1
              exact ⟨k1, k2, k3⟩
            have hr3 := hr2.turned hgr hrowfree
            have hnest : ∀ b ∈ bx ++ bn, (G b = none ∧ Fr b = none ∧ σ b = none ∧ b < w.heap.size) ∧ (a.eval x).ownBlock ≠ some b := by
              intro b hb
              rcases List.mem_append.1 hb with hb | hb
              · obtain ⟨k1, k2⟩ := hrowb b (.inl hb)
                exact ⟨v4 b k1, k2 hb⟩
              · refine ⟨hfu.2.2.2 b (hy3 b hb), fun e => ?_⟩
                exact hdis b (hy3 b hb) (hrowb b (.inr e)).1
            have hsame : ∀ b ∈ bx ++ bn, w'.heap[b]? = w.heap[b]? := fun b hb => hgr.block b (hnest b hb).1.2.2.2 (by rw [hrow]; exact fun e => (hnest b hb).2 e.symm)
            have hnd : (bx ++ bn).Nodup := by
              rw [List.nodup_append]
              refine ⟨hbx, hy2, fun b hb c hc e => ?_⟩
              subst e
              exact hdis b (hy3 b hc) (hrowb b (.inl hb)).1
            have hrep : RepDs G w' (l ++ ys) (xs ++ news) (bx ++ bn) := (hxs.append hy1).tr (Mem.le.refl G) hsame
            have hszs : ∀ z ∈ l ++ ys, z.size = i.size := by
              intro z hz
              rcases List.mem_append.1 hz with hz | hz
              · exact hxsz z hz
              · exact hsz z hz
            have hFB : FreeD G σ Fr w' (.vec e'' i.size (l ++ ys)) v' := by
              have hq1' := OwnsR.of hq1
              rcases hq1'.2 with ⟨rfl, hl0⟩ | ⟨g, cp, cur, rfl, _, k1, k2, k3, k4, k5⟩
              · have hl : l = [] := List.eq_nil_of_length_eq_zero (by omega)
                have hyl : ys = [] := List.eq_nil_of_length_eq_zero (by omega)
                subst hl hyl
                exact ⟨[], by simp [RepD, Value.cells], rfl, List.nodup_nil, by simp⟩
              · refine ⟨g :: (bx ++ bn), ?_, rfl, List.nodup_cons.2 ⟨fun hb => ?_, hnd⟩, fun b hb => ?_⟩
                · simp only [RepD, Value.cells]
                  exact .inr ⟨g, cp, cur, xs ++ news, bx ++ bn, by simp, k1, by simpa using k2, k3, k4, by simpa using k5, hrep, hszs, rfl⟩
                · rcases hq2 with h | h
                  · exact (hnest g hb).2 h.symm
                  · simp only [Value.ownBlock, Option.some.injEq] at h
                    have := (hnest g hb).1.2.2.2
                    omega
                · rcases List.mem_cons.1 hb with rfl | hb
                  · have hlt : b < w'.heap.size := by
                      obtain ⟨_, _, k, _⟩ := k1
                      exact (Array.getElem?_eq_some_iff.1 k).1
                    rcases hq2 with h | h
                    · obtain ⟨q1, q2, q3, _⟩ := v4 b (hrowb b (.inr h.symm)).1
                      exact ⟨q1, q2, q3, hlt⟩
                    · simp only [Value.ownBlock, Option.some.injEq] at h
                      obtain ⟨q1, q2, q3⟩ := hr2.wok.fresh (Nat.le_of_eq h.symm)
                      exact ⟨q1, q2, q3, hlt⟩
                  · obtain ⟨q1, q2, q3, q4⟩ := (hnest b hb).1
                    exact ⟨q1, q2, q3, Nat.lt_of_lt_of_le q4 hgr.size⟩
            obtain ⟨σ', st', r1, r2⟩ := hr3.adopt (P := P) (hdst d hd) hFB h2
            exact wp_value (exec hrun) (by rw [hd]; exact hn G σ' st' _ w' hG r1 r2)
          have hgrow0 : w.grownBy w (a.eval x).ownBlock := ⟨rfl, rfl, rfl, Nat.le_refl _, fun _ _ _ => rfl⟩
          rcases hcase with ⟨rfl, rfl⟩ | ⟨A, news, bn, rfl, hl, hrep, hbn, hbu, hcells⟩
          · have hrun := run_append_of_nil' (P := P) t o.type e'' i.size hu hi (a.eval x) l.length xs hown cap
            rw [show Value.slice none 0 cap = a.eval y from hcy.symm] at hrun
            exact fin (news := []) (bn := []) hrun hgrow0 rfl (by simp [RepDs]) List.nodup_nil (by simp) (by simpa using hown) (.inl rfl)
          · obtain ⟨v', w', hrun, q1, q2, _, q3⟩ := run_append_own_at (P := P) w 0 t o.type e'' i z i.size i.bytes hu hi hz rfl rfl ht (by omega) (a.eval x) l.length xs hown A ys.length cap news hl hcells (RepDs.one hrep) hmax hby (Nat.zero_le _)
            rw [show Value.slice (some A) ys.length cap = a.eval y from hcy.symm] at hrun
            exact fin hrun q2 rfl hrep hbn hbu q1 q3
        · cases ht
      · cases ht
    · cases ht
  · exact h2.elim
end
end Go.Ab

namespace Go.Ab
open Go.Op
def semFldD (d : Option Nat) (agg : Bool) (sz : Nat) (x : Opd) (i off : Nat) : M := match x with
  | .t n => .get n fun ver sv => match sv with
    | .own _ t => match fldOff t i, t.kid i with
      | some o, some u => .need (o = off) fun _ => match u with
        | .it y => .need (y.isAgg = agg ∧ y.size = sz) fun _ => setD d (.v y) .done
        | .vec _ _ _ => .need (agg = false ∧ sz = 1 ∧ d ≠ some n) fun _ => setD d (.bd n ver [i]) .done
        | .map _ _ => .need (agg = false ∧ sz = 1 ∧ d ≠ some n) fun _ => setD d (.bd n ver [i]) .done
        | .ptr _ => .need (agg = false ∧ sz = 1 ∧ d ≠ some n) fun _ => setD d (.pd n ver [i, 0]) .done
        | .st _ => .fail
      | _, _ => .fail
    | _ => .fail
  | _ => .fail
def semExtD (d : Nat) (x : Opd) (i : Nat) : M := match x with
  | .t n => .get n fun ver sv => match sv with
    | .tupd l => match l[i]? with
      | some u => match u with
        | .it y => setN d (.v y)
        | u => .need (n ≠ d ∧ u.whole = true) fun _ => .set n (ver + 1) (.tupd (l.set i u.husk)) (setN d (.own [] u))
      | none => .fail
    | _ => .fail
  | _ => .fail
def semExt2 (d : Nat) (x : Opd) (i : Nat) : M := match x with
  | .t n => .get n fun _ sv => match sv with
    | .tupd _ => semExtD d x i
    | _ => semExt d x i
  | _ => semExt d x i
def semSlcD (d : Option Nat) (str : Bool) (sz : Nat) (x : Opd) (lo hi : Option Opd) : M := takeV x fun u => match u with
  | .list l => rdB lo 0 fun i => rdB hi l.length fun j => .need (str = false ∧ 0 ≤ i ∧ i ≤ j ∧ j ≤ l.length ∧ ∀ u ∈ l, u.size = sz) fun _ => setD d (.v (.list ((l.take j.toNat).drop i.toNat))) .done
  | _ => .fail
section
variable {P : Program} {N : Nat} {G : Mem} {σ : Lab} {Fr : Mem} {w0 : Base} {w : World} {st : St} {a : Act}

theorem sound_slcD {o : Oper} {t : TypeId} {x : Operand} {lo hi : Option Operand} {x' : Opd} {lo' hi' : Option Opd} {str : Bool} {sz : Nat} (ho : o.op = .slice t x lo hi none) (hx : opdOk N x x' = true)
    (hlo : oOk N lo lo' = true) (hhi : oOk N hi hi' = true) (ht : slcOk P t str sz = true) : Sound P N o (semSlcD o.dst str sz x' lo' hi') := by
  intro G0 σ0 Fr w0 st0 a w Q next E hN hr0 hw hn hdst
  subst hN
  have hsl : str = false → ∃ e i, P.underlying t = some (.slice e) ∧ P.info? e = some i ∧ i.size = sz := by
    rintro rfl
    unfold slcOk at ht
    split at ht
    · cases ht
    · rename_i e h
      split at ht
      · rename_i i hi; exact ⟨e, i, h, hi, by simpa using ht⟩
      · cases ht
    · cases ht
  obtain ⟨u, G, σ, st, hG, hr, h0, hrep⟩ := takeV_rep hr0 hx hw
  split at h0
  · rename_i l
    obtain ⟨i, h1, hi1⟩ := rdB_rep hr hlo h0
    obtain ⟨j, h2, hj1⟩ := rdB_rep hr hhi h1
    obtain ⟨⟨k1, k2, k3, k4, k5⟩, h3⟩ := h2
    obtain ⟨e, i0, hu, hi0, hsz⟩ := hsl k1
    have hrep' : RepV G (.list l) (a.eval x) := hrep
    obtain ⟨ad, cap, hc, hlc, _⟩ := RepV.list.1 hrep'
    have hb := sliceBounds_run (P := P) (isSlice := true) (len := l.length) (cap := cap) w hi1 hj1 k2 k3 k4 hlc
    rw [hc] at hrep'
    have hv := RepV.sliced (i := i.toNat) (j := j.toNat) (sz := sz) hrep' (by omega) (by omega) fun _ => k5
    refine done_v hr (fun G'' σ'' st'' a' w' hG'' => hn G'' σ'' st'' a' w' (hG.trans hG'')) hdst hv h3 ?_
    simp [execOp, ho, Instr.sliceAt, Instr.slice, run_underlying hu, hc, hb, sizeOf, typeInfo, hi0, hsz]
  · exact h0.elim

theorem part_cells {arr : Array Value} {pre cs post : List Value} {t : TypeId} {agg : Bool} (h : arr.toList = pre ++ cs ++ post) (ht : tyOk P t agg cs.length = true) :
    (agg = true → (part t arr pre.length).run P w = .ok (.agg cs.toArray) w) ∧ ∀ c, agg = false → cs = [c] → (part t arr pre.length).run P w = .ok c w := by
  obtain ⟨g1, g2⟩ := isAgg_run ht w
  constructor
  · rintro rfl
    have : arr.extract pre.length (pre.length + cs.length) = cs.toArray := by
      apply Array.ext'
      rw [Array.toList_extract, h, List.extract_eq_take_drop, Nat.add_sub_cancel_left, List.append_assoc, List.drop_left, List.take_left]
    simp [part, g1, g2, this]
  · rintro c rfl rfl
    have hv : arr[pre.length]? = some c := by
      have : arr[pre.length]? = arr.toList[pre.length]? := by simp
      rw [this, h]
      simp
    simp [part, g1, hv]
theorem sound_fldD {o : Oper} {t : TypeId} {x : Operand} {x' : Opd} {i off sz : Nat} {agg : Bool} (ho : o.op = .field t x i) (hx : opdOk N x x' = true) (ht : fldOk P t i off agg sz = true) :
    Sound P N o (semFldD o.dst agg sz x' i off) := by
  intro G σ Fr w0 st a w Q next E hN hr hw hn hdst
  subst hN
  cases x' with
  | c _ => exact hw.elim
  | nils _ _ => exact hw.elim
  | t n =>
    obtain ⟨rfl, hnlt⟩ := opdOk_t hx
    simp only [semFldD, M.wp] at hw
    cases hs : st[n]? with
    | none => simp [hs] at hw
    | some cur =>
      obtain ⟨ver, sv⟩ := cur
      simp only [hs] at hw
      have hrep := hr.slot hnlt hs
      have hvv : val a w0 n = a.eval (.tmp n) := val_tmp (by rw [hr.n]; exact hnlt)
      split at hw
      · rename_i inv tr
        split at hw
        · rename_i o' u hof hk
          obtain ⟨rfl, hw⟩ := hw
          have hown : OwnD G σ w n tr (val a w0 n) := by rw [hvv]; exact hrep
          obtain ⟨bs, r1, r2, r3, r4⟩ := hown
          have htag : tr.isAgg = true := by
            cases tr with
            | it y => cases y <;> first | rfl | (simp [fldOff] at hof)
            | st l => rfl
            | _ => simp [fldOff] at hof
          rw [htag] at r2
          obtain ⟨arr, hc⟩ := valOf_agg r2
          obtain ⟨m, s', ybs, q1, q2, q3, q4, q5, q6, q7, q8⟩ := kid_step r1 r3 hk none
          obtain ⟨y0, cs', p1, p2⟩ := fldOff_spec (w := w) (b := 0) (o := 0) (cs := (val a w0 n).cells.toList) hof
          -- the place of the part
          obtain ⟨pre, post, harr, hpre⟩ : ∃ pre post, arr.toList = pre ++ s'.2 ++ post ∧ pre.length = o' := by
            rw [hc] at q1 q5
            cases tr with
            | it y =>
              cases y with
              | agg l =>
                simp only [fldOff] at hof
                cases hl : l[i]? with
                | none => simp [hl] at hof
                | some z =>
                  simp only [hl, Option.some.injEq] at hof
                  subst hof
                  simp only [RepD, RepI] at r1
                  rw [hc] at r1
                  obtain ⟨c1, c, c2, e1, e2, e3, _⟩ := RepIs.nth i r1.1 hl
                  simp only [kidSpot, hl, Option.some.injEq] at q1
                  have hcl := RepI.length _ _ e3
                  refine ⟨c1, c2, ?_, e2⟩
                  rw [← q1]
                  simp only [Value.cells] at e1 ⊢
                  rw [← e2, ← hcl]
                  rw [e1, drop_take_mid]
              | _ => simp [fldOff] at hof
            | st l =>
              simp only [fldOff] at hof
              cases hl : l[i]? with
              | none => simp [hl] at hof
              | some z =>
                simp only [hl, Option.some.injEq] at hof
                subst hof
                simp only [RepD] at r1
                rw [hc] at r1
                obtain ⟨c1, c, c2, b1, b, b2, e1, _, e2, e3, _⟩ := RepDs.nth r1 hl
                simp only [kidSpot, hl, Option.some.injEq] at q1
                have hcl := RepD.length e3
                refine ⟨c1, c2, ?_, e2⟩
                rw [← q1]
                simp only [Value.cells] at e1 ⊢
                rw [← e2, ← hcl]
                rw [e1, drop_take_mid]
            | _ => simp [fldOff] at hof
          have hev : a.eval (.tmp n) = .agg arr := by rw [← hvv]; exact hc
          have hlen := RepD.length q2
          unfold fldOk at ht
          split at ht
          · rename_i fs hus
            split at ht
            · rename_i f hf
              simp only [Bool.and_eq_true, beq_iff_eq] at ht
              obtain ⟨hoff, ht⟩ := ht
              have run : ∀ {v : Value}, (part f.type arr pre.length).run P w = .ok v w → (execOp a.eval o).run P w = .ok (.value v) w := by
                intro v hv
                rw [hpre, ← hoff] at hv
                simp [execOp, ho, hev, Instr.field, run_underlying hus, hf, asAgg, hv]
              have hspot : spot w [i] tr (none, (val a w0 n).cells.toList) = some s' := by
                simp only [spot, hk, q1]
              cases u with
              | it y =>
                obtain ⟨⟨rfl, rfl⟩, hw⟩ := hw
                simp only [RepD] at q2
                obtain ⟨v, hl, hv⟩ := part_run (P := P) (w := w) harr q2.1 ht
                exact done_v hr hn hdst hv hw (run hl)
              | vec e sz' l =>
                obtain ⟨⟨rfl, rfl, hne⟩, hw⟩ := hw
                obtain ⟨c, hc1⟩ := List.length_eq_one_iff.1 hlen
                rw [hc1] at harr
                have hl := (part_cells (P := P) (w := w) (t := f.type) (agg := false) harr (by exact ht)).2 c rfl rfl
                refine setD_bd hr hdst hs hn hne ⟨.vec e sz' l, s'.1, by simp only [D.at, hk], rfl, ?_⟩ (run hl) hw
                rw [hspot, ← hc1]
              | map ks vs =>
                obtain ⟨⟨rfl, rfl, hne⟩, hw⟩ := hw
                obtain ⟨c, hc1⟩ := List.length_eq_one_iff.1 hlen
                rw [hc1] at harr
                have hl := (part_cells (P := P) (w := w) (t := f.type) (agg := false) harr (by exact ht)).2 c rfl rfl
                refine setD_bd hr hdst hs hn hne ⟨.map ks vs, s'.1, by simp only [D.at, hk], rfl, ?_⟩ (run hl) hw
                rw [hspot, ← hc1]
              | ptr dd =>
                obtain ⟨⟨rfl, rfl, hne⟩, hw⟩ := hw
                simp only [RepD] at q2
                obtain ⟨b, cells, ty, bs', z1, z2, _⟩ := q2
                rw [z1] at harr
                have hl := (part_cells (P := P) (w := w) (t := f.type) (agg := false) harr (by exact ht)).2 _ rfl rfl
                refine setD_pd hr hdst hs hn hne ⟨dd, b, 0, cells.toList, by simp only [D.at, hk]; rfl, ?_, rfl⟩ (run hl) hw
                have hks : kidSpot w (.ptr dd) s' 0 = some (some (b, 0), cells.toList) := by
                  obtain ⟨sh, sc⟩ := s'
                  simp only at z1
                  subst z1
                  simp [kidSpot, z2]
                simp only [spot, hk, q1]
                rw [hks]
                rfl
              | st l => exact hw.elim
            · cases ht
          · cases ht
        · exact hw.elim
      · exact hw.elim

theorem sound_extD {o : Oper} {d i : Nat} {x : Operand} {x' : Opd} (hd : o.dst = some d) (ho : o.op = .extract x i) (hx : opdOk N x x' = true) : Sound P N o (semExtD d x' i) := by
  intro G σ Fr w0 st a w Q next E hN hr hw hn hdst
  subst hN
  cases x' with
  | c _ => exact hw.elim
  | nils _ _ => exact hw.elim
  | t n =>
    obtain ⟨rfl, hnlt⟩ := opdOk_t hx
    simp only [semExtD, M.wp] at hw
    cases hs : st[n]? with
    | none => simp [hs] at hw
    | some cur =>
      obtain ⟨ver, sv⟩ := cur
      simp only [hs] at hw
      have hrep := hr.slot hnlt hs
      split at hw
      · rename_i l
        obtain ⟨arr, bs, hc, h1, h2, h3⟩ := hrep
        split at hw
        · rename_i u hu
          obtain ⟨v, b1, b, b2, hv, rfl, hva, hrv, hset, _⟩ := RepVs.nth h1 hu
          have run : (execOp a.eval o).run P w = .ok (.value v) w := by
            have : arr[i]? = some v := by simpa using hv
            simp [execOp, ho, hc, Instr.extract, this]
          split at hw
          · rename_i y
            simp only [RepD] at hrv
            have hvy : RepV G y v := by
              unfold RepV
              simp only [D.isAgg] at hva
              split
              · rename_i hy
                rw [hy] at hva
                obtain ⟨a', rfl⟩ := valOf_agg hva
                exact ⟨a', rfl, hrv.1⟩
              · rename_i hy
                rw [show y.isAgg = false by simpa using hy] at hva
                rw [valOf_one hva] at hrv
                exact hrv.1
            obtain ⟨σ', st', r1, r2⟩ := hr.setNV (hdst d hd) hvy hw
            exact wp_value run (by rw [hd]; exact hn G σ' st' _ w (Mem.le.refl G) r1 r2)
          · obtain ⟨⟨hne, hwh⟩, hw⟩ := hw
            obtain ⟨hag, hsz, _⟩ := husk_shape hwh
            have hdis : ∀ z ∈ b1 ++ b2, z ∉ b := by
              intro z hz hb
              simp only [List.nodup_append, List.mem_append] at h2 hz
              rcases hz with hz | hz
              · exact h2.1.2.2 z hz z hb rfl
              · exact h2.2.2 z (.inr hb) z hz rfl
            have hr2 := Rel.self (new := .tupd (l.set i u.husk)) (ver := ver + 1) hr (hr.wok.shed (bs := b)) (Mem.le.refl G) hs (Nat.lt_succ_self _)
              (fun s' hs' z k' hz => ⟨Lab.shed_some.2 ⟨fun hm => by
                obtain ⟨kk, hkk⟩ := h3 z (by simp [hm])
                rw [hz] at hkk
                cases hkk
                exact hs' rfl, hz⟩, rfl⟩) (by
                refine ⟨arr, b1 ++ b2, ?_, ?_, ?_, ?_⟩
                · rw [← hc, val_tmp (by rw [hr.n]; exact hnlt)]
                · have := hset G w u.husk [] (Mem.le.refl G) (by rw [hag]; exact hva) (husk_rep hwh hrv G w) fun _ _ => rfl
                  simpa using this
                · simp only [List.nodup_append, List.mem_append] at h2 ⊢
                  exact ⟨h2.1.1, h2.2.1, fun x hx y hy => h2.2.2 x (.inl hx) y hy⟩
                · intro z hz
                  obtain ⟨kk, hkk⟩ := h3 z (by simp only [List.mem_append] at hz ⊢; rcases hz with h | h <;> simp [h])
                  exact ⟨kk, Lab.shed_some.2 ⟨hdis z hz, hkk⟩⟩)
            obtain ⟨σ', st', r1, r2⟩ := hr2.adopt (P := P) (hdst d hd) (c := v) ⟨b, hrv, hva, by
              simp only [List.nodup_append] at h2
              exact h2.1.2.1, fun z hz => by
              obtain ⟨kk, hkk⟩ := h3 z (by simp [hz])
              obtain ⟨k1, k2, k3⟩ := hr.wok.own z _ hkk
              exact ⟨k1, k2, by simp [Lab.shed, hz], k3⟩⟩ hw
            exact wp_value run (by rw [hd]; exact hn G σ' st' _ w (Mem.le.refl G) r1 r2)
        · exact hw.elim
      · exact hw.elim
theorem sound_ext2 {o : Oper} {d i : Nat} {x : Operand} {x' : Opd} (hd : o.dst = some d) (ho : o.op = .extract x i) (hx : opdOk N x x' = true) : Sound P N o (semExt2 d x' i) := by
  intro G σ Fr w0 st a w Q next E hN hr hw hn hdst
  have : (semExtD d x' i).wp P Q st ∨ (semExt d x' i).wp P Q st := by
    cases x' with
    | c _ => exact .inr hw
    | nils _ _ => exact .inr hw
    | t n =>
      simp only [semExt2, M.wp] at hw
      cases hs : st[n]? with
      | none => simp [hs] at hw
      | some cur =>
        simp only [hs] at hw
        split at hw
        · exact .inl hw
        · exact .inr hw
  rcases this with h | h
  · exact sound_extD hd ho hx G σ Fr w0 st a w Q next E hN hr h hn hdst
  · exact sound_ext hd ho hx G σ Fr w0 st a w Q next E hN hr h hn hdst
end
end Go.Ab

namespace Go.Ab
open Go.Op
def bitsI (op : BinOp) (k : IntKind) (x y : Int) : Int :=
  let a := BitVec.ofInt k.bits x
  let b := BitVec.ofInt k.bits y
  match op with
  | .and => k.wrap (a &&& b).toNat
  | .or => k.wrap (a ||| b).toNat
  | .xor => k.wrap (a ^^^ b).toNat
  | _ => k.wrap (a &&& ~~~b).toNat
def shlI (k : IntKind) (x y : Int) : Int := k.wrap (x * 2 ^ (min y.toNat k.bits))
def shrI (k : IntKind) (x y : Int) : Int := x.fdiv (2 ^ (min y.toNat k.bits))
/-- Bits, shifts, quotients. -/
def semBits (d : Option Nat) (op : BinOp) (x y : Opd) : M := rdI x fun i => rdI y fun j => match i, j with
  | .int ka a, .int kb b => match op with
    | .and => .need (ka = kb) fun _ => setD d (.v (.int ka (bitsI .and ka a b))) .done
    | .or => .need (ka = kb) fun _ => setD d (.v (.int ka (bitsI .or ka a b))) .done
    | .xor => .need (ka = kb) fun _ => setD d (.v (.int ka (bitsI .xor ka a b))) .done
    | .andNot => .need (ka = kb) fun _ => setD d (.v (.int ka (bitsI .andNot ka a b))) .done
    | .quo => .need (ka = kb ∧ b ≠ 0) fun _ => setD d (.v (.int ka (ka.wrap (a.tdiv b)))) .done
    | .rem => .need (ka = kb ∧ b ≠ 0) fun _ => setD d (.v (.int ka (a.tmod b))) .done
    | .shl => .need (0 ≤ b) fun _ => setD d (.v (.int ka (shlI ka a b))) .done
    | .shr => .need (0 ≤ b) fun _ => setD d (.v (.int ka (shrI ka a b))) .done
    | _ => .fail
  | _, _ => .fail
def semCompl (d : Option Nat) (x : Opd) : M := rdI x fun i => match i with
  | .int k n => setD d (.v (.int k (bitsI .xor k (if k.signed then -1 else k.max) n))) .done
  | _ => .fail
def semConv (d : Option Nat) (k : IntKind) (x : Opd) : M := rdI x fun i => match i with
  | .int _ n => setD d (.v (.int k (k.wrap n))) .done
  | _ => .fail
def convOk (P : Program) (dst : TypeId) (k : IntKind) (src : TypeId) : Bool := (P.underlying src).isSome && match P.underlying dst with
  | some (.int k') => k == k'
  | _ => false
/-- make([]T, n) -/
def semMake (d : Nat) (e : TypeId) (sz bytes : Nat) (z : I) (x : Opd) : M := rdI x fun i => match i with
  | .int _ n => .need (0 ≤ n ∧ bytes * n.toNat ≤ 140737488355328 ∧ n ≤ 9223372036854775807 ∧ n.toNat * sz ≤ 16777216) fun _ => setN d (.vec e sz (List.replicate n.toNat z))
  | _ => .fail
def makeOk (P : Program) (t e : TypeId) (sz bytes : Nat) (z : I) : Bool := match P.underlying t with
  | some (.slice e') => e' == e && match P.info? e with
    | some i => i.size == sz && i.bytes == bytes && sz != 0 && z.size == sz && match i.zero with
      | some v => v.cells.size == sz && match zI z v.cells.toList with
        | some [] => true
        | _ => false
      | none => false
    | none => false
  | _ => false
/-- An owned slice is taken over, whatever its elements' type's number. -/
def takeOwnE (sz : Nat) (x : Opd) (k : TypeId → List I → M) : M := match x with
  | .nils e _ => takeOwn e sz x (k e)
  | .c _ => .fail
  | .t n => .get n fun _ sv => match sv with
    | .vec e _ _ => takeOwn e sz (.t n) (k e)
    | .bor s kk _ => .get s fun _ sv' => match sv'.vecAt kk with
      | some (e, _, _) => takeOwn e sz (.t n) (k e)
      | none => .fail
    | .sub s kk _ _ => .get s fun _ sv' => match sv'.vecAt kk with
      | some (e, _, _) => takeOwn e sz (.t n) (k e)
      | none => .fail
    | _ => .fail
/-- append to a row that may be frozen behind its end, from a slice or a string. -/
def semAppB (d : Nat) (er : TypeId) (sz bytes : Nat) (str : Bool) (x y : Opd) : M := match str with
  | true => rdI y fun u => match u with
    | .str s => takeOwnE sz x fun e l => .need ((l.length + s.length) * bytes ≤ 140737488355328 ∧ l.length + s.length ≤ maxLen ∧ sz = 1 ∧ (e < 1000000 → e = er)) fun _ => setN d (.vec e sz (l ++ s.map byteI))
    | _ => .fail
  | false => takeV y fun u => match u with
    | .list ys => takeOwnE sz x fun e l => .need ((l.length + ys.length) * bytes ≤ 140737488355328 ∧ l.length + ys.length ≤ maxLen ∧ (∀ u ∈ ys, u.size = sz) ∧ (e < 1000000 → e = er)) fun _ => setN d (.vec e sz (l ++ ys))
    | _ => .fail
def appBOk (P : Program) (t tx er : TypeId) (sz bytes : Nat) (str : Bool) : Bool := (match P.underlying t with
  | some (.slice e') => e' == er && match P.info? er with
    | some i => i.size == sz && i.bytes == bytes && sz != 0 && match i.zero with
      | some z => z.cells.size == sz
      | none => false
    | none => false
  | _ => false) && match P.underlying tx with
    | some .string => str
    | some (.slice _) => !str
    | _ => false
section
variable {P : Program} {N : Nat} {G : Mem} {σ : Lab} {Fr : Mem} {w0 : Base} {w : World} {st : St} {a : Act}

theorem sound_bits {o : Oper} {op : BinOp} {t u : TypeId} {x y : Operand} {x' y' : Opd} (ho : o.op = .binOp op t x y u) (hx : opdOk N x x' = true) (hy : opdOk N y y' = true) :
    Sound P N o (semBits o.dst op x' y') := by
  intro G σ Fr w0 st a w Q next E hN hr hw hn hdst
  subst hN
  obtain ⟨i, h1, hi⟩ := rdI_rep hr hx hw
  clear hw
  obtain ⟨j, hw, hj⟩ := rdI_rep hr hy h1
  clear h1
  split at hw
  · rename_i ka m kb n
    rw [RepV.int] at hi hj
    split at hw
    · obtain ⟨rfl, hw⟩ := hw
      exact done_v hr hn hdst (RepV.int.2 rfl) hw (by simp [execOp, ho, hi, hj, eqGuard, Go.binOp, Op.intBits, bitsI])
    · obtain ⟨rfl, hw⟩ := hw
      exact done_v hr hn hdst (RepV.int.2 rfl) hw (by simp [execOp, ho, hi, hj, eqGuard, Go.binOp, Op.intBits, bitsI])
    · obtain ⟨rfl, hw⟩ := hw
      exact done_v hr hn hdst (RepV.int.2 rfl) hw (by simp [execOp, ho, hi, hj, eqGuard, Go.binOp, Op.intBits, bitsI])
    · obtain ⟨rfl, hw⟩ := hw
      exact done_v hr hn hdst (RepV.int.2 rfl) hw (by simp [execOp, ho, hi, hj, eqGuard, Go.binOp, Op.intBits, bitsI])
    · obtain ⟨⟨rfl, hb⟩, hw⟩ := hw
      exact done_v hr hn hdst (RepV.int.2 rfl) hw (by simp [execOp, ho, hi, hj, eqGuard, Go.binOp, Op.intDiv, hb])
    · obtain ⟨⟨rfl, hb⟩, hw⟩ := hw
      exact done_v hr hn hdst (RepV.int.2 rfl) hw (by simp [execOp, ho, hi, hj, eqGuard, Go.binOp, Op.intDiv, hb])
    · obtain ⟨hb, hw⟩ := hw
      have hb' : ¬ n < 0 := by omega
      exact done_v hr hn hdst (RepV.int.2 rfl) hw (by simp [execOp, ho, hi, hj, eqGuard, Go.binOp, Op.shift, hb', shlI])
    · obtain ⟨hb, hw⟩ := hw
      have hb' : ¬ n < 0 := by omega
      exact done_v hr hn hdst (RepV.int.2 rfl) hw (by simp [execOp, ho, hi, hj, eqGuard, Go.binOp, Op.shift, hb', shrI])
    · exact hw.elim
  · exact hw.elim
theorem sound_compl {o : Oper} {t : TypeId} {x : Operand} {x' : Opd} (ho : o.op = .unOp .xor t x) (hx : opdOk N x x' = true) : Sound P N o (semCompl o.dst x') := by
  intro G σ Fr w0 st a w Q next E hN hr hw hn hdst
  subst hN
  obtain ⟨i, h1, hi⟩ := rdI_rep hr hx hw
  split at h1
  · rw [RepV.int] at hi
    exact done_v hr hn hdst (RepV.int.2 rfl) h1 (by simp [execOp, ho, hi, Op.unary, Op.intBits, bitsI])
  · exact h1.elim
theorem sound_conv {o : Oper} {k : IntKind} {src dst : TypeId} {x : Operand} {x' : Opd} (ho : o.op = .convert src dst x) (hx : opdOk N x x' = true) (ht : convOk P dst k src = true) : Sound P N o (semConv o.dst k x') := by
  intro G σ Fr w0 st a w Q next E hN hr hw hn hdst
  subst hN
  obtain ⟨i, h1, hi⟩ := rdI_rep hr hx hw
  unfold convOk at ht
  simp only [Bool.and_eq_true, Option.isSome_iff_exists] at ht
  obtain ⟨⟨ds, hs⟩, ht⟩ := ht
  split at ht
  · rename_i k' hk
    simp only [beq_iff_eq] at ht
    subst ht
    split at h1
    · rw [RepV.int] at hi
      refine done_v hr hn hdst (RepV.int.2 rfl) h1 ?_
      simp [execOp, ho, hi, convert, run_underlying hs, run_underlying hk, Conv.intToInt]
    · exact h1.elim
  · cases ht
theorem takeOwnE_rep {sz : Nat} {x : Operand} {y : Opd} {k : TypeId → List I → M} {Q : St → Prop} (h : Rel G σ Fr w0 st a w) (ho : opdOk w0.n x y = true) (hq : (takeOwnE sz y k).wp P Q st) :
    ∃ e l σ' st', Rel G σ' Fr w0 st' a w ∧ (k e l).wp P Q st' ∧ Free G σ' Fr w e sz l (a.eval x) := by
  have fin : ∀ e, (takeOwn e sz y (k e)).wp P Q st → ∃ e l σ' st', Rel G σ' Fr w0 st' a w ∧ (k e l).wp P Q st' ∧ Free G σ' Fr w e sz l (a.eval x) := by
    intro e hq
    obtain ⟨l, σ', st', h1, h2, h3⟩ := takeOwn_rep h ho hq
    exact ⟨e, l, σ', st', h1, h2, h3⟩
  cases y with
  | c i => exact hq.elim
  | nils e _ => exact fin e hq
  | t n =>
    simp only [takeOwnE, M.wp] at hq
    cases hs : st[n]? with
    | none => simp [hs] at hq
    | some cur =>
      simp only [hs] at hq
      split at hq
      · exact fin _ hq
      · rename_i s kk v _
        simp only [M.wp] at hq
        cases h1 : st[s]? with
        | none => simp [h1] at hq
        | some cur' =>
          simp only [h1] at hq
          split at hq
          · exact fin _ hq
          · exact hq.elim
      · rename_i s kk v m _
        simp only [M.wp] at hq
        cases h1 : st[s]? with
        | none => simp [h1] at hq
        | some cur' =>
          simp only [h1] at hq
          split at hq
          · exact fin _ hq
          · exact hq.elim
      · exact hq.elim
theorem cells_iff (w : World) (b j : Nat) (bl : Array Value) (ty : TypeId) (fz : Nat × Nat) (h : w.heap[b]? = some (.cells bl ty fz)) (hj : j < bl.size) (hf : fz = (0, 0) ∨ bl.size ≤ fz.1) :
    (w.cell? ⟨b, j, none⟩).isSome = true ∧ w.frozen? ⟨b, j, none⟩ = false := by
  constructor
  · rw [cell_of_row w b j bl ty fz h]
    simp [hj]
  · simp only [World.frozen?, h]
    rcases hf with rfl | hf
    · simp
    · simp; omega
/-- append, over whatever row. -/
theorem run_append_R (t tx ty er e : TypeId) (i : TypeInfo) (z : Value) (ht : P.underlying t = some (.slice er)) (hi : P.info? er = some i) (hz : i.zero = some z) (hzs : z.cells.size = i.size) (h0 : 0 < i.size)
    (v : Value) (n : Nat) (xs : List Value) (hown : OwnsR w e i.size v n xs) (he : e < 1000000 → e = er) (x : Value) (m : Nat) (news : List Value) (hs : Src P i.size tx x m news w)
    (h63 : n + m ≤ maxLen) (hbytes : (n + m) * i.bytes ≤ 140737488355328) :
    ∃ v' w', (Builtin.append_ #[t, tx] ty #[v, x]).run P w = .ok v' w' ∧ OwnsR w' e i.size v' (n + m) (xs ++ news) ∧ w.grownBy w' v.ownBlock ∧ (v'.ownBlock = v.ownBlock ∨ v'.ownBlock = some w.heap.size) := by
  have hsmall : n + m ≤ 9223372036854775807 := by simp only [maxLen] at h63; omega
  have hlen : (xs ++ news).length = (n + m) * i.size := by rw [List.length_append, hown.1, hs.newsLen, Nat.add_mul]
  have grown : ∀ (base : Option Addr) (old : Nat), v = .slice base n old → old < n + m → (Builtin.firstCells i.size n (.slice base n old)).run P w.drew = .ok xs.toArray w.drew →
      ∃ v' w', (Builtin.append_ #[t, tx] ty #[v, x]).run P w = .ok v' w' ∧ OwnsR w' e i.size v' (n + m) (xs ++ news) ∧ w.grownBy w' v.ownBlock ∧ (v'.ownBlock = v.ownBlock ∨ v'.ownBlock = some w.heap.size) := by
    intro base old hv ho hfc
    have hrun := run_append_grow_src (P := P) w t tx ty er i z ht hi hz base n old xs hfc x m news hs ho (by omega) (growslice_fits (by omega) hbytes)
    have hge := grownCap_ge w (n + m) old er
    have hcm : grownCap w (n + m) old er ≤ maxLen := grownCap_le_maxLen w (n + m) old er h63
    rw [← hv] at hrun
    refine ⟨_, _, hrun, ⟨hlen, .inr ⟨w.heap.size, _, _, rfl, Nat.zero_le _, ⟨er, (0, 0), heap_alloc_new w.drew _, .inl rfl, fun h => ⟨(he h).symm, rfl⟩⟩, hge, hcm, ?_, ?_⟩⟩, ⟨rfl, rfl, rfl, by simp, fun k hk _ => heap_old w.drew _ k hk⟩, .inr rfl⟩
    · simp only [Array.size_append, List.size_toArray, size_zeroCells, hzs, hlen, ← Nat.add_mul]
      congr 1
      omega
    · simp only [Array.toList_append]
      rw [← hlen]
      exact List.take_left
  rcases hown.2 with ⟨rfl, rfl⟩ | ⟨g, cap, cur, rfl, _, ⟨ty', fz, hg, hfz, hty⟩, hnc, hcm, hcs, htake⟩
  · have hx : xs = [] := List.eq_nil_of_length_eq_zero (by simpa using hown.1)
    subst hx
    by_cases hm : m = 0
    · subst hm
      have hn : news = [] := List.eq_nil_of_length_eq_zero (by simpa using hs.newsLen)
      subst hn
      refine ⟨.slice none 0 0, w, ?_, OwnsR.nil w e i.size, ⟨rfl, rfl, rfl, Nat.le_refl _, fun _ _ _ => rfl⟩, .inl rfl⟩
      have h1 := hs.len w
      have h2 := hs.cells
      rcases hs.kind with ⟨e', hk⟩ | hk <;> simp [Builtin.append_, run_underlying ht, run_underlying hk, sizeOf, typeInfo, hi, h1, h2]
    · exact grown none 0 rfl (by omega) (run_firstCells_none w.drew i.size 0 0 0)
  · by_cases hroom : n + m ≤ cap
    · have hfit : n * i.size + news.length ≤ cur.size := by rw [hs.newsLen, hcs, ← Nat.add_mul]; exact Nat.mul_le_mul_right _ hroom
      have hrun := run_append_room_src (P := P) w t tx ty er i ht hi g 0 n cap x m news hs hroom (fun j hj => (cells_iff w g _ cur ty' fz hg (by omega) hfz).1) (fun j hj => (cells_iff w g _ cur ty' fz hg (by omega) hfz).2)
      have hset : w.setCells g (0 + n * i.size) news = w.setRow g (cur.toList.take (n * i.size) ++ news ++ cur.toList.drop (n * i.size + news.length)).toArray := by
        have h1 := run_storeCells_cells (P := P) g (0 + n * i.size) news 0 w (fun j hj => (cells_iff w g _ cur ty' fz hg (by omega) hfz).1) (fun j hj => (cells_iff w g _ cur ty' fz hg (by omega) hfz).2) hs.one
        have h2 := run_storeCells_any P g (0 + n * i.size) ty' fz news 0 cur w hg hfz (by omega) hs.one
        rw [h1] at h2
        simpa using h2
      rw [hset] at hrun
      have hsz : (cur.toList.take (n * i.size) ++ news ++ cur.toList.drop (n * i.size + news.length)).toArray.size = cur.size := by
        simp only [List.size_toArray, List.length_append, List.length_take, List.length_drop, Array.length_toList]
        omega
      refine ⟨_, _, hrun, ⟨hlen, .inr ⟨g, cap, _, rfl, Nat.zero_le _, ⟨ty', fz, setRow_heap w g cur _ ty' fz hg, by rw [hsz]; exact hfz, hty⟩, hroom, hcm, by rw [hsz]; exact hcs, ?_⟩⟩, ⟨rfl, rfl, rfl, by simp, fun k _ hk => setRow_other w g k _ (fun e => hk (by simp [Value.ownBlock, e]))⟩, .inl rfl⟩
      rw [htake, ← hlen]
      exact List.take_left
    · refine grown (some ⟨g, 0, none⟩) cap rfl (by omega) ?_
      have hl : xs.length = n * i.size := hown.1
      refine run_firstCells_some w.drew i.size n ⟨g, 0, none⟩ n cap xs hl ?_
      intro j u hj
      have h1 : w.drew.cell? ((⟨g, 0, none⟩ : Addr).add j) = cur[j]? := by
        rw [add_lit, Nat.zero_add]
        exact cell_of_row w.drew g j cur ty' fz hg
      rw [h1]
      have : cur[j]? = cur.toList[j]? := by simp
      rw [this]
      rw [← htake, List.getElem?_take] at hj
      split at hj
      · exact hj
      · cases hj
theorem sound_appB {o : Oper} {d : Nat} {t tx er : TypeId} {x y : Operand} {x' y' : Opd} {sz bytes : Nat} {str : Bool} (hd : o.dst = some d)
    (ho : o.op = .call { callee := .builtin .append, args := #[x, y], argTypes := #[t, tx] }) (hx : opdOk N x x' = true) (hy : opdOk N y y' = true) (ht : appBOk P t tx er sz bytes str = true) :
    Sound P N o (semAppB d er sz bytes str x' y') := by
  intro G0 σ0 Fr w0 st0 a w Q next E hN hr hw hn hdst
  subst hN
  unfold appBOk at ht
  simp only [Bool.and_eq_true] at ht
  obtain ⟨ht, htx⟩ := ht
  split at ht
  · rename_i e' hu
    simp only [Bool.and_eq_true, beq_iff_eq] at ht
    obtain ⟨rfl, ht⟩ := ht
    split at ht
    · rename_i i hi
      simp only [Bool.and_eq_true, beq_iff_eq, bne_iff_ne, ne_eq] at ht
      obtain ⟨⟨⟨rfl, rfl⟩, h0⟩, ht⟩ := ht
      split at ht
      · rename_i z hz
        simp only [beq_iff_eq] at ht
        have exec : ∀ {v' w'}, (Builtin.append_ #[t, tx] o.type #[a.eval x, a.eval y]).run P w = .ok v' w' → (execOp a.eval o).run P w = .ok (.value v') w' := by
          intro v' w' hrun
          simp [execOp, ho, resolve, invoke, builtin, hrun]
        have fin : ∀ {G : Mem} {σ : Lab} {st : St} {e : TypeId} {l ys : List I} {news : List Value}, G0.le G → Rel G σ Fr w0 st a w → Free G σ Fr w e i.size l (a.eval x) → Src P i.size tx (a.eval y) ys.length news w → RepIs G ys news → (∀ u ∈ ys, u.size = i.size) →
            l.length + ys.length ≤ maxLen → (l.length + ys.length) * i.bytes ≤ 140737488355328 → (e < 1000000 → e = e') → (setN d (.vec e i.size (l ++ ys))).wp P Q st → o.wp P a w next E := by
          intro G σ st e l ys news hG hr2 ⟨xs, k1, k2, k3, k4⟩ hsrc hrep hsz hmax hby he h2
          obtain ⟨v', w', hrun, q1, q2, q3⟩ := run_append_R (P := P) t tx o.type e' e i z hu hi hz ht (by omega) (a.eval x) l.length xs k1 he (a.eval y) ys.length news hsrc hmax hby
          obtain ⟨σ', st', r1, r2⟩ := hr2.putOwned (P := P) (e := e) (sz := i.size) (l := l ++ ys) (hdst d hd) q2 (fun b hb => k4 b hb) ⟨xs ++ news, by rw [List.length_append]; exact q1, RepIs.append k2 hrep, by
            intro z hz
            rcases List.mem_append.1 hz with hz | hz
            · exact k3 z hz
            · exact hsz z hz, by
            intro b hb
            rcases q3 with q3 | q3
            · rw [q3] at hb; exact k4 b hb
            · rw [q3] at hb; cases hb; exact hr2.wok.fresh (Nat.le_refl _)⟩ h2
          exact wp_value (exec hrun) (by rw [hd]; exact hn G σ' st' _ w' hG r1 r2)
        cases str with
        | true =>
          have hstr : P.underlying tx = some .string := by
            split at htx
            · assumption
            · simp at htx
            · cases htx
          obtain ⟨u, h1, hv⟩ := rdI_rep hr hy hw
          split at h1
          · rename_i s
            obtain ⟨e, l, σ, st, hr2, h2, hfree⟩ := takeOwnE_rep hr hx h1
            obtain ⟨⟨hby, hmax, hs1, he⟩, h2⟩ := h2
            obtain ⟨hc, hsl⟩ := RepV.str.1 hv
            have hsrc := Src.ofString (P := P) (w := w) hstr ⟨⟨s⟩⟩
            rw [← hc, show (⟨⟨s⟩⟩ : ByteArray).size = (s.map byteI).length by rw [List.length_map]; rfl, ← hs1] at hsrc
            refine fin (Mem.le.refl G0) hr2 hfree hsrc (bytes_reps s) (by
              intro u hu
              obtain ⟨b, _, rfl⟩ := List.mem_map.1 hu
              exact hs1.symm) (by rw [List.length_map]; exact hmax) (by rw [List.length_map]; exact hby) he h2
          · exact h1.elim
        | false =>
          have hsl : ∃ e', P.underlying tx = some (.slice e') := by
            split at htx
            · cases htx
            · exact ⟨_, by assumption⟩
            · cases htx
          obtain ⟨e2, hsl⟩ := hsl
          obtain ⟨u, G, σ1, st1, hG, hr1, h1, hv⟩ := takeV_rep hr hy hw
          split at h1
          · rename_i ys
            obtain ⟨e, l, σ, st, hr2, h2, hfree⟩ := takeOwnE_rep hr1 hx h1
            obtain ⟨⟨hby, hmax, hsz, he⟩, h2⟩ := h2
            obtain ⟨ad, cap, hcy, hcase⟩ := elems_cells (σ := σ) (Fr := Fr) (u := .it (.list ys)) (ys := ys.map D.it) (sz := i.size) (FreeB.item hv) hr2.wok rfl (by
              intro u hu
              obtain ⟨y, hy, rfl⟩ := List.mem_map.1 hu
              exact hsz y hy)
            rw [List.length_map] at hcy hcase
            rcases hcase with ⟨rfl, hnil⟩ | ⟨A, news, bn, rfl, hl, hrep, _, _, hcells⟩
            · have : ys = [] := by simpa using hnil
              subst this
              exact fin hG hr2 hfree (news := []) (by rw [hcy]; exact Src.ofNil (w := w) hsl cap) (by simp [RepIs]) (by simp) (by simpa using hmax) (by simpa using hby) he h2
            · have hrI := (RepDs.its.1 hrep).1
              exact fin hG hr2 hfree (by rw [hcy]; exact Src.ofSlice w hsl A ys.length cap news hl hcells (RepIs.one _ _ hrI)) hrI hsz hmax hby he h2
          · exact h1.elim
      · cases ht
    · cases ht
  · cases ht
theorem sound_make {o : Oper} {d : Nat} {t e : TypeId} {sz bytes : Nat} {z : I} {x : Operand} {x' : Opd} (hd : o.dst = some d) (ho : o.op = .makeSlice t x x) (hx : opdOk N x x' = true) (ht : makeOk P t e sz bytes z = true) :
    Sound P N o (semMake d e sz bytes z x') := by
  intro G σ Fr w0 st a w Q next E hN hr hw hn hdst
  subst hN
  obtain ⟨i, h1, hi⟩ := rdI_rep hr hx hw
  unfold makeOk at ht
  split at ht
  · rename_i e' hu
    simp only [Bool.and_eq_true, beq_iff_eq] at ht
    obtain ⟨rfl, ht⟩ := ht
    split at ht
    · rename_i inf hinf
      simp only [Bool.and_eq_true, beq_iff_eq, bne_iff_ne, ne_eq] at ht
      obtain ⟨⟨⟨⟨rfl, rfl⟩, h0⟩, hzsz⟩, ht⟩ := ht
      split at ht
      · rename_i v hv
        simp only [Bool.and_eq_true, beq_iff_eq] at ht
        obtain ⟨hvs, hz⟩ := ht
        have hz' : ∃ c, v.cells.toList = c ++ [] ∧ RepI G z c := by
          split at hz
          · rename_i h; exact zI_spec G z _ _ h
          · cases hz
        obtain ⟨c, hc, hz'⟩ := hz'
        rw [List.append_nil] at hc
        subst hc
        split at h1
        · rename_i k n
          rw [RepV.int] at hi
          obtain ⟨⟨hn0, hby, hn63, hcells⟩, h1⟩ := h1
          have hnn : (n.toNat : Int) = n := Int.toNat_of_nonneg hn0
          obtain ⟨w', hrun, hown, hgr⟩ := run_makeSlice_full (P := P) w 0 t e' inf v inf.size hu hinf hv rfl k k n.toNat hcells (by omega) (by simp only [maxLen]; omega) (Nat.zero_le _)
          rw [hnn] at hrun
          have hrow : (madeCells v.cells (n.toNat * inf.size)).toList = (List.replicate n.toNat v.cells.toList).flatten := by
            have := zeros_list hvs n.toNat
            rw [← this]
            rfl
          obtain ⟨σ', st', r1, r2⟩ := hr.putOwned (P := P) (e := e') (sz := inf.size) (l := List.replicate n.toNat z) (hdst d hd) hgr (fun b hb => by cases hb) ⟨_, by rw [List.length_replicate]; exact OwnsR.of hown, by rw [hrow]; exact replicate_rep hz' _, by
            intro u hu
            rw [List.eq_of_mem_replicate hu]
            exact hzsz, fun b hb => by
            simp only [Value.ownBlock, Option.some.injEq] at hb
            exact hr.wok.fresh (Nat.le_of_eq hb)⟩ h1
          exact wp_value (v := .slice (some ⟨w.heap.size, 0, none⟩) n.toNat n.toNat) (w' := w') (by simp [execOp, ho, hi, hrun]) (by rw [hd]; exact hn G σ' st' _ w' (Mem.le.refl G) r1 r2)
        · exact h1.elim
      · cases ht
    · cases ht
  · cases ht
end
end Go.Ab

namespace Go.Ab
open Go.Op
/-- What kind of thing a slot holds. -/
def kindP (_ : Nat) (sv : SV) : Nat × SV := match sv with
  | .own _ _ => (0, .own [] (.it .und))
  | .pd _ _ _ => (0, .pd 0 0 [])
  | .bd _ _ _ => (0, .bd 0 0 [])
  | .par h => (0, .par h)
  | _ => (0, .no)
def isDeepP (x : Opd) (yes no : M) : M := match x with
  | .t n => .getp n kindP fun _ sv => match sv with
    | .own _ _ => yes
    | .pd _ _ _ => yes
    | .bd _ _ _ => yes
    | .par h => .getp h kindP fun _ sv' => match sv' with
      | .own _ _ => yes
      | _ => no
    | _ => no
  | _ => no
/-- The least version that is alive 'm' steps deep. -/
def lv (inv : List Nat) (m : Nat) : Nat := (inv.take m).foldl Nat.max 0
/-- What a look at a place shows. -/
def seen (ver : Nat) (inv : List Nat) (m : Nat) (f : D → Option SV) : Option D → Nat × SV
  | some u => match f u with
    | some r => (Nat.min (lv inv m) ver, r)
    | none => (0, .no)
  | none => (0, .no)
def eyeO (f : D → Option SV) (ver : Nat) (sv : SV) : Nat × SV := match sv with
  | .own inv t => match t with
    | .ptr u => seen ver inv 2 f (some u)
    | _ => (0, .no)
  | _ => (0, .no)
def eyeP (v : Nat) (p : List Nat) (f : D → Option SV) (ver : Nat) (sv : SV) : Nat × SV := match sv with
  | .own inv t => match alive v inv p.length with
    | true => seen ver inv (p.length + 1) f (D.at p t)
    | false => (0, .no)
  | _ => (0, .no)
def eyeR (f : D → Option SV) (ver : Nat) (sv : SV) : Nat × SV := match sv with
  | .own inv t => match t.head with
    | true => seen ver inv 1 f (some t)
    | false => (0, .no)
  | _ => (0, .no)
def eyeH (v : Nat) (p : List Nat) (f : D → Option SV) (ver : Nat) (sv : SV) : Nat × SV := match sv with
  | .own inv t => match alive v inv (p.length + 1) with
    | true => seen ver inv (p.length + 1) f (D.at p t)
    | false => (0, .no)
  | _ => (0, .no)
def noR (r : SV) (m : M) : M := match r with
  | .no => .fail
  | _ => m
def rdDP (x : Opd) (f : D → Option SV) (k : (s v : Nat) → List Nat → SV → M) : M := match x with
  | .t n => .getp n kindP fun _ sv => match sv with
    | .own _ _ => .getp n (eyeO f) fun v r => noR r (k n v [0] r)
    | .pd _ _ _ => .get n fun _ sv => match sv with
      | .pd s v p => match p with
        | [] => .fail
        | i :: q => .getp s (eyeP v (i :: q) f) fun v' r => noR r (k s v' (i :: q) r)
      | _ => .fail
    | .par h => .getp h (eyeO f) fun v r => noR r (k h v [0] r)
    | _ => .fail
  | _ => .fail
def rdHP (x : Opd) (f : D → Option SV) (k : (s v : Nat) → List Nat → SV → M) : M := match x with
  | .t n => .getp n kindP fun _ sv => match sv with
    | .own _ _ => .getp n (eyeR f) fun v r => noR r (k n v [] r)
    | .bd _ _ _ => .get n fun _ sv => match sv with
      | .bd s v p => .getp s (eyeH v p f) fun v' r => noR r (k s v' p r)
      | _ => .fail
    | .par h => .getp h (eyeR f) fun v r => noR r (k h v [] r)
    | _ => .fail
  | _ => .fail
def fldEye (i : Nat) (u : D) : Option SV := match fldOff u i with
  | some o => some (.v (.int .i64 (o : Nat)))
  | none => none
def semFaddrP (d : Option Nat) (x : Opd) (i off : Nat) : M := rdDP x (fldEye i) fun s v p r => match r with
  | .v y => .need (y = .int .i64 (off : Nat) ∧ d ≠ some s) fun _ => setD d (.pd s v (p ++ [i])) .done
  | _ => .fail
def loadEye : D → Option SV
  | .it y => some (.v y)
  | .vec _ _ _ => some (.bd 0 0 [])
  | .map _ _ => some (.bd 0 0 [])
  | .ptr _ => some (.pd 0 0 [])
  | .st _ => some (.own [] (.it .und))
def semLoadP (d : Option Nat) (agg : Bool) (sz : Nat) (x : Opd) : M := rdDP x loadEye fun s v p r => match r with
  | .v y => .need (y.isAgg = agg ∧ y.size = sz) fun _ => setD d (.v y) .done
  | .bd _ _ _ => .need (agg = false ∧ sz = 1 ∧ d ≠ some s) fun _ => setD d (.bd s v p) .done
  | .pd _ _ _ => .need (agg = false ∧ sz = 1 ∧ d ≠ some s) fun _ => setD d (.pd s v (p ++ [0])) .done
  | .own _ _ => semLoadD d agg sz x
  | _ => .fail
def vecEye : D → Option SV
  | .vec _ sz l => some (.v (.agg [.int .i64 (sz : Nat), .int .i64 l.length]))
  | _ => none
def semIaddrP (d : Option Nat) (sz : Nat) (x i : Opd) : M := rdI i fun n => match n with
  | .int _ n => rdHP x vecEye fun s v p r => match r with
    | .v y => match y with
      | .agg l => match l with
        | [a, b] => match b with
          | .int _ len => .need (0 ≤ n ∧ n < len ∧ a = .int .i64 (sz : Nat) ∧ d ≠ some s) fun _ => setD d (.pd s v (p ++ [n.toNat])) .done
          | _ => .fail
        | _ => .fail
      | _ => .fail
    | _ => .fail
  | _ => .fail
def semLenP (d : Option Nat) (str : Bool) (x : Opd) : M := rdHP x vecEye fun _ _ _ r => match r with
  | .v y => match y with
    | .agg l => match l with
      | [_, b] => match b with
        | .int k len => .need (str = false ∧ k = .i64) fun _ => .fact (len ≤ maxLen) (setD d (.v (.int .i64 len)) .done)
        | _ => .fail
      | _ => .fail
    | _ => .fail
  | _ => .fail
section
variable {P : Program} {N : Nat} {G : Mem} {σ : Lab} {Fr : Mem} {w0 : Base} {w : World} {st : St} {a : Act}

theorem sound_deepP {o : Oper} {x : Opd} {yes no : M} (h1 : Sound P N o yes) (h2 : Sound P N o no) : Sound P N o (isDeepP x yes no) := by
  intro G σ Fr w0 st a w Q next E hN hr hw hn hdst
  have : yes.wp P Q st ∨ no.wp P Q st := by
    cases x with
    | c _ => exact .inr hw
    | nils _ _ => exact .inr hw
    | t n =>
      simp only [isDeepP, M.wp] at hw
      cases hs : st[n]? with
      | none => simp [hs] at hw
      | some cur =>
        obtain ⟨cv, csv⟩ := cur
        simp only [hs] at hw
        cases csv with
        | own _ _ => exact .inl hw
        | pd _ _ _ => exact .inl hw
        | bd _ _ _ => exact .inl hw
        | par hh =>
          simp only [kindP, M.wp] at hw
          cases hs' : st[hh]? with
          | none => simp [hs'] at hw
          | some cur' =>
            obtain ⟨cv', csv'⟩ := cur'
            simp only [hs'] at hw
            cases csv' <;> first | exact .inl hw | exact .inr hw
        | _ => exact .inr hw
  rcases this with h | h
  · exact h1 G σ Fr w0 st a w Q next E hN hr h hn hdst
  · exact h2 G σ Fr w0 st a w Q next E hN hr h hn hdst
theorem seen_spec {ver : Nat} {inv : List Nat} {m : Nat} {f : D → Option SV} {du : Option D} {k : Nat → SV → M} {Q : St → Prop}
    (h : ((fun v r => noR r (k v r)) (seen ver inv m f du).1 (seen ver inv m f du).2).wp P Q st) : ∃ u r v, du = some u ∧ f u = some r ∧ v ≤ ver ∧ (k v r).wp P Q st := by
  cases du with
  | none => exact h.elim
  | some u =>
    cases hf : f u with
    | none => simp only [seen, hf] at h; exact h.elim
    | some r =>
      simp only [seen, hf] at h
      refine ⟨u, r, Nat.min (lv inv m) ver, rfl, hf, Nat.min_le_right _ _, ?_⟩
      cases r <;> first | exact h.elim | exact h
theorem rdDP_rep {x : Operand} {y : Opd} {f : D → Option SV} {k : (s v : Nat) → List Nat → SV → M} {Q : St → Prop} (h : Rel G σ Fr w0 st a w) (ho : opdOk w0.n x y = true) (hq : (rdDP y f k).wp P Q st) :
    ∃ s cur inv t p u r v, (k s v p r).wp P Q st ∧ st[s]? = some (cur, .own inv t) ∧ p ≠ [] ∧ PtD w t (val a w0 s) p (a.eval x) ∧ t.at p = some u ∧ f u = some r ∧ v ≤ cur := by
  cases y with
  | c _ => exact hq.elim
  | nils _ _ => exact hq.elim
  | t n =>
    obtain ⟨rfl, hnlt⟩ := opdOk_t ho
    simp only [rdDP, M.wp] at hq
    cases hs : st[n]? with
    | none => simp [hs] at hq
    | some cur =>
      obtain ⟨ver, sv⟩ := cur
      simp only [hs] at hq
      have hrep := h.slot hnlt hs
      have hv : val a w0 n = a.eval (.tmp n) := val_tmp (by rw [h.n]; exact hnlt)
      cases sv with
      | own inv t =>
        simp only [kindP, M.wp, hs] at hq
        cases t with
        | ptr t =>
          obtain ⟨u, r, v, h1, h2, h3, h4⟩ := seen_spec (k := fun v r => k n v [0] r) hq
          cases h1
          exact ⟨n, ver, inv, _, [0], t, r, v, h4, hs, by simp, by rw [hv]; exact OwnD.pt hrep, rfl, h2, h3⟩
        | _ => exact hq.elim
      | pd s v p =>
        obtain ⟨cur, h1, h2, h3⟩ := hrep
        simp only [kindP, M.wp, hs] at hq
        cases p with
        | nil => exact hq.elim
        | cons i q =>
          simp only [M.wp, h1] at hq
          obtain ⟨cv, csv⟩ := cur
          cases csv with
          | own inv t =>
            simp only [eyeP] at hq
            cases ha : alive v inv (i :: q).length with
            | false => rw [ha] at hq; exact hq.elim
            | true =>
              rw [ha] at hq
              obtain ⟨u, r, v', k1, k2, k3, k4⟩ := seen_spec (k := fun v' r => k s v' (i :: q) r) hq
              exact ⟨s, cv, inv, t, i :: q, u, r, v', k4, h1, by simp, h3 inv t rfl (by simp) ha, k1, k2, k3⟩
          | _ => exact hq.elim
      | par hh =>
        obtain ⟨hv', hle⟩ := h.pars n ver hh hs
        rw [hv] at hv'
        simp only [kindP, M.wp] at hq
        cases h1 : st[hh]? with
        | none => simp [h1] at hq
        | some cur =>
          obtain ⟨cv, csv⟩ := cur
          simp only [h1] at hq
          have hrep' := h.slots hh cv csv h1
          cases csv with
          | own inv t =>
            cases t with
            | ptr t =>
              obtain ⟨u, r, v, k1, k2, k3, k4⟩ := seen_spec (k := fun v r => k hh v [0] r) hq
              cases k1
              exact ⟨hh, cv, inv, _, [0], t, r, v, k4, h1, by simp, by rw [hv']; exact OwnD.pt hrep', rfl, k2, k3⟩
            | _ => exact hq.elim
          | _ => exact hq.elim
      | _ => exact hq.elim
theorem rdHP_rep {x : Operand} {y : Opd} {f : D → Option SV} {k : (s v : Nat) → List Nat → SV → M} {Q : St → Prop} (h : Rel G σ Fr w0 st a w) (ho : opdOk w0.n x y = true) (hq : (rdHP y f k).wp P Q st) :
    ∃ s cur inv t p u r v, (k s v p r).wp P Q st ∧ st[s]? = some (cur, .own inv t) ∧ HdD w t (val a w0 s) p (a.eval x) ∧ t.at p = some u ∧ f u = some r ∧ v ≤ cur := by
  cases y with
  | c _ => exact hq.elim
  | nils _ _ => exact hq.elim
  | t n =>
    obtain ⟨rfl, hnlt⟩ := opdOk_t ho
    simp only [rdHP, M.wp] at hq
    cases hs : st[n]? with
    | none => simp [hs] at hq
    | some cur =>
      obtain ⟨ver, sv⟩ := cur
      simp only [hs] at hq
      have hrep := h.slot hnlt hs
      have hv : val a w0 n = a.eval (.tmp n) := val_tmp (by rw [h.n]; exact hnlt)
      cases sv with
      | own inv t =>
        simp only [kindP, M.wp, hs, eyeR] at hq
        cases ht : t.head with
        | false => rw [ht] at hq; exact hq.elim
        | true =>
          rw [ht] at hq
          obtain ⟨u, r, v, h1, h2, h3, h4⟩ := seen_spec (k := fun v r => k n v [] r) hq
          cases h1
          exact ⟨n, ver, inv, _, [], _, r, v, h4, hs, by rw [hv]; exact OwnD.hd hrep ht, rfl, h2, h3⟩
      | bd s v p =>
        obtain ⟨cur, h1, h2, h3⟩ := hrep
        simp only [kindP, M.wp, hs, h1] at hq
        obtain ⟨cv, csv⟩ := cur
        cases csv with
        | own inv t =>
          simp only [eyeH] at hq
          cases ha : alive v inv (p.length + 1) with
          | false => rw [ha] at hq; exact hq.elim
          | true =>
            rw [ha] at hq
            obtain ⟨u, r, v', k1, k2, k3, k4⟩ := seen_spec (k := fun v' r => k s v' p r) hq
            exact ⟨s, cv, inv, t, p, u, r, v', k4, h1, h3 inv t rfl ha, k1, k2, k3⟩
        | _ => exact hq.elim
      | par hh =>
        obtain ⟨hv', hle⟩ := h.pars n ver hh hs
        rw [hv] at hv'
        simp only [kindP, M.wp] at hq
        cases h1 : st[hh]? with
        | none => simp [h1] at hq
        | some cur =>
          obtain ⟨cv, csv⟩ := cur
          simp only [h1] at hq
          have hrep' := h.slots hh cv csv h1
          cases csv with
          | own inv t =>
            simp only [eyeR] at hq
            cases ht : t.head with
            | false => rw [ht] at hq; exact hq.elim
            | true =>
              rw [ht] at hq
              obtain ⟨u, r, v, k1, k2, k3, k4⟩ := seen_spec (k := fun v r => k hh v [] r) hq
              cases k1
              exact ⟨hh, cv, inv, _, [], _, r, v, k4, h1, by rw [hv']; exact OwnD.hd hrep' ht, rfl, k2, k3⟩
          | _ => exact hq.elim
      | _ => exact hq.elim
theorem setD_pdv {o : Oper} {Q : St → Prop} {next : Act → World → Prop} {E : Exit → Act → World → Prop} {s cur v : Nat} {inv : List Nat} {t : D} {q : List Nat} {c : Value} (hr : Rel G σ Fr w0 st a w) (hdst : ∀ d, o.dst = some d → d < w0.n) (hs : st[s]? = some (cur, .own inv t)) (hle : v ≤ cur)
    (hn : ∀ G' σ' st' a' w', G.le G' → Rel G' σ' Fr w0 st' a' w' → Q st' → next a' w') (hne : o.dst ≠ some s) (hp : PtD w t (val a w0 s) q c) (hrun : (execOp a.eval o).run P w = .ok (.value c) w)
    (hq : (setD o.dst (.pd s v q) .done).wp P Q st) : o.wp P a w next E := by
  obtain ⟨σ', st', r1, r2⟩ := hr.setD hdst (sv := .pd s v q) (c := c) (fun d' hd ver _ => by
    refine ⟨_, by rw [List.getElem?_set_ne (by rintro rfl; exact hne hd)]; exact hs, hle, fun inv' t' e _ _ => ?_⟩
    cases e
    rw [val_put_other (by rintro rfl; exact hne hd)]
    exact hp) hq
  exact wp_value hrun (hn G σ' st' _ w (Mem.le.refl G) r1 r2)
theorem setD_bdv {o : Oper} {Q : St → Prop} {next : Act → World → Prop} {E : Exit → Act → World → Prop} {s cur v : Nat} {inv : List Nat} {t : D} {q : List Nat} {c : Value} (hr : Rel G σ Fr w0 st a w) (hdst : ∀ d, o.dst = some d → d < w0.n) (hs : st[s]? = some (cur, .own inv t)) (hle : v ≤ cur)
    (hn : ∀ G' σ' st' a' w', G.le G' → Rel G' σ' Fr w0 st' a' w' → Q st' → next a' w') (hne : o.dst ≠ some s) (hp : HdD w t (val a w0 s) q c) (hrun : (execOp a.eval o).run P w = .ok (.value c) w)
    (hq : (setD o.dst (.bd s v q) .done).wp P Q st) : o.wp P a w next E := by
  obtain ⟨σ', st', r1, r2⟩ := hr.setD hdst (sv := .bd s v q) (c := c) (fun d' hd ver _ => by
    refine ⟨_, by rw [List.getElem?_set_ne (by rintro rfl; exact hne hd)]; exact hs, hle, fun inv' t' e _ => ?_⟩
    cases e
    rw [val_put_other (by rintro rfl; exact hne hd)]
    exact hp) hq
  exact wp_value hrun (hn G σ' st' _ w (Mem.le.refl G) r1 r2)
theorem sound_faddrP {o : Oper} {t : TypeId} {x : Operand} {x' : Opd} {i off : Nat} (ho : o.op = .fieldAddr t x i) (hx : opdOk N x x' = true) (ht : fieldOk P t i off = true) :
    Sound P N o (semFaddrP o.dst x' i off) := by
  intro G σ Fr w0 st a w Q next E hN hr hw hn hdst
  subst hN
  obtain ⟨s, cur, inv, tr, p, u, r, v, h1, hs, hp0, hpt, hat, hf, hle⟩ := rdDP_rep hr hx hw
  have hown := hr.slots s cur _ hs
  unfold fldEye at hf
  split at hf
  · rename_i off' hof
    cases hf
    obtain ⟨⟨hoff, hne⟩, h1⟩ := h1
    have hoff : off' = off := by injection hoff with _ hoff; exact_mod_cast hoff
    subst hoff
    obtain ⟨b, off, bl, ty, fz, pre, cs, post, ubs, e1, e2, e3, e4, e5, e6, e7⟩ := PtD.block hown hat hpt
    obtain ⟨y, cs', k1, k2⟩ := fldOff_spec (w := w) (b := b) (o := off) (cs := cs) hof
    refine setD_pdv hr hdst hs hle hn hne ⟨y, b, off + off', cs', by rw [at_snoc hat]; exact k1, by rw [spot_snoc hat e7 k1]; exact k2, rfl⟩ ?_ h1
    simp [execOp, ho, e1, fieldAt_run ht]
  · cases hf
theorem sound_iaddrP {o : Oper} {t : TypeId} {x i : Operand} {x' i' : Opd} {sz : Nat} (ho : o.op = .indexAddr t x i) (hx : opdOk N x x' = true) (hi : opdOk N i i' = true) (ht : sliceOk P t sz = true) :
    Sound P N o (semIaddrP o.dst sz x' i') := by
  intro G σ Fr w0 st a w Q next E hN hr hw hn hdst
  subst hN
  obtain ⟨n, h1, hnv⟩ := rdI_rep hr hi hw
  clear hw
  split at h1
  · rename_i k n
    rw [RepV.int] at hnv
    obtain ⟨s, cur, inv, tr, p, u, r, v, h1, hs, hhd, hat, hf, hle⟩ := rdHP_rep hr hx h1
    have hown := hr.slots s cur _ hs
    unfold vecEye at hf
    split at hf
    · rename_i e sz' l
      cases hf
      obtain ⟨⟨h0, hlt, hsz, hne⟩, h1⟩ := h1
      have hsz : sz' = sz := by injection hsz with _ hsz; exact_mod_cast hsz
      subst hsz
      have hlt : n.toNat < l.length := by omega
      obtain ⟨hh, ubs, e5, e6, e7⟩ := HdD.read hown hat hhd
      simp only [RepD] at e5
      rcases e5 with ⟨_, rfl, _⟩ | ⟨g, cap, cu, xs, bs', q1, ⟨ty, fz, q2, _⟩, _⟩
      · simp at hlt
      · injection q1 with q1
        have hk : (D.vec e sz' l).kid n.toNat = some l[n.toNat] := by simp [D.kid, List.getElem?_eq_getElem hlt]
        refine setD_pdv hr hdst hs hle hn hne (c := .pointer (some ⟨g, 0 + n.toNat * sz', none⟩)) ⟨_, g, 0 + n.toNat * sz', (cu.toList.drop (n.toNat * sz')).take sz', by rw [at_snoc hat]; exact hk, ?_, rfl⟩ ?_ h1
        · rw [spot_snoc hat e7 hk, q1]
          simp only [kidSpot, List.getElem?_eq_getElem hlt, q2, Nat.zero_add]
        · simp [execOp, ho, q1, hnv, indexAt_run ht w h0 hlt]
    · cases hf
  · exact h1.elim
theorem sound_lenP {o : Oper} {t : TypeId} {x : Operand} {x' : Opd} {str : Bool} (ho : o.op = .call { callee := .builtin .len, args := #[x], argTypes := #[t] }) (hx : opdOk N x x' = true) (ht : lenOk P t str = true) :
    Sound P N o (semLenP o.dst str x') := by
  intro G σ Fr w0 st a w Q next E hN hr hw hn hdst
  subst hN
  obtain ⟨s, cur, inv, tr, p, u, r, v, h1, hs, hhd, hat, hf, hle⟩ := rdHP_rep hr hx hw
  have hown := hr.slots s cur _ hs
  unfold vecEye at hf
  split at hf
  · rename_i e sz' l
    cases hf
    obtain ⟨⟨rfl, _⟩, h1⟩ := h1
    obtain ⟨hh, ubs, e5, e6, e7⟩ := HdD.read hown hat hhd
    simp only [RepD] at e5
    have hsl : ∃ e, P.underlying t = some (.slice e) := by
      unfold lenOk at ht
      split at ht
      · cases ht
      · rename_i e h; exact ⟨e, h⟩
      · cases ht
    obtain ⟨e', hu⟩ := hsl
    have fin : ∀ {ad : Option Addr} {cap : Nat}, a.eval x = .slice ad l.length cap → l.length ≤ maxLen → o.wp P a w next E := by
      intro ad cap he hm
      exact done_v hr hn hdst (RepV.int.2 rfl) (h1 (by exact_mod_cast hm)) (by simp [execOp, ho, resolve, invoke, builtin, Builtin.len_, run_underlying hu, he, goInt])
    rcases e5 with ⟨q1, rfl, _⟩ | ⟨g, cap, cu, xs, bs', q1, _, q2, q3, _⟩
    · injection q1 with q1
      exact fin q1 (Nat.zero_le _)
    · injection q1 with q1
      exact fin q1 (Nat.le_trans q2 q3)
  · cases hf
theorem sound_loadP {o : Oper} {t : TypeId} {x : Operand} {x' : Opd} {agg : Bool} {sz : Nat} (ho : o.op = .load t x) (hx : opdOk N x x' = true) (ht : tyOk P t agg sz = true) : Sound P N o (semLoadP o.dst agg sz x') := by
  intro G σ Fr w0 st a w Q next E hN hr hw hn hdst
  have hold := sound_loadD (P := P) ho hx ht
  subst hN
  have run : ∀ {b off : Nat} {v : Value}, a.eval x = .pointer (some ⟨b, off, none⟩) → (loadVar t ⟨b, off, none⟩).run P w = .ok v w → (execOp a.eval o).run P w = .ok (.value v) w := by
    intro b off v hp hl
    simp [execOp, ho, hp, Instr.loadAt, Instr.sureAddr, hl]
  obtain ⟨s, cur, inv, tr, p, u, r, v, h1, hs, hp0, hpt, hat, hf, hle⟩ := rdDP_rep hr hx hw
  have hown := hr.slots s cur _ hs
  obtain ⟨b, off, bl, ty, fz, pre, cs, post, ubs, e1, e2, e3, e4, e5, e6, e7⟩ := PtD.block hown hat hpt
  have hone := RepD.one e5
  have hlen := RepD.length e5
  cases u with
  | it y =>
    cases hf
    obtain ⟨⟨rfl, rfl⟩, h1⟩ := h1
    simp only [RepD] at e5
    obtain ⟨v, hl, hv⟩ := load_item (P := P) ht e2 e3 e4 e5.1
    exact done_v hr hn hdst hv h1 (run e1 hl)
  | vec e sz' l =>
    cases hf
    obtain ⟨⟨rfl, rfl, hne⟩, h1⟩ := h1
    obtain ⟨c, rfl⟩ := List.length_eq_one_iff.1 hlen
    have hl := (run_loadVar_at (P := P) (cs := [c]) ht e2 e3 e4).2 c rfl rfl
    exact setD_bdv hr hdst hs hle hn hne ⟨_, _, hat, rfl, e7⟩ (run e1 hl) h1
  | map ks vs =>
    cases hf
    obtain ⟨⟨rfl, rfl, hne⟩, h1⟩ := h1
    obtain ⟨c, rfl⟩ := List.length_eq_one_iff.1 hlen
    have hl := (run_loadVar_at (P := P) (cs := [c]) ht e2 e3 e4).2 c rfl rfl
    exact setD_bdv hr hdst hs hle hn hne ⟨_, _, hat, rfl, e7⟩ (run e1 hl) h1
  | ptr d =>
    cases hf
    obtain ⟨⟨rfl, rfl, hne⟩, h1⟩ := h1
    obtain ⟨c, rfl⟩ := List.length_eq_one_iff.1 hlen
    have hl := (run_loadVar_at (P := P) (cs := [c]) ht e2 e3 e4).2 c rfl rfl
    simp only [RepD] at e5
    obtain ⟨g, cells, ty', bs', q1, q2, _⟩ := e5
    injection q1 with q1
    subst q1
    refine setD_pdv hr hdst hs hle hn hne ⟨d, g, 0, cells.toList, by rw [at_snoc hat]; rfl, ?_, rfl⟩ (run e1 hl) h1
    rw [spot_snoc hat e7 (y := d) rfl]
    simp [kidSpot, q2]
  | st l =>
    cases hf
    exact hold G σ Fr w0 st a w Q next E rfl hr h1 hn hdst
end
end Go.Ab
