/- One text of the proof whose last text says what is proved. -/
import Derived.Test.YtbpnhefkfamhaaaAb13
set_option linter.unusedVariables false
set_option linter.unusedSimpArgs false
namespace Go.Ab

/-- A slice literal. -/
def semBSlice (d : Nat) (e : TypeId) (sz : Nat) (z : I) (n : Nat) (ps : List (Nat × Opd)) : M := takeParts ps (List.replicate n z) fun l => .need (l.length = n ∧ ∀ u ∈ l, u.size = sz) fun _ => setN d (.vec e sz l)

def bsliceOk (P : Program) (t e : TypeId) (sz : Nat) (z : I) (n : Nat) : Bool := match P.underlying t with
  | some (.slice e') => e' == e && n ≤ 4096 && n != 0 && match P.info? e with
    | some i => i.size == sz && sz != 0 && sz ≤ 4096 && z.size == sz && match i.zero with
      | some v => v.cells.size == sz && match zI z v.cells.toList with
        | some [] => true
        | _ => false
      | none => false
    | none => false
  | _ => false

/-- A component of a tuple. -/
def semExt (d : Nat) (x : Opd) (i : Nat) : M := match x with
  | .t n => .get n fun ver sv => match sv with
    | .tup fs => match fs[i]? with
      | some (.i y) => setN d (.v y)
      | some (.vec e sz l) => .need (n ≠ d) fun _ => .set n (ver + 1) (.tup (fs.set i (.i .und))) (setN d (.vec e sz l))
      | none => .fail
    | _ => .fail
  | _ => .fail

/-- A field of a struct's value. -/
def semFld (d : Option Nat) (agg : Bool) (sz : Nat) (x : Opd) (i off : Nat) : M := rdI x fun u => match u with
  | .agg l => match l[i]? with
    | some y => .need (sizes (l.take i) = off ∧ y.isAgg = agg ∧ y.size = sz) fun _ => setD d (.v y) .done
    | none => .fail
  | _ => .fail

def mmI (max : Bool) : I → I → Option I
  | .int k a, .int k' b => if k = k' then some (.int k (if max then (if b > a then b else a) else (if b < a then b else a))) else none
  | _, _ => none
def semMM (d : Option Nat) (max : Bool) (x y : Opd) : M := rdI x fun u => rdI y fun v => match u, v with
  | .int k a, .int k' b => .need (k = k') fun _ => selI max (.int k (Max.max a b)) (.int k (Min.min a b)) fun r => setD d (.v r) .done
  | .str a, .str b => .need (max = true) fun _ => .ite (!Op.bytesLess a b) (setD d (.v (.str a)) .done) (setD d (.v (.str b)) .done)
  | _, _ => .fail

section
variable {P : Program} {N : Nat} {G : Mem} {σ : Lab} {Fr : Mem} {w0 : Base} {w : World} {st : St} {a : Act}

theorem sound_mm {o : Oper} {max : Bool} {x y : Operand} {x' y' : Opd} {t : Array TypeId} (ho : o.op = .call { callee := .builtin (if max then .max else .min), args := #[x, y], argTypes := t }) (hx : opdOk N x x' = true) (hy : opdOk N y y' = true) :
    Sound P N o (semMM o.dst max x' y') := by
  intro G σ Fr w0 st a w Q next E hN hr hw hn hdst
  subst hN
  obtain ⟨i, h1, hi⟩ := rdI_rep hr hx hw
  clear hw
  obtain ⟨j, hw, hj⟩ := rdI_rep hr hy h1
  clear h1
  split at hw
  · rename_i k m k' n
    obtain ⟨rfl, h1⟩ := hw
    rw [RepV.int] at hi hj
    have h1 : (setD o.dst (.v (.int k (if max then Max.max m n else Min.min m n))) .done).wp P Q st := by cases max <;> exact h1
    refine done_v hr hn hdst (RepV.int.2 rfl) h1 ?_
    cases max with
    | true =>
      have e : (if n > m then n else m) = Max.max m n := by
        rw [Int.max_def]; split <;> split <;> omega
      simp [execOp, ho, resolve, invoke, builtin, Builtin.max_, Builtin.max2, hi, hj, e]
    | false =>
      have e : (if n < m then n else m) = Min.min m n := by
        rw [Int.min_def]; split <;> split <;> omega
      simp [execOp, ho, resolve, invoke, builtin, Builtin.min_, Builtin.min2, hi, hj, e]
  · rename_i s t
    obtain ⟨rfl, h1, h2⟩ := hw
    obtain ⟨hi, hil⟩ := RepV.str.1 hi
    obtain ⟨hj, hjl⟩ := RepV.str.1 hj
    cases hc : !Op.bytesLess s t with
    | true =>
      refine done_v hr hn hdst (RepV.str.2 ⟨rfl, hil⟩) (h1 hc) ?_
      simp [execOp, ho, resolve, invoke, builtin, Builtin.max_, Builtin.max2, hi, hj, Op.stringOp, hc, asBool]
    | false =>
      refine done_v hr hn hdst (RepV.str.2 ⟨rfl, hjl⟩) (h2 hc) ?_
      simp [execOp, ho, resolve, invoke, builtin, Builtin.max_, Builtin.max2, hi, hj, Op.stringOp, hc, asBool]
  · exact hw.elim

def fldOk (P : Program) (t : TypeId) (i off : Nat) (agg : Bool) (sz : Nat) : Bool := match P.underlying t with
  | some (.struct fs) => match fs[i]? with
    | some f => f.offset == off && tyOk P f.type agg sz
    | none => false
  | _ => false
theorem sound_fld {o : Oper} {t : TypeId} {x : Operand} {x' : Opd} {i off sz : Nat} {agg : Bool} (ho : o.op = .field t x i) (hx : opdOk N x x' = true) (ht : fldOk P t i off agg sz = true) :
    Sound P N o (semFld o.dst agg sz x' i off) := by
  intro G σ Fr w0 st a w Q next E hN hr hw hn hdst
  subst hN
  obtain ⟨u, h1, hu⟩ := rdI_rep hr hx hw
  clear hw
  split at h1
  · rename_i l
    split at h1
    · rename_i y hy
      obtain ⟨⟨rfl, rfl, rfl⟩, h1⟩ := h1
      unfold RepV at hu
      rw [if_pos (show (I.agg l).isAgg = true from rfl)] at hu
      obtain ⟨arr, hc, hu⟩ := hu
      obtain ⟨c1, c, c2, e1, e2, e3, _⟩ := RepIs.nth i hu hy
      have hl := RepI.length _ _ e3
      unfold fldOk at ht
      split at ht
      · rename_i fs hus
        split at ht
        · rename_i f hf
          simp only [Bool.and_eq_true, beq_iff_eq] at ht
          obtain ⟨hoff, ht⟩ := ht
          obtain ⟨g1, g2⟩ := isAgg_run ht w
          have hval : ∃ v, (part f.type arr f.offset).run P w = .ok v w ∧ RepV G y v := by
            rw [hoff]
            cases hagg : y.isAgg with
            | true =>
              rw [hagg] at g1
              refine ⟨.agg (arr.extract (sizes (l.take i)) (sizes (l.take i) + y.size)), by simp [part, g1, g2], ?_⟩
              unfold RepV
              rw [if_pos hagg]
              refine ⟨_, rfl, ?_⟩
              have : (arr.extract (sizes (l.take i)) (sizes (l.take i) + y.size)).toList = c := by
                rw [Array.toList_extract, e1, List.extract_eq_take_drop, ← e2, ← hl, Nat.add_sub_cancel_left, List.append_assoc, List.drop_left, List.take_left]
              rw [this]; exact e3
            | false =>
              rw [hagg] at g1
              have hone : y.size = 1 := by cases y <;> simp_all [I.isAgg, I.size]
              rw [hone] at hl
              match c, hl with
              | [v], _ =>
                have hv : arr[sizes (l.take i)]? = some v := by
                  have : arr[sizes (l.take i)]? = arr.toList[sizes (l.take i)]? := by simp
                  rw [this, e1, ← e2]
                  simp
                refine ⟨v, by simp [part, g1, hv], ?_⟩
                unfold RepV
                rw [if_neg (by simp [hagg])]
                exact e3
          obtain ⟨v, hrun, hv⟩ := hval
          exact done_v hr hn hdst hv h1 (by simp [execOp, ho, hc, Instr.field, run_underlying hus, hf, asAgg, hrun])
        · cases ht
      · cases ht
    · exact h1.elim
  · exact h1.elim

theorem RepTup.nth {s : Nat} : ∀ {fs : List F} {j i : Nat} {cs : List Value} {f : F}, RepTup G σ w s j fs cs → fs[i]? = some f →
    ∃ c, cs[i]? = some c ∧ (match f with | .i x => RepV G x c | .vec e sz l => VecAt G σ w (s, j + i + 1) e sz l c)
  | [], _, i, _, _, _, h => by simp at h
  | .i x :: fs, j, 0, cs, f, h, hi => by
    simp only [List.getElem?_cons_zero, Option.some.injEq] at hi
    subst hi
    obtain ⟨c, d, rfl, h1, _⟩ := h
    exact ⟨c, rfl, h1⟩
  | .vec e sz l :: fs, j, 0, cs, f, h, hi => by
    simp only [List.getElem?_cons_zero, Option.some.injEq] at hi
    subst hi
    obtain ⟨c, d, rfl, h1, _⟩ := h
    exact ⟨c, rfl, h1⟩
  | .i x :: fs, j, i + 1, cs, f, h, hi => by
    simp only [List.getElem?_cons_succ] at hi
    obtain ⟨c, d, rfl, _, h2⟩ := h
    obtain ⟨c', h3, h4⟩ := RepTup.nth h2 hi
    refine ⟨c', by simpa using h3, ?_⟩
    rwa [show j + (i + 1) + 1 = j + 1 + i + 1 by omega]
  | .vec _ _ _ :: fs, j, i + 1, cs, f, h, hi => by
    simp only [List.getElem?_cons_succ] at hi
    obtain ⟨c, d, rfl, _, h2⟩ := h
    obtain ⟨c', h3, h4⟩ := RepTup.nth h2 hi
    refine ⟨c', by simpa using h3, ?_⟩
    rwa [show j + (i + 1) + 1 = j + 1 + i + 1 by omega]

theorem RepTup.lose {s : Nat} : ∀ {fs : List F} {j i : Nat} {cs : List Value} {e : TypeId} {sz : Nat} {l : List I}, RepTup G σ w s j fs cs → fs[i]? = some (.vec e sz l) →
    RepTup G (σ.lose (s, j + i + 1)) w s j (fs.set i (.i .und)) cs
  | [], _, i, _, _, _, _, _, h => by simp at h
  | .i x :: fs, j, 0, cs, e, sz, l, h, hi => by simp at hi
  | .vec e' sz' l' :: fs, j, 0, cs, e, sz, l, h, hi => by
    obtain ⟨c, d, rfl, h1, h2⟩ := h
    simp only [List.set_cons_zero]
    refine ⟨c, d, rfl, ?_, RepTup.tr (Mem.le.refl G) h2 fun b k hj hb => ⟨Lab.lose_some.2 ⟨by simp; omega, hb⟩, rfl⟩⟩
    unfold RepV
    rw [if_neg (by simp [I.isAgg])]
    exact ⟨c, rfl, h1.one⟩
  | .i x :: fs, j, i + 1, cs, e, sz, l, h, hi => by
    simp only [List.getElem?_cons_succ] at hi
    obtain ⟨c, d, rfl, h1, h2⟩ := h
    simp only [List.set_cons_succ]
    rw [show j + (i + 1) + 1 = j + 1 + i + 1 by omega]
    exact ⟨c, d, rfl, h1, RepTup.lose h2 hi⟩
  | .vec _ _ _ :: fs, j, i + 1, cs, e, sz, l, h, hi => by
    simp only [List.getElem?_cons_succ] at hi
    obtain ⟨c, d, rfl, h1, h2⟩ := h
    simp only [List.set_cons_succ]
    rw [show j + (i + 1) + 1 = j + 1 + i + 1 by omega]
    exact ⟨c, d, rfl, h1.tr (Mem.le.refl G) fun b hb => ⟨Lab.lose_some.2 ⟨by simp; omega, hb⟩, rfl⟩, RepTup.lose h2 hi⟩

theorem sound_ext {o : Oper} {d i : Nat} {x : Operand} {x' : Opd} (hd : o.dst = some d) (ho : o.op = .extract x i) (hx : opdOk N x x' = true) : Sound P N o (semExt d x' i) := by
  intro G σ Fr w0 st a w Q next E hN hr hw hn hdst
  subst hN
  cases x' with
  | c _ => exact hw.elim
  | nils _ _ => exact hw.elim
  | t n =>
    obtain ⟨rfl, hnlt⟩ := opdOk_t hx
    simp only [semExt, M.wp] at hw
    cases hs : st[n]? with
    | none => simp [hs] at hw
    | some cur =>
      obtain ⟨ver, sv⟩ := cur
      simp only [hs] at hw
      have hrep := hr.slot hnlt hs
      split at hw
      · rename_i fs
        obtain ⟨arr, hc, hrep⟩ := hrep
        have run : ∀ {c : Value}, arr.toList[i]? = some c → (execOp a.eval o).run P w = .ok (.value c) w := by
          intro c hci
          have : arr[i]? = some c := by simpa using hci
          simp [execOp, ho, hc, Instr.extract, this]
        split at hw
        · rename_i y hy
          obtain ⟨c, h1, h2⟩ := RepTup.nth hrep hy
          obtain ⟨σ', st', r1, r2⟩ := hr.setNV (hdst d hd) h2 hw
          exact wp_value (run h1) (by rw [hd]; exact hn G σ' st' _ w (Mem.le.refl G) r1 r2)
        · rename_i e sz l hy
          obtain ⟨hne, hw⟩ := hw
          obtain ⟨c, h1, h2⟩ := RepTup.nth hrep hy
          rw [Nat.zero_add] at h2
          have hr2 := Rel.self (new := .tup (fs.set i (.i .und))) (ver := ver + 1) hr (hr.wok.lose (n, i + 1)) (Mem.le.refl G) hs (Nat.lt_succ_self _)
            (fun s' hs' b k' hb => ⟨Lab.lose_some.2 ⟨fun e => hs' (by cases e; rfl), hb⟩, rfl⟩) (by
              refine ⟨arr, ?_, ?_⟩
              · rw [← hc, val_tmp (by rw [hr.n]; exact hnlt)]
              · have := RepTup.lose hrep hy
                rwa [Nat.zero_add] at this)
          have hfree := VecAt.free h2 hr.wok (σ' := σ.lose (n, i + 1)) fun b hb => by simp [Lab.lose, hb]
          obtain ⟨σ', st', r1, r2⟩ := hr2.putOwned (hdst d hd) (row := none) ⟨rfl, rfl, rfl, Nat.le_refl _, fun _ _ _ => rfl⟩ (fun b hb => by cases hb) hfree hw
          exact wp_value (run h1) (by rw [hd]; exact hn G σ' st' _ w (Mem.le.refl G) r1 r2)
        · exact hw.elim
      · exact hw.elim

theorem replicate_rep {z : I} {c : List Value} (h : RepI G z c) : ∀ n, RepIs G (List.replicate n z) (List.replicate n c).flatten
  | 0 => rfl
  | n + 1 => ⟨c, _, by simp [List.replicate_succ], h, replicate_rep h n⟩
theorem zeros_list {z : Array Value} {sz : Nat} (hz : z.size = sz) (n : Nat) : ((Array.range (n * sz)).map (fun j => z[j % z.size]!)).toList = (List.replicate n z.toList).flatten := by
  induction n with
  | zero => simp
  | succ n ih =>
    rw [List.replicate_succ', List.flatten_append, ← ih, Nat.add_mul, Nat.one_mul]
    simp only [Array.toList_map, Array.toList_range, List.range_add, List.map_append, List.map_map]
    congr 1
    apply List.ext_getElem
    · simp [hz]
    · intro j h1 h2
      simp at h1
      simp [hz, Nat.mul_add_mod_of_lt h1, h1]

theorem sound_bslice {o : Oper} {d : Nat} {t e : TypeId} {sz n : Nat} {z : I} {ps : Array (Nat × Operand)} {ps' : List (Nat × Opd)} (hd : o.dst = some d) (ho : o.op = .buildSlice t n ps) (hp : partsOk N ps.toList ps' = true) (ht : bsliceOk P t e sz z n = true) :
    Sound P N o (semBSlice d e sz z n ps') := by
  intro G σ Fr w0 st a w Q next E hN hr hw hn hdst
  subst hN
  unfold bsliceOk at ht
  split at ht
  · rename_i e' hu
    simp only [Bool.and_eq_true, beq_iff_eq, bne_iff_ne, ne_eq, decide_eq_true_eq] at ht
    obtain ⟨⟨⟨rfl, hn4⟩, hn0⟩, ht⟩ := ht
    split at ht
    · rename_i i hi
      simp only [Bool.and_eq_true, beq_iff_eq, bne_iff_ne, ne_eq, decide_eq_true_eq] at ht
      obtain ⟨⟨⟨⟨rfl, h0⟩, hs4⟩, hzsz⟩, ht⟩ := ht
      split at ht
      · rename_i v hv
        simp only [Bool.and_eq_true, beq_iff_eq] at ht
        obtain ⟨hvs, hz⟩ := ht
        have hz' : ∃ c, v.cells.toList = c ++ [] ∧ RepI G z c := by
          split at hz
          · rename_i h; exact zI_spec G z _ _ h
          · cases hz
        obtain ⟨c, hc, hz'⟩ := hz'
        rw [List.append_nil] at hc
        subst hc
        let cells0 : Array Value := (Array.range (n * i.size)).map (fun j => v.cells[j % v.cells.size]!)
        have hcells0 : RepIs G (List.replicate n z) cells0.toList := by
          rw [zeros_list hvs]
          exact replicate_rep hz' n
        have hplace : ∀ (j : Nat) (zz : I), (List.replicate n z)[j]? = some zz → (fun j : Nat => some (j * i.size, i.size)) j = some (sizes ((List.replicate n z).take j), zz.size) := by
          intro j zz hzz
          have hj : j < n := by have := (List.getElem?_eq_some_iff.1 hzz).1; simpa using this
          have hzz' : zz = z := by rw [List.getElem?_replicate, if_pos hj] at hzz; cases hzz; rfl
          subst hzz'
          rw [List.take_replicate, sizes_const (sz := i.size) (by intro x hx; rw [List.eq_of_mem_replicate hx, hzsz]), List.length_replicate, Nat.min_eq_left (Nat.le_of_lt hj), hzsz]
        obtain ⟨l, cells, G', σ', st', hG, hr', h2, h3, h4⟩ := fill_parts (place := fun j => some (j * i.size, i.size)) hr hp hw hcells0 hplace
        obtain ⟨⟨hl, hsz⟩, h2⟩ := h2
        have hclen : cells.size = n * i.size := by
          have := RepIs.length _ _ h3
          rw [sizes_const hsz, hl] at this
          simpa using this
        have hnm : n ≤ maxLen := by simp only [maxLen]; omega
        obtain ⟨σ'', st'', r1, r2⟩ := hr'.newBlock (hdst d hd) (sv := .vec e' i.size l) (o := .cells cells e') (c := .slice (some ⟨w.heap.size, 0, none⟩) n n) rfl (by intro _ e; cases e)
          (fun σ1 _ hb => ⟨cells.toList, ⟨by rw [hl]; simpa using hclen, .inr ⟨w.heap.size, n, cells, by rw [hl], Nat.zero_le _, Row.of (heap_alloc_new w _), by rw [hl]; exact Nat.le_refl _, hnm, hclen, by
            rw [hl, ← hclen]
            have : cells.size = cells.toList.length := by simp
            rw [this, List.take_length]⟩⟩, h3, hsz, fun b hb' => by cases hb'; exact hb⟩) h2
        have hbig : ¬ (n * i.size > 2 ^ 24) := by
          have : n * i.size ≤ 4096 * 4096 := Nat.mul_le_mul hn4 hs4
          omega
        have hparts : (ps.map fun (p : Nat × Operand) => (p.1, a.eval p.2)).toList = ps.toList.map fun p => (p.1, a.eval p.2) := by simp
        have hzero : (zeroValue e').run P w = .ok v w := by simp [zeroValue, typeInfo, hi, hv]
        have hsizeOf : (sizeOf e').run P w = .ok i.size w := by simp [sizeOf, typeInfo, hi]
        refine wp_value (w' := w.alloc (.cells cells e')) ?_ (by rw [hd]; exact hn G' σ'' st'' _ _ hG r1 r2)
        have hne : n * i.size ≠ 0 := Nat.mul_ne_zero hn0 h0
        have h4' : Instr.fill (fun j => some (j * i.size, i.size)) ((Array.range (n * i.size)).map (fun j => v.cells[j % v.cells.size]!)) (ps.toList.map fun p => (p.1, a.eval p.2)) = some cells := h4
        simp only [execOp, ho, Instr.buildSlice, Sem.run_bind, run_underlying hu, Result.andThen, hsizeOf]
        rw [if_neg hbig, if_neg hne]
        simp only [Sem.run_bind, hzero, Result.andThen, Sem.run_pure, hparts, h4']
        simp [newRow]
      · cases ht
    · cases ht
  · cases ht

/-- A slice literal without elements. -/
def semEmpty (d : Nat) (e : TypeId) (sz : Nat) : M := setN d (.vec e sz [])
theorem sound_empty {o : Oper} {d : Nat} {t e : TypeId} {sz : Nat} (hd : o.dst = some d) (ho : o.op = .buildSlice t 0 #[]) (ht : (P.underlying t = some (.slice e)) ∧ (P.info? e).isSome = true) : Sound P N o (semEmpty d e sz) := by
  intro G σ Fr w0 st a w Q next E hN hr hw hn hdst
  subst hN
  obtain ⟨hu, hi⟩ := ht
  cases hi' : P.info? e with
  | none => simp [hi'] at hi
  | some i =>
    obtain ⟨σ'', st'', r1, r2⟩ := hr.newBlock (hdst d hd) (sv := .vec e sz []) (o := .cells #[] e) (c := .slice (some ⟨w.heap.size, 0, none⟩) 0 0) rfl (by intro _ e; cases e)
      (fun σ1 _ hb => ⟨[], ⟨by simp, .inr ⟨w.heap.size, 0, #[], rfl, Nat.zero_le _, Row.of (heap_alloc_new w _), Nat.le_refl _, by simp [maxLen], by simp, by simp⟩⟩, rfl, by simp, fun b hb' => by cases hb'; exact hb⟩) hw
    refine wp_value (w' := w.alloc (.cells #[] e)) ?_ (by rw [hd]; exact hn G σ'' st'' _ _ (Mem.le.refl G) r1 r2)
    have h0 : Array.range 0 = #[] := rfl
    simp [execOp, ho, Instr.buildSlice, run_underlying hu, sizeOf, typeInfo, hi', newRow, Instr.fill, h0]
end
end Go.Ab
