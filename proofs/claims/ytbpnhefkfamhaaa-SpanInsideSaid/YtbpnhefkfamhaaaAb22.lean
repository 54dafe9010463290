/- One text of the proof whose last text says what is proved. -/
import Derived.Test.YtbpnhefkfamhaaaAb21
import Derived.Deep.Slices
import Derived.ChangeSame
import Derived.ChangeArms
import Derived.ProofKit
import Derived.OpenShut
set_option linter.unusedVariables false
set_option linter.unusedSimpArgs false
namespace Go.Ab
open Go.ChangeShapes Go.Deep

/-- The shape of what is handed in. -/
inductive Sh where
  | int (k : IntKind)
  | bool
  | str
  | st (l : List Sh)
  | sl (sz : Nat) (e : Sh)
  | ar (sz n : Nat) (e : Sh)
  deriving Inhabited

mutual
def Sh.ok (P : Program) : TypeId → Sh → Bool
  | t, .int k => match P.underlying t with
    | some (.int k') => k == k'
    | _ => false
  | t, .bool => match P.underlying t with
    | some .bool => true
    | _ => false
  | t, .str => match P.underlying t with
    | some .string => true
    | _ => false
  | t, .st l => match P.underlying t with
    | some (.struct fs) => Sh.oks P 0 (P.cellsOf t) fs.toList l
    | _ => false
  | t, .sl sz e => match P.underlying t with
    | some (.slice e') => P.cellsOf e' == sz && sz != 0 && Sh.ok P e' e
    | _ => false
  | t, .ar sz n e => match P.underlying t with
    | some (.array m e') => P.cellsOf e' == sz && m == n && P.cellsOf t == n * sz && Sh.ok P e' e
    | _ => false
def Sh.oks (P : Program) : Nat → Nat → List Field → List Sh → Bool
  | off, tot, [], [] => off == tot
  | off, tot, f :: fs, s :: l => f.offset == off && Sh.ok P f.type s && Sh.oks P (off + P.cellsOf f.type) tot fs l
  | _, _, _, _ => false
end
mutual
def Fits : Sh → I → Prop
  | .int k, x => ∃ n, x = .int k n ∧ (Lit.int k n).wf = true
  | .bool, x => ∃ b, x = .bool b
  | .str, x => ∃ s, x = .str s
  | .st l, x => ∃ xs, x = .agg xs ∧ FitsL l xs
  | .sl sz e, x => ∃ xs, x = .list xs ∧ ∀ y ∈ xs, Fits e y ∧ y.size = sz
  | .ar sz n e, x => ∃ xs, x = .arr sz xs ∧ xs.length = n ∧ ∀ y ∈ xs, Fits e y ∧ y.size = sz
def FitsL : List Sh → List I → Prop
  | [], xs => xs = []
  | s :: l, xs => ∃ y ys, xs = y :: ys ∧ Fits s y ∧ FitsL l ys
end

def heapMem (w : World) : Mem := fun b => w.heap[b]?

section
variable {H : Type} {enc : TypeId × Value → H} {P : Program} {w : World} {base : Nat} {sp : Nat → Bool} {held : Bool}

theorem cells_lit {a : Addr} {n : Nat} {cs : List Value} (h : w.cells? base a n = some cs) (h0 : 0 < n) : ∃ bl ty fz, a = ⟨a.block, a.off, none⟩ ∧ w.heap[a.block]? = some (.cells bl ty fz) ∧ a.off + n ≤ bl.size ∧ (bl.toList.drop a.off).take n = cs := by
  obtain ⟨_, hl, hc⟩ := World.cells?_some h
  have hget : ∀ i, i < n → ∃ v, w.cell? (a.add i) = some v := fun i hi => ⟨cs[i]'(by omega), by rw [hc i hi, List.getElem?_eq_getElem]⟩
  obtain ⟨v, hv⟩ := hget 0 h0
  unfold World.cell? at hv
  rw [show a.add 0 = a from by simp [Addr.add]] at hv
  split at hv
  · rename_i bl ty fz hb
    split at hv
    · cases hv
    · rename_i hs
      have hspot : a.spot = none := by cases hsp : a.spot <;> simp [hsp] at hs ⊢
      have hadd : ∀ i, w.cell? (a.add i) = bl[a.off + i]? := by
        intro i
        unfold World.cell? Addr.add
        by_cases hi : i = 0
        · simp [hi, hb, hspot]
        · simp [hi, hb]
      have hsz : a.off + n ≤ bl.size := by
        obtain ⟨v', hv'⟩ := hget (n - 1) (by omega)
        rw [hadd] at hv'
        have := (Array.getElem?_eq_some_iff.1 hv').1
        omega
      refine ⟨bl, ty, fz, ?_, hb, hsz, ?_⟩
      · cases a; simp at hspot; simp [hspot]
      · apply List.ext_getElem?
        intro i
        by_cases hi : i < n
        · rw [List.getElem?_take, if_pos hi, List.getElem?_drop, ← hc i hi, hadd]
          simp
        · rw [List.getElem?_eq_none (by simp; omega), List.getElem?_eq_none (by omega)]
  · cases hv

theorem RepIs.of_rows {G : Mem} {sz : Nat} : ∀ {n : Nat} {cells : List Value} {p : I → Prop}, n * sz ≤ cells.length → (∀ i, i < n → ∃ x, RepI G x ((cells.drop (i * sz)).take sz) ∧ p x) → ∃ xs, xs.length = n ∧ RepIs G xs (cells.take (n * sz)) ∧ ∀ x ∈ xs, p x
  | 0, cells, p, _, _ => ⟨[], rfl, by simp [RepIs], by simp⟩
  | n + 1, cells, p, hl, h => by
    have hm : (n + 1) * sz = sz + n * sz := by rw [Nat.add_mul]; omega
    obtain ⟨x, h1, h2⟩ := h 0 (by omega)
    simp only [Nat.zero_mul, List.drop_zero] at h1
    obtain ⟨xs, h3, h4, h5⟩ := RepIs.of_rows (sz := sz) (n := n) (cells := cells.drop sz) (p := p) (by rw [List.length_drop]; omega) fun i hi => by
      obtain ⟨y, g1, g2⟩ := h (i + 1) (by omega)
      refine ⟨y, ?_, g2⟩
      rw [List.drop_drop, show sz + i * sz = (i + 1) * sz by rw [Nat.add_mul]; omega]
      exact g1
    refine ⟨x :: xs, by simp [h3], ?_, ?_⟩
    · rw [hm, List.take_add]
      simp only [RepIs]
      exact ⟨_, _, rfl, h1, h4⟩
    · intro y hy
      rcases List.mem_cons.mp hy with rfl | hy
      · exact h2
      · exact h5 y hy

theorem oks_le : ∀ {l : List Sh} {fs : List Field} {off tot : Nat}, Sh.oks P off tot fs l = true → off ≤ tot
  | [], [], _, _, h => by simp only [Sh.oks, beq_iff_eq] at h; omega
  | s :: l, f :: fs, off, tot, h => by
    simp only [Sh.oks, Bool.and_eq_true] at h
    have := oks_le h.2
    omega
  | [], _ :: _, _, _, h => by simp [Sh.oks] at h
  | _ :: _, [], _, _, h => by simp [Sh.oks] at h

mutual
/-- What is read as its shape says, is an item. -/
theorem trod_item : ∀ (sh : Sh) {t : TypeId} {fuel : Nat} {cs : List Value} {x : DataW H × List MemPlace}, sh.ok P t = true → DataW.trod enc P w base (fun _ => sp 0) held fuel t cs = some x →
    ∃ y, RepI (heapMem w) y cs ∧ Fits sh y
  | .int k, t, fuel, cs, x, ho, h => by
    simp only [Sh.ok] at ho
    split at ho
    · rename_i k' ht
      rw [beq_iff_eq] at ho
      subst ho
      obtain ⟨n, rfl, _, hw⟩ := DataW.trod_int ht h
      exact ⟨.int k n, by simp [RepI], n, rfl, hw⟩
    · cases ho
  | .bool, t, fuel, cs, x, ho, h => by
    simp only [Sh.ok] at ho
    split at ho
    · rename_i ht
      obtain ⟨b, rfl, _⟩ := DataW.trod_bool ht h
      exact ⟨.bool b, by simp [RepI], b, rfl⟩
    · cases ho
  | .str, t, fuel, cs, x, ho, h => by
    simp only [Sh.ok] at ho
    split at ho
    · rename_i ht
      obtain ⟨s, rfl, _, hs⟩ := DataW.trod_string ht h
      obtain ⟨⟨s⟩⟩ := s
      exact ⟨.str s, by simp only [RepI]; exact ⟨trivial, hs⟩, s, rfl⟩
    · cases ho
  | .st l, t, fuel, cs, x, ho, h => by
    simp only [Sh.ok] at ho
    split at ho
    · rename_i fs ht
      cases fuel with
      | zero => simp [DataW.trod] at h
      | succ fuel =>
        simp only [DataW.trod, ht] at h
        split at h
        · rename_i hl
          obtain ⟨xs, h1, _⟩ := Option.map_eq_some_iff.1 h
          obtain ⟨ys, h2, h3⟩ := trod_items l (off := 0) ho h1
          refine ⟨.agg ys, ?_, ys, rfl, h3⟩
          simp only [RepI]
          simpa [← hl] using h2
        · cases h
    · cases ho
  | .sl sz e, t, fuel, cs, x, ho, h => by
    simp only [Sh.ok] at ho
    split at ho
    · rename_i e' ht
      simp only [Bool.and_eq_true, beq_iff_eq, bne_iff_ne, ne_eq] at ho
      obtain ⟨⟨hsz, hz⟩, he⟩ := ho
      rcases open_slice ht h with ⟨rfl, _⟩ | ⟨a, len, cap, m, n, D, Pl, rfl, _, hlc, hcm, hm, _, hx⟩
      · exact ⟨.list [], by simp only [RepI]; exact ⟨none, 0, rfl, Nat.le_refl _, Nat.zero_le _, .inl trivial⟩, [], rfl, by simp⟩
      · by_cases h0 : len = 0
        · subst h0
          exact ⟨.list [], by simp only [RepI]; exact ⟨some a, cap, rfl, Nat.zero_le _, hcm, .inl trivial⟩, [], rfl, by simp⟩
        · have hmm : len ≤ m := by subst hm; split <;> omega
          have hrow : ∀ i, i < len → ∃ cs' y, w.cells? base (a.add (i * sz)) sz = some cs' ∧ RepI (heapMem w) y cs' ∧ Fits e y ∧ y.size = sz := by
            intro i hi
            obtain ⟨cs', g1, g2⟩ := hx i (by omega)
            obtain ⟨y, g3, g4⟩ := trod_item e he g2
            rw [hsz] at g1
            have hlen := (World.cells?_some g1).2.1
            exact ⟨cs', y, g1, g3, g4, by rw [← RepI.length _ _ g3, hlen]⟩
          obtain ⟨cs0, _, c1, _⟩ := hrow 0 (by omega)
          rw [Nat.zero_mul, show a.add 0 = a by simp [Addr.add]] at c1
          obtain ⟨bl, ty, fz, ha, hb, hs0, _⟩ := cells_lit c1 (by omega)
          have hat : ∀ i, i < len → a.off + i * sz + sz ≤ bl.size ∧ ∃ y, RepI (heapMem w) y (((bl.toList.drop a.off).drop (i * sz)).take sz) ∧ Fits e y ∧ y.size = sz := by
            intro i hi
            obtain ⟨cs', y, g1, g2, g3, g4⟩ := hrow i hi
            obtain ⟨bl', ty', fz', k1, k2, k3, k4⟩ := cells_lit g1 (by omega)
            have e1 : (a.add (i * sz)).block = a.block := by unfold Addr.add; split <;> rfl
            have e2 : (a.add (i * sz)).off = a.off + i * sz := by unfold Addr.add; split <;> rename_i hh <;> simp [hh]
            rw [e1, hb] at k2
            cases k2
            rw [e2] at k3 k4
            refine ⟨k3, y, ?_, g3, g4⟩
            rw [List.drop_drop, k4]
            exact g2
          have hlast := (hat (len - 1) (by omega)).1
          have hmul : (len - 1) * sz + sz = len * sz := by
            obtain ⟨q, rfl⟩ : ∃ q, len = q + 1 := ⟨len - 1, by omega⟩
            rw [Nat.add_sub_cancel, Nat.add_mul, Nat.one_mul]
          obtain ⟨xs, x1, x2, x3⟩ := RepIs.of_rows (G := heapMem w) (sz := sz) (n := len) (cells := bl.toList.drop a.off) (p := fun y => Fits e y ∧ y.size = sz) (by simp; omega) fun i hi => (hat i hi).2
          refine ⟨.list xs, ?_, xs, rfl, x3⟩
          simp only [RepI]
          refine ⟨some a, cap, by rw [x1], by omega, hcm, .inr ⟨a.block, a.off, bl, ty, fz, sz, by rw [← ha], hb, fun y hy => (x3 y hy).2, by rw [x1]; omega, by rw [x1]; exact x2⟩⟩
    · cases ho
  | .ar sz n e, t, fuel, cs, x, ho, h => by
    simp only [Sh.ok] at ho
    split at ho
    · rename_i m e' ht
      simp only [Bool.and_eq_true, beq_iff_eq] at ho
      obtain ⟨⟨⟨hsz, rfl⟩, htot⟩, he⟩ := ho
      obtain ⟨xs, fu, rfl, _, hl, hxl, hx⟩ := DataW.trod_array ht h
      rw [htot] at hl
      rw [hsz] at hx
      obtain ⟨ys, y1, y2, y3⟩ := RepIs.of_rows (G := heapMem w) (sz := sz) (n := m) (cells := cs) (p := fun y => Fits e y ∧ y.size = sz) (by omega) fun i hi => by
        obtain ⟨d, hd⟩ : ∃ d, xs[i]? = some d := ⟨_, List.getElem?_eq_getElem (by omega)⟩
        have h1 := hx i hi
        rw [hd] at h1
        obtain ⟨y, g1, g2⟩ := trod_item e he h1
        refine ⟨y, g1, g2, ?_⟩
        rw [← RepI.length _ _ g1, List.length_take, List.length_drop]
        have : (i + 1) * sz ≤ m * sz := Nat.mul_le_mul_right _ (by omega)
        rw [Nat.add_mul, Nat.one_mul] at this
        omega
      refine ⟨.arr sz ys, ?_, ys, rfl, y1, y3⟩
      rw [List.take_of_length_le (by omega)] at y2
      simp only [RepI]
      exact ⟨y2, fun y hy => (y3 y hy).2⟩
    · cases ho
theorem trod_items : ∀ (l : List Sh) {fs : List Field} {off tot fuel : Nat} {cs : List Value} {xs : List (DataW H × List MemPlace)}, Sh.oks P off tot fs l = true →
    (fs.mapM fun f => DataW.trod enc P w base (fun _ => sp 0) held fuel f.type ((cs.drop f.offset).take (P.cellsOf f.type))) = some xs → ∃ ys, RepIs (heapMem w) ys ((cs.take tot).drop off) ∧ FitsL l ys
  | [], fs, off, tot, fuel, cs, xs, ho, h => by
    cases fs with
    | nil =>
      simp only [Sh.oks, beq_iff_eq] at ho
      subst ho
      exact ⟨[], by simp [RepIs], rfl⟩
    | cons f fs => simp [Sh.oks] at ho
  | s :: l, fs, off, tot, fuel, cs, xs, ho, h => by
    cases fs with
    | nil => simp [Sh.oks] at ho
    | cons f fs =>
      simp only [Sh.oks, Bool.and_eq_true, beq_iff_eq] at ho
      obtain ⟨⟨rfl, h1⟩, h2⟩ := ho
      simp only [List.mapM_cons] at h
      obtain ⟨y, g1, g2⟩ := Option.bind_eq_some_iff.1 h
      obtain ⟨z, g3, g4⟩ := Option.bind_eq_some_iff.1 g2
      obtain ⟨u, g5, g6⟩ := trod_item s h1 g1
      obtain ⟨us, g7, g8⟩ := trod_items l (cs := cs) h2 g3
      refine ⟨u :: us, ?_, u, us, rfl, g6, g8⟩
      simp only [RepIs]
      have hle := oks_le h2
      refine ⟨_, _, ?_, g5, g7⟩
      have e1 : (cs.drop f.offset).take (P.cellsOf f.type) = ((cs.take tot).drop f.offset).take (P.cellsOf f.type) := by
        rw [List.drop_take, List.take_take, Nat.min_eq_left (by omega)]
      rw [e1, ← List.drop_drop, List.take_append_drop]
end
end
end Go.Ab
