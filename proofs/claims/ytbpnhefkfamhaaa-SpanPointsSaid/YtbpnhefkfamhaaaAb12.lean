/- One text of the proof whose last text says what is proved. -/
import Derived.Test.YtbpnhefkfamhaaaAb11
set_option linter.unusedVariables false
set_option linter.unusedSimpArgs false
namespace Go.Ab

/-- Bounds of a slice expression: what is left out is 0, or the length. -/
def rdB (x : Option Opd) (dflt : Int) (k : Int → M) : M := match x with
  | none => k dflt
  | some x => rdI x fun i => match i with
    | .int _ n => k n
    | _ => .fail

def oOk (N : Nat) : Option Operand → Option Opd → Bool
  | none, none => true
  | some x, some y => opdOk N x y
  | _, _ => false
def semSlice (d : Option Nat) (str : Bool) (sz : Nat) (x : Opd) (lo hi : Option Opd) : M := match x with
  | .t n => .get n fun ver sv => match sv with
    | .v (.list l) => rdB lo 0 fun i => rdB hi l.length fun j => .need (str = false ∧ 0 ≤ i ∧ i ≤ j ∧ j ≤ l.length ∧ ∀ u ∈ l, u.size = sz) fun _ => setD d (.v (.list ((l.take j.toNat).drop i.toNat))) .done
    | .v (.str s) => rdB lo 0 fun i => rdB hi s.length fun j => .need (str = true ∧ 0 ≤ i ∧ i ≤ j ∧ j ≤ s.length) fun _ => setD d (.v (.str ((s.take j.toNat).drop i.toNat))) .done
    | .vec _ sz' l => rdB lo 0 fun i => rdB hi l.length fun j => .need (str = false ∧ sz' = sz ∧ i = 0 ∧ 0 ≤ j ∧ j ≤ l.length ∧ d ≠ some n) fun _ => setD d (.sub n 0 ver j.toNat) .done
    | .bor s k v => .get s fun cur sv' => .need (v = cur) fun _ => match sv'.vecAt k with
      | some (_, sz', l) => rdB lo 0 fun i => rdB hi l.length fun j => .need (str = false ∧ sz' = sz ∧ i = 0 ∧ 0 ≤ j ∧ j ≤ l.length ∧ d ≠ some s) fun _ => setD d (.sub s k v j.toNat) .done
      | none => .fail
    | _ => .fail
  | _ => .fail

def strIdx (d : Option Nat) (x i : Opd) : M := rdI x fun u => rdI i fun n => match u, n with
  | .str s, .int _ n => match s[n.toNat]? with
    | some b => .need (0 ≤ n) fun _ => setD d (.v (.int .u8 b.toNat)) .done
    | none => .fail
  | _, _ => .fail

section
variable {P : Program} {N : Nat} {G : Mem} {σ : Lab} {Fr : Mem} {w0 : Base} {w : World} {st : St} {a : Act}

theorem rdB_rep {x : Option Operand} {y : Option Opd} {dflt : Int} {k : Int → M} {Q : St → Prop} (h : Rel G σ Fr w0 st a w)
    (ho : oOk w0.n x y = true) (hq : (rdB y dflt k).wp P Q st) :
    ∃ i, (k i).wp P Q st ∧ ((x = none ∧ i = dflt) ∨ ∃ x' kd, x = some x' ∧ a.eval x' = .int kd i) := by
  cases y with
  | none =>
    cases x with
    | none => exact ⟨dflt, hq, .inl ⟨rfl, rfl⟩⟩
    | some x => cases ho
  | some y =>
    cases x with
    | none => cases ho
    | some x =>
      obtain ⟨i, h1, h2⟩ := rdI_rep h ho hq
      cases i with
      | int kd n => exact ⟨n, h1, .inr ⟨x, kd, rfl, RepV.int.1 h2⟩⟩
      | _ => exact h1.elim

theorem sliceBounds_run {isSlice : Bool} {len cap : Nat} {lo hi : Option Operand} {i j : Int} (w : World)
    (hlo : (lo = none ∧ i = 0) ∨ ∃ x kd, lo = some x ∧ a.eval x = .int kd i) (hhi : (hi = none ∧ j = len) ∨ ∃ x kd, hi = some x ∧ a.eval x = .int kd j)
    (h0 : 0 ≤ i) (h1 : i ≤ j) (h2 : j ≤ len) (hc : len ≤ cap) : (Instr.sliceBounds isSlice len cap (lo.map a.eval) (hi.map a.eval) none).run P w = .ok (i.toNat, j.toNat, cap) w := by
  have b1 : ∀ (kd : IntKind) (code : BoundsCode), (Instr.sliceBound (.int kd j) cap code).run P w = .ok j.toNat w := fun kd code =>
    run_sliceBound (P := P) (w := w) kd j cap code (by omega) (by omega)
  have b2 : ∀ (kd : IntKind) (code : BoundsCode), (Instr.sliceBound (.int kd i) j.toNat code).run P w = .ok i.toNat w := fun kd code =>
    run_sliceBound (P := P) (w := w) kd i j.toNat code (by omega) (by omega)
  have b3 : ∀ (kd : IntKind) (code : BoundsCode), j = len → (Instr.sliceBound (.int kd i) len code).run P w = .ok i.toNat w := fun kd code e => by
    have := b2 kd code
    rw [e] at this
    simpa using this
  rcases hlo with ⟨rfl, rfl⟩ | ⟨x, kd, rfl, hx⟩ <;> rcases hhi with ⟨rfl, rfl⟩ | ⟨y, kd', rfl, hy⟩
  · simp [Instr.sliceBounds]
  · simp [Instr.sliceBounds, hy, b1]
  · simp [Instr.sliceBounds, hx, b3]
  · simp [Instr.sliceBounds, hx, hy, b1, b2]

theorem RepIs.slice {G : Mem} {l : List I} {cs : List Value} {sz i j : Nat} (h : RepIs G l cs) (hsz : ∀ x ∈ l, x.size = sz) (hij : i ≤ j) (hj : j ≤ l.length) :
    RepIs G ((l.take j).drop i) ((cs.take (j * sz)).drop (i * sz)) := by
  have e1 : l = (l.take j) ++ l.drop j := (List.take_append_drop j l).symm
  rw [e1] at h
  obtain ⟨c, d, rfl, h1, _⟩ := RepIs.split h
  have hl1 : c.length = j * sz := by
    rw [RepIs.length _ _ h1, sizes_const (sz := sz) fun x hx => hsz x (List.mem_of_mem_take hx), List.length_take, Nat.min_eq_left hj]
  have e2 : l.take j = (l.take j).take i ++ (l.take j).drop i := (List.take_append_drop i _).symm
  rw [e2] at h1
  obtain ⟨c1, c2, rfl, h3, h4⟩ := RepIs.split h1
  have hl2 : c1.length = i * sz := by
    rw [RepIs.length _ _ h3, sizes_const (sz := sz) fun x hx => hsz x (List.mem_of_mem_take (List.mem_of_mem_take hx)), List.length_take, List.length_take]
    rw [Nat.min_eq_left (by omega)]
  rw [← hl1, List.take_left, ← hl2, List.drop_left]
  exact h4

theorem RepV.sliced {l : List I} {ad : Option Addr} {cap i j sz : Nat} (h : RepV G (.list l) (.slice ad l.length cap)) (hij : i ≤ j) (hj : j ≤ l.length) (hsz : l ≠ [] → ∀ x ∈ l, x.size = sz) :
    RepV G (.list ((l.take j).drop i)) (.slice (if cap = i then ad else ad.map (·.add (i * sz))) (j - i) (cap - i)) := by
  obtain ⟨a', cap', he, h1, h2, h3⟩ := RepV.list.1 h
  cases he
  have hlen : ((l.take j).drop i).length = j - i := by simp [Nat.min_eq_left hj]
  refine RepV.list.2 ⟨_, _, by rw [hlen], by rw [hlen]; omega, by omega, ?_⟩
  rcases h3 with rfl | ⟨b, off, bl, ty, fz, sz', rfl, hg, hs, hle, hr⟩
  · exact .inl (by simp)
  · by_cases hij' : i = j
    · subst hij'
      exact .inl (List.eq_nil_of_length_eq_zero (by rw [hlen]; omega))
    · have hne : l ≠ [] := by rintro rfl; simp at hj; omega
      have hszz : sz' = sz := by
        cases l with
        | nil => exact absurd rfl hne
        | cons x l => rw [← hs x (by simp), hsz hne x (by simp)]
      subst hszz
      have hci : cap ≠ i := by omega
      rw [if_neg hci]
      refine .inr ⟨b, off + i * sz', bl, ty, fz, sz', by simp [add_lit], hg, fun x hx => hs x (List.mem_of_mem_take (List.mem_of_mem_drop hx)), ?_, ?_⟩
      · rw [hlen, Nat.sub_mul]
        have h4 : i * sz' ≤ j * sz' := Nat.mul_le_mul_right _ hij
        have h5 : j * sz' ≤ l.length * sz' := Nat.mul_le_mul_right _ hj
        omega
      · have := RepIs.slice hr hs hij hj
        rw [hlen]
        have h5 : j * sz' ≤ l.length * sz' := Nat.mul_le_mul_right _ hj
        have e : (((bl.toList.drop off).take (l.length * sz')).take (j * sz')).drop (i * sz') = (bl.toList.drop (off + i * sz')).take ((j - i) * sz') := by
          rw [List.take_take, Nat.min_eq_left h5, List.drop_take, List.drop_drop, Nat.sub_mul]
        rwa [e] at this

def slcOk (P : Program) (t : TypeId) (str : Bool) (sz : Nat) : Bool := match P.underlying t with
  | some .string => str
  | some (.slice e) => !str && match P.info? e with
    | some i => i.size == sz
    | none => false
  | _ => false

theorem extract_data (s : List UInt8) (i j : Nat) : (⟨⟨s⟩⟩ : ByteArray).extract i j = ⟨⟨(s.take j).drop i⟩⟩ := by
  apply ByteArray.ext
  apply Array.ext'
  simp [List.extract_eq_take_drop, List.drop_take]

theorem VecAt.take {lab : Nat × Nat} {e : TypeId} {sz : Nat} {l : List I} {ad : Option Addr} {n cap j : Nat} (h : VecAt G σ w lab e sz l (.slice ad n cap)) (hj : j ≤ l.length) :
    VecAt G σ w lab e sz (l.take j) (.slice ad j cap) := by
  obtain ⟨xs, h1, h2, h3, h4⟩ := h
  have hl : (l.take j).length = j := by rw [List.length_take, Nat.min_eq_left hj]
  have e1 : l = l.take j ++ l.drop j := (List.take_append_drop j l).symm
  rw [e1] at h2
  obtain ⟨c, d, rfl, h5, _⟩ := RepIs.split h2
  have hc : c.length = j * sz := by rw [RepIs.length _ _ h5, sizes_const (sz := sz) fun x hx => h3 x (List.mem_of_mem_take hx), hl]
  refine ⟨c, ⟨by rw [hl, hc], ?_⟩, h5, fun x hx => h3 x (List.mem_of_mem_take hx), fun b hb => h4 b (by cases ad with | none => simp [Value.ownBlock] at hb | some _ => simpa [Value.ownBlock] using hb)⟩
  rcases h1.2 with ⟨e2, e3⟩ | ⟨g, cap', cur, e2, k1, k2, k3, k4, k5, k6⟩
  · cases e2
    exact .inl ⟨by congr 1; omega, by rw [hl]; omega⟩
  · cases e2
    refine .inr ⟨g, cap, cur, by rw [hl], k1, k2, by rw [hl]; omega, k4, k5, ?_⟩
    rw [hl, ← hc]
    have h7 : (cur.toList.take (l.length * sz)).take c.length = c := by rw [k6, List.take_left]
    rw [List.take_take, Nat.min_eq_left] at h7
    · exact h7
    · rw [hc]; exact Nat.mul_le_mul_right _ hj

theorem sound_slice {o : Oper} {t : TypeId} {x : Operand} {lo hi : Option Operand} {x' : Opd} {lo' hi' : Option Opd} {str : Bool} {sz : Nat} (ho : o.op = .slice t x lo hi none) (hx : opdOk N x x' = true)
    (hlo : oOk N lo lo' = true) (hhi : oOk N hi hi' = true) (ht : slcOk P t str sz = true) : Sound P N o (semSlice o.dst str sz x' lo' hi') := by
  intro G σ Fr w0 st a w Q next E hN hr hw hn hdst
  subst hN
  have hsl : str = false → ∃ e i, P.underlying t = some (.slice e) ∧ P.info? e = some i ∧ i.size = sz := by
    rintro rfl
    unfold slcOk at ht
    split at ht
    · cases ht
    · rename_i e h
      split at ht
      · rename_i i hi; exact ⟨e, i, h, hi, by simpa using ht⟩
      · cases ht
    · cases ht
  have hst : str = true → P.underlying t = some .string := by
    rintro rfl
    unfold slcOk at ht
    split at ht
    · assumption
    · simp at ht
    · cases ht
  cases x' with
  | c _ => exact hw.elim
  | nils _ _ => exact hw.elim
  | t n =>
    obtain ⟨rfl, hnlt⟩ := opdOk_t hx
    simp only [semSlice, M.wp] at hw
    cases hs : st[n]? with
    | none => simp [hs] at hw
    | some cur =>
      obtain ⟨ver, sv⟩ := cur
      simp only [hs] at hw
      have hrep := hr.slot hnlt hs
      split at hw
      · rename_i l
        obtain ⟨i, h1, hi1⟩ := rdB_rep hr hlo hw
        obtain ⟨j, h2, hj1⟩ := rdB_rep hr hhi h1
        obtain ⟨⟨k1, k2, k3, k4, k5⟩, h3⟩ := h2
        obtain ⟨e, i0, hu, hi0, hsz⟩ := hsl k1
        have hrep' : RepV G (.list l) (a.eval (.tmp n)) := hrep
        obtain ⟨ad, cap, hc, hlc, _⟩ := RepV.list.1 hrep'
        have hb := sliceBounds_run (P := P) (isSlice := true) (len := l.length) (cap := cap) w hi1 hj1 k2 k3 k4 hlc
        rw [hc] at hrep'
        have hv := RepV.sliced (i := i.toNat) (j := j.toNat) (sz := sz) hrep' (by omega) (by omega) fun _ => k5
        refine done_v hr hn hdst hv h3 ?_
        simp [execOp, ho, Instr.sliceAt, Instr.slice, run_underlying hu, hc, hb, sizeOf, typeInfo, hi0, hsz]
      · rename_i s
        obtain ⟨i, h1, hi1⟩ := rdB_rep hr hlo hw
        obtain ⟨j, h2, hj1⟩ := rdB_rep hr hhi h1
        obtain ⟨⟨k1, k2, k3, k4⟩, h3⟩ := h2
        have hu := hst k1
        have hrep' : RepV G (.str s) (a.eval (.tmp n)) := hrep
        obtain ⟨hc, hmax⟩ := RepV.str.1 hrep'
        have hb := sliceBounds_run (P := P) (isSlice := false) (len := s.length) (cap := s.length) w hi1 hj1 k2 k3 k4 (Nat.le_refl _)
        refine done_v hr hn hdst (v := .string ⟨⟨(s.take j.toNat).drop i.toNat⟩⟩) (RepV.str.2 ⟨rfl, by simp; omega⟩) h3 ?_
        have hsize : (⟨⟨s⟩⟩ : ByteArray).size = s.length := rfl
        simp [execOp, ho, Instr.sliceAt, Instr.slice, run_underlying hu, hc, hsize, hb, extract_data]
      · rename_i e' sz' l
        obtain ⟨i, h1, hi1⟩ := rdB_rep hr hlo hw
        obtain ⟨j, h2, hj1⟩ := rdB_rep hr hhi h1
        obtain ⟨⟨k1, rfl, rfl, k3, k4, hne⟩, h3⟩ := h2
        obtain ⟨e, i0, hu, hi0, hsz⟩ := hsl k1
        have hrep' : VecAt G σ w (n, 0) e' sz' l (a.eval (.tmp n)) := hrep
        obtain ⟨ad, cap, hc, _⟩ := hrep'.len
        have hlc : l.length ≤ cap := by
          obtain ⟨xs, q1, _⟩ := hrep'
          rcases q1.2 with ⟨q2, q3⟩ | ⟨g, cap', cur, q2, _, _, q3, _⟩
          · omega
          · rw [hc] at q2; cases q2; exact q3
        have hb := sliceBounds_run (P := P) (isSlice := true) (len := l.length) (cap := cap) w hi1 hj1 (Int.le_refl 0) k3 k4 hlc
        rw [hc] at hrep'
        have hv := hrep'.take (j := j.toNat) (by omega)
        obtain ⟨σ', st', r1, r2⟩ := hr.setD hdst (sv := .sub n 0 ver j.toNat) (c := .slice ad j.toNat cap) (fun d' hd ver' _ => by
          refine ⟨_, by rw [List.getElem?_set_ne (by rintro rfl; exact hne hd)]; exact hs, Nat.le_refl _, fun _ => ⟨e', sz', l, rfl, ?_⟩⟩
          exact hv.tr (Mem.le.refl G) fun b hb => ⟨Lab.drop_some.2 ⟨by rintro rfl; exact hne hd, hb⟩, rfl⟩) h3
        refine wp_value (w' := w) ?_ (hn G σ' st' _ w (Mem.le.refl G) r1 r2)
        have had : Option.map (fun x : Addr => x.add 0) ad = ad := by cases ad <;> simp [Addr.add]
        simp [execOp, ho, Instr.sliceAt, Instr.slice, run_underlying hu, hc, hb, sizeOf, typeInfo, hi0, hsz, had]
      · rename_i s k v
        obtain ⟨cur, g1, g2, g3⟩ := hrep
        simp only [M.wp, g1] at hw
        obtain ⟨hv, hw⟩ := hw
        obtain ⟨e', sz', l, g4, g5⟩ := g3 hv
        simp only [g4] at hw
        obtain ⟨i, h1, hi1⟩ := rdB_rep hr hlo hw
        obtain ⟨j, h2, hj1⟩ := rdB_rep hr hhi h1
        obtain ⟨⟨k1, rfl, rfl, k3, k4, hne⟩, h3⟩ := h2
        obtain ⟨e, i0, hu, hi0, hsz⟩ := hsl k1
        obtain ⟨ad, cap, hc, _⟩ := g5.len
        have hlc : l.length ≤ cap := by
          obtain ⟨xs, q1, _⟩ := g5
          rcases q1.2 with ⟨q2, q3⟩ | ⟨g, cap', cur, q2, _, _, q3, _⟩
          · omega
          · rw [hc] at q2; cases q2; exact q3
        have hb := sliceBounds_run (P := P) (isSlice := true) (len := l.length) (cap := cap) w hi1 hj1 (Int.le_refl 0) k3 k4 hlc
        rw [hc] at g5
        have hvv := g5.take (j := j.toNat) (by omega)
        obtain ⟨σ', st', r1, r2⟩ := hr.setD hdst (sv := .sub s k v j.toNat) (c := .slice ad j.toNat cap) (fun d' hd ver' _ => by
          refine ⟨cur, by rw [List.getElem?_set_ne (by rintro rfl; exact hne hd)]; exact g1, g2, fun _ => ⟨e', sz', l, g4, ?_⟩⟩
          exact hvv.tr (Mem.le.refl G) fun b hb => ⟨Lab.drop_some.2 ⟨by rintro rfl; exact hne hd, hb⟩, rfl⟩) h3
        refine wp_value (w' := w) ?_ (hn G σ' st' _ w (Mem.le.refl G) r1 r2)
        have had : Option.map (fun x : Addr => x.add 0) ad = ad := by cases ad <;> simp [Addr.add]
        simp [execOp, ho, Instr.sliceAt, Instr.slice, run_underlying hu, hc, hb, sizeOf, typeInfo, hi0, hsz, had]
      · exact hw.elim
end
end Go.Ab
