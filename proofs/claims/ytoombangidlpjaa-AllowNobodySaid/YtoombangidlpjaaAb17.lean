/- One text of the proof whose last text says what is proved. -/
import Derived.Test.YtoombangidlpjaaAbE7
import Derived.Deep.LoopGhost
set_option linter.unusedVariables false
set_option linter.unusedSimpArgs false
namespace Go.Ab

/-- An operation of the abstract machine. -/
inductive IOp where
  | mv (d : Nat) (x : Opd)
  | asg (d : Nat) (x : Opd)
  | mov (d : Nat) (e : TypeId) (sz : Nat) (x : Opd)
  | bin (d : Nat) (op : BinOp) (x y : Opd)
  | not (d : Nat) (x : Opd)
  | neg (d : Nat) (x : Opd)
  | pick (d : Nat) (c x y : Opd)
  | load (d : Nat) (agg : Bool) (sz : Nat) (x : Opd)
  | store (sz : Nat) (x y : Opd)
  | alloc (d : Nat) (t : T)
  | box (d : Nat) (x : Opd)
  | faddr (d : Nat) (x : Opd) (i off : Nat)
  | iaddr (d : Nat) (sz : Nat) (x i : Opd)
  | aaddr (d : Nat) (sz cnt : Nat) (x i : Opd)
  | len (d : Nat) (str : Bool) (x : Opd)
  | slc (d : Nat) (str : Bool) (sz : Nat) (x : Opd) (lo hi : Option Opd)
  | sfx (d : Nat) (sz : Nat) (x lo : Opd)
  | clr (d : Option Nat) (sz : Nat) (z : I) (x : Opd)
  | s2b (d : Nat) (e : TypeId) (x : Opd)
  | b2s (d : Nat) (x : Opd)
  | mkf (d : Nat) (f : FuncId) (caps : List Opd)
  | build (d : Nat) (zs : List I) (ps : List (Nat × Opd))
  | bsl (d : Nat) (e : TypeId) (sz : Nat) (z : I) (n : Nat) (ps : List (Nat × Opd))
  | empty (d : Nat) (e : TypeId) (sz : Nat)
  | ext (d : Nat) (x : Opd) (i : Nat)
  | fld (d : Nat) (agg : Bool) (sz : Nat) (x : Opd) (i off : Nat)
  | mm (d : Nat) (max : Bool) (x y : Opd)
  | app (d : Nat) (e : TypeId) (sz bytes : Nat) (x y : Opd)
  | eqs (d : Nat) (neg : Bool) (e : ETy) (x y : Opd)
  | isnil (d : Nat) (neg : Bool) (x : Opd)
  | sidx (d : Nat) (x i : Opd)
  | loadF (d : Nat) (agg : Bool) (sz : Nat) (x : Opd)
  | allocD (d : Nat) (t : D)
  | boxD (d : Nat) (x : Opd)
  | buildD (d : Nat) (zs : List D) (ps : List (Nat × Opd))
  | bslD (d : Nat) (e : TypeId) (sz : Nat) (z : I) (n : Nat) (ps : List (Nat × Opd))
  | bits (d : Nat) (op : BinOp) (x y : Opd)
  | compl (d : Nat) (x : Opd)
  | conv (d : Nat) (k : IntKind) (x : Opd)
  | make (d : Nat) (e : TypeId) (sz bytes : Nat) (z : I) (x : Opd)
  | appB (d : Nat) (er : TypeId) (sz bytes : Nat) (str : Bool) (x y : Opd)
  | dead (d : Option Nat)
  deriving Inhabited

def IOp.sem : IOp → M
  | .mv d x => semMv (some d) x
  | .asg d x => semAsg d x
  | .mov d e sz x => semMov d e sz x
  | .bin d op x y => semBin (some d) op x y
  | .not d x => semNot (some d) x
  | .neg d x => semNeg (some d) x
  | .pick d c x y => semPick (some d) c x y
  | .load d agg sz x => isDeepP x (semLoadP (some d) agg sz x) (semLoad (some d) agg sz x)
  | .loadF d agg sz x => semLoadF (some d) agg sz x
  | .allocD d t => semAllocD d t
  | .boxD d x => semBoxD d x
  | .buildD d zs ps => semBuildD d zs ps
  | .bslD d e sz z n ps => semBSliceD d e sz z n ps
  | .store sz x y => isDeepP x (semStoreD sz x y) (semStore sz x y)
  | .alloc d t => semAllocN d t
  | .box d x => semBox d x
  | .faddr d x i off => isDeepP x (semFaddrP (some d) x i off) (semFaddr (some d) x i off)
  | .iaddr d sz x i => isDeepP x (semIaddrP (some d) sz x i) (semIaddr (some d) sz x i)
  | .aaddr d sz cnt x i => isDeepP x (semAaddrD (some d) sz cnt x i) (semAaddr (some d) sz cnt x i)
  | .len d str x => isDeepP x (semLenP (some d) str x) (semLen (some d) str x)
  | .slc d str sz x lo hi => isDeepP x (semSlcD (some d) str sz x lo hi) (semSlice (some d) str sz x lo hi)
  | .sfx d sz x lo => semSfx (some d) sz x lo
  | .clr d sz z x => semClr d sz z x
  | .s2b d e x => semS2B d e x
  | .b2s d x => semB2S d x
  | .mkf d f caps => semMkf d f caps
  | .build d zs ps => semBuild (some d) zs ps
  | .bsl d e sz z n ps => semBSlice d e sz z n ps
  | .empty d e sz => semEmpty d e sz
  | .ext d x i => semExt2 d x i
  | .fld d agg sz x i off => isDeepP x (semFldD (some d) agg sz x i off) (semFld (some d) agg sz x i off)
  | .mm d max x y => semMM (some d) max x y
  | .app d e sz bytes x y => isDeepP x (semAppD d e sz bytes x y) (isDeepP y (semAppD d e sz bytes x y) (semApp d e sz bytes x y))
  | .eqs d ng e x y => semEq (some d) ng e x y
  | .isnil d ng x => semNil (some d) ng x
  | .sidx d x i => strIdx (some d) x i
  | .bits d op x y => semBits (some d) op x y
  | .compl d x => semCompl (some d) x
  | .conv d k x => semConv (some d) k x
  | .make d e sz bytes z x => semMake d e sz bytes z x
  | .appB d er sz bytes str x y => semAppB d er sz bytes str x y
  | .dead _ => .fail

def isSome' (d : Option Nat) (e : Nat) : Bool := match d with
  | some d => d == e
  | none => false
theorem isSome'_eq {d : Option Nat} {e : Nat} (h : isSome' d e = true) : d = some e := by
  unfold isSome' at h
  split at h
  · simp only [beq_iff_eq] at h; rw [h]
  · cases h

def sameOpd : Operand → Operand → Bool
  | .tmp a, .tmp b => a == b
  | .const (.int k a), .const (.int k' b) => k == k' && a == b
  | _, _ => false
theorem sameOpd_eq {x y : Operand} (h : sameOpd x y = true) : x = y := by
  unfold sameOpd at h
  split at h
  · simp only [beq_iff_eq] at h; rw [h]
  · simp only [Bool.and_eq_true, beq_iff_eq] at h; rw [h.1, h.2]
  · cases h
/-- Is this the operation of the program's own? -/
def chk (P : Program) (N : Nat) (o : Oper) (i : IOp) : Bool := match o.op, i with
  | .binOp .eql t x y _, .eqs d false e x' y' => isSome' o.dst d && opdOk N x x' && opdOk N y y' && eqOk P e t
  | .binOp .neq t x y _, .eqs d true e x' y' => isSome' o.dst d && opdOk N x x' && opdOk N y y' && eqOk P e t
  | .binOp .eql t x y _, .isnil d false x' => isSome' o.dst d && opdOk N x x' && nilOk P t y
  | .binOp .neq t x y _, .isnil d true x' => isSome' o.dst d && opdOk N x x' && nilOk P t y
  | .index t x i, .sidx d x' i' => isSome' o.dst d && opdOk N x x' && opdOk N i i' && (match P.underlying t with
      | some .string => true
      | _ => false)
  | .move x, .mv d y | .assign x, .mv d y => isSome' o.dst d && opdOk N x y
  | .move x, .asg d y | .assign x, .asg d y => isSome' o.dst d && opdOk N x y
  | .move x, .mov d _ _ y | .assign x, .mov d _ _ y => isSome' o.dst d && opdOk N x y
  | .binOp op _ x y _, .bits d op' x' y' => isSome' o.dst d && decide (op = op') && opdOk N x x' && opdOk N y y'
  | .unOp .xor _ x, .compl d x' => isSome' o.dst d && opdOk N x x'
  | .convert src dst x, .conv d k x' => isSome' o.dst d && opdOk N x x' && convOk P dst k src
  | .makeSlice t x y, .make d e sz bytes z x' => isSome' o.dst d && sameOpd x y && opdOk N x x' && makeOk P t e sz bytes z
  | .binOp op _ x y _, .bin d op' x' y' => isSome' o.dst d && decide (op = op') && opdOk N x x' && opdOk N y y'
  | .unOp .not _ x, .not d x' => isSome' o.dst d && opdOk N x x'
  | .unOp .neg _ x, .neg d x' => isSome' o.dst d && opdOk N x x'
  | .pick c x y, .pick d c' x' y' => isSome' o.dst d && opdOk N c c' && opdOk N x x' && opdOk N y y'
  | .load t x, .load d agg sz x' => isSome' o.dst d && opdOk N x x' && tyOk P t agg sz
  | .load t x, .loadF d agg sz x' => isSome' o.dst d && opdOk N x x' && tyOk P t agg sz
  | .store t x y, .store sz x' y' => o.dst.isNone && opdOk N x x' && opdOk N y y' && (tyOk P t true sz || tyOk P t false sz)
  | .alloc e, .alloc d t => isSome' o.dst d && zeroOk P e t
  | .alloc e, .allocD d t => isSome' o.dst d && zeroOkD P e t
  | .box _ x, .box d x' => isSome' o.dst d && opdOk N x x'
  | .box _ x, .boxD d x' => isSome' o.dst d && opdOk N x x'
  | .fieldAddr t x i, .faddr d x' i' off => isSome' o.dst d && opdOk N x x' && i == i' && fieldOk P t i off
  | .indexAddr t x i, .iaddr d sz x' i' => isSome' o.dst d && opdOk N x x' && opdOk N i i' && sliceOk P t sz
  | .indexAddr t x i, .aaddr d sz cnt x' i' => isSome' o.dst d && opdOk N x x' && opdOk N i i' && arrOk P t sz cnt
  | .slice t x lo hi none, .slc d str sz x' lo' hi' => isSome' o.dst d && opdOk N x x' && oOk N lo lo' && oOk N hi hi' && slcOk P t str sz
  | .slice t x (some lo) none none, .sfx d sz x' lo' => isSome' o.dst d && opdOk N x x' && opdOk N lo lo' && sliceOk P t sz
  | .convert src dst x, .s2b d e x' => isSome' o.dst d && opdOk N x x' && s2bOk P src dst e
  | .convert src dst x, .b2s d x' => isSome' o.dst d && opdOk N x x' && b2sOk P src dst
  | .makeFunc (.func f') first captured, .mkf d f caps => isSome' o.dst d && f' == f && first.isEmpty && opdsOk N captured.toList caps
  | .build t ps, .build d zs ps' => isSome' o.dst d && partsOk N ps.toList ps' && buildOk P t zs
  | .build t ps, .buildD d zs ps' => isSome' o.dst d && partsOk N ps.toList ps' && buildOkD P t zs
  | .buildSlice t n ps, .bslD d e sz z n' ps' => isSome' o.dst d && n == n' && partsOk N ps.toList ps' && bsliceOk P t e sz z n
  | .buildSlice t n ps, .bsl d e sz z n' ps' => isSome' o.dst d && n == n' && partsOk N ps.toList ps' && bsliceOk P t e sz z n
  | .buildSlice t n ps, .empty d e _ => isSome' o.dst d && n == 0 && ps.isEmpty && (match P.underlying t with
      | some (.slice e') => e' == e
      | _ => false) && (P.info? e).isSome
  | .extract x i, .ext d x' i' => isSome' o.dst d && opdOk N x x' && i == i'
  | .field t x i, .fld d agg sz x' i' off => isSome' o.dst d && opdOk N x x' && i == i' && fldOk P t i off agg sz
  | .call { callee := .builtin b, args, argTypes }, i => match b, args.toList, argTypes.toList, i with
    | .len, [x], [t], .len d str x' => isSome' o.dst d && opdOk N x x' && lenOk P t str
    | .max, [x, y], _, .mm d true x' y' => isSome' o.dst d && opdOk N x x' && opdOk N y y'
    | .min, [x, y], _, .mm d false x' y' => isSome' o.dst d && opdOk N x x' && opdOk N y y'
    | .append, [x, y], [t, u], .appB d er sz bytes str x' y' => isSome' o.dst d && opdOk N x x' && opdOk N y y' && appBOk P t u er sz bytes str
    | .append, [x, y], [t, u], .app d e sz bytes x' y' => isSome' o.dst d && t == u && opdOk N x x' && opdOk N y y' && appOk P t e sz bytes
    | .clear, [x], [t], .clr d sz z x' => decide (o.dst = d) && opdOk N x x' && clrOk P t sz z
    | _, _, _, .dead _ => true
    | _, _, _, _ => false
  | _, .dead _ => true
  | _, _ => false

theorem toList1 {α : Type} {a : Array α} {x : α} (h : a.toList = [x]) : a = #[x] := by cases a; simp_all
theorem toList2 {α : Type} {a : Array α} {x y : α} (h : a.toList = [x, y]) : a = #[x, y] := by cases a; simp_all

theorem chk_sound {P : Program} {N : Nat} {o : Oper} {i : IOp} (h : chk P N o i = true) : Sound P N o i.sem := by
  unfold chk at h
  split at h
  all_goals try (simp only [Bool.and_eq_true, beq_iff_eq, decide_eq_true_eq, Bool.or_eq_true] at h)
  · rename_i ho
    obtain ⟨⟨⟨h1, h2⟩, h3⟩, h4⟩ := h
    have hd := isSome'_eq h1
    have := sound_eq (P := P) (neg := false) ho h2 h3 h4; rwa [hd] at this
  · rename_i ho
    obtain ⟨⟨⟨h1, h2⟩, h3⟩, h4⟩ := h
    have hd := isSome'_eq h1
    have := sound_eq (P := P) (neg := true) ho h2 h3 h4; rwa [hd] at this
  · rename_i ho
    obtain ⟨⟨h1, h2⟩, h3⟩ := h
    have hd := isSome'_eq h1
    have := sound_nil (P := P) (neg := false) ho h2 h3; rwa [hd] at this
  · rename_i ho
    obtain ⟨⟨h1, h2⟩, h3⟩ := h
    have hd := isSome'_eq h1
    have := sound_nil (P := P) (neg := true) ho h2 h3; rwa [hd] at this
  · rename_i ho
    obtain ⟨⟨⟨h1, h2⟩, h3⟩, h4⟩ := h
    have hd := isSome'_eq h1
    split at h4
    · rename_i hu
      have := sound_sidx (P := P) ho h2 h3 hu; rwa [hd] at this
    · cases h4
  · rename_i ho; have hd := isSome'_eq h.1; have := sound_mv (P := P) (.inl ho) h.2; rwa [hd] at this
  · rename_i ho; have hd := isSome'_eq h.1; have := sound_mv (P := P) (.inr ho) h.2; rwa [hd] at this
  · rename_i ho; exact sound_asg (isSome'_eq h.1) (.inl ho) h.2
  · rename_i ho; exact sound_asg (isSome'_eq h.1) (.inr ho) h.2
  · rename_i ho; exact sound_mov (isSome'_eq h.1) (.inl ho) h.2
  · rename_i ho; exact sound_mov (isSome'_eq h.1) (.inr ho) h.2
  · rename_i ho
    obtain ⟨⟨⟨h1, rfl⟩, h2⟩, h3⟩ := h
    have hd := isSome'_eq h1
    have := sound_bits (P := P) ho h2 h3; rwa [hd] at this
  · rename_i ho; have hd := isSome'_eq h.1; have := sound_compl (P := P) ho h.2; rwa [hd] at this
  · rename_i ho
    obtain ⟨⟨h1, h2⟩, h3⟩ := h
    have hd := isSome'_eq h1
    have := sound_conv (P := P) ho h2 h3; rwa [hd] at this
  · rename_i ho
    obtain ⟨⟨⟨h1, h2⟩, h3⟩, h4⟩ := h
    have h2' := sameOpd_eq h2
    subst h2'
    exact sound_make (isSome'_eq h1) ho h3 h4
  · rename_i ho
    obtain ⟨⟨⟨h1, rfl⟩, h2⟩, h3⟩ := h
    have hd := isSome'_eq h1
    have := sound_bin (P := P) ho h2 h3; rwa [hd] at this
  · rename_i ho; have hd := isSome'_eq h.1; have := sound_not (P := P) ho h.2; rwa [hd] at this
  · rename_i ho; have hd := isSome'_eq h.1; have := sound_neg (P := P) ho h.2; rwa [hd] at this
  · rename_i ho
    obtain ⟨⟨⟨h1, h2⟩, h3⟩, h4⟩ := h
    have hd := isSome'_eq h1
    have := sound_pick (P := P) ho h2 h3 h4; rwa [hd] at this
  · rename_i ho
    obtain ⟨⟨h1, h2⟩, h3⟩ := h
    have hd := isSome'_eq h1
    have h4 := sound_load (P := P) ho h2 h3
    have h5 := sound_loadP (P := P) ho h2 h3
    rw [hd] at h4 h5
    exact sound_deepP h5 h4
  · rename_i ho
    obtain ⟨⟨h1, h2⟩, h3⟩ := h
    have hd := isSome'_eq h1
    have := sound_loadF (P := P) ho h2 h3; rwa [hd] at this
  · rename_i ho
    obtain ⟨⟨⟨h1, h2⟩, h3⟩, h4⟩ := h
    have hd : o.dst = none := by simpa using h1
    rcases h4 with h4 | h4 <;> exact sound_deepP (sound_storeD hd ho h2 h3 h4) (sound_store hd ho h2 h3 h4)
  · rename_i ho; exact sound_alloc (isSome'_eq h.1) ho h.2
  · rename_i ho; exact sound_allocD (isSome'_eq h.1) ho h.2
  · rename_i ho; exact sound_box (isSome'_eq h.1) ho h.2
  · rename_i ho; exact sound_boxD (isSome'_eq h.1) ho h.2
  · rename_i ho
    obtain ⟨⟨⟨h1, h2⟩, rfl⟩, h3⟩ := h
    have hd := isSome'_eq h1
    have k1 := sound_faddr (P := P) ho h2 h3
    have k2 := sound_faddrP (P := P) ho h2 h3
    rw [hd] at k1 k2
    exact sound_deepP k2 k1
  · rename_i ho
    obtain ⟨⟨⟨h1, h2⟩, h3⟩, h4⟩ := h
    have hd := isSome'_eq h1
    have k1 := sound_iaddr (P := P) ho h2 h3 h4
    have k2 := sound_iaddrP (P := P) ho h2 h3 h4
    rw [hd] at k1 k2
    exact sound_deepP k2 k1
  · rename_i ho
    obtain ⟨⟨⟨h1, h2⟩, h3⟩, h4⟩ := h
    have hd := isSome'_eq h1
    have k1 := sound_aaddr (P := P) ho h2 h3 h4
    have k2 := sound_aaddrD (P := P) ho h2 h3 h4
    rw [hd] at k1 k2
    exact sound_deepP k2 k1
  · rename_i ho
    obtain ⟨⟨⟨⟨h1, h2⟩, h3⟩, h4⟩, h5⟩ := h
    have hd := isSome'_eq h1
    have k1 := sound_slice (P := P) ho h2 h3 h4 h5
    have k2 := sound_slcD (P := P) ho h2 h3 h4 h5
    rw [hd] at k1 k2
    exact sound_deepP k2 k1
  · rename_i ho
    obtain ⟨⟨⟨h1, h2⟩, h3⟩, h4⟩ := h
    have hd := isSome'_eq h1
    have := sound_sfx (P := P) ho h2 h3 h4; rwa [hd] at this
  · rename_i ho
    obtain ⟨⟨h1, h2⟩, h3⟩ := h
    exact sound_s2b (isSome'_eq h1) ho h2 h3
  · rename_i ho
    obtain ⟨⟨h1, h2⟩, h3⟩ := h
    exact sound_b2s (isSome'_eq h1) ho h2 h3
  · rename_i ho
    obtain ⟨⟨⟨h1, rfl⟩, h2⟩, h3⟩ := h
    have h2' := Array.isEmpty_iff.1 h2
    subst h2'
    exact sound_mkf (isSome'_eq h1) ho h3
  · rename_i ho
    obtain ⟨⟨h1, h2⟩, h3⟩ := h
    have hd := isSome'_eq h1
    have := sound_build (P := P) ho h2 h3; rwa [hd] at this
  · rename_i ho
    obtain ⟨⟨h1, h2⟩, h3⟩ := h
    exact sound_buildD (isSome'_eq h1) ho h2 h3
  · rename_i ho
    obtain ⟨⟨⟨h1, rfl⟩, h3⟩, h4⟩ := h
    exact sound_bsliceD (isSome'_eq h1) ho h3 h4
  · rename_i ho
    obtain ⟨⟨⟨h1, rfl⟩, h3⟩, h4⟩ := h
    exact sound_bslice (isSome'_eq h1) ho h3 h4
  · rename_i ho
    obtain ⟨⟨⟨⟨h1, rfl⟩, h2⟩, h3⟩, h4⟩ := h
    have h2' := Array.isEmpty_iff.1 h2
    subst h2'
    refine sound_empty (isSome'_eq h1) ho ⟨?_, h4⟩
    split at h3
    · rename_i hu; rw [beq_iff_eq] at h3; rw [hu, h3]
    · cases h3
  · rename_i ho
    obtain ⟨⟨h1, h2⟩, rfl⟩ := h
    exact sound_ext2 (isSome'_eq h1) ho h2
  · rename_i ho
    obtain ⟨⟨⟨h1, h2⟩, rfl⟩, h3⟩ := h
    have hd := isSome'_eq h1
    have k1 := sound_fld (P := P) ho h2 h3
    have k2 := sound_fldD (P := P) ho h2 h3
    rw [hd] at k1 k2
    exact sound_deepP k2 k1
  · rename_i ho
    split at h
    all_goals try (simp only [Bool.and_eq_true, beq_iff_eq, decide_eq_true_eq, Bool.or_eq_true] at h)
    · rename_i h1 h2
      obtain ⟨⟨h3, h4⟩, h5⟩ := h
      rw [toList1 h1, toList1 h2] at ho
      have hd := isSome'_eq h3
      have k1 := sound_len (P := P) ho h4 h5
      have k2 := sound_lenP (P := P) ho h4 h5
      rw [hd] at k1 k2
      exact sound_deepP k2 k1
    · rename_i h1
      obtain ⟨⟨h3, h4⟩, h5⟩ := h
      rw [toList2 h1] at ho
      have hd := isSome'_eq h3
      have := sound_mm (P := P) (max := true) ho h4 h5; rwa [hd] at this
    · rename_i h1
      obtain ⟨⟨h3, h4⟩, h5⟩ := h
      rw [toList2 h1] at ho
      have hd := isSome'_eq h3
      have := sound_mm (P := P) (max := false) ho h4 h5; rwa [hd] at this
    · rename_i h1 h2
      obtain ⟨⟨⟨h3, h4⟩, h5⟩, h6⟩ := h
      rw [toList2 h1, toList2 h2] at ho
      exact sound_appB (isSome'_eq h3) ho h4 h5 h6
    · rename_i h1 h2
      obtain ⟨⟨⟨⟨h3, rfl⟩, h4⟩, h5⟩, h6⟩ := h
      rw [toList2 h1, toList2 h2] at ho
      have k1 := sound_app (P := P) (isSome'_eq h3) ho h4 h5 h6
      have k2 := sound_appD (P := P) (isSome'_eq h3) ho h4 h5 h6
      exact sound_deepP k2 (sound_deepP k2 k1)
    · rename_i h1 h2
      obtain ⟨⟨h3, h4⟩, h5⟩ := h
      rw [toList1 h1, toList1 h2] at ho
      have := sound_clr (P := P) ho h4 h5; rwa [h3] at this
    · intro G σ Fr w0 st a w Q next E hN hr hw hn hdst; exact hw.elim
    · cases h
  · intro G σ Fr w0 st a w Q next E hN hr hw hn hdst; exact hw.elim
  · cases h
end Go.Ab

namespace Go.Ab

/-- What is handed over for good is taken first. -/
def takeImm : List (Bool × Opd) → (List I → M) → M
  | [], k => k []
  | (false, x) :: as, k => takeV x fun u => takeImm as fun us => k (u :: us)
  | (true, _) :: as, k => takeImm as fun us => k (.und :: us)

/-- What is lent: a box, or an owned slice. -/
def lendA (x : Opd) (k : SV → Nat → M) : M := match x with
  | .t n => .get n fun _ sv => match sv with
    | .box t => k (.box t) n
    | .vec e sz l => k (.vec e sz l) n
    | .pt s kk ver off r => .get s fun cur sv' => .need (kk = 0 ∧ off = 0 ∧ r = [] ∧ ver = cur) fun _ => match sv' with
      | .box t => k (.box t) s
      | _ => .fail
    | .par h => .get h fun _ sv' => match sv' with
      | .box t => k (.box t) h
      | .vec e sz l => k (.vec e sz l) h
      | .own _ t => k (.own [] t) h
      | _ => .fail
    | .own _ t => k (.own [] t) n
    | .pd s ver p => .get s fun cur sv' => match p, sv' with
      | [0], .own inv (.ptr t) => .need (alive ver inv 1 = true) fun _ => k (.own [] (.ptr t)) s
      | _, _ => .fail
    | _ => .fail
  | _ => .fail
/-- The same over a whole slice that is borrowed: an empty one is handed over as it is. -/
def lendB (x : Opd) (k : SV → Option Nat → M) : M := match x with
  | .t n => .get n fun _ sv => match sv with
    | .bor s kk v => .get s fun cur sv' => .need (v = cur) fun _ => match kk, sv' with
      | 0, .vec e sz l => match l with
        | [] => k (.v (.list [])) none
        | y :: l' => .need (sz ≠ 0) fun _ => k (.vec e sz (y :: l')) (some s)
      | _, _ => .fail
    | _ => lendA x fun sv s => k sv (some s)
  | _ => lendA x fun sv s => k sv (some s)
def lendAll : List (Bool × Opd) → List I → (List SV → List (Option Nat) → M) → M
  | [], _, k => k [] []
  | (false, _) :: as, us, k => lendAll as us.tail fun svs rs => k (.v (us.headD .und) :: svs) (none :: rs)
  | (true, .nils e sz) :: as, us, k => lendAll as us.tail fun svs rs => k (.vec e sz [] :: svs) (none :: rs)
  | (true, x) :: as, us, k => lendB x fun sv s => lendAll as us.tail fun svs rs => k (sv :: svs) (s :: rs)

/-- What was lent comes back. -/
def putBack : List (Option Nat) → List SV → M → M
  | some s :: rs, sv :: outs, k => .get s fun ver _ => .set s (ver + 1) (sv.fresh (ver + 1)) (putBack rs outs k)
  | none :: rs, _ :: outs, k => putBack rs outs k
  | _, _, k => k

def somes (rs : List (Option Nat)) : List Nat := rs.filterMap id

def setR (d : Option Nat) (r : SV) : M := match d with
  | some d => setN d r
  | none => .done
def semCall (d : Option Nat) (f : FuncId) (as : List (Bool × Opd)) : M := takeImm as fun us => lendAll as us fun svs rs => .need ((somes rs).Nodup ∧ ∀ d', d = some d' → d' ∉ somes rs) fun _ =>
  .call f svs fun r outs => .need (∀ h, r ≠ .par h) fun _ => .need (∀ sv ∈ outs, ∀ h, sv ≠ .par h) fun _ => putBack rs outs (setR d r)

def argsOk (N : Nat) : List Operand → List (Bool × Opd) → Bool
  | [], [] => true
  | x :: l, (_, y) :: m => opdOk N x y && argsOk N l m
  | _, _ => false

section
variable {P : Program} {N : Nat} {G : Mem} {σ : Lab} {Fr : Mem} {w0 : Base} {w : World} {st : St} {a : Act}

theorem takeImm_rep {Q : St → Prop} : ∀ {xs : List Operand} {as : List (Bool × Opd)} {k : List I → M} {G : Mem} {σ : Lab} {st : St}, Rel G σ Fr w0 st a w → argsOk w0.n xs as = true → (takeImm as k).wp P Q st →
    ∃ us G' σ' st', G.le G' ∧ Rel G' σ' Fr w0 st' a w ∧ (k us).wp P Q st' ∧ us.length = as.length ∧ ∀ (i : Nat) (y : Opd) (x : Operand) (u : I), as[i]? = some (false, y) → xs[i]? = some x → us[i]? = some u → RepV G' u (a.eval x)
  | [], [], k, G, σ, st, hr, _, hq => ⟨[], G, σ, st, Mem.le.refl G, hr, hq, rfl, by simp⟩
  | x :: xs, (false, y) :: as, k, G, σ, st, hr, ho, hq => by
    simp only [argsOk, Bool.and_eq_true] at ho
    obtain ⟨u, G1, σ1, st1, hG, hr1, h1, hv⟩ := takeV_rep hr ho.1 hq
    obtain ⟨us, G2, σ2, st2, hG2, hr2, h2, hl, hu⟩ := takeImm_rep hr1 ho.2 h1
    refine ⟨u :: us, G2, σ2, st2, hG.trans hG2, hr2, h2, by simp [hl], ?_⟩
    intro i y' x' u' h3 h4 h5
    cases i with
    | zero =>
      simp only [List.getElem?_cons_zero, Option.some.injEq] at h4 h5
      subst h4; subst h5
      exact hv.mono hG2
    | succ i => exact hu i y' x' u' (by simpa using h3) (by simpa using h4) (by simpa using h5)
  | x :: xs, (true, y) :: as, k, G, σ, st, hr, ho, hq => by
    simp only [argsOk, Bool.and_eq_true] at ho
    obtain ⟨us, G2, σ2, st2, hG2, hr2, h2, hl, hu⟩ := takeImm_rep hr ho.2 hq
    refine ⟨.und :: us, G2, σ2, st2, hG2, hr2, h2, by simp [hl], ?_⟩
    intro i y' x' u' h3 h4 h5
    cases i with
    | zero => simp at h3
    | succ i => exact hu i y' x' u' (by simpa using h3) (by simpa using h4) (by simpa using h5)
  | [], _ :: _, _, _, _, _, _, ho, _ => by cases ho
  | _ :: _, [], _, _, _, _, _, ho, _ => by simp [argsOk] at ho

def SV.lends : SV → Bool
  | .box _ | .vec _ _ _ | .own _ _ => true
  | _ => false
theorem SV.lends_root {sv : SV} (h : sv.lends = true) : sv.root = none := by cases sv <;> first | rfl | cases h

theorem lendA_rep {x : Operand} {y : Opd} {k : SV → Nat → M} {Q : St → Prop} (h : Rel G σ Fr w0 st a w) (ho : opdOk w0.n x y = true) (hq : (lendA y k).wp P Q st) :
    ∃ sv s ver, (k sv s).wp P Q st ∧ st[s]? = some ver ∧ sv.lends = true ∧ RepOwn G σ w s sv (a.eval x) ∧ a.eval x = val a w0 s := by
  cases y with
  | c _ => exact hq.elim
  | nils _ _ => exact hq.elim
  | t n =>
    obtain ⟨rfl, hnlt⟩ := opdOk_t ho
    simp only [lendA, M.wp] at hq
    cases hs : st[n]? with
    | none => simp [hs] at hq
    | some cur =>
      obtain ⟨ver, sv⟩ := cur
      simp only [hs] at hq
      have hrep := h.slot hnlt hs
      cases sv with
      | box t => exact ⟨_, n, _, hq, hs, rfl, hrep, (val_tmp (by rw [h.n]; exact hnlt)).symm⟩
      | vec e sz l => exact ⟨_, n, _, hq, hs, rfl, hrep, (val_tmp (by rw [h.n]; exact hnlt)).symm⟩
      | pt s kk ver' off r =>
        obtain ⟨cur, h1, h2, h3⟩ := hrep
        simp only [M.wp, h1] at hq
        obtain ⟨⟨rfl, rfl, rfl, hv⟩, hq⟩ := hq
        obtain ⟨b, h4, h5⟩ := h3 hv
        obtain ⟨cv, csv⟩ := cur
        cases csv with
        | box t =>
          refine ⟨_, s, _, hq, h1, rfl, ?_⟩
          obtain ⟨b', cells, ty, k1, k2, k3, k4⟩ := h.slots s cv _ h1
          obtain rfl := h.wok.inj b b' _ h4 k2
          exact ⟨⟨b, cells, ty, h5, k2, k3, k4⟩, by rw [h5, k1]⟩
        | _ => exact hq.elim
      | own inv t => exact ⟨_, n, _, hq, hs, rfl, hrep, (val_tmp (by rw [h.n]; exact hnlt)).symm⟩
      | pd s ver' p =>
        obtain ⟨cur, h1, h2, h3⟩ := hrep
        simp only [M.wp, h1] at hq
        obtain ⟨cv, csv⟩ := cur
        simp only at hq
        split at hq
        · rename_i inv t
          obtain ⟨ha, hq⟩ := hq
          have hown : OwnD G σ w s (.ptr t) (val a w0 s) := h.slots s cv _ h1
          have e := hown.pt_eq (h3 inv _ rfl (by simp) ha)
          exact ⟨_, s, _, hq, h1, rfl, by rw [e]; exact hown, e⟩
        · exact hq.elim
      | par hh =>
        obtain ⟨hv, hle⟩ := h.pars n ver hh hs
        rw [val_tmp (by rw [h.n]; exact hnlt)] at hv
        simp only [M.wp] at hq
        cases h1 : st[hh]? with
        | none => simp [h1] at hq
        | some cur =>
          obtain ⟨cv, csv⟩ := cur
          simp only [h1] at hq
          have hrep' := h.slots hh cv csv h1
          rw [← hv] at hrep'
          cases csv with
          | box t => exact ⟨_, hh, _, hq, h1, rfl, hrep', hv⟩
          | vec e sz l => exact ⟨_, hh, _, hq, h1, rfl, hrep', hv⟩
          | own inv t => exact ⟨_, hh, _, hq, h1, rfl, hrep', hv⟩
          | _ => exact hq.elim
      | _ => exact hq.elim

theorem lendB_rep {x : Operand} {y : Opd} {k : SV → Option Nat → M} {Q : St → Prop} (h : Rel G σ Fr w0 st a w) (ho : opdOk w0.n x y = true) (hq : (lendB y k).wp P Q st) :
    ∃ sv r, (k sv r).wp P Q st ∧ ((r = none ∧ ∃ u, sv = .v u ∧ RepV G u (a.eval x)) ∨ ∃ s ver, r = some s ∧ st[s]? = some ver ∧ sv.lends = true ∧ RepOwn G σ w s sv (a.eval x) ∧ a.eval x = val a w0 s) := by
  have old : (lendA y fun sv s => k sv (some s)).wp P Q st → ∃ sv r, (k sv r).wp P Q st ∧ ((r = none ∧ ∃ u, sv = .v u ∧ RepV G u (a.eval x)) ∨ ∃ s ver, r = some s ∧ st[s]? = some ver ∧ sv.lends = true ∧ RepOwn G σ w s sv (a.eval x) ∧ a.eval x = val a w0 s) := by
    intro hq
    obtain ⟨sv, s, ver, h1, h2⟩ := lendA_rep h ho hq
    exact ⟨sv, some s, h1, .inr ⟨s, ver, rfl, h2⟩⟩
  cases y with
  | c _ => exact old hq
  | nils _ _ => exact old hq
  | t n =>
    obtain ⟨rfl, hnlt⟩ := opdOk_t ho
    simp only [lendB, M.wp] at hq
    cases hs : st[n]? with
    | none => simp [hs] at hq
    | some cur =>
      obtain ⟨ver, sv⟩ := cur
      simp only [hs] at hq
      have hrep := h.slot hnlt hs
      cases sv with
      | bor s kk v =>
        obtain ⟨cur, g1, g2, g3⟩ := hrep
        simp only [M.wp, g1] at hq
        obtain ⟨hv, hq⟩ := hq
        obtain ⟨e, sz, l, g4, g5⟩ := g3 hv
        obtain ⟨cv, csv⟩ := cur
        cases kk with
        | succ _ => exact hq.elim
        | zero =>
          cases csv with
          | vec e' sz' l' =>
            cases g4
            have hown : VecAt G σ w (s, 0) e sz l (val a w0 s) := h.slots s cv _ g1
            cases l with
            | nil =>
              obtain ⟨ad, cap, hc, hm⟩ := g5.len
              refine ⟨_, none, hq, .inl ⟨rfl, _, rfl, ?_⟩⟩
              obtain ⟨xs, k1, _⟩ := g5
              rcases k1.2 with ⟨hc', _⟩ | ⟨g, cap', cur, hc', _, _, hn, hcm, _⟩
              · exact RepV.list.2 ⟨none, 0, hc', Nat.le_refl _, Nat.zero_le _, .inl rfl⟩
              · exact RepV.list.2 ⟨_, cap', hc', hn, hcm, .inl rfl⟩
            | cons y l' =>
              obtain ⟨hz, hq⟩ := hq
              refine ⟨_, some s, hq, .inr ⟨s, _, rfl, g1, rfl, g5, ?_⟩⟩
              obtain ⟨b, hb⟩ : ∃ b, σ b = some (s, 0) := by
                obtain ⟨xs, k1, k2, k3, k4⟩ := g5
                rcases k1.2 with ⟨_, h0⟩ | ⟨g, cap', cur, hc', _⟩
                · simp at h0
                · exact ⟨g, k4 g (by rw [hc']; rfl)⟩
              obtain ⟨bl, xs, post, cap, p1, _, _, p2, ⟨ty, fz, p3, _⟩, _⟩ := g5.row h.wok hb (by simp)
              obtain ⟨bl', xs', post', cap', q1, _, _, q2, ⟨ty', fz', q3, _⟩, _⟩ := hown.row h.wok hb (by simp)
              rw [p3] at q3
              cases q3
              have : cap = cap' := Nat.eq_of_mul_eq_mul_right (Nat.pos_of_ne_zero hz) (p2.symm.trans q2)
              rw [p1, q1, this]
          | _ => exact hq.elim
      | _ => exact old hq

theorem lendAll_rep {Q : St → Prop} (h : Rel G σ Fr w0 st a w) : ∀ {xs : List Operand} {as : List (Bool × Opd)} {us : List I} {k : List SV → List (Option Nat) → M}, argsOk w0.n xs as = true → us.length = as.length →
    (∀ (i : Nat) (y : Opd) (x : Operand) (u : I), as[i]? = some (false, y) → xs[i]? = some x → us[i]? = some u → RepV G u (a.eval x)) → (lendAll as us k).wp P Q st →
    ∃ svs rs, (k svs rs).wp P Q st ∧ svs.length = xs.length ∧ rs.length = xs.length ∧ ∀ (i : Nat) (sv : SV) (x : Operand), svs[i]? = some sv → xs[i]? = some x →
      (rs[i]? = some none ∧ ((∃ u, sv = .v u ∧ RepV G u (a.eval x)) ∨ ∃ e sz, sv = .vec e sz [] ∧ a.eval x = .slice none 0 0)) ∨ (∃ s ver, rs[i]? = some (some s) ∧ st[s]? = some ver ∧ sv.lends = true ∧ RepOwn G σ w s sv (a.eval x) ∧ a.eval x = val a w0 s)
  | [], [], us, k, _, _, _, hq => ⟨[], [], hq, rfl, rfl, by simp⟩
  | x :: xs, (false, y) :: as, us, k, ho, hl, hu, hq => by
    simp only [argsOk, Bool.and_eq_true] at ho
    cases us with
    | nil => simp at hl
    | cons u us =>
      obtain ⟨svs, rs, h1, h2, h3, h4⟩ := lendAll_rep h ho.2 (by simpa using hl) (fun i y' x' u' a1 a2 a3 => hu (i + 1) y' x' u' (by simpa using a1) (by simpa using a2) (by simpa using a3)) hq
      refine ⟨.v u :: svs, none :: rs, h1, by simp [h2], by simp [h3], ?_⟩
      intro i sv x' a1 a2
      cases i with
      | zero =>
        simp only [List.getElem?_cons_zero, Option.some.injEq] at a1 a2
        subst a1; subst a2
        exact .inl ⟨rfl, .inl ⟨u, rfl, hu 0 y _ u rfl rfl rfl⟩⟩
      | succ i => exact h4 i sv x' (by simpa using a1) (by simpa using a2)
  | x :: xs, (true, y) :: as, us, k, ho, hl, hu, hq => by
    simp only [argsOk, Bool.and_eq_true] at ho
    cases us with
    | nil => simp at hl
    | cons u us =>
      have gen : (lendB y fun sv s => lendAll as us fun svs rs => k (sv :: svs) (s :: rs)).wp P Q st → ∃ svs rs, (k svs rs).wp P Q st ∧ svs.length = (x :: xs).length ∧ rs.length = (x :: xs).length ∧ ∀ (i : Nat) (sv : SV) (x' : Operand), svs[i]? = some sv → (x :: xs)[i]? = some x' →
          (rs[i]? = some none ∧ ((∃ u, sv = .v u ∧ RepV G u (a.eval x')) ∨ ∃ e sz, sv = .vec e sz [] ∧ a.eval x' = .slice none 0 0)) ∨ (∃ s ver, rs[i]? = some (some s) ∧ st[s]? = some ver ∧ sv.lends = true ∧ RepOwn G σ w s sv (a.eval x') ∧ a.eval x' = val a w0 s) := by
        intro hq
        obtain ⟨sv0, r0, g1, g2⟩ := lendB_rep h ho.1 hq
        obtain ⟨svs, rs, h1, h2, h3, h4⟩ := lendAll_rep h ho.2 (by simpa using hl) (fun i y' x' u' a1 a2 a3 => hu (i + 1) y' x' u' (by simpa using a1) (by simpa using a2) (by simpa using a3)) g1
        refine ⟨sv0 :: svs, r0 :: rs, h1, by simp [h2], by simp [h3], ?_⟩
        intro i sv x' a1 a2
        cases i with
        | zero =>
          simp only [List.getElem?_cons_zero, Option.some.injEq] at a1 a2
          subst a1; subst a2
          rcases g2 with ⟨rfl, u, rfl, g3⟩ | ⟨s, ver, rfl, g3⟩
          · exact .inl ⟨rfl, .inl ⟨u, rfl, g3⟩⟩
          · exact .inr ⟨s, ver, rfl, g3⟩
        | succ i => exact h4 i sv x' (by simpa using a1) (by simpa using a2)
      cases y with
      | t n => exact gen hq
      | c z => exact gen hq
      | nils e sz =>
        obtain ⟨svs, rs, h1, h2, h3, h4⟩ := lendAll_rep h ho.2 (by simpa using hl) (fun i y' x' u' a1 a2 a3 => hu (i + 1) y' x' u' (by simpa using a1) (by simpa using a2) (by simpa using a3)) hq
        refine ⟨.vec e sz [] :: svs, none :: rs, h1, by simp [h2], by simp [h3], ?_⟩
        intro i sv x' a1 a2
        cases i with
        | zero =>
          simp only [List.getElem?_cons_zero, Option.some.injEq] at a1 a2
          subst a1; subst a2
          exact .inl ⟨rfl, .inr ⟨e, sz, rfl, opdOk_nils ho.1⟩⟩
        | succ i => exact h4 i sv x' (by simpa using a1) (by simpa using a2)
  | [], _ :: _, _, _, ho, _, _, _ => by cases ho
  | _ :: _, [], _, _, ho, _, _, _ => by simp [argsOk] at ho

/-- Several slots are laid anew at once, their values as they were. -/
theorem Rel.many {G' : Mem} {σ' : Lab} {w' : World} {st' : St} (h : Rel G σ Fr w0 st a w) (hok : WOk G' σ' Fr w0 w') (hG : G.le G') (hlen : st'.length = st.length)
    (hs : ∀ s, (st'[s]? = st[s]? ∧ Kept σ σ' w w' s) ∨ ∃ ver old ver' new, st[s]? = some (ver, old) ∧ st'[s]? = some (ver', new) ∧ ver < ver' ∧ new.root = none ∧ (∀ h, new ≠ .par h) ∧ RepOwn G' σ' w' s new (val a w0 s) ∧ ∀ inv t, new = .own inv t → ∃ r, inv = ver' :: r) :
    Rel G' σ' Fr w0 st' a w' := by
  have kept : ∀ s' cur ver, st[s']? = some cur → ver ≤ cur.1 → ∃ cur', st'[s']? = some cur' ∧ ver ≤ cur'.1 ∧ (ver = cur'.1 → cur' = cur ∧ ver = cur.1 ∧ Kept σ σ' w w' s') := by
    intro s' cur ver hc hv
    rcases hs s' with ⟨h1, h2⟩ | ⟨v, old, v', new, h1, h2, h3, _⟩
    · exact ⟨cur, by rw [h1]; exact hc, hv, fun e => ⟨rfl, e, h2⟩⟩
    · rw [hc] at h1
      cases h1
      exact ⟨_, h2, by show ver ≤ v'; simp only at hv; omega, fun e => by exfalso; simp only at hv; have : ver = v' := e; omega⟩
  refine ⟨hok, h.defers, h.n, by rw [hlen]; exact h.len, ?_, ?_⟩
  · intro s ver sv hsv
    rcases hs s with ⟨h1, h2⟩ | ⟨v, old, v', new, h1, h2, h3, h4, _, h5, _⟩
    · rw [h1] at hsv
      have h0 := h.slots s ver sv hsv
      generalize val a w0 s = c at h0
      cases sv with
      | bor s' k ver' =>
        obtain ⟨cur, g1, g2, g3⟩ := h0
        obtain ⟨cur', k1, k2, k3⟩ := kept s' cur ver' g1 g2
        refine ⟨cur', k1, k2, fun e => ?_⟩
        obtain ⟨rfl, e', hk⟩ := k3 e
        obtain ⟨e, sz, l, g4, g5⟩ := g3 e'
        exact ⟨e, sz, l, g4, g5.tr hG fun b hb => hk b k hb⟩
      | sub s' k ver' n =>
        obtain ⟨cur, g1, g2, g3⟩ := h0
        obtain ⟨cur', k1, k2, k3⟩ := kept s' cur ver' g1 g2
        refine ⟨cur', k1, k2, fun e => ?_⟩
        obtain ⟨rfl, e', hk⟩ := k3 e
        obtain ⟨e, sz, l, g4, g5⟩ := g3 e'
        exact ⟨e, sz, l, g4, g5.tr hG fun b hb => hk b k hb⟩
      | suf s' k ver' n =>
        obtain ⟨cur, g1, g2, g3⟩ := h0
        obtain ⟨cur', k1, k2, k3⟩ := kept s' cur ver' g1 g2
        refine ⟨cur', k1, k2, fun e => ?_⟩
        obtain ⟨rfl, e', hk⟩ := k3 e
        obtain ⟨e, sz, l, c0, g4, g5, g6⟩ := g3 e'
        exact ⟨e, sz, l, c0, g4, g5.tr hG fun b hb => hk b k hb, g6⟩
      | pt s' k ver' off r =>
        obtain ⟨cur, g1, g2, g3⟩ := h0
        obtain ⟨cur', k1, k2, k3⟩ := kept s' cur ver' g1 g2
        refine ⟨cur', k1, k2, fun e => ?_⟩
        obtain ⟨rfl, e', hk⟩ := k3 e
        obtain ⟨b, g4, g5⟩ := g3 e'
        exact ⟨b, (hk b k g4).1, g5⟩
      | pd s' ver' p =>
        obtain ⟨cur, g1, g2, g3⟩ := h0
        rcases hs s' with ⟨k1, k2⟩ | ⟨v, old, v', new, k1, k2, k3, _, _, _, k6⟩
        · refine ⟨cur, by rw [k1]; exact g1, g2, fun inv t e hp ha => ?_⟩
          obtain ⟨cv, csv⟩ := cur
          simp only at e
          subst e
          exact (g3 inv t rfl hp ha).tr (show OwnD G σ w s' t (val a w0 s') from h.slots s' cv _ g1) k2
        · rw [k1] at g1
          cases g1
          refine ⟨_, k2, by simp only at g2 ⊢; omega, fun inv t e hp ha => ?_⟩
          obtain ⟨r, rfl⟩ := k6 inv t e
          cases p with
          | nil => exact absurd rfl hp
          | cons i p => rw [alive_dead (by simp only at g2; omega) (by simp)] at ha; cases ha
      | bd s' ver' p =>
        obtain ⟨cur, g1, g2, g3⟩ := h0
        rcases hs s' with ⟨k1, k2⟩ | ⟨v, old, v', new, k1, k2, k3, _, _, _, k6⟩
        · refine ⟨cur, by rw [k1]; exact g1, g2, fun inv t e ha => ?_⟩
          obtain ⟨cv, csv⟩ := cur
          simp only at e
          subst e
          exact (g3 inv t rfl ha).tr (show OwnD G σ w s' t (val a w0 s') from h.slots s' cv _ g1) k2
        · rw [k1] at g1
          cases g1
          refine ⟨_, k2, by simp only at g2 ⊢; omega, fun inv t e ha => ?_⟩
          obtain ⟨r, rfl⟩ := k6 inv t e
          rw [alive_dead (by simp only at g2; omega) (by simp)] at ha
          cases ha
      | _ =>
        rw [RepSV.own rfl] at h0 ⊢
        exact RepOwn.tr h0 hG fun b k hb => h2 b k hb
    · rw [h2] at hsv
      cases hsv
      rw [RepSV.own h4]
      exact h5
  · intro s ver hh hsv
    rcases hs s with ⟨h1, h2⟩ | ⟨v, old, v', new, h1, h2, h3, h4, h5, _⟩
    · rw [h1] at hsv
      exact h.pars s ver hh hsv
    · rw [h2] at hsv
      cases hsv
      exact absurd rfl (h5 hh)

theorem putBack_spec {Q : St → Prop} {k : M} : ∀ {rs : List (Option Nat)} {outs : List SV} {st : St}, rs.length = outs.length → (somes rs).Nodup → (putBack rs outs k).wp P Q st →
    ∃ st', k.wp P Q st' ∧ st'.length = st.length ∧ (∀ s, s ∉ somes rs → st'[s]? = st[s]?) ∧ (∀ (i : Nat) s sv, rs[i]? = some (some s) → outs[i]? = some sv → ∃ ver old, st[s]? = some (ver, old) ∧ st'[s]? = some (ver + 1, sv.fresh (ver + 1)))
  | [], [], st, _, _, h => ⟨st, h, rfl, fun _ _ => rfl, by simp⟩
  | none :: rs, sv :: outs, st, hl, hn, h => by
    obtain ⟨st', h1, h2, h3, h4⟩ := putBack_spec (rs := rs) (outs := outs) (by simpa using hl) (by simpa [somes] using hn) h
    refine ⟨st', h1, h2, fun s hs => h3 s (by simpa [somes] using hs), ?_⟩
    intro i s sv' a1 a2
    cases i with
    | zero => simp at a1
    | succ i => exact h4 i s sv' (by simpa using a1) (by simpa using a2)
  | some s0 :: rs, sv :: outs, st, hl, hn, h => by
    simp only [putBack, M.wp] at h
    have hn' : s0 ∉ somes rs ∧ (somes rs).Nodup := by simpa [somes] using hn
    cases hs : st[s0]? with
    | none => simp [hs] at h
    | some cur =>
      simp only [hs] at h
      obtain ⟨st', h1, h2, h3, h4⟩ := putBack_spec (rs := rs) (outs := outs) (by simpa using hl) hn'.2 h
      have hlt : s0 < st.length := (List.getElem?_eq_some_iff.1 hs).1
      refine ⟨st', h1, by simpa using h2, ?_, ?_⟩
      · intro s hs'
        have : s ≠ s0 ∧ s ∉ somes rs := by simpa [somes] using hs'
        rw [h3 s this.2, List.getElem?_set_ne (Ne.symm this.1)]
      · intro i s sv' a1 a2
        cases i with
        | zero =>
          simp only [List.getElem?_cons_zero, Option.some.injEq] at a1 a2
          subst a1; subst a2
          exact ⟨cur.1, cur.2, hs, by rw [h3 s0 hn'.1]; simp [hlt]⟩
        | succ i =>
          obtain ⟨ver, old, k1, k2⟩ := h4 i s sv' (by simpa using a1) (by simpa using a2)
          have hne : s ≠ s0 := by
            rintro rfl
            exact hn'.1 (List.mem_filterMap.2 ⟨some s, List.mem_of_getElem? (by simpa using a1), rfl⟩)
          rw [List.getElem?_set_ne (Ne.symm hne)] at k1
          exact ⟨ver, old, k1, k2⟩
  | [], _ :: _, _, hl, _, _ => by simp at hl
  | _ :: _, [], _, hl, _, _ => by simp at hl

/-- The labels that a called function sees. -/
def Lab.inner (σ : Lab) (rs : List (Option Nat)) : Lab := fun b => match σ b with
  | some (s, k) => match rs.idxOf? (some s) with
    | some i => some (i, k)
    | none => none
  | none => none
/-- What it must leave alone. -/
def Mem.inner (Fr : Mem) (σ : Lab) (w : World) (rs : List (Option Nat)) : Mem := fun b => match σ b with
  | some (s, _) => if some s ∈ rs then none else w.heap[b]?
  | none => Fr b
/-- The labels behind the call. -/
def Lab.outer (σ σ' : Lab) (rs : List (Option Nat)) : Lab := fun b => match σ b with
  | some (s, k) => if some s ∈ rs then (match σ' b with
    | some (i, k) => match rs[i]? with
      | some (some s) => some (s, k)
      | _ => none
    | none => none) else some (s, k)
  | none => match σ' b with
    | some (i, k) => match rs[i]? with
      | some (some s) => some (s, k)
      | _ => none
    | none => none

theorem idxOf_some {rs : List (Option Nat)} {s i : Nat} (hn : (somes rs).Nodup) (h : rs[i]? = some (some s)) : rs.idxOf? (some s) = some i := by
  induction rs generalizing i with
  | nil => simp at h
  | cons r rs ih =>
    cases i with
    | zero =>
      simp only [List.getElem?_cons_zero, Option.some.injEq] at h
      subst h
      simp [List.idxOf?_cons]
    | succ i =>
      have h' : rs[i]? = some (some s) := by simpa using h
      have hmem : s ∈ somes rs := List.mem_filterMap.2 ⟨some s, List.mem_of_getElem? h', rfl⟩
      have hne : r ≠ some s := by
        rintro rfl
        have : s ∉ somes rs ∧ (somes rs).Nodup := by simpa [somes] using hn
        exact this.1 hmem
      have hn' : (somes rs).Nodup := by
        cases r with
        | none => simpa [somes] using hn
        | some r => have : r ∉ somes rs ∧ (somes rs).Nodup := by simpa [somes] using hn
                    exact this.2
      rw [List.idxOf?_cons, if_neg (by simpa using hne), ih hn' h']
      rfl
theorem idxOf_inv {rs : List (Option Nat)} {s i : Nat} (h : rs.idxOf? (some s) = some i) : rs[i]? = some (some s) := by
  induction rs generalizing i with
  | nil => simp at h
  | cons r rs ih =>
    rw [List.idxOf?_cons] at h
    split at h
    · rename_i hr
      simp only [Option.some.injEq] at h
      subst h
      simpa using hr
    · cases hi : rs.idxOf? (some s) with
      | none => simp [hi] at h
      | some j =>
        simp only [hi, Option.map_some, Option.some.injEq] at h
        subst h
        simpa using ih hi
theorem mem_of_some {rs : List (Option Nat)} {s : Nat} : some s ∈ rs ↔ s ∈ somes rs := by simp [somes]
end
end Go.Ab

namespace Go.Ab
def callOk (P : Program) (f : FuncId) : Bool := match P.funcs[f]? with
  | some fn => fn.body.isSome && !(fn.name == "runtime.NumGoroutine")
  | none => false
section
variable {P : Program} {N : Nat} {G : Mem} {σ : Lab} {Fr : Mem} {w0 : Base} {w : World} {st : St} {a : Act}

theorem call_run {o : Oper} {f : FuncId} {args : Array Operand} {ts : Array TypeId} (ho : o.op = .call { callee := .value (.func f), args, argTypes := ts }) (hf : callOk P f = true) :
    (execOp a.eval o).run P w = .ok (.enter f (args.map a.eval)) w := by
  unfold callOk at hf
  split at hf
  · rename_i fn hfn
    simp only [Bool.and_eq_true, Bool.not_eq_true', beq_eq_false_iff_ne, ne_eq] at hf
    obtain ⟨h1, h2⟩ := hf
    have h4 : fn.body ≠ none := by rintro e; rw [e] at h1; cases h1
    simp [execOp, ho, resolve, Deferred.ofValue, Act.eval, invoke, callFunc, hfn, h2, h4]
  · cases hf

theorem wok_base {B : Base} {w1 : World} (h : WOk G σ Fr ⟨w1, 0, #[]⟩ w) (hb : w1.os = B.w.os ∧ w1.tape = B.w.tape ∧ w1.output = B.w.output ∧ B.w.heap.size ≤ w1.heap.size) : WOk G σ Fr B w :=
  ⟨h.fixed, h.own, h.inj, h.frame, h.os.trans hb.1, h.tape.trans hb.2.1, h.output.trans hb.2.2.1, Nat.le_trans hb.2.2.2 h.size, h.apart⟩

/-- What a call does. -/
theorem call_rel {f : FuncId} {svs : List SV} {rs : List (Option Nat)} {xs : List Operand} {Post : SV → List SV → Prop} (hr : Rel G σ Fr w0 st a w) (hn : (somes rs).Nodup)
    (hl1 : svs.length = xs.length) (hl2 : rs.length = xs.length)
    (hargs : ∀ (i : Nat) (sv : SV) (x : Operand), svs[i]? = some sv → xs[i]? = some x → (rs[i]? = some none ∧ ((∃ u, sv = .v u ∧ RepV G u (a.eval x)) ∨ ∃ e sz, sv = .vec e sz [] ∧ a.eval x = .slice none 0 0)) ∨ (∃ s ver, rs[i]? = some (some s) ∧ st[s]? = some ver ∧ sv.lends = true ∧ RepOwn G σ w s sv (a.eval x) ∧ a.eval x = val a w0 s))
    (hfn : Fn P f svs Post) :
    Calls P f (xs.map a.eval).toArray w fun e w' => ∃ r outs c G' σ', e = .returned c ∧ Post r outs ∧ G.le G' ∧ WOk G' (σ.outer σ' rs) Fr w0 w' ∧ r.root = none ∧ RepOwn G' σ' w' svs.length r c ∧ outs.length = rs.length ∧
      (∀ s, s ∉ somes rs → Kept σ (σ.outer σ' rs) w w' s) ∧
      (∀ (i : Nat) s sv, rs[i]? = some (some s) → outs[i]? = some sv → sv.root = none ∧ RepOwn G' (σ.outer σ' rs) w' s sv (a.eval (xs.getD i (.tmp 0)))) ∧
      (∀ b k, σ' b = some (svs.length, k) → σ.outer σ' rs b = none ∧ G' b = none ∧ Fr b = none ∧ b < w'.heap.size) ∧ (∀ b b' k, σ' b = some (svs.length, k) → σ' b' = some (svs.length, k) → b = b') := by
  have hw := hr.wok
  have innerSome : ∀ {b i k}, σ.inner rs b = some (i, k) → ∃ s, σ b = some (s, k) ∧ rs[i]? = some (some s) := by
    intro b i k h
    unfold Lab.inner at h
    split at h
    · rename_i s k' hb
      split at h
      · rename_i j hj
        cases h
        exact ⟨s, hb, idxOf_inv hj⟩
      · cases h
    · cases h
  have hok : WOk G (σ.inner rs) (Fr.inner σ w rs) ⟨w, 0, #[]⟩ w := by
    refine ⟨hw.fixed, ?_, ?_, ?_, rfl, rfl, rfl, Nat.le_refl _, ?_⟩
    · rintro b ⟨i, k⟩ hb
      obtain ⟨s, h1, h2⟩ := innerSome hb
      obtain ⟨h3, h4, h5⟩ := hw.own b _ h1
      refine ⟨h3, ?_, h5⟩
      unfold Mem.inner
      simp [h1, List.mem_of_getElem? h2]
    · rintro b b' ⟨i, k⟩ hb hb'
      obtain ⟨s, h1, h2⟩ := innerSome hb
      obtain ⟨s', h3, h4⟩ := innerSome hb'
      rw [h2] at h4
      cases h4
      exact hw.inj b b' _ h1 h3
    · intro b o hb
      unfold Mem.inner at hb
      split at hb
      · split at hb
        · cases hb
        · exact hb
      · exact hw.frame b o hb
    · intro b o hb
      unfold Mem.inner at hb
      split at hb
      · rename_i h; exact (hw.own b _ h).1
      · exact hw.apart b o hb
  have hin : ∀ i sv, svs[i]? = some sv → sv.root = none ∧ RepOwn G (σ.inner rs) w i sv (((xs.map a.eval).toArray).getD i undef) := by
    intro i sv hi
    have hlt : i < xs.length := by rw [← hl1]; exact (List.getElem?_eq_some_iff.1 hi).1
    have hx : xs[i]? = some xs[i] := List.getElem?_eq_getElem hlt
    have hc : ((xs.map a.eval).toArray).getD i undef = a.eval xs[i] := by simp [hlt]
    rw [hc]
    rcases hargs i sv _ hi hx with ⟨h1, ⟨u, rfl, h2⟩ | ⟨e, sz, rfl, h2⟩⟩ | ⟨s, ver, h1, h2, h3, h4, h4'⟩
    · exact ⟨rfl, h2⟩
    · refine ⟨rfl, [], ?_, rfl, by simp, ?_⟩
      · rw [h2]; exact OwnsR.nil w e sz
      · rw [h2]; simp [Value.ownBlock]
    · refine ⟨SV.lends_root h3, RepOwn.tr h4 (Mem.le.refl G) fun b k hb => ⟨?_, rfl⟩⟩
      simp [Lab.inner, hb, idxOf_some hn h1]
  have hcall := hfn G (σ.inner rs) (Fr.inner σ w rs) w (xs.map a.eval).toArray hok (by simp [hl1]) hin
  refine hcall.mono ?_
  rintro e w' ⟨r, outs, c, G', σ', he, hp, hG, hok', hroot, hrep, hlen, houts⟩
  have far : ∀ {b s k}, σ b = some (s, k) → s ∉ somes rs → Fr.inner σ w rs b = w.heap[b]? ∧ σ' b = none ∧ ∃ o, w.heap[b]? = some o := by
    intro b s k hb hs
    have h1 : Fr.inner σ w rs b = w.heap[b]? := by
      unfold Mem.inner
      simp [hb, mem_of_some, hs]
    have h2 : ∃ o, w.heap[b]? = some o := ⟨_, Array.getElem?_eq_getElem (hw.own b _ hb).2.2⟩
    refine ⟨h1, ?_, h2⟩
    cases h3 : σ' b with
    | none => rfl
    | some lab =>
      have := (hok'.own b lab h3).2.1
      rw [h1] at this
      obtain ⟨o, ho⟩ := h2
      rw [ho] at this
      cases this
  have farOuter : ∀ {b s k}, σ b = some (s, k) → s ∉ somes rs → σ.outer σ' rs b = some (s, k) := by
    intro b s k hb hs
    unfold Lab.outer
    simp [hb, mem_of_some, hs]
  have outerInv : ∀ {b s k}, σ.outer σ' rs b = some (s, k) → (s ∉ somes rs ∧ σ b = some (s, k)) ∨ ∃ i, σ' b = some (i, k) ∧ rs[i]? = some (some s) := by
    intro b s k h
    unfold Lab.outer at h
    split at h
    · rename_i s' k' hb
      split at h
      · split at h
        · rename_i i k'' hi
          split at h
          · rename_i s'' hs''
            cases h
            exact .inr ⟨i, hi, hs''⟩
          · cases h
        · cases h
      · rename_i hs'
        cases h
        exact .inl ⟨by rwa [mem_of_some] at hs', hb⟩
    · split at h
      · rename_i i k'' hi
        split at h
        · rename_i s'' hs''
          cases h
          exact .inr ⟨i, hi, hs''⟩
        · cases h
      · cases h
  have innerOuter : ∀ {b i s k}, σ' b = some (i, k) → rs[i]? = some (some s) → σ.outer σ' rs b = some (s, k) := by
    intro b i s k h1 h2
    unfold Lab.outer
    split
    · rename_i s' k' hb
      split
      · simp [h1, h2]
      · rename_i hs'
        obtain ⟨_, h3, _⟩ := far hb (by rwa [mem_of_some] at hs')
        rw [h1] at h3
        cases h3
    · simp [h1, h2]
  refine ⟨r, outs, c, G', σ', he, hp, hG, ?_, hroot, hrep, by rw [hlen, hl1, hl2], ?_, ?_, ?_, ?_⟩
  · refine ⟨hok'.fixed, ?_, ?_, ?_, hok'.os.trans hw.os, hok'.tape.trans hw.tape, hok'.output.trans hw.output, Nat.le_trans hw.size hok'.size, ?_⟩
    · rintro b ⟨s, k⟩ hb
      rcases outerInv hb with ⟨h1, h2⟩ | ⟨i, h1, h2⟩
      · obtain ⟨h3, h4, o, h5⟩ := far h2 h1
        obtain ⟨h6, h7, h8⟩ := hw.own b _ h2
        rw [h5] at h3
        have h9 := hok'.frame b o h3
        exact ⟨hok'.apart b o h3, h7, (Array.getElem?_eq_some_iff.1 h9).1⟩
      · obtain ⟨h3, h4, h5⟩ := hok'.own b _ h1
        refine ⟨h3, ?_, h5⟩
        cases hf : Fr b with
        | none => rfl
        | some o =>
          have hσ : σ b = none := by
            cases hh : σ b with
            | none => rfl
            | some lab => have := (hw.own b _ hh).2.1; rw [hf] at this; cases this
          have : Fr.inner σ w rs b = some o := by unfold Mem.inner; simp [hσ, hf]
          rw [this] at h4
          cases h4
    · rintro b b' ⟨s, k⟩ hb hb'
      rcases outerInv hb with ⟨h1, h2⟩ | ⟨i, h1, h2⟩ <;> rcases outerInv hb' with ⟨h3, h4⟩ | ⟨j, h3, h4⟩
      · exact hw.inj b b' _ h2 h4
      · exact absurd (mem_of_some.1 (List.mem_of_getElem? h4)) h1
      · exact absurd (mem_of_some.1 (List.mem_of_getElem? h2)) h3
      · have e1 := idxOf_some hn h2
        have e2 := idxOf_some hn h4
        rw [e1] at e2
        cases e2
        exact hok'.inj b b' _ h1 h3
    · intro b o hb
      have hσ : σ b = none := by
        cases hh : σ b with
        | none => rfl
        | some lab => have := (hw.own b _ hh).2.1; rw [hb] at this; cases this
      exact hok'.frame b o (by unfold Mem.inner; simp [hσ, hb])
    · intro b o hb
      have hσ : σ b = none := by
        cases hh : σ b with
        | none => rfl
        | some lab => have := (hw.own b _ hh).2.1; rw [hb] at this; cases this
      exact hok'.apart b o (by unfold Mem.inner; simp [hσ, hb])
  · intro s hs b k hb
    obtain ⟨h3, h4, o, h5⟩ := far hb hs
    refine ⟨farOuter hb hs, ?_⟩
    rw [h5] at h3 ⊢
    exact hok'.frame b o h3
  · intro i s sv h1 h2
    obtain ⟨h3, h4⟩ := houts i sv h2
    refine ⟨h3, ?_⟩
    have hlt : i < xs.length := by rw [← hl2]; exact (List.getElem?_eq_some_iff.1 h1).1
    have hc : ((xs.map a.eval).toArray).getD i undef = a.eval (xs.getD i (.tmp 0)) := by simp [hlt]
    rw [← hc]
    exact RepOwn.tr h4 (Mem.le.refl G') fun b k hb => ⟨innerOuter hb h1, rfl⟩
  · intro b k hb
    have hnone : rs[svs.length]? = none := by rw [List.getElem?_eq_none]; omega
    obtain ⟨h3, h4, h5⟩ := hok'.own b _ hb
    have hout : σ.outer σ' rs b = none := by
      cases hh : σ.outer σ' rs b with
      | none => rfl
      | some lab =>
        obtain ⟨s, k'⟩ := lab
        rcases outerInv hh with ⟨h1, h2⟩ | ⟨i, h1, h2⟩
        · obtain ⟨_, h6, _⟩ := far h2 h1; rw [hb] at h6; cases h6
        · rw [hb] at h1; cases h1; rw [hnone] at h2; cases h2
    refine ⟨hout, h3, ?_, h5⟩
    cases hf : Fr b with
    | none => rfl
    | some o =>
      have hσ : σ b = none := by
        cases hh : σ b with
        | none => rfl
        | some lab => have := (hw.own b _ hh).2.1; rw [hf] at this; cases this
      have : Fr.inner σ w rs b = some o := by unfold Mem.inner; simp [hσ, hf]
      rw [this] at h4
      cases h4
  · intro b b' k h1 h2
    exact hok'.inj b b' _ h1 h2

/-- A call's step: whatever names the function. -/
theorem call_core {o : Oper} {f : FuncId} {args : Array Operand} {as : List (Bool × Opd)} {Q : St → Prop} {next : Act → World → Prop} {E : Exit → Act → World → Prop} (hrun : (execOp a.eval o).run P w = .ok (.enter f (args.map a.eval)) w)
    (ha : argsOk w0.n args.toList as = true) (hr : Rel G σ Fr w0 st a w) (hw : (semCall o.dst f as).wp P Q st) (hn : ∀ G' σ' st' a' w', G.le G' → Rel G' σ' Fr w0 st' a' w' → Q st' → next a' w') (hdst : ∀ d, o.dst = some d → d < w0.n) : o.wp P a w next E := by
  obtain ⟨us, G1, σ1, st1, hG1, hr1, h1, hul, hu⟩ := takeImm_rep hr ha hw
  obtain ⟨svs, rs, h2, hl1, hl2, hargs⟩ := lendAll_rep hr1 ha hul hu h1
  obtain ⟨⟨hnd, hdn⟩, ⟨Post, hfn, h2⟩⟩ := h2
  have hc := call_rel (xs := args.toList) hr1 hnd hl1 hl2 hargs hfn
  unfold Oper.wp
  rw [hrun, Oper.upon_enter]
  have he : (args.toList.map a.eval).toArray = args.map a.eval := by
    apply Array.ext'
    simp only [Array.toList_map]
  rw [he] at hc
  refine hc.mono ?_
  rintro e w' ⟨r, outs, c, G', σ', rfl, hp, hG', hok, hroot, hrep, hol, hkept, hback, hnew, hinj⟩
  have h3 := h2 r outs hp
  obtain ⟨hrp, hop, h3⟩ := h3
  obtain ⟨st2, h4, hlen2, hsame, hset⟩ := putBack_spec hol.symm hnd h3
  have hr2 : Rel G' (σ1.outer σ' rs) Fr w0 st2 a w' := by
    refine hr1.many hok hG' hlen2 fun s => ?_
    by_cases hs : s ∈ somes rs
    · right
      obtain ⟨i, hi⟩ := List.mem_iff_getElem?.1 (mem_of_some.2 hs)
      have hio : i < outs.length := by rw [hol]; exact (List.getElem?_eq_some_iff.1 hi).1
      have hoi : outs[i]? = some outs[i] := List.getElem?_eq_getElem hio
      obtain ⟨ver, old, k1, k2⟩ := hset i s _ hi hoi
      obtain ⟨k3, k4⟩ := hback i s _ hi hoi
      refine ⟨ver, old, ver + 1, _, k1, k2, Nat.lt_succ_self _, by rw [fresh_root]; exact k3, fun h e => hop _ (List.getElem_mem hio) h (fresh_par.1 e), ?_, fresh_dead⟩
      rw [fresh_rep]
      have hxi : i < args.toList.length := by rw [← hl2]; exact (List.getElem?_eq_some_iff.1 hi).1
      have hsi : i < svs.length := by rw [hl1]; exact hxi
      rcases hargs i svs[i] args.toList[i] (List.getElem?_eq_getElem hsi) (List.getElem?_eq_getElem hxi) with ⟨q1, _⟩ | ⟨s', ver', q1, q2, q3, q4, q5⟩
      · rw [hi] at q1; cases q1
      · rw [hi] at q1
        cases q1
        have : args.toList.getD i (.tmp 0) = args.toList[i] := by rw [List.getD, List.getElem?_eq_getElem hxi]; rfl
        rw [this, q5] at k4
        exact k4
    · exact .inl ⟨hsame s hs, hkept s hs⟩
  have hfin : ∃ σ3 st3, Rel G' σ3 Fr w0 st3 (a.put o.dst c) w' ∧ Q st3 := by
    cases hd : o.dst with
    | none => rw [hd] at h4; exact ⟨_, st2, hr2, h4⟩
    | some d =>
      rw [hd] at h4
      simp only [setR, setN, M.wp] at h4
      cases hdd : st2[d]? with
      | none => simp [hdd] at h4
      | some cur =>
        simp only [hdd] at h4
        let σ3 : Lab := fun b => match σ' b with
          | some (i, k) => if i = svs.length then some (d, k) else (σ1.outer σ' rs).drop d b
          | none => (σ1.outer σ' rs).drop d b
        have inv3 : ∀ {b lab}, σ3 b = some lab → (∃ k, σ' b = some (svs.length, k) ∧ lab = (d, k)) ∨ ((σ1.outer σ' rs).drop d b = some lab ∧ ∀ k, σ' b ≠ some (svs.length, k)) := by
          intro b lab hb
          simp only [σ3] at hb
          split at hb
          · rename_i i k hi
            split at hb
            · rename_i e
              cases hb
              exact .inl ⟨k, by rw [hi, e], rfl⟩
            · rename_i e
              exact .inr ⟨hb, fun k' hk' => by rw [hi] at hk'; cases hk'; exact e rfl⟩
          · rename_i hi
            exact .inr ⟨hb, fun k' hk' => by rw [hi] at hk'; cases hk'⟩
        have here3 : ∀ {b k}, σ' b = some (svs.length, k) → σ3 b = some (d, k) := by
          intro b k hb
          simp only [σ3, hb, if_true]
        have far3 : ∀ {b lab}, (σ1.outer σ' rs).drop d b = some lab → σ3 b = some lab := by
          intro b lab hb
          have hout := Lab.drop_le hb
          simp only [σ3]
          split
          · rename_i i k hi
            split
            · rename_i e
              subst e
              rw [(hnew b k hi).1] at hout
              cases hout
            · exact hb
          · exact hb
        have hok3 : WOk G' σ3 Fr w0 w' := by
          refine ⟨hok.fixed, ?_, ?_, hok.frame, hok.os, hok.tape, hok.output, hok.size, hok.apart⟩
          · intro b lab hb
            rcases inv3 hb with ⟨k, h5, rfl⟩ | ⟨h5, _⟩
            · exact (hnew b k h5).2
            · exact hok.own b lab (Lab.drop_le h5)
          · intro b b' lab hb hb'
            rcases inv3 hb with ⟨k, h5, rfl⟩ | ⟨h5, h6⟩ <;> rcases inv3 hb' with ⟨k', h7, h8⟩ | ⟨h7, h8⟩
            · cases h8; exact hinj b b' k h5 h7
            · exact absurd rfl (Lab.drop_some.1 h7).1
            · subst h8; exact absurd rfl (Lab.drop_some.1 h5).1
            · exact hok.inj b b' lab (Lab.drop_le h5) (Lab.drop_le h7)
        refine ⟨σ3, _, hr2.put (hdst d hd) hok3 (Mem.le.refl G') hdd (Nat.lt_succ_self _) ?_ ?_ (fun h e => absurd (fresh_par.1 e) (hrp h)) fresh_dead, h4⟩
        · intro s' hs' b k hb
          exact ⟨far3 (Lab.drop_some.2 ⟨hs', hb⟩), rfl⟩
        · rw [RepSV.own (by rw [fresh_root]; exact hroot), fresh_rep]
          exact RepOwn.tr hrep (Mem.le.refl G') fun b k hb => ⟨here3 hb, rfl⟩
  obtain ⟨σ3, st3, q1, q2⟩ := hfin
  exact hn G' σ3 st3 _ w' (hG1.trans hG') q1 q2
theorem sound_call {o : Oper} {f : FuncId} {args : Array Operand} {ts : Array TypeId} {as : List (Bool × Opd)} (ho : o.op = .call { callee := .value (.func f), args, argTypes := ts }) (hf : callOk P f = true)
    (ha : argsOk N args.toList as = true) : Sound P N o (semCall o.dst f as) := by
  intro G σ Fr w0 st a w Q next E hN hr hw hn hdst
  subst hN
  exact call_core (call_run ho hf) ha hr hw hn hdst

theorem RepV.fn {f : FuncId} {c : Value} : RepV G (.fn f) c ↔ c = .func (.func f) #[] #[] := by
  unfold RepV
  rw [if_neg (by simp [I.isAgg])]
  simp only [RepI, List.cons.injEq, and_true]
/-! ### A call that is only shown what is handed over: all that was there lies fixed meanwhile; what comes back leads nowhere. -/
def plain : I → Bool
  | .int _ _ | .bool _ | .str _ | .fn _ => true
  | _ => false
def peekA (x : Opd) (k : I → M) : M := match x with
  | .c x => k x
  | .nils _ _ => k (.list [])
  | .t n => .get n fun _ sv => match sv with
    | .v x => k x
    | .vec _ _ l => k (.list l)
    | .bor s kk v => .get s fun cur sv' => .need (v = cur) fun _ => match sv'.vecAt kk with
      | some (_, _, l) => k (.list l)
      | none => .fail
    | .own _ t => match t.toI with
      | some y => k y
      | none => .fail
    | .bd s v p => .get s fun cur sv' => match sv' with
      | .own inv t => .need (alive v inv (p.length + 1) = true) fun _ => match D.at p t with
        | some u => match u.toI with
          | some y => k y
          | none => .fail
        | none => .fail
      | _ => .fail
    | _ => .fail
def peekAll : List (Bool × Opd) → (List I → M) → M
  | [], k => k []
  | (_, x) :: as, k => peekA x fun u => peekAll as fun us => k (u :: us)
def semPeek (d : Option Nat) (f : FuncId) (as : List (Bool × Opd)) : M := peekAll as fun us => .call f (us.map .v) fun r _ => match r with
  | .v u => .need (plain u = true) fun _ => setD d (.v u) .done
  | _ => .fail
def wholeMem (w : World) : Mem := fun b => w.heap[b]?
theorem plain_rep {G G' : Mem} {u : I} {c : Value} (h : plain u = true) (hr : RepV G u c) : RepV G' u c := by
  cases u with
  | int k n => rw [RepV.int] at hr ⊢; exact hr
  | bool b => rw [RepV.bool] at hr ⊢; exact hr
  | str s => rw [RepV.str] at hr ⊢; exact hr
  | fn f => rw [RepV.fn] at hr ⊢; exact hr
  | _ => cases h
theorem peekA_rep {x : Operand} {y : Opd} {k : I → M} {Q : St → Prop} (h : Rel G σ Fr w0 st a w) (ho : opdOk w0.n x y = true) (hq : (peekA y k).wp P Q st) : ∃ u, (k u).wp P Q st ∧ RepV (wholeMem w) u (a.eval x) := by
  have hle : G.le (wholeMem w) := fun b o hb => h.wok.fixed b o hb
  have vec : ∀ {lab : Nat × Nat} {e : TypeId} {sz : Nat} {l : List I} {c : Value}, VecAt G σ w lab e sz l c → RepV (wholeMem w) (.list l) c := fun hv => hv.list hle fun b _ => rfl
  cases y with
  | c i => exact ⟨i, hq, opdOk_c ho (wholeMem w)⟩
  | nils e sz =>
    refine ⟨.list [], hq, ?_⟩
    rw [opdOk_nils ho]
    exact RepV.list.2 ⟨none, 0, rfl, Nat.le_refl _, Nat.zero_le _, .inl rfl⟩
  | t n =>
    obtain ⟨rfl, hnlt⟩ := opdOk_t ho
    simp only [peekA, M.wp] at hq
    cases hs : st[n]? with
    | none => simp [hs] at hq
    | some cur =>
      obtain ⟨ver, sv⟩ := cur
      simp only [hs] at hq
      have hrep := h.slot hnlt hs
      cases sv with
      | v x => exact ⟨x, hq, RepV.mono hle hrep⟩
      | vec e sz l => exact ⟨_, hq, vec hrep⟩
      | bor s kk v =>
        obtain ⟨cur, g1, g2, g3⟩ := hrep
        simp only [M.wp, g1] at hq
        obtain ⟨hv, hq⟩ := hq
        obtain ⟨e, sz, l, g4, g5⟩ := g3 hv
        simp only [g4] at hq
        exact ⟨_, hq, vec g5⟩
      | own inv t =>
        simp only at hq
        split at hq
        · rename_i y hy
          obtain ⟨bs, h1, h2, _⟩ := hrep
          have hI := RepD.toI (G' := wholeMem w) hle h1 hy fun b _ => rfl
          refine ⟨_, hq, ?_⟩
          rw [← (toI_shape hy).2] at h2
          unfold RepV
          cases hag : y.isAgg with
          | true =>
            rw [hag] at h2
            obtain ⟨a', ha'⟩ := valOf_agg h2
            rw [ha'] at hI
            rw [if_pos rfl]
            exact ⟨a', ha', hI⟩
          | false =>
            rw [hag] at h2
            rw [valOf_one h2] at hI
            rw [if_neg (by simp)]
            exact hI
        · exact hq.elim
      | bd s v p =>
        obtain ⟨cur, g1, g2, g3⟩ := hrep
        simp only [M.wp, g1] at hq
        obtain ⟨cv, csv⟩ := cur
        cases csv with
        | own inv t =>
          obtain ⟨ha, hq⟩ := hq
          split at hq
          · rename_i u hat
            split at hq
            · rename_i y hy
              have hhd := g3 inv t rfl ha
              obtain ⟨hh, ubs, e5, _, _⟩ := HdD.read (h.slots s cv _ g1) hat hhd
              obtain ⟨u1, _, e1, e0, _⟩ := hhd
              rw [hat] at e1
              obtain rfl := Option.some.inj e1
              have hI := RepD.toI (G' := wholeMem w) hle e5 hy fun b _ => rfl
              refine ⟨_, hq, ?_⟩
              have hag : y.isAgg = false := by
                rw [(toI_shape hy).2]
                cases u <;> first | rfl | cases e0
              unfold RepV
              rw [if_neg (by rw [hag]; simp)]
              exact hI
            · exact hq.elim
          · exact hq.elim
        | _ => exact hq.elim
      | _ => exact hq.elim
theorem peekAll_rep {Q : St → Prop} (h : Rel G σ Fr w0 st a w) : ∀ {xs : List Operand} {as : List (Bool × Opd)} {k : List I → M}, argsOk w0.n xs as = true → (peekAll as k).wp P Q st →
    ∃ us, (k us).wp P Q st ∧ us.length = xs.length ∧ ∀ (i : Nat) (u : I) (x : Operand), us[i]? = some u → xs[i]? = some x → RepV (wholeMem w) u (a.eval x)
  | [], [], k, _, hq => ⟨[], hq, rfl, by simp⟩
  | x :: xs, (_, y) :: as, k, ho, hq => by
    simp only [argsOk, Bool.and_eq_true] at ho
    obtain ⟨u, h1, h2⟩ := peekA_rep h ho.1 hq
    obtain ⟨us, h3, h4, h5⟩ := peekAll_rep h ho.2 h1
    refine ⟨u :: us, h3, by simp [h4], ?_⟩
    intro i u' x' h6 h7
    cases i with
    | zero => cases h6; cases h7; exact h2
    | succ i => exact h5 i u' x' h6 h7
  | [], _ :: _, _, ho, _ => by cases ho
  | _ :: _, [], _, ho, _ => by simp [argsOk] at ho
theorem sound_peek {o : Oper} {f : FuncId} {args : Array Operand} {ts : Array TypeId} {as : List (Bool × Opd)} (ho : o.op = .call { callee := .value (.func f), args, argTypes := ts }) (hf : callOk P f = true)
    (ha : argsOk N args.toList as = true) : Sound P N o (semPeek o.dst f as) := by
  intro G σ Fr w0 st a w Q next E hN hr hw hn hdst
  subst hN
  obtain ⟨us, ⟨Post, hfn, h1⟩, h2, h3⟩ := peekAll_rep hr ha hw
  have hw0 : WOk (wholeMem w) (fun _ => none) (fun _ => none) ⟨w, 0, #[]⟩ w :=
    ⟨fun _ _ h => h, fun b lab h => by (cases h), fun b b' lab h => by (cases h), fun b o h => by (cases h), rfl, rfl, rfl, Nat.le_refl _, fun b o h => by (cases h)⟩
  have hc := hfn (wholeMem w) (fun _ => none) (fun _ => none) w (args.map a.eval) hw0 (by simp [h2]) (fun i sv hi => by
    rw [List.getElem?_map] at hi
    cases hu : us[i]? with
    | none => simp [hu] at hi
    | some u =>
      simp only [hu, Option.map_some, Option.some.injEq] at hi
      subst hi
      have hil : i < args.size := by
        have := (List.getElem?_eq_some_iff.1 hu).1
        rw [h2] at this
        simpa using this
      refine ⟨rfl, ?_⟩
      have := h3 i u args[i] hu (by simp [hil])
      show RepV _ _ _
      simpa [Array.getD, hil] using this)
  unfold Oper.wp
  rw [call_run ho hf, Oper.upon_enter]
  refine hc.mono ?_
  rintro e w' ⟨r, outs, c, G', σ', rfl, hp, hG', hok, hroot, hrep, _⟩
  have h4 := h1 r outs hp
  have hr' : Rel G σ Fr w0 st a w' := hr.grow hok.os hok.tape hok.output hok.size fun b hb => by
    have hbw : w.heap[b]? = some w.heap[b] := Array.getElem?_eq_getElem hb
    rw [hbw]
    exact hok.fixed b _ (hG' b _ hbw)
  cases r with
  | v u =>
    obtain ⟨hpl, h4⟩ := h4
    obtain ⟨σ3, st3, q1, q2⟩ := hr'.setD hdst (sv := .v u) (c := c) (fun _ _ _ _ => plain_rep hpl hrep) h4
    exact hn G σ3 st3 _ w' (Mem.le.refl G) q1 q2
  | _ => exact h4.elim
/-- A call of a function's value. -/
def semDyn (d : Option Nat) (fs : List FuncId) (x : Opd) (as : List (Bool × Opd)) : M := rdI x fun u => match u with
  | .fn f => .need (f ∈ fs) fun _ => semCall d f as
  | .clo f caps => .need (f ∈ fs) fun _ => peekAll as fun us => .call f (us.map .v ++ caps.map .rp) fun r _ => match r with
    | .v u => .need (plain u = true) fun _ => setD d (.v u) .done
    | _ => .fail
  | _ => .fail
theorem dyn_run {o : Oper} {f : FuncId} {x : Operand} {args : Array Operand} {ts : Array TypeId} (ho : o.op = .call { callee := .value x, args, argTypes := ts }) (hx : a.eval x = .func (.func f) #[] #[]) (hf : callOk P f = true) :
    (execOp a.eval o).run P w = .ok (.enter f (args.map a.eval)) w := by
  unfold callOk at hf
  split at hf
  · rename_i fn hfn
    simp only [Bool.and_eq_true, Bool.not_eq_true', beq_eq_false_iff_ne, ne_eq] at hf
    obtain ⟨h1, h2⟩ := hf
    have h4 : fn.body ≠ none := by rintro e; rw [e] at h1; cases h1
    simp [execOp, ho, resolve, Deferred.ofValue, hx, invoke, callFunc, hfn, h2, h4]
  · cases hf
theorem clo_run {o : Oper} {f : FuncId} {x : Operand} {ps : List Value} {args : Array Operand} {ts : Array TypeId} (ho : o.op = .call { callee := .value x, args, argTypes := ts }) (hx : a.eval x = .func (.func f) #[] ps.toArray) (hf : callOk P f = true) :
    (execOp a.eval o).run P w = .ok (.enter f (args.map a.eval ++ ps.toArray)) w := by
  unfold callOk at hf
  split at hf
  · rename_i fn hfn
    simp only [Bool.and_eq_true, Bool.not_eq_true', beq_eq_false_iff_ne, ne_eq] at hf
    obtain ⟨h1, h2⟩ := hf
    have h4 : fn.body ≠ none := by rintro e; rw [e] at h1; cases h1
    simp [execOp, ho, resolve, Deferred.ofValue, hx, invoke, callFunc, hfn, h2, h4]
  · cases hf
theorem RepPs.length {G : Mem} : ∀ {l : List I} {ps : List Value}, RepPs G l ps → ps.length = l.length
  | [], _, h => by simp only [RepPs] at h; simp [h]
  | x :: l, ps, h => by
    simp only [RepPs] at h
    obtain ⟨p, r, b, off, bl, ty, fz, pre, cs, post, rfl, _, _, _, _, _, h7⟩ := h
    simp [RepPs.length h7]
theorem RepPs.get {G : Mem} : ∀ {l : List I} {ps : List Value} {i : Nat} {u : I}, RepPs G l ps → l[i]? = some u → ∃ p, ps[i]? = some p ∧ RepRp G u p
  | [], _, i, u, _, h => by simp at h
  | x :: l, ps, i, u, hp, h => by
    simp only [RepPs] at hp
    obtain ⟨p, r, b, off, bl, ty, fz, pre, cs, post, rfl, h2, h3, h4, h5, h6, h7⟩ := hp
    cases i with
    | zero => cases h; exact ⟨p, rfl, b, off, bl, ty, fz, pre, cs, post, h2, h3, h4, h5, h6⟩
    | succ i =>
      have h8 : l[i]? = some u := by simpa using h
      obtain ⟨p', h9, h10⟩ := RepPs.get h7 h8
      exact ⟨p', by simpa using h9, h10⟩
theorem sound_dyn {o : Oper} {fs : List FuncId} {x : Operand} {x' : Opd} {args : Array Operand} {ts : Array TypeId} {as : List (Bool × Opd)} (ho : o.op = .call { callee := .value x, args, argTypes := ts }) (hx : opdOk N x x' = true)
    (hf : fs.all (callOk P) = true) (ha : argsOk N args.toList as = true) : Sound P N o (semDyn o.dst fs x' as) := by
  intro G σ Fr w0 st a w Q next E hN hr hw hn hdst
  subst hN
  obtain ⟨u, h1, hv⟩ := rdI_rep hr hx hw
  clear hw
  split at h1
  · rename_i f
    obtain ⟨hmem, h1⟩ := h1
    exact call_core (dyn_run ho (RepV.fn.1 hv) (List.all_eq_true.1 hf f hmem)) ha hr h1 hn hdst
  · rename_i f caps
    obtain ⟨hmem, h1⟩ := h1
    unfold RepV at hv
    rw [if_neg (by simp [I.isAgg])] at hv
    simp only [RepI, List.cons.injEq, and_true] at hv
    obtain ⟨ps, hx', hps⟩ := hv
    obtain ⟨us, ⟨Post, hfn, h1⟩, h2, h3⟩ := peekAll_rep hr ha h1
    have hle : G.le (wholeMem w) := fun b o hb => hr.wok.fixed b o hb
    have hps' := RepPs.mono hle caps ps hps
    have hcallok := List.all_eq_true.1 hf f hmem
    have hw0 : WOk (wholeMem w) (fun _ => none) (fun _ => none) ⟨w, 0, #[]⟩ w :=
      ⟨fun _ _ h => h, fun b lab h => by (cases h), fun b b' lab h => by (cases h), fun b o h => by (cases h), rfl, rfl, rfl, Nat.le_refl _, fun b o h => by (cases h)⟩
    have hpl := RepPs.length hps'
    have hc := hfn (wholeMem w) (fun _ => none) (fun _ => none) w (args.map a.eval ++ ps.toArray) hw0 (by simp [h2, hpl]) (fun i sv hi => by
      by_cases hil : i < us.length
      · rw [List.getElem?_append_left (by simpa using hil), List.getElem?_map] at hi
        cases hu : us[i]? with
        | none => simp [hu] at hi
        | some u =>
          simp only [hu, Option.map_some, Option.some.injEq] at hi
          subst hi
          have hil' : i < args.size := by
            rw [h2] at hil
            simpa using hil
          refine ⟨rfl, ?_⟩
          have := h3 i u args[i] hu (by simp [hil'])
          show RepV _ _ _
          have hget : (args.map a.eval ++ ps.toArray).getD i undef = a.eval args[i] := by
            rw [Array.getD_eq_getD_getElem?, Array.getElem?_append_left (by simpa using hil')]
            simp [hil']
          rw [hget]
          exact this
      · rw [List.getElem?_append_right (by simpa using hil), List.length_map, List.getElem?_map] at hi
        have hus : us.length = args.size := by rw [h2]; simp
        cases hu : caps[i - us.length]? with
        | none => simp [hu] at hi
        | some u =>
          simp only [hu, Option.map_some, Option.some.injEq] at hi
          subst hi
          refine ⟨rfl, ?_⟩
          obtain ⟨p, hp, hrp⟩ := RepPs.get hps' hu
          show RepRp _ _ _
          have hget : (args.map a.eval ++ ps.toArray).getD i undef = p := by
            rw [Array.getD_eq_getD_getElem?, Array.getElem?_append_right (by simp; omega)]
            simp only [Array.size_map, ← hus]
            rw [List.getElem?_toArray, hp]
            rfl
          rw [hget]
          exact hrp)
    unfold Oper.wp
    rw [clo_run ho hx' hcallok, Oper.upon_enter]
    refine hc.mono ?_
    rintro e w' ⟨r, outs, c, G', σ', rfl, hp, hG', hok, hroot, hrep, _⟩
    have h4 := h1 r outs hp
    have hr' : Rel G σ Fr w0 st a w' := hr.grow hok.os hok.tape hok.output hok.size fun b hb => by
      have hbw : w.heap[b]? = some w.heap[b] := Array.getElem?_eq_getElem hb
      rw [hbw]
      exact hok.fixed b _ (hG' b _ hbw)
    cases r with
    | v u =>
      obtain ⟨hpl, h4⟩ := h4
      obtain ⟨σ3, st3, q1, q2⟩ := hr'.setD hdst (sv := .v u) (c := c) (fun _ _ _ _ => plain_rep hpl hrep) h4
      exact hn G σ3 st3 _ w' (Mem.le.refl G) q1 q2
    | _ => exact h4.elim
  · exact h1.elim
end
end Go.Ab
