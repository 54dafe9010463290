/- One text of the proof whose last text says what is proved. -/
import Derived.Test.YtbpnhefkfamhaaaAb14v
import Derived.Deep.LoopGhost
set_option linter.unusedVariables false
set_option linter.unusedSimpArgs false
namespace Go.Ab

/-- An operation of the abstract machine. -/
inductive IOp where
  | mv (d : Nat) (x : Opd)
  | asg (d : Nat) (x : Opd)
  | mov (d : Nat) (e : TypeId) (sz : Nat) (x : Opd)
  | bin (d : Nat) (op : BinOp) (x y : Opd)
  | not (d : Nat) (x : Opd)
  | neg (d : Nat) (x : Opd)
  | pick (d : Nat) (c x y : Opd)
  | load (d : Nat) (agg : Bool) (sz : Nat) (x : Opd)
  | store (sz : Nat) (x y : Opd)
  | alloc (d : Nat) (t : T)
  | box (d : Nat) (x : Opd)
  | faddr (d : Nat) (x : Opd) (i off : Nat)
  | iaddr (d : Nat) (sz : Nat) (x i : Opd)
  | aaddr (d : Nat) (sz cnt : Nat) (x i : Opd)
  | len (d : Nat) (str : Bool) (x : Opd)
  | slc (d : Nat) (str : Bool) (sz : Nat) (x : Opd) (lo hi : Option Opd)
  | sfx (d : Nat) (sz : Nat) (x lo : Opd)
  | clr (d : Option Nat) (sz : Nat) (z : I) (x : Opd)
  | s2b (d : Nat) (e : TypeId) (x : Opd)
  | b2s (d : Nat) (x : Opd)
  | mkf (d : Nat) (f : FuncId) (caps : List Opd)
  | build (d : Nat) (zs : List I) (ps : List (Nat × Opd))
  | bsl (d : Nat) (e : TypeId) (sz : Nat) (z : I) (n : Nat) (ps : List (Nat × Opd))
  | empty (d : Nat) (e : TypeId) (sz : Nat)
  | ext (d : Nat) (x : Opd) (i : Nat)
  | fld (d : Nat) (agg : Bool) (sz : Nat) (x : Opd) (i off : Nat)
  | mm (d : Nat) (max : Bool) (x y : Opd)
  | app (d : Nat) (e : TypeId) (sz bytes : Nat) (x y : Opd)
  | eqs (d : Nat) (neg : Bool) (e : ETy) (x y : Opd)
  | isnil (d : Nat) (neg : Bool) (x : Opd)
  | sidx (d : Nat) (x i : Opd)
  | dead (d : Option Nat)
  deriving Inhabited

def IOp.sem : IOp → M
  | .mv d x => semMv (some d) x
  | .asg d x => semAsg d x
  | .mov d e sz x => semMov d e sz x
  | .bin d op x y => semBin (some d) op x y
  | .not d x => semNot (some d) x
  | .neg d x => semNeg (some d) x
  | .pick d c x y => semPick (some d) c x y
  | .load d agg sz x => semLoad (some d) agg sz x
  | .store sz x y => semStore sz x y
  | .alloc d t => semAllocN d t
  | .box d x => semBox d x
  | .faddr d x i off => semFaddr (some d) x i off
  | .iaddr d sz x i => semIaddr (some d) sz x i
  | .aaddr d sz cnt x i => semAaddr (some d) sz cnt x i
  | .len d str x => semLen (some d) str x
  | .slc d str sz x lo hi => semSlice (some d) str sz x lo hi
  | .sfx d sz x lo => semSfx (some d) sz x lo
  | .clr d sz z x => semClr d sz z x
  | .s2b d e x => semS2B d e x
  | .b2s d x => semB2S d x
  | .mkf d f caps => semMkf d f caps
  | .build d zs ps => semBuild (some d) zs ps
  | .bsl d e sz z n ps => semBSlice d e sz z n ps
  | .empty d e sz => semEmpty d e sz
  | .ext d x i => semExt d x i
  | .fld d agg sz x i off => semFld (some d) agg sz x i off
  | .mm d max x y => semMM (some d) max x y
  | .app d e sz bytes x y => semApp d e sz bytes x y
  | .eqs d ng e x y => semEq (some d) ng e x y
  | .isnil d ng x => semNil (some d) ng x
  | .sidx d x i => strIdx (some d) x i
  | .dead _ => .fail

def isSome' (d : Option Nat) (e : Nat) : Bool := match d with
  | some d => d == e
  | none => false
theorem isSome'_eq {d : Option Nat} {e : Nat} (h : isSome' d e = true) : d = some e := by
  unfold isSome' at h
  split at h
  · simp only [beq_iff_eq] at h; rw [h]
  · cases h

/-- Is this the operation of the program's own? -/
def chk (P : Program) (N : Nat) (o : Oper) (i : IOp) : Bool := match o.op, i with
  | .binOp .eql t x y _, .eqs d false e x' y' => isSome' o.dst d && opdOk N x x' && opdOk N y y' && eqOk P e t
  | .binOp .neq t x y _, .eqs d true e x' y' => isSome' o.dst d && opdOk N x x' && opdOk N y y' && eqOk P e t
  | .binOp .eql t x y _, .isnil d false x' => isSome' o.dst d && opdOk N x x' && nilOk P t y
  | .binOp .neq t x y _, .isnil d true x' => isSome' o.dst d && opdOk N x x' && nilOk P t y
  | .index t x i, .sidx d x' i' => isSome' o.dst d && opdOk N x x' && opdOk N i i' && (match P.underlying t with
      | some .string => true
      | _ => false)
  | .move x, .mv d y | .assign x, .mv d y => isSome' o.dst d && opdOk N x y
  | .move x, .asg d y | .assign x, .asg d y => isSome' o.dst d && opdOk N x y
  | .move x, .mov d _ _ y | .assign x, .mov d _ _ y => isSome' o.dst d && opdOk N x y
  | .binOp op _ x y _, .bin d op' x' y' => isSome' o.dst d && decide (op = op') && opdOk N x x' && opdOk N y y'
  | .unOp .not _ x, .not d x' => isSome' o.dst d && opdOk N x x'
  | .unOp .neg _ x, .neg d x' => isSome' o.dst d && opdOk N x x'
  | .pick c x y, .pick d c' x' y' => isSome' o.dst d && opdOk N c c' && opdOk N x x' && opdOk N y y'
  | .load t x, .load d agg sz x' => isSome' o.dst d && opdOk N x x' && tyOk P t agg sz
  | .store t x y, .store sz x' y' => o.dst.isNone && opdOk N x x' && opdOk N y y' && (tyOk P t true sz || tyOk P t false sz)
  | .alloc e, .alloc d t => isSome' o.dst d && zeroOk P e t
  | .box _ x, .box d x' => isSome' o.dst d && opdOk N x x'
  | .fieldAddr t x i, .faddr d x' i' off => isSome' o.dst d && opdOk N x x' && i == i' && fieldOk P t i off
  | .indexAddr t x i, .iaddr d sz x' i' => isSome' o.dst d && opdOk N x x' && opdOk N i i' && sliceOk P t sz
  | .indexAddr t x i, .aaddr d sz cnt x' i' => isSome' o.dst d && opdOk N x x' && opdOk N i i' && arrOk P t sz cnt
  | .slice t x lo hi none, .slc d str sz x' lo' hi' => isSome' o.dst d && opdOk N x x' && oOk N lo lo' && oOk N hi hi' && slcOk P t str sz
  | .slice t x (some lo) none none, .sfx d sz x' lo' => isSome' o.dst d && opdOk N x x' && opdOk N lo lo' && sliceOk P t sz
  | .convert src dst x, .s2b d e x' => isSome' o.dst d && opdOk N x x' && s2bOk P src dst e
  | .convert src dst x, .b2s d x' => isSome' o.dst d && opdOk N x x' && b2sOk P src dst
  | .makeFunc (.func f') first captured, .mkf d f caps => isSome' o.dst d && f' == f && first.isEmpty && opdsOk N captured.toList caps
  | .build t ps, .build d zs ps' => isSome' o.dst d && partsOk N ps.toList ps' && buildOk P t zs
  | .buildSlice t n ps, .bsl d e sz z n' ps' => isSome' o.dst d && n == n' && partsOk N ps.toList ps' && bsliceOk P t e sz z n
  | .buildSlice t n ps, .empty d e _ => isSome' o.dst d && n == 0 && ps.isEmpty && (match P.underlying t with
      | some (.slice e') => e' == e
      | _ => false) && (P.info? e).isSome
  | .extract x i, .ext d x' i' => isSome' o.dst d && opdOk N x x' && i == i'
  | .field t x i, .fld d agg sz x' i' off => isSome' o.dst d && opdOk N x x' && i == i' && fldOk P t i off agg sz
  | .call { callee := .builtin b, args, argTypes }, i => match b, args.toList, argTypes.toList, i with
    | .len, [x], [t], .len d str x' => isSome' o.dst d && opdOk N x x' && lenOk P t str
    | .max, [x, y], _, .mm d true x' y' => isSome' o.dst d && opdOk N x x' && opdOk N y y'
    | .min, [x, y], _, .mm d false x' y' => isSome' o.dst d && opdOk N x x' && opdOk N y y'
    | .append, [x, y], [t, u], .app d e sz bytes x' y' => isSome' o.dst d && t == u && opdOk N x x' && opdOk N y y' && appOk P t e sz bytes
    | .clear, [x], [t], .clr d sz z x' => decide (o.dst = d) && opdOk N x x' && clrOk P t sz z
    | _, _, _, .dead _ => true
    | _, _, _, _ => false
  | _, .dead _ => true
  | _, _ => false

theorem toList1 {α : Type} {a : Array α} {x : α} (h : a.toList = [x]) : a = #[x] := by cases a; simp_all
theorem toList2 {α : Type} {a : Array α} {x y : α} (h : a.toList = [x, y]) : a = #[x, y] := by cases a; simp_all

theorem chk_sound {P : Program} {N : Nat} {o : Oper} {i : IOp} (h : chk P N o i = true) : Sound P N o i.sem := by
  unfold chk at h
  split at h
  all_goals try (simp only [Bool.and_eq_true, beq_iff_eq, decide_eq_true_eq, Bool.or_eq_true] at h)
  · rename_i ho
    obtain ⟨⟨⟨h1, h2⟩, h3⟩, h4⟩ := h
    have hd := isSome'_eq h1
    have := sound_eq (P := P) (neg := false) ho h2 h3 h4; rwa [hd] at this
  · rename_i ho
    obtain ⟨⟨⟨h1, h2⟩, h3⟩, h4⟩ := h
    have hd := isSome'_eq h1
    have := sound_eq (P := P) (neg := true) ho h2 h3 h4; rwa [hd] at this
  · rename_i ho
    obtain ⟨⟨h1, h2⟩, h3⟩ := h
    have hd := isSome'_eq h1
    have := sound_nil (P := P) (neg := false) ho h2 h3; rwa [hd] at this
  · rename_i ho
    obtain ⟨⟨h1, h2⟩, h3⟩ := h
    have hd := isSome'_eq h1
    have := sound_nil (P := P) (neg := true) ho h2 h3; rwa [hd] at this
  · rename_i ho
    obtain ⟨⟨⟨h1, h2⟩, h3⟩, h4⟩ := h
    have hd := isSome'_eq h1
    split at h4
    · rename_i hu
      have := sound_sidx (P := P) ho h2 h3 hu; rwa [hd] at this
    · cases h4
  · rename_i ho; have hd := isSome'_eq h.1; have := sound_mv (P := P) (.inl ho) h.2; rwa [hd] at this
  · rename_i ho; have hd := isSome'_eq h.1; have := sound_mv (P := P) (.inr ho) h.2; rwa [hd] at this
  · rename_i ho; exact sound_asg (isSome'_eq h.1) (.inl ho) h.2
  · rename_i ho; exact sound_asg (isSome'_eq h.1) (.inr ho) h.2
  · rename_i ho; exact sound_mov (isSome'_eq h.1) (.inl ho) h.2
  · rename_i ho; exact sound_mov (isSome'_eq h.1) (.inr ho) h.2
  · rename_i ho
    obtain ⟨⟨⟨h1, rfl⟩, h2⟩, h3⟩ := h
    have hd := isSome'_eq h1
    have := sound_bin (P := P) ho h2 h3; rwa [hd] at this
  · rename_i ho; have hd := isSome'_eq h.1; have := sound_not (P := P) ho h.2; rwa [hd] at this
  · rename_i ho; have hd := isSome'_eq h.1; have := sound_neg (P := P) ho h.2; rwa [hd] at this
  · rename_i ho
    obtain ⟨⟨⟨h1, h2⟩, h3⟩, h4⟩ := h
    have hd := isSome'_eq h1
    have := sound_pick (P := P) ho h2 h3 h4; rwa [hd] at this
  · rename_i ho
    obtain ⟨⟨h1, h2⟩, h3⟩ := h
    have hd := isSome'_eq h1
    have := sound_load (P := P) ho h2 h3; rwa [hd] at this
  · rename_i ho
    obtain ⟨⟨⟨h1, h2⟩, h3⟩, h4⟩ := h
    have hd : o.dst = none := by simpa using h1
    rcases h4 with h4 | h4 <;> exact sound_store hd ho h2 h3 h4
  · rename_i ho; exact sound_alloc (isSome'_eq h.1) ho h.2
  · rename_i ho; exact sound_box (isSome'_eq h.1) ho h.2
  · rename_i ho
    obtain ⟨⟨⟨h1, h2⟩, rfl⟩, h3⟩ := h
    have hd := isSome'_eq h1
    have := sound_faddr (P := P) ho h2 h3; rwa [hd] at this
  · rename_i ho
    obtain ⟨⟨⟨h1, h2⟩, h3⟩, h4⟩ := h
    have hd := isSome'_eq h1
    have := sound_iaddr (P := P) ho h2 h3 h4; rwa [hd] at this
  · rename_i ho
    obtain ⟨⟨⟨h1, h2⟩, h3⟩, h4⟩ := h
    have hd := isSome'_eq h1
    have := sound_aaddr (P := P) ho h2 h3 h4; rwa [hd] at this
  · rename_i ho
    obtain ⟨⟨⟨⟨h1, h2⟩, h3⟩, h4⟩, h5⟩ := h
    have hd := isSome'_eq h1
    have := sound_slice (P := P) ho h2 h3 h4 h5; rwa [hd] at this
  · rename_i ho
    obtain ⟨⟨⟨h1, h2⟩, h3⟩, h4⟩ := h
    have hd := isSome'_eq h1
    have := sound_sfx (P := P) ho h2 h3 h4; rwa [hd] at this
  · rename_i ho
    obtain ⟨⟨h1, h2⟩, h3⟩ := h
    exact sound_s2b (isSome'_eq h1) ho h2 h3
  · rename_i ho
    obtain ⟨⟨h1, h2⟩, h3⟩ := h
    exact sound_b2s (isSome'_eq h1) ho h2 h3
  · rename_i ho
    obtain ⟨⟨⟨h1, rfl⟩, h2⟩, h3⟩ := h
    have h2' := Array.isEmpty_iff.1 h2
    subst h2'
    exact sound_mkf (isSome'_eq h1) ho h3
  · rename_i ho
    obtain ⟨⟨h1, h2⟩, h3⟩ := h
    have hd := isSome'_eq h1
    have := sound_build (P := P) ho h2 h3; rwa [hd] at this
  · rename_i ho
    obtain ⟨⟨⟨h1, rfl⟩, h3⟩, h4⟩ := h
    exact sound_bslice (isSome'_eq h1) ho h3 h4
  · rename_i ho
    obtain ⟨⟨⟨⟨h1, rfl⟩, h2⟩, h3⟩, h4⟩ := h
    have h2' := Array.isEmpty_iff.1 h2
    subst h2'
    refine sound_empty (isSome'_eq h1) ho ⟨?_, h4⟩
    split at h3
    · rename_i hu; rw [beq_iff_eq] at h3; rw [hu, h3]
    · cases h3
  · rename_i ho
    obtain ⟨⟨h1, h2⟩, rfl⟩ := h
    exact sound_ext (isSome'_eq h1) ho h2
  · rename_i ho
    obtain ⟨⟨⟨h1, h2⟩, rfl⟩, h3⟩ := h
    have hd := isSome'_eq h1
    have := sound_fld (P := P) ho h2 h3; rwa [hd] at this
  · rename_i ho
    split at h
    all_goals try (simp only [Bool.and_eq_true, beq_iff_eq, decide_eq_true_eq, Bool.or_eq_true] at h)
    · rename_i h1 h2
      obtain ⟨⟨h3, h4⟩, h5⟩ := h
      rw [toList1 h1, toList1 h2] at ho
      have hd := isSome'_eq h3
      have := sound_len (P := P) ho h4 h5; rwa [hd] at this
    · rename_i h1
      obtain ⟨⟨h3, h4⟩, h5⟩ := h
      rw [toList2 h1] at ho
      have hd := isSome'_eq h3
      have := sound_mm (P := P) (max := true) ho h4 h5; rwa [hd] at this
    · rename_i h1
      obtain ⟨⟨h3, h4⟩, h5⟩ := h
      rw [toList2 h1] at ho
      have hd := isSome'_eq h3
      have := sound_mm (P := P) (max := false) ho h4 h5; rwa [hd] at this
    · rename_i h1 h2
      obtain ⟨⟨⟨⟨h3, rfl⟩, h4⟩, h5⟩, h6⟩ := h
      rw [toList2 h1, toList2 h2] at ho
      exact sound_app (isSome'_eq h3) ho h4 h5 h6
    · rename_i h1 h2
      obtain ⟨⟨h3, h4⟩, h5⟩ := h
      rw [toList1 h1, toList1 h2] at ho
      have := sound_clr (P := P) ho h4 h5; rwa [h3] at this
    · intro G σ Fr w0 st a w Q next E hN hr hw hn hdst; exact hw.elim
    · cases h
  · intro G σ Fr w0 st a w Q next E hN hr hw hn hdst; exact hw.elim
  · cases h
end Go.Ab
