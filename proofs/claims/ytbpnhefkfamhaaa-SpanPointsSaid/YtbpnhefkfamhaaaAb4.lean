/- One text of the proof whose last text says what is proved. -/
import Derived.Test.YtbpnhefkfamhaaaAb3
set_option linter.unusedVariables false
set_option linter.unusedSimpArgs false
namespace Go.Ab
open Go.Op

def semMv (d : Option Nat) (x : Opd) : M := match x with
  | .c x => setD d (.v x) .done
  | .nils e sz => setD d (.vec e sz []) .done
  | .t n => .get n fun ver sv => match sv with
    | .v x => setD d (.v x) .done
    | .vec _ _ _ => .need (d ≠ some n) fun _ => setD d (.bor n 0 ver) .done
    | .box _ => .need (d ≠ some n) fun _ => setD d (.pt n 0 ver 0 []) .done
    | .bor s k ver => .need (d ≠ some s) fun _ => setD d (.bor s k ver) .done
    | .sub s k ver m => .need (d ≠ some s) fun _ => setD d (.sub s k ver m) .done
    | .suf s k ver m => .need (d ≠ some s) fun _ => setD d (.suf s k ver m) .done
    | .pt s k ver off r => .need (d ≠ some s) fun _ => setD d (.pt s k ver off r) .done
    | .rp x => setD d (.rp x) .done
    | .tup _ => .fail
    | .st _ => .fail
    | .no => setD d .no .done
    | .par h => .get h fun ver sv => .need (d ≠ some h) fun _ => match sv with
      | .box _ => setD d (.pt h 0 ver 0 []) .done
      | .vec _ _ _ => setD d (.bor h 0 ver) .done
      | _ => .fail

def wrapOp (op : BinOp) (k : IntKind) (a b : Int) : Option I := match op with
  | .add => some (.int k (k.wrap (a + b)))
  | .sub => some (.int k (k.wrap (a - b)))
  | .mul => some (.int k (k.wrap (a * b)))
  | .eql => some (.bool (decide (a = b)))
  | .neq => some (.bool (!decide (a = b)))
  | .lss => some (.bool (decide (a < b)))
  | .leq => some (.bool (decide (a ≤ b)))
  | .gtr => some (.bool (decide (b < a)))
  | .geq => some (.bool (decide (b ≤ a)))
  | _ => none
def strOp (op : BinOp) (s t : List UInt8) : Option I := match op with
  | .eql => some (.bool (decide (s = t)))
  | .neq => some (.bool (!decide (s = t)))
  | .lss => some (.bool (bytesLess s t))
  | .leq => some (.bool (bytesLess s t || decide (s = t)))
  | .gtr => some (.bool (!(bytesLess s t || decide (s = t))))
  | .geq => some (.bool (!bytesLess s t))
  | _ => none

/-- One of two items, by a flag of the text. -/
def selI (b : Bool) (x y : I) (k : I → M) : M := match b with
  | true => k x
  | false => k y
def binI (op : BinOp) (x y : I) (k : I → M) : M := match x, y with
  | .int ka a, .int kb b => if ka = kb then match wrapOp op ka a b with
      | some r => k r
      | none => .fail
    else .fail
  | .str s, .str t => match op with
    | .add => .need (s.length + t.length ≤ maxLen) fun _ => k (.str (s ++ t))
    | op => match strOp op s t with
      | some r => k r
      | none => .fail
  | _, _ => .fail
def semBin (d : Option Nat) (op : BinOp) (x y : Opd) : M := rdI x fun i => rdI y fun j => binI op i j fun r => setD d (.v r) .done

section
variable {P : Program} {N : Nat} {G : Mem} {σ : Lab} {Fr : Mem} {w0 : Base} {w : World} {st : St} {a : Act}

theorem RepV.int {k : IntKind} {n : Int} {c : Value} : RepV G (.int k n) c ↔ c = .int k n := by simp [RepV, I.isAgg, RepI]
theorem RepV.bool {b : Bool} {c : Value} : RepV G (.bool b) c ↔ c = .bool b := by simp [RepV, I.isAgg, RepI]
theorem RepV.str {s : List UInt8} {c : Value} : RepV G (.str s) c ↔ c = .string ⟨⟨s⟩⟩ ∧ s.length ≤ maxLen := by simp [RepV, I.isAgg, RepI]

theorem beq_eq (m n : Int) : (m == n) = decide (m = n) := by rw [Bool.eq_iff_iff]; simp
theorem bne_eq (m n : Int) : (m != n) = !decide (m = n) := by simp [bne, beq_eq]
/-- The common end over an item. -/
theorem Rel.setV {Q : St → Prop} {d : Option Nat} {x : I} {c : Value} (h : Rel G σ Fr w0 st a w) (hb : ∀ d', d = some d' → d' < w0.n) (hc : RepV G x c) (hq : (Ab.setD d (.v x) .done).wp P Q st) :
    ∃ σ' st', Rel G σ' Fr w0 st' (a.put d c) w ∧ Q st' := h.setD hb (sv := .v x) (fun _ _ _ _ => hc) hq

theorem strOp_run {op : BinOp} {s t : List UInt8} {r : I} (h : strOp op s t = some r) : ∃ b, r = .bool b ∧ Op.stringOp op ⟨⟨s⟩⟩ ⟨⟨t⟩⟩ = .pure (.bool b) := by
  have e : ∀ l : List UInt8, (⟨⟨l⟩⟩ : ByteArray).toList = l := fun l => by simp
  cases op <;> simp only [strOp] at h <;> first | cases h | skip
  all_goals refine ⟨_, rfl, ?_⟩
  all_goals simp only [Op.stringOp, e]
  all_goals first
    | rfl
    | (have : (s == t) = decide (s = t) := by (rw [Bool.eq_iff_iff]; simp)
       rw [this]; rfl)

theorem wrapOp_run {op : BinOp} {k : IntKind} {m n : Int} {r : I} (h : wrapOp op k m n = some r) (G : Mem) : ∃ v, RepV G r v ∧
    ∀ t w, (binOp op t (.int k m) (.int k n)).run P w = .ok v w := by
  cases op <;> simp only [wrapOp] at h <;> first | cases h | skip
  all_goals first
    | exact ⟨_, RepV.int.2 rfl, fun t w => by simp [Go.binOp, Op.intArith]⟩
    | exact ⟨_, RepV.bool.2 rfl, fun t w => by simp [Go.binOp, Op.intCmp, beq_eq, bne_eq]⟩

theorem sound_bin {o : Oper} {op : BinOp} {t u : TypeId} {x y : Operand} {x' y' : Opd} (ho : o.op = .binOp op t x y u) (hx : opdOk N x x' = true) (hy : opdOk N y y' = true) :
    Sound P N o (semBin o.dst op x' y') := by
  intro G σ Fr w0 st a w Q next E hN hr hw hn hdst
  subst hN
  obtain ⟨i, h1, hi⟩ := rdI_rep hr hx hw
  clear hw
  obtain ⟨j, hw, hj⟩ := rdI_rep hr hy h1
  clear h1
  unfold binI at hw
  split at hw
  · rename_i ka m kb n
    split at hw
    · rename_i hk
      subst hk
      split at hw
      · rename_i r hop
        obtain ⟨v, hv, hrun⟩ := wrapOp_run (P := P) hop G
        obtain ⟨σ', st', h1, h2⟩ := hr.setV hdst hv hw
        refine wp_value (v := v) (w' := w) ?_ (hn G σ' st' _ w (Mem.le.refl G) h1 h2)
        rw [RepV.int] at hi hj
        simp only [execOp, ho, hi, hj]
        simp [eqGuard, hrun]
      · exact hw.elim
    · exact hw.elim
  · rename_i s s' 
    rw [RepV.str] at hi hj
    split at hw
    · obtain ⟨hl, hw⟩ := hw
      obtain ⟨σ', st', h1, h2⟩ := hr.setV hdst (c := .string ⟨⟨s ++ s'⟩⟩) (RepV.str.2 ⟨rfl, by simpa using hl⟩) hw
      refine wp_value (v := .string ⟨⟨s ++ s'⟩⟩) (w' := w) ?_ (hn G σ' st' _ w (Mem.le.refl G) h1 h2)
      simp only [execOp, ho, hi.1, hj.1]
      have h63 : ¬ (((⟨⟨s⟩⟩ : ByteArray).size + (⟨⟨s'⟩⟩ : ByteArray).size : Nat) : Int) > IntKind.i64.max := by
        simp only [maxLen] at hl
        show ¬ ((s.length + s'.length : Nat) : Int) > 9223372036854775807
        omega
      have he : (⟨⟨s⟩⟩ : ByteArray) ++ ⟨⟨s'⟩⟩ = ⟨⟨s ++ s'⟩⟩ := by
        apply ByteArray.ext
        simp
      simp only [eqGuard, Go.binOp, Op.stringOp]
      rw [if_neg h63]
      simp [he]
    · split at hw
      · rename_i r hop
        obtain ⟨b, rfl, hrun⟩ := strOp_run hop
        obtain ⟨σ', st', h1, h2⟩ := hr.setV hdst (c := .bool b) (RepV.bool.2 rfl) hw
        refine wp_value (v := .bool b) (w' := w) ?_ (hn G σ' st' _ w (Mem.le.refl G) h1 h2)
        simp only [execOp, ho, hi.1, hj.1]
        simp [eqGuard, Go.binOp, hrun]
      · exact hw.elim
  · exact hw.elim

/-- The common end of an operation that reads alone. -/
theorem done_v {o : Oper} {Q : St → Prop} {next : Act → World → Prop} {E : Exit → Act → World → Prop} {r : I} {v : Value} (hr : Rel G σ Fr w0 st a w)
    (hn : ∀ G' σ' st' a' w', G.le G' → Rel G' σ' Fr w0 st' a' w' → Q st' → next a' w') (hdst : ∀ d, o.dst = some d → d < w0.n) (hv : RepV G r v) (hq : (setD o.dst (.v r) .done).wp P Q st)
    (hrun : (execOp a.eval o).run P w = .ok (.value v) w) : o.wp P a w next E := by
  obtain ⟨σ', st', h1, h2⟩ := hr.setV hdst hv hq
  exact wp_value hrun (hn G σ' st' _ w (Mem.le.refl G) h1 h2)

def semNot (d : Option Nat) (x : Opd) : M := rdI x fun i => match i with
  | .bool b => setD d (.v (.bool (!b))) .done
  | _ => .fail
theorem sound_not {o : Oper} {t : TypeId} {x : Operand} {x' : Opd} (ho : o.op = .unOp .not t x) (hx : opdOk N x x' = true) : Sound P N o (semNot o.dst x') := by
  intro G σ Fr w0 st a w Q next E hN hr hw hn hdst
  subst hN
  obtain ⟨i, h1, hi⟩ := rdI_rep hr hx hw
  clear hw
  split at h1
  · rename_i b
    rw [RepV.bool] at hi
    exact done_v hr hn hdst (RepV.bool.2 rfl) h1 (by simp [execOp, ho, hi, Op.unary])
  · exact h1.elim
def semNeg (d : Option Nat) (x : Opd) : M := rdI x fun i => match i with
  | .int k n => setD d (.v (.int k (k.wrap (0 - n)))) .done
  | _ => .fail
theorem sound_neg {o : Oper} {t : TypeId} {x : Operand} {x' : Opd} (ho : o.op = .unOp .neg t x) (hx : opdOk N x x' = true) : Sound P N o (semNeg o.dst x') := by
  intro G σ Fr w0 st a w Q next E hN hr hw hn hdst
  subst hN
  obtain ⟨i, h1, hi⟩ := rdI_rep hr hx hw
  clear hw
  split at h1
  · rename_i k n
    rw [RepV.int] at hi
    exact done_v hr hn hdst (RepV.int.2 rfl) h1 (by simp [execOp, ho, hi, Op.unary, Op.intArith])
  · exact h1.elim

def semPick (d : Option Nat) (c x y : Opd) : M := rdI c fun i => match i with
  | .bool b => .ite b (rdI x fun j => setD d (.v j) .done) (rdI y fun j => setD d (.v j) .done)
  | _ => .fail
theorem sound_pick {o : Oper} {c x y : Operand} {c' x' y' : Opd} (ho : o.op = .pick c x y) (hc : opdOk N c c' = true) (hx : opdOk N x x' = true) (hy : opdOk N y y' = true) :
    Sound P N o (semPick o.dst c' x' y') := by
  intro G σ Fr w0 st a w Q next E hN hr hw hn hdst
  subst hN
  obtain ⟨i, h1, hi⟩ := rdI_rep hr hc hw
  clear hw
  split at h1
  · rename_i b
    rw [RepV.bool] at hi
    cases hb : b with
    | true =>
      obtain ⟨j, h2, hj⟩ := rdI_rep hr hx (h1.1 hb)
      exact done_v hr hn hdst hj h2 (by simp [execOp, ho, hi, hb, asBool])
    | false =>
      obtain ⟨j, h2, hj⟩ := rdI_rep hr hy (h1.2 hb)
      exact done_v hr hn hdst hj h2 (by simp [execOp, ho, hi, hb, asBool])
  · exact h1.elim

theorem sound_mv {o : Oper} {x : Operand} {x' : Opd} (ho : o.op = .move x ∨ o.op = .assign x) (hx : opdOk N x x' = true) : Sound P N o (semMv o.dst x') := by
  intro G σ Fr w0 st a w Q next E hN hr hw hn hdst
  subst hN
  have hrun : (execOp a.eval o).run P w = .ok (.value (a.eval x)) w := by
    rcases ho with ho | ho <;> simp [execOp, ho]
  have fin : ∀ {sv : SV} (_ : (setD o.dst sv .done).wp P Q st)
      (_ : ∀ d', o.dst = some d' → ∀ ver, (st.set d' (ver, sv))[d']? = some (ver, sv) → RepSV G (σ.drop d') w (st.set d' (ver, sv)) d' sv (a.eval x))
      (_ : ∀ h, sv ≠ .par h := by intro _ e; cases e), o.wp P a w next E := by
    intro sv hq hnew hnp
    obtain ⟨σ', st', h1, h2⟩ := hr.setD hdst hnew hq (fun h e => absurd e (hnp h))
    exact wp_value hrun (hn G σ' st' _ w (Mem.le.refl G) h1 h2)
  have look : ∀ {d' n : Nat} {p q : Nat × SV}, o.dst = some d' → o.dst ≠ some n → st[n]? = some p → (st.set d' q)[n]? = some p := by
    intro d' n p q hd hne hp
    rw [List.getElem?_set_ne]
    · exact hp
    · rintro rfl; exact hne hd
  cases x' with
  | c i => exact done_v hr hn hdst (opdOk_c hx G) hw hrun
  | nils e sz =>
    refine fin hw fun d' _ ver _ => ?_
    rw [opdOk_nils hx]
    exact ⟨[], OwnsR.nil w e sz, by simp [RepIs], by simp, by simp [Value.ownBlock]⟩
  | t n =>
    obtain ⟨rfl, hnlt⟩ := opdOk_t hx
    simp only [semMv, M.wp] at hw
    cases hs : st[n]? with
    | none => simp [hs] at hw
    | some cur =>
      obtain ⟨ver, sv⟩ := cur
      simp only [hs] at hw
      have hrep := hr.slot hnlt hs
      cases sv with
      | v y => exact done_v hr hn hdst hrep hw hrun
      | no => exact fin hw fun _ _ _ _ => trivial
      | rp y => exact fin hw fun _ _ _ _ => hrep
      | vec e sz l =>
        obtain ⟨hne, hw⟩ := hw
        refine fin hw fun d' hd _ _ => ⟨_, look hd hne hs, Nat.le_refl _, fun _ => ⟨e, sz, l, rfl, ?_⟩⟩
        exact VecAt.tr hrep (Mem.le.refl G) fun b hb => ⟨Lab.drop_some.2 ⟨fun e => hne (by rw [hd, e]), hb⟩, rfl⟩
      | box t =>
        obtain ⟨hne, hw⟩ := hw
        obtain ⟨b, cells, ty, h1, h2, _⟩ := hrep
        refine fin hw fun d' hd _ _ => ⟨_, look hd hne hs, Nat.le_refl _, fun _ => ⟨b, Lab.drop_some.2 ⟨fun e => hne (by rw [hd, e]), h2⟩, h1⟩⟩
      | bor s k ver' =>
        obtain ⟨hne, hw⟩ := hw
        obtain ⟨cur, h1, h2, h3⟩ := hrep
        refine fin hw fun d' hd _ _ => ⟨cur, look hd hne h1, h2, fun e => ?_⟩
        obtain ⟨e, sz, l, h4, h5⟩ := h3 e
        exact ⟨e, sz, l, h4, h5.tr (Mem.le.refl G) fun b hb => ⟨Lab.drop_some.2 ⟨fun e => hne (by rw [hd, e]), hb⟩, rfl⟩⟩
      | sub s k ver' m =>
        obtain ⟨hne, hw⟩ := hw
        obtain ⟨cur, h1, h2, h3⟩ := hrep
        refine fin hw fun d' hd _ _ => ⟨cur, look hd hne h1, h2, fun e => ?_⟩
        obtain ⟨e, sz, l, h4, h5⟩ := h3 e
        exact ⟨e, sz, l, h4, h5.tr (Mem.le.refl G) fun b hb => ⟨Lab.drop_some.2 ⟨fun e => hne (by rw [hd, e]), hb⟩, rfl⟩⟩
      | suf s k ver' m =>
        obtain ⟨hne, hw⟩ := hw
        obtain ⟨cur, h1, h2, h3⟩ := hrep
        refine fin hw fun d' hd _ _ => ⟨cur, look hd hne h1, h2, fun e => ?_⟩
        obtain ⟨e, sz, l, c0, h4, h5, h6⟩ := h3 e
        exact ⟨e, sz, l, c0, h4, h5.tr (Mem.le.refl G) fun b hb => ⟨Lab.drop_some.2 ⟨fun e => hne (by rw [hd, e]), hb⟩, rfl⟩, h6⟩
      | pt s k ver' off r =>
        obtain ⟨hne, hw⟩ := hw
        obtain ⟨cur, h1, h2, h3⟩ := hrep
        refine fin hw fun d' hd _ _ => ⟨cur, look hd hne h1, h2, fun e => ?_⟩
        obtain ⟨b, h4, h5⟩ := h3 e
        exact ⟨b, Lab.drop_some.2 ⟨fun e => hne (by rw [hd, e]), h4⟩, h5⟩
      | tup fs => exact hw.elim
      | st fs => exact hw.elim
      | par h =>
        obtain ⟨hv, hle⟩ := hr.pars n ver h hs
        rw [val_tmp (by rw [hr.n]; exact hnlt)] at hv
        simp only [M.wp] at hw
        cases hh : st[h]? with
        | none => simp [hh] at hw
        | some cur =>
          obtain ⟨ver', sv'⟩ := cur
          simp only [hh] at hw
          obtain ⟨hne, hw⟩ := hw
          have hrep' := hr.slots h ver' sv' hh
          rw [← hv] at hrep'
          split at hw
          · obtain ⟨b, cells, ty, h1, h2, _⟩ := hrep'
            refine fin hw fun d' hd _ _ => ⟨_, look hd hne hh, Nat.le_refl _, fun _ => ⟨b, Lab.drop_some.2 ⟨fun e => hne (by rw [hd, e]), h2⟩, h1⟩⟩
          · rename_i e sz l
            refine fin hw fun d' hd _ _ => ⟨_, look hd hne hh, Nat.le_refl _, fun _ => ⟨e, sz, l, rfl, ?_⟩⟩
            exact VecAt.tr hrep' (Mem.le.refl G) fun b hb => ⟨Lab.drop_some.2 ⟨fun e => hne (by rw [hd, e]), hb⟩, rfl⟩
          · exact hw.elim
end
end Go.Ab
