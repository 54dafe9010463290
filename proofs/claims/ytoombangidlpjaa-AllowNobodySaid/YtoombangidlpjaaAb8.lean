/- One text of the proof whose last text says what is proved. -/
import Derived.Test.YtoombangidlpjaaAb3
set_option linter.unusedVariables false
set_option linter.unusedSimpArgs false
namespace Go.Ab
open Go.Op

def semMv (d : Option Nat) (x : Opd) : M := match x with
  | .c x => setD d (.v x) .done
  | .nils e sz => setD d (.vec e sz []) .done
  | .t n => .get n fun ver sv => match sv with
    | .v x => setD d (.v x) .done
    | .vec _ _ _ => .need (d ≠ some n) fun _ => setD d (.bor n 0 ver) .done
    | .box _ => .need (d ≠ some n) fun _ => setD d (.pt n 0 ver 0 []) .done
    | .bor s k ver => .need (d ≠ some s) fun _ => setD d (.bor s k ver) .done
    | .sub s k ver m => .need (d ≠ some s) fun _ => setD d (.sub s k ver m) .done
    | .suf s k ver m => .need (d ≠ some s) fun _ => setD d (.suf s k ver m) .done
    | .pt s k ver off r => .need (d ≠ some s) fun _ => setD d (.pt s k ver off r) .done
    | .rp x => setD d (.rp x) .done
    | .tup _ => .fail
    | .tupd _ => .fail
    | .st _ => .fail
    | .no => setD d .no .done
    | .par h => .get h fun ver sv => .need (d ≠ some h) fun _ => match sv with
      | .box _ => setD d (.pt h 0 ver 0 []) .done
      | .vec _ _ _ => setD d (.bor h 0 ver) .done
      | .own _ t => match t with
        | .ptr _ => setD d (.pd h ver [0]) .done
        | .vec _ _ _ => setD d (.bd h ver []) .done
        | .map _ _ => setD d (.bd h ver []) .done
        | _ => .fail
      | _ => .fail
    | .own _ t => .need (d ≠ some n) fun _ => match t with
      | .ptr _ => setD d (.pd n ver [0]) .done
      | .vec _ _ _ => setD d (.bd n ver []) .done
      | .map _ _ => setD d (.bd n ver []) .done
      | _ => .fail
    | .pd s ver p => .need (d ≠ some s) fun _ => setD d (.pd s ver p) .done
    | .bd s ver p => .need (d ≠ some s) fun _ => setD d (.bd s ver p) .done

def wrapOp (op : BinOp) (k : IntKind) (a b : Int) : Option I := match op with
  | .add => some (.int k (k.wrap (a + b)))
  | .sub => some (.int k (k.wrap (a - b)))
  | .mul => some (.int k (k.wrap (a * b)))
  | .eql => some (.bool (decide (a = b)))
  | .neq => some (.bool (!decide (a = b)))
  | .lss => some (.bool (decide (a < b)))
  | .leq => some (.bool (decide (a ≤ b)))
  | .gtr => some (.bool (decide (b < a)))
  | .geq => some (.bool (decide (b ≤ a)))
  | _ => none
def strOp (op : BinOp) (s t : List UInt8) : Option I := match op with
  | .eql => some (.bool (decide (s = t)))
  | .neq => some (.bool (!decide (s = t)))
  | .lss => some (.bool (bytesLess s t))
  | .leq => some (.bool (bytesLess s t || decide (s = t)))
  | .gtr => some (.bool (!(bytesLess s t || decide (s = t))))
  | .geq => some (.bool (!bytesLess s t))
  | _ => none

/-- One of two items, by a flag of the text. -/
def selI (b : Bool) (x y : I) (k : I → M) : M := match b with
  | true => k x
  | false => k y
def binI (op : BinOp) (x y : I) (k : I → M) : M := match x, y with
  | .int ka a, .int kb b => if ka = kb then match wrapOp op ka a b with
      | some r => k r
      | none => .fail
    else .fail
  | .str s, .str t => match op with
    | .add => .need (s.length + t.length ≤ maxLen) fun _ => k (.str (s ++ t))
    | op => match strOp op s t with
      | some r => k r
      | none => .fail
  | _, _ => .fail
def semBin (d : Option Nat) (op : BinOp) (x y : Opd) : M := rdI x fun i => rdI y fun j => binI op i j fun r => setD d (.v r) .done

section
variable {P : Program} {N : Nat} {G : Mem} {σ : Lab} {Fr : Mem} {w0 : Base} {w : World} {st : St} {a : Act}

theorem RepV.int {k : IntKind} {n : Int} {c : Value} : RepV G (.int k n) c ↔ c = .int k n := by simp [RepV, I.isAgg, RepI]
theorem RepV.bool {b : Bool} {c : Value} : RepV G (.bool b) c ↔ c = .bool b := by simp [RepV, I.isAgg, RepI]
theorem RepV.str {s : List UInt8} {c : Value} : RepV G (.str s) c ↔ c = .string ⟨⟨s⟩⟩ ∧ s.length ≤ maxLen := by simp [RepV, I.isAgg, RepI]

theorem beq_eq (m n : Int) : (m == n) = decide (m = n) := by rw [Bool.eq_iff_iff]; simp
theorem bne_eq (m n : Int) : (m != n) = !decide (m = n) := by simp [bne, beq_eq]
/-- The common end over an item. -/
theorem Rel.setV {Q : St → Prop} {d : Option Nat} {x : I} {c : Value} (h : Rel G σ Fr w0 st a w) (hb : ∀ d', d = some d' → d' < w0.n) (hc : RepV G x c) (hq : (Ab.setD d (.v x) .done).wp P Q st) :
    ∃ σ' st', Rel G σ' Fr w0 st' (a.put d c) w ∧ Q st' := h.setD hb (sv := .v x) (fun _ _ _ _ => hc) hq

theorem strOp_run {op : BinOp} {s t : List UInt8} {r : I} (h : strOp op s t = some r) : ∃ b, r = .bool b ∧ Op.stringOp op ⟨⟨s⟩⟩ ⟨⟨t⟩⟩ = .pure (.bool b) := by
  have e : ∀ l : List UInt8, (⟨⟨l⟩⟩ : ByteArray).toList = l := fun l => by simp
  cases op <;> simp only [strOp] at h <;> first | cases h | skip
  all_goals refine ⟨_, rfl, ?_⟩
  all_goals simp only [Op.stringOp, e]
  all_goals first
    | rfl
    | (have : (s == t) = decide (s = t) := by (rw [Bool.eq_iff_iff]; simp)
       rw [this]; rfl)

theorem wrapOp_run {op : BinOp} {k : IntKind} {m n : Int} {r : I} (h : wrapOp op k m n = some r) (G : Mem) : ∃ v, RepV G r v ∧
    ∀ t w, (binOp op t (.int k m) (.int k n)).run P w = .ok v w := by
  cases op <;> simp only [wrapOp] at h <;> first | cases h | skip
  all_goals first
    | exact ⟨_, RepV.int.2 rfl, fun t w => by simp [Go.binOp, Op.intArith]⟩
    | exact ⟨_, RepV.bool.2 rfl, fun t w => by simp [Go.binOp, Op.intCmp, beq_eq, bne_eq]⟩

theorem sound_bin {o : Oper} {op : BinOp} {t u : TypeId} {x y : Operand} {x' y' : Opd} (ho : o.op = .binOp op t x y u) (hx : opdOk N x x' = true) (hy : opdOk N y y' = true) :
    Sound P N o (semBin o.dst op x' y') := by
  intro G σ Fr w0 st a w Q next E hN hr hw hn hdst
  subst hN
  obtain ⟨i, h1, hi⟩ := rdI_rep hr hx hw
  clear hw
  obtain ⟨j, hw, hj⟩ := rdI_rep hr hy h1
  clear h1
  unfold binI at hw
  split at hw
  · rename_i ka m kb n
    split at hw
    · rename_i hk
      subst hk
      split at hw
      · rename_i r hop
        obtain ⟨v, hv, hrun⟩ := wrapOp_run (P := P) hop G
        obtain ⟨σ', st', h1, h2⟩ := hr.setV hdst hv hw
        refine wp_value (v := v) (w' := w) ?_ (hn G σ' st' _ w (Mem.le.refl G) h1 h2)
        rw [RepV.int] at hi hj
        simp only [execOp, ho, hi, hj]
        simp [eqGuard, hrun]
      · exact hw.elim
    · exact hw.elim
  · rename_i s s' 
    rw [RepV.str] at hi hj
    split at hw
    · obtain ⟨hl, hw⟩ := hw
      obtain ⟨σ', st', h1, h2⟩ := hr.setV hdst (c := .string ⟨⟨s ++ s'⟩⟩) (RepV.str.2 ⟨rfl, by simpa using hl⟩) hw
      refine wp_value (v := .string ⟨⟨s ++ s'⟩⟩) (w' := w) ?_ (hn G σ' st' _ w (Mem.le.refl G) h1 h2)
      simp only [execOp, ho, hi.1, hj.1]
      have h63 : ¬ (((⟨⟨s⟩⟩ : ByteArray).size + (⟨⟨s'⟩⟩ : ByteArray).size : Nat) : Int) > IntKind.i64.max := by
        simp only [maxLen] at hl
        show ¬ ((s.length + s'.length : Nat) : Int) > 9223372036854775807
        omega
      have he : (⟨⟨s⟩⟩ : ByteArray) ++ ⟨⟨s'⟩⟩ = ⟨⟨s ++ s'⟩⟩ := by
        apply ByteArray.ext
        simp
      simp only [eqGuard, Go.binOp, Op.stringOp]
      rw [if_neg h63]
      simp [he]
    · split at hw
      · rename_i r hop
        obtain ⟨b, rfl, hrun⟩ := strOp_run hop
        obtain ⟨σ', st', h1, h2⟩ := hr.setV hdst (c := .bool b) (RepV.bool.2 rfl) hw
        refine wp_value (v := .bool b) (w' := w) ?_ (hn G σ' st' _ w (Mem.le.refl G) h1 h2)
        simp only [execOp, ho, hi.1, hj.1]
        simp [eqGuard, Go.binOp, hrun]
      · exact hw.elim
  · exact hw.elim

/-- The common end of an operation that reads alone. -/
theorem done_v {o : Oper} {Q : St → Prop} {next : Act → World → Prop} {E : Exit → Act → World → Prop} {r : I} {v : Value} (hr : Rel G σ Fr w0 st a w)
    (hn : ∀ G' σ' st' a' w', G.le G' → Rel G' σ' Fr w0 st' a' w' → Q st' → next a' w') (hdst : ∀ d, o.dst = some d → d < w0.n) (hv : RepV G r v) (hq : (setD o.dst (.v r) .done).wp P Q st)
    (hrun : (execOp a.eval o).run P w = .ok (.value v) w) : o.wp P a w next E := by
  obtain ⟨σ', st', h1, h2⟩ := hr.setV hdst hv hq
  exact wp_value hrun (hn G σ' st' _ w (Mem.le.refl G) h1 h2)

def semNot (d : Option Nat) (x : Opd) : M := rdI x fun i => match i with
  | .bool b => setD d (.v (.bool (!b))) .done
  | _ => .fail
theorem sound_not {o : Oper} {t : TypeId} {x : Operand} {x' : Opd} (ho : o.op = .unOp .not t x) (hx : opdOk N x x' = true) : Sound P N o (semNot o.dst x') := by
  intro G σ Fr w0 st a w Q next E hN hr hw hn hdst
  subst hN
  obtain ⟨i, h1, hi⟩ := rdI_rep hr hx hw
  clear hw
  split at h1
  · rename_i b
    rw [RepV.bool] at hi
    exact done_v hr hn hdst (RepV.bool.2 rfl) h1 (by simp [execOp, ho, hi, Op.unary])
  · exact h1.elim
def semNeg (d : Option Nat) (x : Opd) : M := rdI x fun i => match i with
  | .int k n => setD d (.v (.int k (k.wrap (0 - n)))) .done
  | _ => .fail
theorem sound_neg {o : Oper} {t : TypeId} {x : Operand} {x' : Opd} (ho : o.op = .unOp .neg t x) (hx : opdOk N x x' = true) : Sound P N o (semNeg o.dst x') := by
  intro G σ Fr w0 st a w Q next E hN hr hw hn hdst
  subst hN
  obtain ⟨i, h1, hi⟩ := rdI_rep hr hx hw
  clear hw
  split at h1
  · rename_i k n
    rw [RepV.int] at hi
    exact done_v hr hn hdst (RepV.int.2 rfl) h1 (by simp [execOp, ho, hi, Op.unary, Op.intArith])
  · exact h1.elim

def semPick (d : Option Nat) (c x y : Opd) : M := rdI c fun i => match i with
  | .bool b => .ite b (rdI x fun j => setD d (.v j) .done) (rdI y fun j => setD d (.v j) .done)
  | _ => .fail
theorem sound_pick {o : Oper} {c x y : Operand} {c' x' y' : Opd} (ho : o.op = .pick c x y) (hc : opdOk N c c' = true) (hx : opdOk N x x' = true) (hy : opdOk N y y' = true) :
    Sound P N o (semPick o.dst c' x' y') := by
  intro G σ Fr w0 st a w Q next E hN hr hw hn hdst
  subst hN
  obtain ⟨i, h1, hi⟩ := rdI_rep hr hc hw
  clear hw
  split at h1
  · rename_i b
    rw [RepV.bool] at hi
    cases hb : b with
    | true =>
      obtain ⟨j, h2, hj⟩ := rdI_rep hr hx (h1.1 hb)
      exact done_v hr hn hdst hj h2 (by simp [execOp, ho, hi, hb, asBool])
    | false =>
      obtain ⟨j, h2, hj⟩ := rdI_rep hr hy (h1.2 hb)
      exact done_v hr hn hdst hj h2 (by simp [execOp, ho, hi, hb, asBool])
  · exact h1.elim

theorem sound_mv {o : Oper} {x : Operand} {x' : Opd} (ho : o.op = .move x ∨ o.op = .assign x) (hx : opdOk N x x' = true) : Sound P N o (semMv o.dst x') := by
  intro G σ Fr w0 st a w Q next E hN hr hw hn hdst
  subst hN
  have hrun : (execOp a.eval o).run P w = .ok (.value (a.eval x)) w := by
    rcases ho with ho | ho <;> simp [execOp, ho]
  have fin : ∀ {sv : SV} (_ : (setD o.dst sv .done).wp P Q st)
      (_ : ∀ d', o.dst = some d' → ∀ ver, (st.set d' (ver, sv))[d']? = some (ver, sv) → RepSV G (σ.drop d') w (st.set d' (ver, sv)) (val (a.put (some d') (a.eval x)) w0) d' sv (a.eval x))
      (_ : ∀ h, sv ≠ .par h := by intro _ e; cases e) (_ : ∀ inv t, sv ≠ .own inv t := by intro _ _ e; cases e), o.wp P a w next E := by
    intro sv hq hnew hnp hno
    obtain ⟨σ', st', h1, h2⟩ := hr.setD hdst hnew hq (fun h e => absurd e (hnp h)) hno
    exact wp_value hrun (hn G σ' st' _ w (Mem.le.refl G) h1 h2)
  have look : ∀ {d' n : Nat} {p q : Nat × SV}, o.dst = some d' → o.dst ≠ some n → st[n]? = some p → (st.set d' q)[n]? = some p := by
    intro d' n p q hd hne hp
    rw [List.getElem?_set_ne]
    · exact hp
    · rintro rfl; exact hne hd
  cases x' with
  | c i => exact done_v hr hn hdst (opdOk_c hx G) hw hrun
  | nils e sz =>
    refine fin hw fun d' _ ver _ => ?_
    rw [opdOk_nils hx]
    exact ⟨[], OwnsR.nil w e sz, by simp [RepIs], by simp, by simp [Value.ownBlock]⟩
  | t n =>
    obtain ⟨rfl, hnlt⟩ := opdOk_t hx
    simp only [semMv, M.wp] at hw
    cases hs : st[n]? with
    | none => simp [hs] at hw
    | some cur =>
      obtain ⟨ver, sv⟩ := cur
      simp only [hs] at hw
      have hrep := hr.slot hnlt hs
      cases sv with
      | v y => exact done_v hr hn hdst hrep hw hrun
      | no => exact fin hw fun _ _ _ _ => trivial
      | rp y => exact fin hw fun _ _ _ _ => hrep
      | vec e sz l =>
        obtain ⟨hne, hw⟩ := hw
        refine fin hw fun d' hd _ _ => ⟨_, look hd hne hs, Nat.le_refl _, fun _ => ⟨e, sz, l, rfl, ?_⟩⟩
        exact VecAt.tr hrep (Mem.le.refl G) fun b hb => ⟨Lab.drop_some.2 ⟨fun e => hne (by rw [hd, e]), hb⟩, rfl⟩
      | box t =>
        obtain ⟨hne, hw⟩ := hw
        obtain ⟨b, cells, ty, h1, h2, _⟩ := hrep
        refine fin hw fun d' hd _ _ => ⟨_, look hd hne hs, Nat.le_refl _, fun _ => ⟨b, Lab.drop_some.2 ⟨fun e => hne (by rw [hd, e]), h2⟩, h1⟩⟩
      | bor s k ver' =>
        obtain ⟨hne, hw⟩ := hw
        obtain ⟨cur, h1, h2, h3⟩ := hrep
        refine fin hw fun d' hd _ _ => ⟨cur, look hd hne h1, h2, fun e => ?_⟩
        obtain ⟨e, sz, l, h4, h5⟩ := h3 e
        exact ⟨e, sz, l, h4, h5.tr (Mem.le.refl G) fun b hb => ⟨Lab.drop_some.2 ⟨fun e => hne (by rw [hd, e]), hb⟩, rfl⟩⟩
      | sub s k ver' m =>
        obtain ⟨hne, hw⟩ := hw
        obtain ⟨cur, h1, h2, h3⟩ := hrep
        refine fin hw fun d' hd _ _ => ⟨cur, look hd hne h1, h2, fun e => ?_⟩
        obtain ⟨e, sz, l, h4, h5⟩ := h3 e
        exact ⟨e, sz, l, h4, h5.tr (Mem.le.refl G) fun b hb => ⟨Lab.drop_some.2 ⟨fun e => hne (by rw [hd, e]), hb⟩, rfl⟩⟩
      | suf s k ver' m =>
        obtain ⟨hne, hw⟩ := hw
        obtain ⟨cur, h1, h2, h3⟩ := hrep
        refine fin hw fun d' hd _ _ => ⟨cur, look hd hne h1, h2, fun e => ?_⟩
        obtain ⟨e, sz, l, c0, h4, h5, h6⟩ := h3 e
        exact ⟨e, sz, l, c0, h4, h5.tr (Mem.le.refl G) fun b hb => ⟨Lab.drop_some.2 ⟨fun e => hne (by rw [hd, e]), hb⟩, rfl⟩, h6⟩
      | pt s k ver' off r =>
        obtain ⟨hne, hw⟩ := hw
        obtain ⟨cur, h1, h2, h3⟩ := hrep
        refine fin hw fun d' hd _ _ => ⟨cur, look hd hne h1, h2, fun e => ?_⟩
        obtain ⟨b, h4, h5⟩ := h3 e
        exact ⟨b, Lab.drop_some.2 ⟨fun e => hne (by rw [hd, e]), h4⟩, h5⟩
      | tup fs => exact hw.elim
      | tupd fs => exact hw.elim
      | st fs => exact hw.elim
      | par h =>
        obtain ⟨hv, hle⟩ := hr.pars n ver h hs
        rw [val_tmp (by rw [hr.n]; exact hnlt)] at hv
        simp only [M.wp] at hw
        cases hh : st[h]? with
        | none => simp [hh] at hw
        | some cur =>
          obtain ⟨ver', sv'⟩ := cur
          simp only [hh] at hw
          obtain ⟨hne, hw⟩ := hw
          have hrep' := hr.slots h ver' sv' hh
          rw [← hv] at hrep'
          split at hw
          · obtain ⟨b, cells, ty, h1, h2, _⟩ := hrep'
            refine fin hw fun d' hd _ _ => ⟨_, look hd hne hh, Nat.le_refl _, fun _ => ⟨b, Lab.drop_some.2 ⟨fun e => hne (by rw [hd, e]), h2⟩, h1⟩⟩
          · rename_i e sz l
            refine fin hw fun d' hd _ _ => ⟨_, look hd hne hh, Nat.le_refl _, fun _ => ⟨e, sz, l, rfl, ?_⟩⟩
            exact VecAt.tr hrep' (Mem.le.refl G) fun b hb => ⟨Lab.drop_some.2 ⟨fun e => hne (by rw [hd, e]), hb⟩, rfl⟩
          · rename_i inv t
            have hown : OwnD G σ w h t (val a w0 h) := by rw [← hv]; exact hrep'
            split at hw
            · refine fin hw fun d' hd _ _ => ⟨_, look hd hne hh, Nat.le_refl _, fun inv' t' e _ _ => ?_⟩
              cases e
              rw [val_put_other (fun e => hne (by rw [hd, e])), hv]
              exact hown.pt
            · refine fin hw fun d' hd _ _ => ⟨_, look hd hne hh, Nat.le_refl _, fun inv' t' e _ => ?_⟩
              cases e
              rw [val_put_other (fun e => hne (by rw [hd, e])), hv]
              exact hown.hd rfl
            · refine fin hw fun d' hd _ _ => ⟨_, look hd hne hh, Nat.le_refl _, fun inv' t' e _ => ?_⟩
              cases e
              rw [val_put_other (fun e => hne (by rw [hd, e])), hv]
              exact hown.hd rfl
            · exact hw.elim
          · exact hw.elim
      | own inv t =>
        obtain ⟨hne, hw⟩ := hw
        have hv : val a w0 n = a.eval (.tmp n) := val_tmp (by rw [hr.n]; exact hnlt)
        have hown : OwnD G σ w n t (val a w0 n) := by rw [hv]; exact hrep
        split at hw
        · refine fin hw fun d' hd _ _ => ⟨_, look hd hne hs, Nat.le_refl _, fun inv' t' e _ _ => ?_⟩
          cases e
          rw [val_put_other (fun e => hne (by rw [hd, e])), ← hv]
          exact hown.pt
        · refine fin hw fun d' hd _ _ => ⟨_, look hd hne hs, Nat.le_refl _, fun inv' t' e _ => ?_⟩
          cases e
          rw [val_put_other (fun e => hne (by rw [hd, e])), ← hv]
          exact hown.hd rfl
        · refine fin hw fun d' hd _ _ => ⟨_, look hd hne hs, Nat.le_refl _, fun inv' t' e _ => ?_⟩
          cases e
          rw [val_put_other (fun e => hne (by rw [hd, e])), ← hv]
          exact hown.hd rfl
        · exact hw.elim
      | pd s ver' p =>
        obtain ⟨hne, hw⟩ := hw
        obtain ⟨cur, h1, h2, h3⟩ := hrep
        refine fin hw fun d' hd _ _ => ⟨cur, look hd hne h1, h2, fun inv t e hp ha => ?_⟩
        rw [val_put_other (fun e => hne (by rw [hd, e]))]
        exact h3 inv t e hp ha
      | bd s ver' p =>
        obtain ⟨hne, hw⟩ := hw
        obtain ⟨cur, h1, h2, h3⟩ := hrep
        refine fin hw fun d' hd _ _ => ⟨cur, look hd hne h1, h2, fun inv t e ha => ?_⟩
        rw [val_put_other (fun e => hne (by rw [hd, e]))]
        exact h3 inv t e ha
end
end Go.Ab

namespace Go.Ab
section
variable {P : Program} {N : Nat} {G : Mem} {σ : Lab} {Fr : Mem} {w0 : Base} {w : World} {st : St} {a : Act}

/-- The labels of slot n go over to slot d. -/
def Lab.move (σ : Lab) (n d : Nat) : Lab := fun b => match σ b with
  | some (s, k) => if s = n then some (d, k) else if s = d then none else some (s, k)
  | none => none
theorem Lab.move_here {n d b k : Nat} (h : σ b = some (n, k)) : σ.move n d b = some (d, k) := by simp [Lab.move, h]
theorem Lab.move_far {n d b s k : Nat} (h : σ b = some (s, k)) (h1 : s ≠ n) (h2 : s ≠ d) : σ.move n d b = some (s, k) := by simp [Lab.move, h, h1, h2]
theorem Lab.move_inv {n d b s k : Nat} (h : σ.move n d b = some (s, k)) : (s = d ∧ σ b = some (n, k)) ∨ (s ≠ n ∧ s ≠ d ∧ σ b = some (s, k)) := by
  unfold Lab.move at h
  split at h
  · rename_i s' k' hb
    split at h
    · rename_i e
      simp only [Option.some.injEq, Prod.mk.injEq] at h
      obtain ⟨rfl, rfl⟩ := h
      exact .inl ⟨rfl, by rw [hb, e]⟩
    · rename_i e
      split at h
      · cases h
      · rename_i e'
        simp only [Option.some.injEq, Prod.mk.injEq] at h
        obtain ⟨rfl, rfl⟩ := h
        exact .inr ⟨e, e', hb⟩
  · cases h
theorem WOk.move (h : WOk G σ Fr w0 w) (n d : Nat) : WOk G (σ.move n d) Fr w0 w := by
  refine ⟨h.fixed, ?_, ?_, h.frame, h.os, h.tape, h.output, h.size, h.apart⟩
  · rintro b ⟨s, k⟩ hb
    rcases Lab.move_inv hb with ⟨_, hb⟩ | ⟨_, _, hb⟩ <;> exact h.own b _ hb
  · rintro b b' ⟨s, k⟩ hb hb'
    rcases Lab.move_inv hb with ⟨h1, hb⟩ | ⟨h1, h2, hb⟩ <;> rcases Lab.move_inv hb' with ⟨h3, hb'⟩ | ⟨h3, h4, hb'⟩
    · exact h.inj b b' _ hb hb'
    · exact absurd h1 h4
    · exact absurd h3 h2
    · exact h.inj b b' _ hb hb'

/-- What slot n owns goes over to slot d. -/
theorem Rel.move {n d ver ver' : Nat} {sv : SV} {old : Nat × SV} {v1 : Nat} {c : Value} (h : Rel G σ Fr w0 st a w) (hdn : d < w0.n) (hn : st[n]? = some (v1, sv)) (hd : st[d]? = some old) (hne : d ≠ n)
    (hv : v1 < ver) (hv' : old.1 < ver') (hr : sv.root = none) (hc : RepOwn G σ w n sv c) (hnp : ∀ h, sv ≠ .par h := by intro _ e; cases e) :
    Rel G (σ.move n d) Fr w0 ((st.set n (ver, .no)).set d (ver', sv.fresh ver')) (a.put (some d) c) w := by
  have h1 := h.drop hn hv
  refine h1.put hdn (h.wok.move n d) (Mem.le.refl G) (old := old) (by rw [List.getElem?_set_ne (Ne.symm hne)]; exact hd) hv' ?_ ?_ (fun h e => absurd (fresh_par.1 e) (hnp h)) fresh_dead
  · intro s' hs' b k hb
    obtain ⟨h2, h3⟩ := Lab.drop_some.1 hb
    exact ⟨Lab.move_far h3 h2 hs', rfl⟩
  · rw [RepSV.own (by rw [fresh_root]; exact hr), fresh_rep]
    exact RepOwn.tr hc (Mem.le.refl G) fun b k hb => ⟨Lab.move_here hb, rfl⟩

/-- The slice at place k of a slot is owned no more: it lies fixed. -/
def SV.frzAt : SV → Nat → SV
  | .vec _ _ l, 0 => .v (.list l)
  | .box (.one (.vec _ _ l)), 1 => .box (.one (.i (.list l)))
  | .box (.st fs), j + 1 => match fs[j]? with
    | some (.vec _ _ l) => .box (.st (fs.set j (.i (.list l))))
    | _ => .box (.st fs)
  | sv, _ => sv

theorem VecAt.list {G' : Mem} {lab : Nat × Nat} {e : TypeId} {sz : Nat} {l : List I} {c : Value} (h : VecAt G σ w lab e sz l c) (hG : G.le G')
    (hb : ∀ b, σ b = some lab → G' b = w.heap[b]?) : RepV G' (.list l) c := by
  obtain ⟨xs, h1, h2, h3, h4⟩ := h
  unfold RepV
  rw [if_neg (by simp [I.isAgg])]
  rcases h1.2 with ⟨rfl, h0⟩ | ⟨g, cap, cur, rfl, _, hg, hn, hm, hs, ht⟩
  · refine ⟨none, 0, by rw [h0], by omega, by simp [maxLen], .inl (List.eq_nil_of_length_eq_zero h0)⟩
  · obtain ⟨ty, fz, hg, _⟩ := hg
    refine ⟨_, cap, rfl, hn, hm, .inr ⟨g, 0, cur, ty, fz, sz, rfl, ?_, h3, ?_, ?_⟩⟩
    · rw [hb g (h4 g (by simp [Value.ownBlock]))]; exact hg
    · rw [hs, Nat.zero_add]; exact Nat.mul_le_mul_right _ hn
    · rw [List.drop_zero, ht]
      exact RepIs.mono hG l xs h2

theorem RepI_of_RepV_list {l : List I} {c : Value} (h : RepV G (.list l) c) : RepI G (.list l) [c] := by
  unfold RepV at h
  rwa [if_neg (by simp [I.isAgg])] at h

theorem RepFs.setF {G' : Mem} {σ' : Lab} {w' : World} {s : Nat} {f' : F} (hG : G.le G') : ∀ {fs : List F} {j i : Nat} {cs : List Value} {f : F}, RepFs G σ w s j fs cs → fs[i]? = some f →
    (∀ b k, k ≠ j + i + 1 → σ b = some (s, k) → σ' b = some (s, k) ∧ w'.heap[b]? = w.heap[b]?) → (∀ c, RepF G σ w (s, j + i + 1) f c → RepF G' σ' w' (s, j + i + 1) f' c) →
    RepFs G' σ' w' s j (fs.set i f') cs
  | [], _, i, _, _, _, h, _, _ => by simp at h
  | f :: fs, j, 0, cs, f0, h, hi, hk, hv => by
    simp only [List.getElem?_cons_zero, Option.some.injEq] at hi
    subst hi
    obtain ⟨c, d, ecs, h1, h2⟩ := h
    simp only [List.set_cons_zero, RepFs]
    exact ⟨c, d, ecs, hv c h1, RepFs.tr hG h2 fun b k hjk hb => hk b k (by omega) hb⟩
  | f :: fs, j, i + 1, cs, f0, h, hi, hk, hv => by
    simp only [List.getElem?_cons_succ] at hi
    obtain ⟨c, d, ecs, h1, h2⟩ := h
    simp only [List.set_cons_succ, RepFs]
    refine ⟨c, d, ecs, RepF.tr h1 hG fun b hb => hk b (j + 1) (by omega) hb, ?_⟩
    have e : j + (i + 1) + 1 = j + 1 + i + 1 := by omega
    rw [e] at hv
    exact RepFs.setF hG h2 hi (fun b k hne hb => hk b k (by omega) hb) hv

def Lab.lose (σ : Lab) (lab : Nat × Nat) : Lab := fun b => if σ b = some lab then none else σ b
theorem Lab.lose_some {lab lab' : Nat × Nat} {b : Nat} : σ.lose lab b = some lab' ↔ lab' ≠ lab ∧ σ b = some lab' := by
  unfold Lab.lose
  split
  · rename_i h
    constructor
    · intro x; cases x
    · rintro ⟨h1, h2⟩; rw [h] at h2; cases h2; exact absurd rfl h1
  · rename_i h
    constructor
    · intro x; exact ⟨fun e => h (by rw [x, e]), x⟩
    · exact fun x => x.2

/-- The memory with the blocks of a label fixed. -/
def Mem.fix (G : Mem) (σ : Lab) (w : World) (lab : Nat × Nat) : Mem := fun b => if σ b = some lab then w.heap[b]? else G b
theorem Mem.fix_le (hok : WOk G σ Fr w0 w) (lab : Nat × Nat) : G.le (G.fix σ w lab) := by
  intro b o hb
  unfold Mem.fix
  split
  · rename_i h; rw [(hok.own b lab h).1] at hb; cases hb
  · exact hb
theorem Mem.fix_here {lab : Nat × Nat} {b : Nat} (h : σ b = some lab) : G.fix σ w lab b = w.heap[b]? := by simp [Mem.fix, h]

theorem Rel.freeze {s k ver ver' : Nat} {sv : SV} {e : TypeId} {sz : Nat} {l : List I} (h : Rel G σ Fr w0 st a w) (hs : st[s]? = some (ver, sv)) (hv : sv.vecAt k = some (e, sz, l)) (hlt : ver < ver') :
    ∃ G' σ', G.le G' ∧ Rel G' σ' Fr w0 (st.set s (ver', sv.frzAt k)) a w ∧
      (∀ m c, VecAt G σ w (s, k) e sz m c → RepV G' (.list m) c) ∧ ∀ b, σ b = none → G b = none → σ' b = none ∧ G' b = none := by
  have hG := Mem.fix_le h.wok (s, k)
  have hlist : ∀ m c, VecAt G σ w (s, k) e sz m c → RepV (G.fix σ w (s, k)) (.list m) c := fun m c hc => hc.list hG fun b hb => Mem.fix_here hb
  refine ⟨G.fix σ w (s, k), σ.lose (s, k), hG, ?_, hlist, fun b h1 h2 => ⟨by simp [Lab.lose, h1], by simp [Mem.fix, h1, h2]⟩⟩
  have hok : WOk (G.fix σ w (s, k)) (σ.lose (s, k)) Fr w0 w := by
    refine ⟨?_, ?_, ?_, h.wok.frame, h.wok.os, h.wok.tape, h.wok.output, h.wok.size, ?_⟩
    rotate_right
    · intro b o hb
      unfold Mem.fix
      rw [if_neg (by intro e; have := (h.wok.own b _ e).2.1; rw [hb] at this; cases this)]
      exact h.wok.apart b o hb
    · intro b o hb
      unfold Mem.fix at hb
      split at hb
      · exact hb
      · exact h.wok.fixed b o hb
    · intro b lab hb
      obtain ⟨h1, h2⟩ := Lab.lose_some.1 hb
      obtain ⟨h3, h4, h5⟩ := h.wok.own b lab h2
      refine ⟨?_, h4, h5⟩
      unfold Mem.fix
      rw [if_neg (by rw [h2]; intro e; cases e; exact h1 rfl)]
      exact h3
    · intro b b' lab hb hb'
      exact h.wok.inj b b' lab (Lab.lose_some.1 hb).2 (Lab.lose_some.1 hb').2
  refine Rel.self (new := sv.frzAt k) (ver := ver') h hok hG hs hlt
    (fun s' hs' b k' hb => ⟨Lab.lose_some.2 ⟨fun e => hs' (by cases e; rfl), hb⟩, rfl⟩) ?_ (by
      intro h e
      unfold SV.frzAt at e
      repeat' split at e
      all_goals first | (subst e; rw [vecAt_par] at hv; cases hv) | cases e) (by
      intro inv t e
      exfalso
      unfold SV.frzAt at e
      repeat' split at e
      all_goals first | (subst e; cases k <;> cases hv) | cases e)
  · have hold := h.slots s ver sv hs
    generalize val a w0 s = c at hold ⊢
    unfold SV.vecAt at hv
    split at hv
    · cases hv
      exact hlist _ _ hold
    · cases hv
      obtain ⟨b, cells, ty, h1, h2, h3, h4⟩ := hold
      refine ⟨b, cells, ty, h1, Lab.lose_some.2 ⟨by simp, h2⟩, h3, ?_⟩
      obtain ⟨c', hc', h4⟩ := h4
      show RepI _ _ _
      rw [hc']
      exact RepI_of_RepV_list (hlist _ _ h4)
    · rename_i fs j
      split at hv
      · rename_i e' sz' l' hf
        cases hv
        obtain ⟨b, cells, ty, h1, h2, h3, h4⟩ := hold
        simp only [SV.frzAt, hf]
        refine ⟨b, cells, ty, h1, Lab.lose_some.2 ⟨by simp, h2⟩, h3, ?_⟩
        refine RepFs.setF hG h4 hf (fun b k hne hb => ⟨Lab.lose_some.2 ⟨fun e => hne (by cases e; omega), hb⟩, rfl⟩) fun c hc => ?_
        obtain ⟨c', rfl, hc⟩ := hc
        exact RepI_of_RepV_list (hlist _ _ (by rw [Nat.zero_add] at hc; exact hc))
      · cases hv
    · cases hv
end
end Go.Ab

namespace Go.Ab

def F.size : F → Nat
  | .i x => x.size
  | .vec _ _ _ => 1
def fsizes : List F → Nat
  | [] => 0
  | f :: fs => f.size + fsizes fs
def allI : List F → Option (List I)
  | [] => some []
  | .i x :: fs => match allI fs with
    | some l => some (x :: l)
    | none => none
  | .vec _ _ _ :: _ => none

inductive Hit where
  | item (u : I)
  | vec (k : Nat)
  deriving Inhabited

def hitI (o : Nat) : Option (Nat × I) → Option (Nat × Hit)
  | some (p, u) => some (o + p, .item u)
  | none => none
def hitV (sz : Nat) (l : List I) : List Nat → Option (Nat × Hit)
  | i :: r => match l[i]? with
    | some y => hitI (i * sz) (y.sub r)
    | none => none
  | [] => none
/-- What lies in the block of place k of a slot, along a path: how far in, and what. -/
def SV.hit (sv : SV) (k : Nat) (r : List Nat) : Option (Nat × Hit) := match k with
  | 0 => match sv with
    | .box (.one (.i x)) => hitI 0 (x.sub r)
    | .box (.one (.vec _ _ _)) => match r with
      | [] => some (0, .vec 1)
      | _ :: _ => none
    | .box (.st fs) => match r with
      | [] => match allI fs with
        | some l => some (0, .item (.agg l))
        | none => none
      | j :: r => match fs[j]? with
        | some (.i y) => hitI (fsizes (fs.take j)) (y.sub r)
        | some (.vec _ _ _) => match r with
          | [] => some (fsizes (fs.take j), .vec (j + 1))
          | _ :: _ => none
        | none => none
    | .vec _ sz l => hitV sz l r
    | _ => none
  | j + 1 => match sv.vecAt (j + 1) with
    | some (_, sz, l) => hitV sz l r
    | none => none

def putV (l : List I) (r : List Nat) (u : I) : List I := match r with
  | i :: r => match l[i]? with
    | some y => l.set i (y.put r u)
    | none => l
  | [] => l
/-- The same with another item there. -/
def SV.putAt (sv : SV) (k : Nat) (r : List Nat) (u : I) : SV := match k with
  | 0 => match sv with
    | .box (.one (.i x)) => .box (.one (.i (x.put r u)))
    | .box (.st fs) => match r with
      | j :: r => match fs[j]? with
        | some (.i y) => .box (.st (fs.set j (.i (y.put r u))))
        | _ => sv
      | [] => .box (.one (.i u))
    | .vec e sz l => .vec e sz (putV l r u)
    | sv => sv
  | j + 1 => match sv with
    | .box (.one (.vec e sz l)) => .box (.one (.vec e sz (putV l r u)))
    | .box (.st fs) => match fs[j]? with
      | some (.vec e sz l) => .box (.st (fs.set j (.vec e sz (putV l r u))))
      | _ => sv
    | sv => sv

section
variable {P : Program} {N : Nat} {G : Mem} {σ : Lab} {Fr : Mem} {w0 : Base} {w : World} {st : St} {a : Act}

theorem hitI_some {o off : Nat} {q : Option (Nat × I)} {u : Hit} (h : hitI o q = some (off, u)) : ∃ p v, q = some (p, v) ∧ off = o + p ∧ u = .item v := by
  cases q with
  | none => cases h
  | some q =>
    obtain ⟨p, v⟩ := q
    simp only [hitI, Option.some.injEq, Prod.mk.injEq] at h
    exact ⟨p, v, rfl, h.1.symm, h.2.symm⟩

theorem RepF.length {lab : Nat × Nat} {f : F} {cs : List Value} (h : RepF G σ w lab f cs) : cs.length = f.size := by
  cases f with
  | i x => exact RepI.length x cs h
  | vec e sz l => obtain ⟨c, rfl, _⟩ := h; rfl

theorem RepFs.nth {s : Nat} : ∀ {fs : List F} {j i : Nat} {cs : List Value} {f : F}, RepFs G σ w s j fs cs → fs[i]? = some f →
    ∃ c1 c c2, cs = c1 ++ c ++ c2 ∧ c1.length = fsizes (fs.take i) ∧ RepF G σ w (s, j + i + 1) f c ∧
      (∀ f' c', RepF G σ w (s, j + i + 1) f' c' → RepFs G σ w s j (fs.set i f') (c1 ++ c' ++ c2))
  | [], _, i, _, _, _, h => by simp at h
  | f :: fs, j, 0, cs, f', h, hi => by
    simp only [List.getElem?_cons_zero, Option.some.injEq] at hi
    subst hi
    obtain ⟨c, d, e, h1, h2⟩ := h
    refine ⟨[], c, d, by simpa using e, by simp [fsizes], h1, ?_⟩
    intro g c' hg
    exact ⟨c', d, by simp, hg, h2⟩
  | f :: fs, j, i + 1, cs, f', h, hi => by
    simp only [List.getElem?_cons_succ] at hi
    obtain ⟨c, d, e, h1, h2⟩ := h
    obtain ⟨c1, cc, c2, e2, hl, hr, hset⟩ := RepFs.nth h2 hi
    have hlc := RepF.length h1
    refine ⟨c ++ c1, cc, c2, by simp [e, e2], by simp [fsizes, hlc, hl], by rw [show j + (i + 1) + 1 = j + 1 + i + 1 by omega]; exact hr, ?_⟩
    intro g c' hg
    refine ⟨c, c1 ++ c' ++ c2, by simp, h1, hset g c' (by rw [show j + (i + 1) + 1 = j + 1 + i + 1 by omega] at hg; exact hg)⟩

theorem RepFs.allI {s : Nat} : ∀ {fs : List F} {j : Nat} {cs : List Value} {l : List I}, RepFs G σ w s j fs cs → allI fs = some l → RepIs G l cs
  | [], _, _, _, h, hl => by
    simp only [Ab.allI, Option.some.injEq] at hl
    subst hl
    simpa only [RepIs, RepFs] using h
  | .i x :: fs, j, cs, l, h, hl => by
    simp only [Ab.allI] at hl
    split at hl
    · rename_i m hm
      simp only [Option.some.injEq] at hl
      subst hl
      obtain ⟨c, d, e, h1, h2⟩ := h
      simp only [RepIs]
      exact ⟨c, d, e, h1, RepFs.allI h2 hm⟩
    · cases hl
  | .vec _ _ _ :: fs, j, cs, l, h, hl => by simp [Ab.allI] at hl

/-- The row of an owned slice. -/
theorem VecAt.row {lab : Nat × Nat} {e : TypeId} {sz : Nat} {l : List I} {c : Value} {b : Nat} (h : VecAt G σ w lab e sz l c) (hok : WOk G σ Fr w0 w) (hb : σ b = some lab) (hne : l ≠ []) :
    ∃ bl xs post cap, c = .slice (some ⟨b, 0, none⟩) l.length cap ∧ l.length ≤ cap ∧ cap ≤ maxLen ∧ bl.size = cap * sz ∧ Row w b e bl ∧ bl.toList = xs ++ post ∧ RepIs G l xs ∧ (∀ x ∈ l, x.size = sz) := by
  obtain ⟨xs, h1, h2, h3, h4⟩ := h
  rcases h1.2 with ⟨rfl, h0⟩ | ⟨g, cap, cur, rfl, _, hg, hn, hm, hs, ht⟩
  · exact absurd (List.eq_nil_of_length_eq_zero h0) hne
  · obtain rfl := hok.inj b g lab hb (h4 g (by simp [Value.ownBlock]))
    exact ⟨cur, xs, cur.toList.drop (l.length * sz), cap, rfl, hn, hm, hs, hg, by rw [← ht, List.take_append_drop], h2, h3⟩

theorem hitV_spec {lab : Nat × Nat} {e : TypeId} {sz : Nat} {l : List I} {c : Value} {b off : Nat} {r : List Nat} {q : Hit} (h : VecAt G σ w lab e sz l c) (hok : WOk G σ Fr w0 w) (hb : σ b = some lab)
    (hh : hitV sz l r = some (off, q)) : ∃ u, q = .item u ∧ ∃ bl pre cs post, Row w b e bl ∧ bl.toList = pre ++ cs ++ post ∧ pre.length = off ∧ RepI G u cs ∧
      (∀ u' cs', u'.size = u.size → RepI G u' cs' → VecAt G σ (w.setRow b (pre ++ cs' ++ post).toArray) lab e sz (putV l r u') c) := by
  cases r with
  | nil => cases hh
  | cons i r =>
    simp only [hitV] at hh
    cases hy : l[i]? with
    | none => simp [hy] at hh
    | some y =>
      simp only [hy] at hh
      obtain ⟨p, v, h1, rfl, rfl⟩ := hitI_some hh
      have hi : i < l.length := (List.getElem?_eq_some_iff.1 hy).1
      obtain ⟨bl, xs, post, cap, hc, hn, hm, hs, hg, hbl, hr, hsz⟩ := h.row hok hb (by intro e; subst e; simp at hi)
      obtain ⟨c1, cc, c2, e1, e2, e3, hset⟩ := RepIs.nth i hr hy
      obtain ⟨d1, d, d2, e4, e5, e6, hput⟩ := RepI.put r e3 h1
      have htake : sizes (l.take i) = i * sz := by
        rw [sizes_const (sz := sz) fun z hz => hsz z (List.mem_of_mem_take hz), List.length_take, Nat.min_eq_left (Nat.le_of_lt hi)]
      refine ⟨v, rfl, bl, c1 ++ d1, d, d2 ++ c2 ++ post, hg, by simp [hbl, e1, e4], by simp [e2, e5, htake], e6, ?_⟩
      intro u' cs' hu hcs
      have hnew := hset _ _ (hput u' cs' hu hcs)
      have hl1 := RepI.length _ _ e6
      have hl2 := RepI.length _ _ hcs
      have hxl : xs.length = l.length * sz := by rw [RepIs.length _ _ hr, sizes_const hsz]
      have hnl : (c1 ++ (d1 ++ cs' ++ d2) ++ c2).length = l.length * sz := by
        rw [← hxl, e1, e4]
        simp [hl1, hl2, hu]
      have hsz' : ∀ x ∈ putV l (i :: r) u', x.size = sz := by
        intro x hx
        simp only [putV, hy] at hx
        rcases List.mem_or_eq_of_mem_set hx with hx | hx
        · exact hsz x hx
        · subst hx
          rw [I.put_size r h1 hu]
          exact hsz y (List.mem_of_getElem? hy)
      have hlen : (putV l (i :: r) u').length = l.length := by simp [putV, hy]
      have hbsz : (c1 ++ d1 ++ cs' ++ (d2 ++ c2 ++ post)).toArray.size = bl.size := by
        have : bl.size = bl.toList.length := by simp
        rw [this, hbl, e1, e4]
        simp [hl1, hl2, hu]
      refine ⟨c1 ++ (d1 ++ cs' ++ d2) ++ c2, ⟨by rw [hlen]; exact hnl, .inr ⟨b, cap, _, by rw [hlen]; exact hc, Nat.zero_le _, hg.set hbsz, by rw [hlen]; exact hn, hm, ?_, ?_⟩⟩, ?_, hsz', ?_⟩
      · have : bl.size = bl.toList.length := by simp
        rw [← hs, this, hbl, e1, e4]
        simp [hl1, hl2, hu]
      · rw [hlen, show (c1 ++ d1 ++ cs' ++ (d2 ++ c2 ++ post)).toArray.toList = (c1 ++ (d1 ++ cs' ++ d2) ++ c2) ++ post by simp, ← hnl]
        exact List.take_left
      · simpa only [putV, hy] using hnew
      · intro b' hb'
        rw [hc] at hb'
        simp only [Value.ownBlock, Option.some.injEq] at hb'
        subst hb'
        exact hb

theorem RepF.far {lab : Nat × Nat} {f : F} {cs : List Value} {b : Nat} (h : RepF G σ w lab f cs) (hb : σ b ≠ some lab) (row : Array Value) : RepF G σ (w.setRow b row) lab f cs :=
  h.tr (Mem.le.refl G) fun b' hb' => ⟨hb', setRow_other w b b' row (by rintro rfl; exact hb hb')⟩
theorem RepFs.far {s j : Nat} {fs : List F} {cs : List Value} {b : Nat} (h : RepFs G σ w s j fs cs) (hb : ∀ k, j < k → σ b ≠ some (s, k)) (row : Array Value) : RepFs G σ (w.setRow b row) s j fs cs :=
  RepFs.tr (Mem.le.refl G) h fun b' k hj hb' => ⟨hb', setRow_other w b b' row (by rintro rfl; exact hb k hj hb')⟩

theorem hit_item {s k off b : Nat} {sv : SV} {r : List Nat} {u : I} {c : Value} (hok : WOk G σ Fr w0 w) (ho : RepOwn G σ w s sv c) (hh : sv.hit k r = some (off, .item u)) (hb : σ b = some (s, k)) :
    ∃ bl ty fz pre cs post, w.heap[b]? = some (.cells bl ty fz) ∧ (fz = (0, 0) ∨ bl.size ≤ fz.1) ∧ bl.toList = pre ++ cs ++ post ∧ pre.length = off ∧ RepI G u cs ∧
      ∀ u' cs', u'.size = u.size → RepI G u' cs' → RepOwn G σ (w.setRow b (pre ++ cs' ++ post).toArray) s (sv.putAt k r u') c := by
  cases k with
  | zero =>
    simp only [SV.hit] at hh
    cases sv with
    | vec e sz l =>
      obtain ⟨u', hu, bl, pre, cs, post, h1, h2, h3, h4, h5⟩ := hitV_spec ho hok hb hh
      cases hu
      obtain ⟨ty, fz, h1, h1', _⟩ := h1
      exact ⟨bl, ty, fz, pre, cs, post, h1, h1', h2, h3, h4, h5⟩
    | box t =>
      obtain ⟨b', cells, ty, h1, h2, h3, h4⟩ := ho
      obtain rfl := hok.inj b b' _ hb h2
      cases t with
      | one f =>
        cases f with
        | i x =>
          obtain ⟨p, v, h5, rfl, h6⟩ := hitI_some hh
          cases h6
          obtain ⟨c1, cc, c2, e1, e2, e3, hput⟩ := RepI.put r h4 h5
          refine ⟨cells, ty, (0, 0), c1, cc, c2, h3, .inl rfl, e1, by simpa using e2, e3, ?_⟩
          intro u' cs' hu hcs
          refine ⟨b, _, ty, h1, h2, setRow_heap w b cells _ ty (0, 0) h3, ?_⟩
          exact hput u' cs' hu hcs
        | vec e sz l => cases r <;> simp at hh
      | st fs =>
        cases r with
        | nil =>
          simp only at hh
          split at hh
          · rename_i l hl
            cases hh
            refine ⟨cells, ty, (0, 0), [], cells.toList, [], h3, .inl rfl, by simp, rfl, RepFs.allI h4 hl, ?_⟩
            intro u' cs' _ hcs
            refine ⟨b, _, ty, h1, h2, setRow_heap w b cells _ ty (0, 0) h3, ?_⟩
            show RepI _ _ _
            simpa [SV.putAt] using hcs
          · cases hh
        | cons j r =>
          simp only at hh
          split at hh
          · rename_i y hy
            obtain ⟨p, v, h5, rfl, h6⟩ := hitI_some hh
            cases h6
            obtain ⟨c1, cc, c2, e1, e2, e3, hset⟩ := RepFs.nth h4 hy
            obtain ⟨d1, d, d2, e4, e5, e6, hput⟩ := RepI.put r e3 h5
            refine ⟨cells, ty, (0, 0), c1 ++ d1, d, d2 ++ c2, h3, .inl rfl, by simp [e1, e4], by simp [e2, e5], e6, ?_⟩
            intro u' cs' hu hcs
            simp only [SV.putAt, hy]
            refine ⟨b, _, ty, h1, h2, setRow_heap w b cells _ ty (0, 0) h3, ?_⟩
            have := hset (.i (y.put r u')) _ (hput u' cs' hu hcs)
            have := RepFs.far (b := b) this (fun k hk e => by rw [h2] at e; cases e; omega) (c1 ++ d1 ++ cs' ++ (d2 ++ c2)).toArray
            show RepFs _ _ _ _ _ _ _
            simpa using this
          · split at hh <;> cases hh
          · cases hh
    | _ => cases hh
  | succ j =>
    simp only [SV.hit] at hh
    cases sv with
    | box t =>
      obtain ⟨b', cells, ty, h1, h2, h3, h4⟩ := ho
      have hbb : b' ≠ b := by rintro rfl; rw [h2] at hb; cases hb
      cases t with
      | one f =>
        cases f with
        | i x => simp [SV.vecAt] at hh
        | vec e sz l =>
          obtain ⟨c', hc', h4⟩ := h4
          by_cases hj : j = 0
          · subst hj
            simp only [SV.vecAt] at hh
            obtain ⟨u', hu, bl, pre, cs, post, g1, g2, g3, g4, g5⟩ := hitV_spec h4 hok hb hh
            cases hu
            obtain ⟨ty1, fz1, g1, g1', g1''⟩ := g1
            refine ⟨bl, ty1, fz1, pre, cs, post, g1, g1', g2, g3, g4, ?_⟩
            intro u' cs' hu hcs
            refine ⟨b', cells, ty, h1, h2, by rw [setRow_other w b b' _ hbb]; exact h3, ?_⟩
            exact ⟨c', hc', g5 u' cs' hu hcs⟩
          · have : (SV.box (.one (.vec e sz l))).vecAt (j + 1) = none := by
              unfold SV.vecAt
              split <;> simp_all
            simp [this] at hh
      | st fs =>
        simp only [SV.vecAt] at hh
        cases hf : fs[j]? with
        | none => simp [hf] at hh
        | some f =>
          cases f with
          | i x => simp [hf] at hh
          | vec e sz l =>
            simp only [hf] at hh
            obtain ⟨c1, cc, c2, e1, e2, e3, hset⟩ := RepFs.nth h4 hf
            rw [Nat.zero_add] at e3 hset
            obtain ⟨c', hc', e3⟩ := e3
            obtain ⟨u', hu, bl, pre, cs, post, g1, g2, g3, g4, g5⟩ := hitV_spec e3 hok hb hh
            cases hu
            obtain ⟨ty1, fz1, g1, g1', g1''⟩ := g1
            refine ⟨bl, ty1, fz1, pre, cs, post, g1, g1', g2, g3, g4, ?_⟩
            intro u' cs' hu hcs
            simp only [SV.putAt, hf]
            refine ⟨b', cells, ty, h1, h2, by rw [setRow_other w b b' _ hbb]; exact h3, ?_⟩
            show RepFs _ _ _ _ _ _ _
            refine RepFs.setF (Mem.le.refl G) h4 hf (fun b'' k hne hb'' => ⟨hb'', setRow_other w b b'' _ ?_⟩) fun cc hcc => ?_
            · rintro rfl
              rw [hb] at hb''
              cases hb''
              omega
            · rw [Nat.zero_add] at hcc ⊢
              obtain ⟨c'', hc'', hcc⟩ := hcc
              obtain ⟨u'', hu2, bl2, pre2, cs2, post2, k1, k2, k3, k4, k5⟩ := hitV_spec hcc hok hb hh
              cases hu2
              obtain ⟨ty2, fz2, k1, _⟩ := k1
              rw [g1] at k1
              cases k1
              refine ⟨c'', hc'', ?_⟩
              have hpre : pre2 = pre ∧ cs2 ++ post2 = cs ++ post := by
                have : pre2 ++ (cs2 ++ post2) = pre ++ (cs ++ post) := by rw [← List.append_assoc, ← k2, g2, List.append_assoc]
                exact List.append_inj this (by rw [k3, g3])
              have hpost : post2 = post := (List.append_inj hpre.2 (by rw [RepI.length _ _ k4, RepI.length _ _ g4])).2
              have := k5 u' cs' hu hcs
              rwa [hpre.1, hpost] at this
    | _ => simp [SV.vecAt] at hh
end
end Go.Ab

namespace Go.Ab
mutual
/-- A tree as an item: all that it leads to lies fixed from then on. -/
def D.toI : D → Option I
  | .it x => some x
  | .st l => match toIs l with
    | some r => some (.agg r)
    | none => none
  | .vec _ _ l => match toIs l with
    | some r => some (.list r)
    | none => none
  | _ => none
def toIs : List D → Option (List I)
  | [] => some []
  | d :: l => match d.toI with
    | some x => match toIs l with
      | some r => some (x :: r)
      | none => none
    | none => none
end
theorem toIs_its : ∀ (l : List I), toIs (l.map D.it) = some l
  | [] => rfl
  | x :: l => by simp [toIs, D.toI, toIs_its l]
theorem toIs_map {α : Type} {f : α → D} {g : α → I} (h : ∀ x, (f x).toI = some (g x)) : ∀ (l : List α), toIs (l.map f) = some (l.map g)
  | [] => rfl
  | x :: l => by simp [toIs, h, toIs_map h l]
mutual
theorem toI_shape : ∀ {d : D} {y : I}, d.toI = some y → y.size = d.size ∧ y.isAgg = d.isAgg
  | .it x, y, h => by simp only [D.toI, Option.some.injEq] at h; subst h; exact ⟨rfl, rfl⟩
  | .st l, y, h => by
    simp only [D.toI] at h
    split at h
    · rename_i r hr
      cases h
      exact ⟨(toIs_shape hr).1, rfl⟩
    · cases h
  | .vec e sz l, y, h => by
    simp only [D.toI] at h
    split at h
    · cases h; exact ⟨rfl, rfl⟩
    · cases h
  | .ptr d, y, h => by cases h
  | .map ks vs, y, h => by cases h
theorem toIs_shape : ∀ {l : List D} {r : List I}, toIs l = some r → sizes r = dsizes l ∧ r.length = l.length
  | [], r, h => by simp only [toIs, Option.some.injEq] at h; subst h; exact ⟨rfl, rfl⟩
  | d :: l, r, h => by
    simp only [toIs] at h
    split at h
    · rename_i x hx
      split at h
      · rename_i r' hr
        cases h
        obtain ⟨h1, h2⟩ := toIs_shape hr
        simp [sizes, dsizes, (toI_shape hx).1, h1, h2]
      · cases h
    · cases h
end
theorem toIs_size {sz : Nat} : ∀ {l : List D} {r : List I}, toIs l = some r → (∀ x ∈ l, x.size = sz) → ∀ x ∈ r, x.size = sz
  | [], r, h, _ => by simp only [toIs, Option.some.injEq] at h; subst h; simp
  | d :: l, r, h, hs => by
    simp only [toIs] at h
    split at h
    · rename_i x hx
      split at h
      · rename_i r' hr
        cases h
        intro z hz
        rcases List.mem_cons.1 hz with rfl | hz
        · rw [(toI_shape hx).1]; exact hs d (List.mem_cons_self ..)
        · exact toIs_size hr (fun y hy => hs y (List.mem_cons_of_mem _ hy)) z hz
      · cases h
    · cases h
mutual
theorem RepD.toI {G G' : Mem} {w : World} (hG : G.le G') : ∀ {d : D} {y : I} {cs : List Value} {bs : List Nat}, RepD G w d cs bs → d.toI = some y → (∀ b ∈ bs, G' b = w.heap[b]?) → RepI G' y cs
  | .it x, y, cs, bs, h, hy, _ => by
    simp only [D.toI, Option.some.injEq] at hy
    subst hy
    simp only [RepD] at h
    exact RepI.mono hG x cs h.1
  | .st l, y, cs, bs, h, hy, hb => by
    simp only [D.toI] at hy
    split at hy
    · rename_i r hr
      cases hy
      simp only [RepD] at h
      simp only [RepI]
      exact RepDs.toIs hG h hr hb
    · cases hy
  | .vec e sz l, y, cs, bs, h, hy, hb => by
    simp only [D.toI] at hy
    split at hy
    · rename_i r hr
      cases hy
      simp only [RepD] at h
      obtain ⟨_, hlen⟩ := toIs_shape hr
      simp only [RepI]
      rcases h with ⟨rfl, rfl, rfl⟩ | ⟨g, cap, cur, xs, bs', rfl, ⟨ty, fz, hg, _⟩, hlc, hcm, hcs, hxs, hds, hsz, rfl⟩
      · simp only [Ab.toIs, Option.some.injEq] at hr
        subst hr
        exact ⟨none, 0, rfl, Nat.le_refl _, Nat.zero_le _, .inl rfl⟩
      · refine ⟨some ⟨g, 0, none⟩, cap, by rw [hlen], by rw [hlen]; exact hlc, hcm, .inr ⟨g, 0, cur, ty, fz, sz, rfl, ?_, toIs_size hr hsz, ?_, ?_⟩⟩
        · rw [hb g (by simp)]; exact hg
        · rw [hlen, hcs, Nat.zero_add]; exact Nat.mul_le_mul_right sz hlc
        · rw [List.drop_zero, hlen, hxs]
          exact RepDs.toIs hG hds hr fun b hb' => hb b (by simp [hb'])
    · cases hy
  | .ptr d, y, cs, bs, h, hy, _ => by cases hy
  | .map ks vs, y, cs, bs, h, hy, _ => by cases hy
theorem RepDs.toIs {G G' : Mem} {w : World} (hG : G.le G') : ∀ {l : List D} {r : List I} {cs : List Value} {bs : List Nat}, RepDs G w l cs bs → Ab.toIs l = some r → (∀ b ∈ bs, G' b = w.heap[b]?) → RepIs G' r cs
  | [], r, cs, bs, h, hr, _ => by
    simp only [Ab.toIs, Option.some.injEq] at hr
    subst hr
    simp only [RepDs] at h
    simp only [RepIs]
    exact h.1
  | d :: l, r, cs, bs, h, hr, hb => by
    simp only [Ab.toIs] at hr
    split at hr
    · rename_i x hx
      split at hr
      · rename_i r' hr'
        cases hr
        simp only [RepDs] at h
        obtain ⟨c, c', b, b', rfl, rfl, h1, h2⟩ := h
        simp only [RepIs]
        exact ⟨c, c', rfl, RepD.toI hG h1 hx fun z hz => hb z (by simp [hz]), RepDs.toIs hG h2 hr' fun z hz => hb z (by simp [hz])⟩
      · cases hr
    · cases hr
end
section
variable {P : Program} {N : Nat} {G : Mem} {σ : Lab} {Fr : Mem} {w0 : Base} {w : World} {st : St} {a : Act}

/-- A record with another entry: what is more than 'm' steps deep, is dead. -/
def bump : List Nat → Nat → Nat → List Nat
  | [], 0, v => [v]
  | [], m + 1, v => 0 :: bump [] m v
  | _ :: _, 0, v => [v]
  | x :: inv, m + 1, v => x :: bump inv m v
theorem bump_alive : ∀ {inv : List Nat} {m v k x : Nat}, k < x → alive k (bump inv m x) v = true → v ≤ m ∧ alive k inv v = true
  | [], 0, 0, k, x, hk, h => ⟨Nat.le_refl _, rfl⟩
  | [], 0, v + 1, k, x, hk, h => by simp [bump, alive] at h; omega
  | _ :: _, 0, 0, k, x, hk, h => ⟨Nat.le_refl _, rfl⟩
  | _ :: _, 0, v + 1, k, x, hk, h => by simp [bump, alive] at h; omega
  | [], m + 1, 0, k, x, hk, h => ⟨Nat.zero_le _, rfl⟩
  | y :: inv, m + 1, 0, k, x, hk, h => ⟨Nat.zero_le _, rfl⟩
  | [], m + 1, v + 1, k, x, hk, h => by
    have h' : alive k (bump [] m x) v = true := by
      simp only [bump, alive, List.take_succ_cons, List.all_cons, Bool.and_eq_true] at h ⊢
      exact h.2
    obtain ⟨h1, h2⟩ := bump_alive hk h'
    exact ⟨by omega, by simp [alive]⟩
  | y :: inv, m + 1, v + 1, k, x, hk, h => by
    simp only [bump, alive, List.take_succ_cons, List.all_cons, Bool.and_eq_true] at h
    obtain ⟨h1, h2⟩ := bump_alive (inv := inv) (m := m) (v := v) hk h.2
    refine ⟨by omega, ?_⟩
    simp only [alive, List.take_succ_cons, List.all_cons, Bool.and_eq_true]
    exact ⟨h.1, h2⟩

/-- A slot's tree turns, its value as it was. -/
theorem Rel.tree {G' : Mem} {σ' : Lab} {w' : World} {s cur ver' : Nat} {inv inv' : List Nat} {t t' : D} (h : Rel G σ Fr w0 st a w) (hok : WOk G' σ' Fr w0 w') (hG : G.le G')
    (hs : st[s]? = some (cur, .own inv t)) (hcv : cur ≤ ver') (hk : ∀ s', s' ≠ s → Kept σ σ' w w' s') (hlab : ver' = cur → ∀ b k, σ b = some (s, k) → σ' b = some (s, k)) (hnew : OwnD G' σ' w' s t' (val a w0 s))
    (hpd : ∀ v q c, v ≤ cur → q ≠ [] → alive v inv' q.length = true → (alive v inv q.length = true → PtD w t (val a w0 s) q c) → PtD w' t' (val a w0 s) q c)
    (hbd : ∀ v q c, v ≤ cur → alive v inv' (q.length + 1) = true → (alive v inv (q.length + 1) = true → HdD w t (val a w0 s) q c) → HdD w' t' (val a w0 s) q c) :
    Rel G' σ' Fr w0 (st.set s (ver', .own inv' t')) a w' := by
  have hlt : s < st.length := (List.getElem?_eq_some_iff.1 hs).1
  have here : (st.set s (ver', SV.own inv' t'))[s]? = some (ver', .own inv' t') := by simp [hlt]
  have look : ∀ s' cur, s' ≠ s → st[s']? = some cur → (st.set s (ver', SV.own inv' t'))[s']? = some cur := fun s' cur hne hc => by
    rw [List.getElem?_set_ne (Ne.symm hne)]
    exact hc
  refine ⟨hok, h.defers, h.n, by simp [h.len], ?_, ?_⟩
  · intro r ver sv hr
    by_cases hrs : r = s
    · subst hrs
      rw [here] at hr
      cases hr
      exact hnew
    · rw [List.getElem?_set_ne (Ne.symm hrs)] at hr
      have h0 := h.slots r ver sv hr
      generalize val a w0 r = c at h0
      cases sv with
      | bor s' k v =>
        obtain ⟨cu, g1, g2, g3⟩ := h0
        by_cases hne : s' = s
        · subst hne
          rw [hs] at g1
          cases g1
          refine ⟨_, here, by simp only at g2 ⊢; omega, fun e => ?_⟩
          by_cases hv : v = cur
          · obtain ⟨_, _, _, g4, _⟩ := g3 hv
            cases k <;> cases g4
          · exfalso; simp only at g2 e; omega
        · refine ⟨cu, look s' cu hne g1, g2, fun e => ?_⟩
          obtain ⟨e, sz, l, g4, g5⟩ := g3 e
          exact ⟨e, sz, l, g4, g5.tr hG fun b hb => hk s' hne b k hb⟩
      | sub s' k v m =>
        obtain ⟨cu, g1, g2, g3⟩ := h0
        by_cases hne : s' = s
        · subst hne
          rw [hs] at g1
          cases g1
          refine ⟨_, here, by simp only at g2 ⊢; omega, fun e => ?_⟩
          by_cases hv : v = cur
          · obtain ⟨_, _, _, g4, _⟩ := g3 hv
            cases k <;> cases g4
          · exfalso; simp only at g2 e; omega
        · refine ⟨cu, look s' cu hne g1, g2, fun e => ?_⟩
          obtain ⟨e, sz, l, g4, g5⟩ := g3 e
          exact ⟨e, sz, l, g4, g5.tr hG fun b hb => hk s' hne b k hb⟩
      | suf s' k v m =>
        obtain ⟨cu, g1, g2, g3⟩ := h0
        by_cases hne : s' = s
        · subst hne
          rw [hs] at g1
          cases g1
          refine ⟨_, here, by simp only at g2 ⊢; omega, fun e => ?_⟩
          by_cases hv : v = cur
          · obtain ⟨_, _, _, _, g4, _⟩ := g3 hv
            cases k <;> cases g4
          · exfalso; simp only at g2 e; omega
        · refine ⟨cu, look s' cu hne g1, g2, fun e => ?_⟩
          obtain ⟨e, sz, l, c0, g4, g5, g6⟩ := g3 e
          exact ⟨e, sz, l, c0, g4, g5.tr hG fun b hb => hk s' hne b k hb, g6⟩
      | pt s' k v off r' =>
        obtain ⟨cu, g1, g2, g3⟩ := h0
        by_cases hne : s' = s
        · subst hne
          rw [hs] at g1
          cases g1
          refine ⟨_, here, by simp only at g2 ⊢; omega, fun e => ?_⟩
          have hv : v = cur := by simp only at g2 e; omega
          obtain ⟨b, g4, g5⟩ := g3 hv
          exact ⟨b, hlab (by simp only at e; omega) b k g4, g5⟩
        · refine ⟨cu, look s' cu hne g1, g2, fun e => ?_⟩
          obtain ⟨b, g4, g5⟩ := g3 e
          exact ⟨b, (hk s' hne b k g4).1, g5⟩
      | pd s' v q =>
        obtain ⟨cu, g1, g2, g3⟩ := h0
        by_cases hne : s' = s
        · subst hne
          rw [hs] at g1
          cases g1
          refine ⟨_, here, by simp only at g2 ⊢; omega, fun inv2 t2 e hp ha => ?_⟩
          cases e
          exact hpd v q c g2 hp ha fun ha' => g3 inv t rfl hp ha'
        · refine ⟨cu, look s' cu hne g1, g2, fun inv2 t2 e hp ha => ?_⟩
          obtain ⟨cv, csv⟩ := cu
          simp only at e
          subst e
          exact (g3 inv2 t2 rfl hp ha).tr (show OwnD G σ w s' t2 (val a w0 s') from h.slots s' cv _ g1) (hk s' hne)
      | bd s' v q =>
        obtain ⟨cu, g1, g2, g3⟩ := h0
        by_cases hne : s' = s
        · subst hne
          rw [hs] at g1
          cases g1
          refine ⟨_, here, by simp only at g2 ⊢; omega, fun inv2 t2 e ha => ?_⟩
          cases e
          exact hbd v q c g2 ha fun ha' => g3 inv t rfl ha'
        · refine ⟨cu, look s' cu hne g1, g2, fun inv2 t2 e ha => ?_⟩
          obtain ⟨cv, csv⟩ := cu
          simp only at e
          subst e
          exact (g3 inv2 t2 rfl ha).tr (show OwnD G σ w s' t2 (val a w0 s') from h.slots s' cv _ g1) (hk s' hne)
      | _ =>
        rw [RepSV.own rfl] at h0 ⊢
        exact RepOwn.tr h0 hG fun b k hb => hk r hrs b k hb
  · intro r ver hh hr
    by_cases hrs : r = s
    · subst hrs
      rw [here] at hr
      cases hr
    · rw [List.getElem?_set_ne (Ne.symm hrs)] at hr
      exact h.pars r ver hh hr
/-- Blocks are nobody's any more. -/
def Lab.shed (σ : Lab) (bs : List Nat) : Lab := fun b => if b ∈ bs then none else σ b
theorem Lab.shed_some {bs : List Nat} {b : Nat} {lab : Nat × Nat} : σ.shed bs b = some lab ↔ b ∉ bs ∧ σ b = some lab := by
  unfold Lab.shed
  split <;> simp_all
theorem WOk.shed {bs : List Nat} (h : WOk G σ Fr w0 w) : WOk G (σ.shed bs) Fr w0 w :=
  ⟨h.fixed, fun b lab hb => h.own b lab (Lab.shed_some.1 hb).2, fun b b' lab hb hb' => h.inj b b' lab (Lab.shed_some.1 hb).2 (Lab.shed_some.1 hb').2, h.frame, h.os, h.tape, h.output, h.size, h.apart⟩

theorem Lie.same {m : Lie} {bs ubs : List Nat} {s s' : Spot} (h : m.fits w bs ubs s s') : m.new w w bs ubs s'.2 s'.2 ∧ m.cells s.2 s'.2 = s.2 := by
  cases m with
  | inl pre post => exact ⟨fun _ _ _ => rfl, h.1.symm⟩
  | blk g pre post ty fz =>
    obtain ⟨_, _, ⟨row, h1, _, h2⟩, _⟩ := h
    exact ⟨⟨by rw [h1, ← h2], fun _ _ _ _ => rfl⟩, rfl⟩
  | val => exact ⟨⟨rfl, fun _ _ _ => rfl⟩, rfl⟩

/-- How places fare where one of them turns. -/
theorem Focus.refs {G : Mem} {w w' : World} {t t' u : D} {cr : Value} {p : List Nat} {inv : List Nat} {cur : Nat} 
    (hst : ∀ q, Stays p u q → ∀ v, t.at q = some v → ∀ z, spot w q t (none, cr.cells.toList) = some z → ∃ v' z', t'.at q = some v' ∧ spot w' q t' (none, cr.cells.toList) = some z' ∧ z'.1 = z.1 ∧
        (v.head = true → (q.length < p.length ∨ u.leaf = true) → v'.head = true ∧ z'.2 = z.2)) :
    (∀ v q c, v ≤ cur → q ≠ [] → alive v (if u.leaf then inv else bump inv p.length (cur + 1)) q.length = true → (alive v inv q.length = true → PtD w t cr q c) → PtD w' t' cr q c) ∧
    (∀ v q c, v ≤ cur → alive v (if u.leaf then inv else bump inv p.length (cur + 1)) (q.length + 1) = true → (alive v inv (q.length + 1) = true → HdD w t cr q c) → HdD w' t' cr q c) := by
  constructor
  · intro v q c hv hq ha hold
    have : Stays p u q ∧ alive v inv q.length = true := by
      by_cases hl : u.leaf = true
      · rw [if_pos hl] at ha
        exact ⟨.inr hl, ha⟩
      · rw [if_neg hl] at ha
        obtain ⟨h1, h2⟩ := bump_alive (by omega) ha
        exact ⟨.inl h1, h2⟩
    obtain ⟨x, b, o, cs, h1, h2, rfl⟩ := hold this.2
    obtain ⟨v', z', h3, h4, h5, _⟩ := hst q this.1 x h1 _ h2
    obtain ⟨z1, z2⟩ := z'
    simp only at h5
    subst h5
    exact ⟨v', b, o, z2, h3, h4, rfl⟩
  · intro v q c hv ha hold
    have : Stays p u q ∧ alive v inv (q.length + 1) = true ∧ (q.length < p.length ∨ u.leaf = true) := by
      by_cases hl : u.leaf = true
      · rw [if_pos hl] at ha
        exact ⟨.inr hl, ha, .inr hl⟩
      · rw [if_neg hl] at ha
        obtain ⟨h1, h2⟩ := bump_alive (by omega) ha
        exact ⟨.inl (by omega), h2, .inl (by omega)⟩
    obtain ⟨x, hh, h1, h0, h2⟩ := hold this.2.1
    obtain ⟨v', z', h3, h4, h5, h6⟩ := hst q this.1 x h1 _ h2
    obtain ⟨h7, h8⟩ := h6 h0 this.2.2
    obtain ⟨z1, z2⟩ := z'
    simp only at h5 h8
    subst h5 h8
    exact ⟨v', z1, h3, h7, h4⟩

/-- What lies at a place lies fixed from now on. -/
theorem Rel.frzPlace {s cur : Nat} {inv p : List Nat} {t t' u : D} {y : I} (h : Rel G σ Fr w0 st a w) (hs : st[s]? = some (cur, .own inv t)) (hat : t.at p = some u) (hul : u.leaf = false) (hy : u.toI = some y) (hput : t.put p (.it y) = some t') :
    ∃ G' σ', G.le G' ∧ Rel G' σ' Fr w0 (st.set s (cur + 1, .own (bump inv p.length (cur + 1)) t')) a w ∧ (∀ hh cs, spot w p t (none, (val a w0 s).cells.toList) = some (hh, cs) → RepI G' y cs) ∧ ∀ b, σ b = none → G b = none → σ' b = none ∧ G' b = none := by
  obtain ⟨bs, hrep, hva, hnd, hlab⟩ := show OwnD G σ w s t (val a w0 s) from h.slots s cur _ hs
  obtain ⟨m, s', ubs, f1, f2, f3, f4, f5, f6⟩ := focus (here := none) hrep hnd hat
  let G' : Mem := fun b => if b ∈ ubs then w.heap[b]? else G b
  have hfree : ∀ b ∈ ubs, G b = none ∧ Fr b = none ∧ ∃ k, σ b = some (s, k) := fun b hb => by
    obtain ⟨k, hk⟩ := hlab b (f4 b hb)
    obtain ⟨k1, k2, k3⟩ := h.wok.own b _ hk
    exact ⟨k1, k2, k, hk⟩
  have hG : G.le G' := fun b o hb => by
    show (if b ∈ ubs then w.heap[b]? else G b) = some o
    rw [if_neg fun hm => by rw [(hfree b hm).1] at hb; cases hb]
    exact hb
  have hfix : ∀ b ∈ ubs, G' b = w.heap[b]? := fun b hb => if_pos hb
  have hI : RepI G' y s'.2 := RepD.toI hG f2 hy hfix
  obtain ⟨hsz, hag⟩ := toI_shape hy
  obtain ⟨hnew, hcell⟩ := Lie.same f5
  obtain ⟨bs', r1, r2, r3, r4, r5⟩ := f6 G' w (.it y) s'.2 [] t' hG rfl hag (by simp only [RepD, and_true]; exact hI) List.nodup_nil (by simp) hnew hput
  simp only at hcell r1 r5
  rw [hcell] at r1 r5
  refine ⟨G', σ.shed ubs, hG, ?_, fun hh cs hsp => ?_, fun b h1 h2 => ⟨?_, ?_⟩⟩
  · obtain ⟨hpd, hbd⟩ := Focus.refs (G := G) (inv := inv) (cur := cur) r5
    rw [hul] at hpd hbd
    have hok : WOk G' (σ.shed ubs) Fr w0 w := by
      refine ⟨fun b o hb => ?_, fun b lab hb => ?_, h.wok.shed.inj, h.wok.frame, h.wok.os, h.wok.tape, h.wok.output, h.wok.size, fun b o hb => ?_⟩
      · by_cases hm : b ∈ ubs
        · rwa [hfix b hm] at hb
        · exact h.wok.fixed b o (by rwa [show G' b = G b from if_neg hm] at hb)
      · obtain ⟨h1, h2⟩ := Lab.shed_some.1 hb
        obtain ⟨k1, k2, k3⟩ := h.wok.own b lab h2
        exact ⟨by rw [show G' b = G b from if_neg h1]; exact k1, k2, k3⟩
      · by_cases hm : b ∈ ubs
        · rw [(hfree b hm).2.1] at hb; cases hb
        · rw [show G' b = G b from if_neg hm]; exact h.wok.apart b o hb
    refine h.tree hok hG hs (Nat.le_succ _) ?_ (fun e => by omega) ?_ hpd hbd
    · intro s1 hs1 x k hx
      refine ⟨Lab.shed_some.2 ⟨fun hm => ?_, hx⟩, rfl⟩
      obtain ⟨_, _, k', hk'⟩ := hfree x hm
      rw [hx] at hk'
      cases hk'
      exact hs1 rfl
    · refine ⟨bs', r1, ?_, r2, fun x hx => ?_⟩
      · rw [r4]
        split
        · rename_i hp
          subst hp
          simp only [D.at, Option.some.injEq] at hat
          subst hat
          rw [show (D.it y).isAgg = t.isAgg from hag]
          exact hva
        · exact hva
      · rcases (r3 x).1 hx with ⟨h1, h2⟩ | h1
        · obtain ⟨k, hk⟩ := hlab x h1
          exact ⟨k, Lab.shed_some.2 ⟨h2, hk⟩⟩
        · cases h1
  · rw [f1] at hsp
    obtain rfl := Option.some.inj hsp
    exact hI
  · unfold Lab.shed
    split
    · rfl
    · exact h1
  · show (if b ∈ ubs then w.heap[b]? else G b) = none
    rw [if_neg]
    · exact h2
    · intro hm
      obtain ⟨_, _, k, hk⟩ := hfree b hm
      rw [h1] at hk
      cases hk


/-- A slot's whole tree lies fixed from now on. -/
theorem Rel.frzOwn {n ver : Nat} {inv : List Nat} {t : D} {y : I} (h : Rel G σ Fr w0 st a w) (hs : st[n]? = some (ver, .own inv t)) (hul : t.leaf = false) (hy : t.toI = some y) :
    ∃ G' σ', G.le G' ∧ Rel G' σ' Fr w0 (st.set n (ver + 2, .v y)) a w ∧ RepV G' y (val a w0 n) ∧ ∀ b, σ b = none → G b = none → σ' b = none ∧ G' b = none := by
  obtain ⟨G', σ', hG, r1, r2, r3⟩ := h.frzPlace hs (p := []) rfl hul hy rfl
  have hlt : n < st.length := (List.getElem?_eq_some_iff.1 hs).1
  have hown : OwnD G σ w n t (val a w0 n) := h.slots n ver _ hs
  have hI := r2 none _ rfl
  have hv : RepV G' y (val a w0 n) := by
    obtain ⟨bs, h1, h2, _⟩ := hown
    rw [← (toI_shape hy).2] at h2
    unfold RepV
    cases hag : y.isAgg with
    | true =>
      rw [hag] at h2
      obtain ⟨a', ha'⟩ := valOf_agg h2
      rw [ha'] at hI
      rw [if_pos rfl]
      exact ⟨a', ha', hI⟩
    | false =>
      rw [hag] at h2
      rw [valOf_one h2] at hI
      rw [if_neg (by simp)]
      exact hI
  refine ⟨G', σ', hG, ?_, hv, r3⟩
  have := Rel.self (new := .v y) (ver := ver + 2) (d := n) r1 r1.wok (Mem.le.refl G') (old := (ver + 1, _)) (by simp [hlt]; rfl) (by simp only; omega) (fun s' _ b k hb => ⟨hb, rfl⟩) hv
  rwa [List.set_set] at this
end
end Go.Ab

namespace Go.Ab

/-- A pointer operand: into what a slot owns, or into what lies fixed. -/
def rdP (x : Opd) (k : (s k ver off : Nat) → List Nat → M) (kr : I → M) : M := match x with
  | .t n => .get n fun ver sv => match sv with
    | .box _ => k n 0 ver 0 []
    | .pt s kk v off r => k s kk v off r
    | .rp y => kr y
    | _ => .fail
  | _ => .fail

def tyOk (P : Program) (t : TypeId) (agg : Bool) (sz : Nat) : Bool :=
  (match P.underlying t with
    | some (.struct _) | some (.array _ _) => agg
    | some _ => !agg
    | none => false) &&
  (match P.info? t with
    | some i => i.size == sz
    | none => false)

section
variable {P : Program} {N : Nat} {G : Mem} {σ : Lab} {Fr : Mem} {w0 : Base} {w : World} {st : St} {a : Act}

theorem rdP_spec {x : Operand} {y : Opd} {k : (s k ver off : Nat) → List Nat → M} {kr : I → M} {Q : St → Prop} (h : Rel G σ Fr w0 st a w) (ho : opdOk w0.n x y = true) (hq : (rdP y k kr).wp P Q st) :
    (∃ s kk ver off r cur, (k s kk ver off r).wp P Q st ∧ st[s]? = some cur ∧ (ver = cur.1 → ∃ b, σ b = some (s, kk) ∧ a.eval x = .pointer (some ⟨b, off, none⟩))) ∨
    (∃ u, (kr u).wp P Q st ∧ RepRp G u (a.eval x)) := by
  cases y with
  | t n =>
    obtain ⟨rfl, hnlt⟩ := opdOk_t ho
    simp only [rdP, M.wp] at hq
    cases hs : st[n]? with
    | none => simp [hs] at hq
    | some cur =>
      obtain ⟨ver, sv⟩ := cur
      simp only [hs] at hq
      have hrep := h.slot hnlt hs
      cases sv with
      | box t =>
        obtain ⟨b, cells, ty, h1, h2, _⟩ := hrep
        exact .inl ⟨n, 0, ver, 0, [], _, hq, hs, fun _ => ⟨b, h2, h1⟩⟩
      | pt s kk v off r =>
        obtain ⟨cur, h1, h2, h3⟩ := hrep
        exact .inl ⟨s, kk, v, off, r, cur, hq, h1, h3⟩
      | rp u => exact .inr ⟨u, hq, hrep⟩
      | _ => exact hq.elim
  | _ => exact hq.elim

theorem isAgg_run {t : TypeId} {agg : Bool} {sz : Nat} (h : tyOk P t agg sz = true) (w : World) : (isAgg t).run P w = .ok agg w ∧ (sizeOf t).run P w = .ok sz w := by
  unfold tyOk at h
  simp only [Bool.and_eq_true] at h
  obtain ⟨h1, h2⟩ := h
  constructor
  · cases hu : P.underlying t with
    | none => simp [hu] at h1
    | some d =>
      unfold isAgg
      rw [Sem.run_bind, run_underlying hu w]
      cases d <;> simp_all
  · cases hi : P.info? t with
    | none => simp [hi] at h2
    | some i =>
      simp only [hi, beq_iff_eq] at h2
      simp [sizeOf, typeInfo, hi, h2]

theorem add_lit (b o j : Nat) : (⟨b, o, none⟩ : Addr).add j = ⟨b, o + j, none⟩ := by unfold Addr.add; split <;> simp_all

theorem run_loadVar_at {t : TypeId} {agg : Bool} {b off : Nat} {bl : Array Value} {ty : TypeId} {fz : Nat × Nat} {pre cs post : List Value} (h : tyOk P t agg cs.length = true)
    (hh : w.heap[b]? = some (.cells bl ty fz)) (hs : bl.toList = pre ++ cs ++ post) (hp : pre.length = off) :
    (agg = true → (loadVar t ⟨b, off, none⟩).run P w = .ok (.agg cs.toArray) w) ∧ (∀ c, agg = false → cs = [c] → (loadVar t ⟨b, off, none⟩).run P w = .ok c w) := by
  obtain ⟨h1, h2⟩ := isAgg_run h w
  have hcell : ∀ j v, cs[j]? = some v → w.cell? ((⟨b, off, none⟩ : Addr).add j) = some v := by
    intro j v hv
    rw [add_lit, cell_of_row w b (off + j) bl ty fz hh]
    have : bl[off + j]? = bl.toList[off + j]? := by simp
    rw [this, hs, List.append_assoc, List.getElem?_append_right (by omega), ← hp, Nat.add_sub_cancel_left, List.getElem?_append_left (by exact (List.getElem?_eq_some_iff.1 hv).1)]
    exact hv
  constructor
  · rintro rfl
    have hl := run_loadCells_list (P := P) w ⟨b, off, none⟩ cs hcell
    simp [loadVar, Sem.run_bind, h1, h2, hl]
  · rintro c rfl rfl
    have hc := hcell 0 c rfl
    rw [add_lit, Nat.add_zero] at hc
    simp [loadVar, Sem.run_bind, h1, run_load, hc]

/-- A part is loaded: its value. -/
theorem load_item {t : TypeId} {u : I} {b off : Nat} {bl : Array Value} {ty : TypeId} {fz : Nat × Nat} {pre cs post : List Value} (h : tyOk P t u.isAgg u.size = true)
    (hh : w.heap[b]? = some (.cells bl ty fz)) (hs : bl.toList = pre ++ cs ++ post) (hp : pre.length = off) (hr : RepI G u cs) :
    ∃ v, (loadVar t ⟨b, off, none⟩).run P w = .ok v w ∧ RepV G u v := by
  have hl := RepI.length u cs hr
  obtain ⟨h1, h2⟩ := run_loadVar_at (P := P) (w := w) (cs := cs) (by rw [hl]; exact h) hh hs hp
  cases hu : u.isAgg with
  | true => exact ⟨_, h1 hu, by unfold RepV; rw [if_pos hu]; exact ⟨_, rfl, by simpa using hr⟩⟩
  | false =>
    have hone : u.size = 1 := by cases u <;> simp_all [I.isAgg, I.size]
    rw [hone] at hl
    match cs, hl with
    | [c], _ => exact ⟨c, h2 c hu rfl, by unfold RepV; rw [if_neg (by simp [hu])]; exact hr⟩

def semLoad (d : Option Nat) (agg : Bool) (sz : Nat) (x : Opd) : M := rdP x
  (fun s k ver off r => .get s fun cur sv => .need (ver = cur) fun _ => match sv.hit k r with
    | some (off', .item u) => .need (off' = off ∧ u.isAgg = agg ∧ u.size = sz) fun _ => setD d (.v u) .done
    | some (off', .vec k') => .need (off' = off ∧ agg = false ∧ sz = 1 ∧ d ≠ some s) fun _ => setD d (.bor s k' ver) .done
    | none => .fail)
  (fun y => .need (y.isAgg = agg ∧ y.size = sz) fun _ => setD d (.v y) .done)

theorem hit_vec {s k off b k' : Nat} {sv : SV} {r : List Nat} {c : Value} (hok : WOk G σ Fr w0 w) (ho : RepOwn G σ w s sv c) (hh : sv.hit k r = some (off, .vec k')) (hb : σ b = some (s, k)) :
    ∃ bl ty pre v post e sz l, w.heap[b]? = some (.cells bl ty (0, 0)) ∧ bl.toList = pre ++ [v] ++ post ∧ pre.length = off ∧ sv.vecAt k' = some (e, sz, l) ∧ VecAt G σ w (s, k') e sz l v := by
  have nov : ∀ {o : Nat} {q : Option (Nat × I)}, hitI o q = some (off, .vec k') → False := by
    intro o q h
    obtain ⟨_, _, _, _, h⟩ := hitI_some h
    cases h
  have novv : ∀ {sz : Nat} {l : List I} {r : List Nat}, hitV sz l r = some (off, .vec k') → False := by
    intro sz l r h
    cases r with
    | nil => cases h
    | cons i r =>
      simp only [hitV] at h
      split at h
      · exact nov h
      · cases h
  cases k with
  | zero =>
    simp only [SV.hit] at hh
    cases sv with
    | vec e sz l => exact (novv hh).elim
    | box t =>
      obtain ⟨b', cells, ty, h1, h2, h3, h4⟩ := ho
      obtain rfl := hok.inj b b' _ hb h2
      cases t with
      | one f =>
        cases f with
        | i x => exact (nov hh).elim
        | vec e sz l =>
          cases r with
          | nil =>
            cases hh
            obtain ⟨v, hv, h4⟩ := h4
            exact ⟨cells, ty, [], v, [], e, sz, l, h3, by simp [hv], rfl, rfl, h4⟩
          | cons _ _ => cases hh
      | st fs =>
        cases r with
        | nil => simp only at hh; split at hh <;> cases hh
        | cons j r =>
          simp only at hh
          split at hh
          · exact (nov hh).elim
          · rename_i e sz l hy
            split at hh
            · cases hh
              obtain ⟨c1, cc, c2, e1, e2, e3, _⟩ := RepFs.nth h4 hy
              rw [Nat.zero_add] at e3
              obtain ⟨v, rfl, e3⟩ := e3
              exact ⟨cells, ty, c1, v, c2, e, sz, l, h3, e1, e2, by simp [SV.vecAt, hy], e3⟩
            · cases hh
          · cases hh
    | _ => cases hh
  | succ j =>
    simp only [SV.hit] at hh
    split at hh
    · exact (novv hh).elim
    · cases hh

theorem sound_load {o : Oper} {t : TypeId} {x : Operand} {x' : Opd} {agg : Bool} {sz : Nat} (ho : o.op = .load t x) (hx : opdOk N x x' = true) (ht : tyOk P t agg sz = true) : Sound P N o (semLoad o.dst agg sz x') := by
  intro G σ Fr w0 st a w Q next E hN hr hw hn hdst
  subst hN
  have run : ∀ {b off : Nat} {v : Value}, a.eval x = .pointer (some ⟨b, off, none⟩) → (loadVar t ⟨b, off, none⟩).run P w = .ok v w → (execOp a.eval o).run P w = .ok (.value v) w := by
    intro b off v hp hl
    simp [execOp, ho, hp, Instr.loadAt, Instr.sureAddr, hl]
  rcases rdP_spec hr hx hw with ⟨s, k, ver, off, r, cur, h1, hs, hp⟩ | ⟨u, h1, hp⟩
  · simp only [M.wp, hs] at h1
    obtain ⟨hv, h1⟩ := h1
    obtain ⟨b, hb, hp⟩ := hp hv
    split at h1
    · rename_i off' u hh
      obtain ⟨⟨rfl, rfl, rfl⟩, h1⟩ := h1
      have hroot : cur.2.root = none := by
        generalize cur.2 = sv at hh
        cases sv <;> first | rfl | (cases k <;> simp [SV.hit, SV.vecAt] at hh)
      have hrep := hr.slots s cur.1 cur.2 hs
      rw [RepSV.own hroot] at hrep
      obtain ⟨bl, ty, fz, pre, cs, post, g1, _, g2, g3, g4, _⟩ := hit_item hr.wok hrep hh hb
      obtain ⟨v, hl, hv⟩ := load_item (P := P) ht g1 g2 g3 g4
      exact done_v hr hn hdst hv h1 (run hp hl)
    · rename_i off' k' hh
      obtain ⟨⟨rfl, rfl, rfl, hne⟩, h1⟩ := h1
      have hroot : cur.2.root = none := by
        generalize cur.2 = sv at hh
        cases sv <;> first | rfl | (cases k <;> simp [SV.hit, SV.vecAt] at hh)
      have hrep := hr.slots s cur.1 cur.2 hs
      rw [RepSV.own hroot] at hrep
      obtain ⟨bl, ty, pre, v, post, e, sz, l, g1, g2, g3, g4, g5⟩ := hit_vec hr.wok hrep hh hb
      have hl := (run_loadVar_at (P := P) (cs := [v]) ht g1 g2 g3).2 v rfl rfl
      obtain ⟨σ', st', r1, r2⟩ := hr.setD hdst (sv := .bor s k' ver) (c := v) (fun d' hd ver' _ => by
        refine ⟨cur, ?_, by omega, fun _ => ⟨e, sz, l, g4, ?_⟩⟩
        · rw [List.getElem?_set_ne (by rintro rfl; exact hne hd)]; exact hs
        · exact g5.tr (Mem.le.refl G) fun b hb => ⟨Lab.drop_some.2 ⟨by rintro rfl; exact hne hd, hb⟩, rfl⟩) h1
      exact wp_value (run hp hl) (hn G σ' st' _ w (Mem.le.refl G) r1 r2)
    · exact h1.elim
  · obtain ⟨⟨rfl, rfl⟩, h1⟩ := h1
    obtain ⟨b, off, bl, ty, fz, pre, cs, post, p1, p2, p3, p4, p5⟩ := hp
    obtain ⟨v, hl, hv⟩ := load_item (P := P) ht (hr.wok.fixed _ _ p2) p3 p4 p5
    exact done_v hr hn hdst hv h1 (run p1 hl)

/-- What is stored: an item (a slice that is borrowed lies fixed from now on), or an owned slice that goes over. -/
def takeV (x : Opd) (k : I → M) : M := match x with
  | .c x => k x
  | .nils _ _ => k (.list [])
  | .t n => .get n fun ver sv => match sv with
    | .v x => k x
    | .vec _ _ l => .set n (ver + 1) (.v (.list l)) (k (.list l))
    | .bor s kk v => .get s fun cur sv' => .need (v = cur) fun _ => match sv'.vecAt kk with
      | some (_, _, l) => .set s (cur + 1) (sv'.frzAt kk) (k (.list l))
      | none => .fail
    | .sub s kk v m => .get s fun cur sv' => .need (v = cur) fun _ => match sv'.vecAt kk with
      | some (_, _, l) => .set s (cur + 1) (sv'.frzAt kk) (k (.list (l.take m)))
      | none => .fail
    | .own _ t => match t.toI with
      | some y => .need (t.leaf = false) fun _ => .set n (ver + 2) (.v y) (k y)
      | none => .fail
    | .bd s v p => .get s fun cur sv' => match sv' with
      | .own inv t => .need (alive v inv (p.length + 1) = true) fun _ => match D.at p t with
        | some u => match u.toI with
          | some y => match D.put p t (.it y) with
            | some t' => .set s (cur + 1) (.own (bump inv p.length (cur + 1)) t') (k y)
            | none => .fail
          | none => .fail
        | none => .fail
      | _ => .fail
    | _ => .fail

theorem takeV_rep2 {x : Operand} {y : Opd} {k : I → M} {Q : St → Prop} (h : Rel G σ Fr w0 st a w) (ho : opdOk w0.n x y = true) (hq : (takeV y k).wp P Q st) :
    ∃ i G' σ' st', G.le G' ∧ Rel G' σ' Fr w0 st' a w ∧ (k i).wp P Q st' ∧ RepV G' i (a.eval x) ∧ ∀ b, σ b = none → G b = none → σ' b = none ∧ G' b = none := by
  cases y with
  | c i => exact ⟨i, G, σ, st, Mem.le.refl G, h, hq, opdOk_c ho G, fun _ h1 h2 => ⟨h1, h2⟩⟩
  | nils e sz =>
    refine ⟨_, G, σ, st, Mem.le.refl G, h, hq, ?_, fun _ h1 h2 => ⟨h1, h2⟩⟩
    rw [opdOk_nils ho]
    unfold RepV
    rw [if_neg (by simp [I.isAgg])]
    exact ⟨none, 0, rfl, Nat.le_refl _, by simp [maxLen], .inl rfl⟩
  | t n =>
    obtain ⟨rfl, hnlt⟩ := opdOk_t ho
    simp only [takeV, M.wp] at hq
    cases hs : st[n]? with
    | none => simp [hs] at hq
    | some cur =>
      obtain ⟨ver, sv⟩ := cur
      simp only [hs] at hq
      have hrep := h.slot hnlt hs
      cases sv with
      | v y => exact ⟨y, G, σ, st, Mem.le.refl G, h, hq, hrep, fun _ h1 h2 => ⟨h1, h2⟩⟩
      | vec e sz l =>
        obtain ⟨G', σ', h1, h2, h3, h9⟩ := h.freeze (k := 0) hs rfl (Nat.lt_succ_self ver)
        exact ⟨_, G', σ', _, h1, h2, hq, h3 l _ hrep, h9⟩
      | bor s kk v =>
        obtain ⟨cur, h1, h2, h3⟩ := hrep
        simp only [M.wp, h1] at hq
        obtain ⟨hv, hq⟩ := hq
        obtain ⟨e, sz, l, h4, h5⟩ := h3 hv
        simp only [h4, M.wp] at hq
        obtain ⟨G', σ', g1, g2, g3, g9⟩ := h.freeze (k := kk) h1 h4 (Nat.lt_succ_self cur.1)
        exact ⟨_, G', σ', _, g1, g2, hq, g3 l _ h5, g9⟩
      | sub s kk v m =>
        obtain ⟨cur, h1, h2, h3⟩ := hrep
        simp only [M.wp, h1] at hq
        obtain ⟨hv, hq⟩ := hq
        obtain ⟨e, sz, l, h4, h5⟩ := h3 hv
        simp only [h4, M.wp] at hq
        obtain ⟨G', σ', g1, g2, g3, g9⟩ := h.freeze (k := kk) h1 h4 (Nat.lt_succ_self cur.1)
        exact ⟨_, G', σ', _, g1, g2, hq, g3 _ _ h5, g9⟩
      | own inv t =>
        simp only at hq
        split at hq
        · rename_i y hy
          obtain ⟨hul, hq⟩ := hq
          obtain ⟨G', σ', h1, h2, h3, h9⟩ := h.frzOwn hs hul hy
          rw [val_tmp (by rw [h.n]; exact hnlt)] at h3
          exact ⟨_, G', σ', _, h1, h2, hq, h3, h9⟩
        · exact hq.elim
      | bd s v p =>
        obtain ⟨cur, h1, h2, h3⟩ := hrep
        simp only [M.wp, h1] at hq
        obtain ⟨cv, csv⟩ := cur
        cases csv with
        | own inv t =>
          obtain ⟨ha, hq⟩ := hq
          split at hq
          · rename_i u hat
            split at hq
            · rename_i y hy
              split at hq
              · rename_i t' hput
                obtain ⟨u1, hh, e1, e0, e2⟩ := h3 inv t rfl ha
                rw [hat] at e1
                obtain rfl := Option.some.inj e1
                have hul : u.leaf = false := by cases u <;> first | rfl | cases e0
                obtain ⟨G', σ', g1, g2, g3, g9⟩ := h.frzPlace h1 hat hul hy hput
                refine ⟨_, G', σ', _, g1, g2, hq, ?_, g9⟩
                have hag : y.isAgg = false := by
                  rw [(toI_shape hy).2]
                  cases u <;> first | rfl | cases e0
                unfold RepV
                rw [if_neg (by rw [hag]; simp)]
                exact g3 _ _ e2
              · exact hq.elim
            · exact hq.elim
          · exact hq.elim
        | _ => exact hq.elim
      | _ => exact hq.elim
theorem takeV_rep {x : Operand} {y : Opd} {k : I → M} {Q : St → Prop} (h : Rel G σ Fr w0 st a w) (ho : opdOk w0.n x y = true) (hq : (takeV y k).wp P Q st) :
    ∃ i G' σ' st', G.le G' ∧ Rel G' σ' Fr w0 st' a w ∧ (k i).wp P Q st' ∧ RepV G' i (a.eval x) := by
  obtain ⟨i, G', σ', st', h1, h2, h3, h4, _⟩ := takeV_rep2 h ho hq
  exact ⟨i, G', σ', st', h1, h2, h3, h4⟩
end
end Go.Ab

namespace Go.Ab

theorem hit_own (inv : List Nat) (d : D) (k : Nat) (r : List Nat) : (SV.own inv d).hit k r = none := by cases k <;> simp [SV.hit, SV.vecAt]
theorem hit_par (h k : Nat) (r : List Nat) : (SV.par h).hit k r = none := by cases k <;> simp [SV.hit, vecAt_par]
/-- What an item does to the place where it is stored. -/
def putItem (s k ver off : Nat) (r : List Nat) (sz : Nat) (u : I) : M := .get s fun cur sv => .need (ver = cur) fun _ => match sv.hit k r with
  | some (off', .item u0) => .need (off' = off ∧ u.size = u0.size ∧ u.size = sz) fun _ => match k, sv with
    | 0, .box _ => .set s cur (sv.putAt 0 r u) .done
    | k, sv => .set s (cur + 1) (sv.putAt k r u) .done
  | some (off', .vec _) => match k, sv, r with
    | 0, .box (.st fs), [j] => .need (off' = off ∧ u.size = 1 ∧ sz = 1) fun _ => .set s (cur + 1) (.box (.st (fs.set j (.i u)))) .done
    | _, _, _ => .fail
  | none => .fail
/-- An owned slice goes over into a field. -/
def putVec (s k ver off : Nat) (r : List Nat) (e : TypeId) (sz : Nat) (l : List I) : M := .get s fun cur sv => .need (ver = cur) fun _ => match k, sv, r with
  | 0, .box (.st fs), [j] => match fs[j]? with
    | some f => .need (fsizes (fs.take j) = off ∧ f.size = 1) fun _ => .set s (cur + 1) (.box (.st (fs.set j (.vec e sz l)))) .done
    | none => .fail
  | 0, .box (.one (.i (.agg is))), [j] => match is[j]? with
    | some u => .need (sizes (is.take j) = off ∧ u.size = 1) fun _ => .set s (cur + 1) (.box (.st ((is.map F.i).set j (.vec e sz l)))) .done
    | none => .fail
  | 0, .box (.one f), [] => .need (off = 0 ∧ f.size = 1) fun _ => .set s (cur + 1) (.box (.one (.vec e sz l))) .done
  | _, _, _ => .fail

def semStore (sz : Nat) (ax vx : Opd) : M := takeV vx fun u => rdP ax (fun s k ver off r => putItem s k ver off r sz u) (fun _ => .fail)
def semStoreVec (ax vx : Opd) : M := match vx with
  | .t n => .get n fun ver sv => match sv with
    | .vec e sz l => .set n (ver + 1) .no (rdP ax (fun s k ver off r => .need (s ≠ n) fun _ => putVec s k ver off r e sz l) (fun _ => .fail))
    | _ => .fail
  | .nils e sz => rdP ax (fun s k ver off r => putVec s k ver off r e sz []) (fun _ => .fail)
  | .c _ => .fail

section
variable {P : Program} {N : Nat} {G : Mem} {σ : Lab} {Fr : Mem} {w0 : Base} {w : World} {st : St} {a : Act}

theorem WOk.setRow (h : WOk G σ Fr w0 w) {b : Nat} {lab : Nat × Nat} (hb : σ b = some lab) (row : Array Value) : WOk G σ Fr w0 (w.setRow b row) := by
  obtain ⟨h1, h2, h3⟩ := h.own b lab hb
  refine ⟨?_, ?_, h.inj, ?_, h.os, h.tape, h.output, ?_, h.apart⟩
  · intro b' o hb'
    rw [setRow_other w b b' row (by rintro rfl; rw [h1] at hb'; cases hb')]
    exact h.fixed b' o hb'
  · intro b' lab' hb'
    obtain ⟨k1, k2, k3⟩ := h.own b' lab' hb'
    exact ⟨k1, k2, by simpa [World.setRow] using k3⟩
  · intro b' o hb'
    rw [setRow_other w b b' row (by rintro rfl; rw [h2] at hb'; cases hb')]
    exact h.frame b' o hb'
  · simpa [World.setRow] using h.size

theorem run_storeCells_tail (P : Program) (g o : Nat) (t : TypeId) (fz : Nat × Nat) : ∀ (vs : List Value) (i : Nat) (cur : Array Value) (w : World), w.heap[g]? = some (.cells cur t fz) → cur.size ≤ fz.1 → o + i + vs.length ≤ cur.size → (∀ v ∈ vs, v.oneCell' = true) →
    (storeCells ⟨g, o, none⟩ vs i).run P w = .ok () (w.setRow g (cur.toList.take (o + i) ++ vs ++ cur.toList.drop (o + i + vs.length)).toArray)
  | [], i, cur, w, hg, _, _, _ => by
    simp only [storeCells, List.append_nil, List.length_nil, Nat.add_zero, List.take_append_drop, Array.toArray_toList]
    rw [setRow_self w g cur t fz hg]
    rfl
  | v :: rest, i, cur, w, hg, hf, hl, h1 => by
    have hi : o + i < cur.size := by simp at hl; omega
    have hadd : (⟨g, o, none⟩ : Addr).add i = ⟨g, o + i, none⟩ := by unfold Addr.add; split <;> simp_all
    have hcell : w.cell? ⟨g, o + i, none⟩ = some cur[o + i] := by simp [World.cell?, hg, hi]
    have hfro : w.frozen? ⟨g, o + i, none⟩ = false := by
      simp [World.frozen?, hg]
      omega
    have hst : (store ((⟨g, o, none⟩ : Addr).add i) v).run P w = .ok () (w.setRow g (cur.setIfInBounds (o + i) v)) := by
      rw [hadd, run_store P w _ v _ (h1 v (by simp)), hcell]
      simp [hfro, setCell_eq_setRow w g (o + i) cur t fz v hg]
    have ih := run_storeCells_tail P g o t fz rest (i + 1) (cur.setIfInBounds (o + i) v) (w.setRow g (cur.setIfInBounds (o + i) v)) (setRow_heap w g cur _ t _ hg) (by simpa using hf) (by simp at hl ⊢; omega) (fun x hx => h1 x (by simp [hx]))
    simp only [storeCells, Sem.run_bind, hst, Result.andThen_ok, ih, setRow_setRow]
    congr 3
    have e := list_seg_step cur.toList (o + i) v rest (by simp at hl ⊢; omega)
    simpa [Array.toList_setIfInBounds, Nat.add_assoc] using e
theorem run_storeCells_any (P : Program) (g o : Nat) (t : TypeId) (fz : Nat × Nat) (vs : List Value) (i : Nat) (cur : Array Value) (w : World) (hg : w.heap[g]? = some (.cells cur t fz)) (hf : fz = (0, 0) ∨ cur.size ≤ fz.1) (hl : o + i + vs.length ≤ cur.size) (h1 : ∀ v ∈ vs, v.oneCell' = true) :
    (storeCells ⟨g, o, none⟩ vs i).run P w = .ok () (w.setRow g (cur.toList.take (o + i) ++ vs ++ cur.toList.drop (o + i + vs.length)).toArray) := by
  rcases hf with rfl | hf
  · exact run_storeCells_at P g o t vs i cur w hg hl h1
  · exact run_storeCells_tail P g o t fz vs i cur w hg hf hl h1

theorem run_storeVar_at {fz : Nat × Nat} {t : TypeId} {agg : Bool} {b off : Nat} {bl : Array Value} {ty : TypeId} {pre cs post : List Value} {v : Value} {u : I} (h : tyOk P t agg cs.length = true)
    (hh : w.heap[b]? = some (.cells bl ty fz)) (hfz : fz = (0, 0) ∨ bl.size ≤ fz.1) (hs : bl.toList = pre ++ cs ++ post) (hp : pre.length = off) (hv : RepV G u v) (hu : u.size = cs.length) :
    (storeVar t ⟨b, off, none⟩ v).run P w = .ok () (w.setRow b (pre ++ v.cells.toList ++ post).toArray) := by
  obtain ⟨_, h2⟩ := isAgg_run h w
  have hc := hv.cells
  have hl := RepI.length _ _ hc
  have hlen : v.cells.toList.length = cs.length := by rw [hl, hu]
  have hblen : bl.size = pre.length + cs.length + post.length := by
    have : bl.size = bl.toList.length := by simp
    rw [this, hs]
    simp
    omega
  have hst := run_storeCells_any P b off ty fz v.cells.toList 0 bl w hh hfz (by rw [hlen, hblen, hp]; omega) (RepI.one _ _ hc)
  have e1 : bl.toList.take (off + 0) = pre := by rw [hs, List.append_assoc, Nat.add_zero, ← hp, List.take_left]
  have e2 : bl.toList.drop (off + 0 + v.cells.toList.length) = post := by
    rw [hs, hlen, Nat.add_zero, ← hp, ← List.length_append, List.drop_left]
  rw [e1, e2] at hst
  have hsz : v.cells.size = cs.length := by rw [← hlen]; simp
  simp [storeVar, h2, hsz, hst]

theorem Kept.setRow {b : Nat} {lab : Nat × Nat} {s' : Nat} (hb : σ b = some lab) (hs : s' ≠ lab.1) (row : Array Value) : Kept σ σ w (w.setRow b row) s' := by
  intro b' k hb'
  refine ⟨hb', setRow_other w b b' row ?_⟩
  rintro rfl
  rw [hb] at hb'
  cases hb'
  exact hs rfl

theorem vecAt_putAt0 {t : T} {r : List Nat} {u : I} {off : Nat} {u0 : I} (h : (SV.box t).hit 0 r = some (off, .item u0)) (k : Nat) : ((SV.box t).putAt 0 r u).vecAt k = (SV.box t).vecAt k := by
  cases t with
  | one f =>
    cases f with
    | i x => cases k <;> simp [SV.putAt, SV.vecAt]
    | vec e sz l => cases r <;> simp [SV.hit] at h
  | st fs =>
    cases r with
    | nil =>
      simp only [SV.hit] at h
      split at h
      · rename_i l hl
        have : ∀ (fs : List F) (l : List I) (j : Nat) (e : TypeId) (sz : Nat) (m : List I), allI fs = some l → fs[j]? ≠ some (.vec e sz m) := by
          intro fs
          induction fs with
          | nil => intro l j e sz m _ h; simp at h
          | cons f fs ih =>
            intro l j e sz m hl h
            cases f with
            | vec _ _ _ => simp [allI] at hl
            | i x =>
              simp only [allI] at hl
              split at hl
              · rename_i l' hl'
                cases j with
                | zero => simp at h
                | succ j => exact ih l' j e sz m hl' (by simpa using h)
              · cases hl
        cases k with
        | zero => simp [SV.putAt, SV.vecAt]
        | succ j =>
          simp only [SV.putAt, SV.vecAt]
          cases hf : fs[j]? with
          | none => rfl
          | some f =>
            cases f with
            | i x => rfl
            | vec e sz m => exact absurd hf (this fs l j e sz m hl)
      · cases h
    | cons j r =>
      simp only [SV.hit] at h
      split at h
      · rename_i y hy
        simp only [SV.putAt, hy]
        cases k with
        | zero => simp [SV.vecAt]
        | succ i =>
          simp only [SV.vecAt]
          by_cases hij : i = j
          · subst hij
            have : i < fs.length := (List.getElem?_eq_some_iff.1 hy).1
            rw [hy, List.getElem?_set_self this]
          · rw [List.getElem?_set_ne (Ne.symm hij)]
      · split at h <;> cases h
      · cases h

theorem putItem_spec {s k ver off : Nat} {r : List Nat} {sz : Nat} {u : I} {v : Value} {t : TypeId} {agg : Bool} {b : Nat} {cur : Nat × SV} {Q : St → Prop} (h : Rel G σ Fr w0 st a w) (hs : st[s]? = some cur)
    (hp : ver = cur.1 → σ b = some (s, k)) (ht : tyOk P t agg sz = true) (hv : RepV G u v) (hq : (putItem s k ver off r sz u).wp P Q st) :
    ver = cur.1 ∧ ∃ w' σ' st', (storeVar t ⟨b, off, none⟩ v).run P w = .ok () w' ∧ Rel G σ' Fr w0 st' a w' ∧ Q st' := by
  simp only [putItem, M.wp, hs] at hq
  obtain ⟨hver, hq⟩ := hq
  refine ⟨hver, ?_⟩
  have hb := hp hver
  obtain ⟨cv, sv⟩ := cur
  simp only at hq hver
  split at hq
  · rename_i off' u0 hh
    obtain ⟨⟨rfl, hsz, rfl⟩, hq⟩ := hq
    have hroot : sv.root = none := by
      cases sv <;> first | rfl | (cases k <;> simp [SV.hit, SV.vecAt] at hh)
    have hrep := h.slots s cv sv hs
    rw [RepSV.own hroot] at hrep
    obtain ⟨bl, ty, fz, pre, cs, post, g1, g1', g2, g3, g4, g5⟩ := hit_item h.wok hrep hh hb
    clear g5
    have hl := RepI.length _ _ g4
    have hrun := run_storeVar_at (P := P) (cs := cs) (agg := agg) (by rw [hl, ← hsz]; exact ht) g1 g1' g2 g3 hv (by rw [hl]; exact hsz)
    refine ⟨w.setRow b (pre ++ v.cells.toList ++ post).toArray, ?_⟩
    split at hq
    · rename_i t'
      refine ⟨σ, _, hrun, ?_, hq⟩
      refine h.poke (h.wok.setRow hb _) hs (fun s' hs' => Kept.setRow hb hs' _) rfl ?_ ?_ ?_ ?_ ?_
      · have : ∃ t'', (SV.box t').putAt 0 r u = .box t'' := by
          unfold SV.putAt
          repeat' split
          all_goals first | exact ⟨_, rfl⟩ | simp_all
        obtain ⟨t'', e⟩ := this
        rw [e]; rfl
      · intro h e
        unfold SV.putAt at e
        repeat' split at e
        all_goals first | cases e | simp_all
      · intro inv t e
        unfold SV.putAt at e
        repeat' split at e
        all_goals first | cases e | simp_all
      · intro c hc
        obtain ⟨bl', ty', fz', pre', cs', post', k1, _, k2, k3, k4, k5⟩ := hit_item h.wok hc hh hb
        rw [g1] at k1
        cases k1
        have hpre : pre' = pre ∧ cs' ++ post' = cs ++ post := by
          have : pre' ++ (cs' ++ post') = pre ++ (cs ++ post) := by rw [← List.append_assoc, ← k2, g2, List.append_assoc]
          exact List.append_inj this (by rw [k3, g3])
        have hpost : post' = post := (List.append_inj hpre.2 (by rw [RepI.length _ _ k4, RepI.length _ _ g4])).2
        have := k5 u _ hsz hv.cells
        rwa [hpre.1, hpost] at this
      · intro k' e sz' l c hvec
        refine ⟨l, by rw [vecAt_putAt0 hh]; exact hvec, ?_, ?_⟩
        all_goals
          have hk : ∀ b', σ b' = some (s, k') → σ b' = some (s, k') ∧ (w.setRow b (pre ++ v.cells.toList ++ post).toArray).heap[b']? = w.heap[b']? := fun b' hb' =>
            ⟨hb', setRow_other w b b' _ (by
              rintro rfl
              rw [hb] at hb'
              cases hb'
              cases t' with
              | one f => cases f <;> simp [SV.vecAt] at hvec
              | st fs => simp [SV.vecAt] at hvec)⟩
        · exact fun hc => hc.tr (Mem.le.refl G) hk
        · exact fun n hc => hc.tr (Mem.le.refl G) hk
    · refine ⟨σ, _, hrun, ?_, hq⟩
      refine Rel.self (new := sv.putAt k r u) (ver := cv + 1) h (h.wok.setRow hb _) (Mem.le.refl G) hs (Nat.lt_succ_self _) (fun s' hs' => Kept.setRow hb hs' _) (w' := w.setRow b (pre ++ v.cells.toList ++ post).toArray) ?_ (by
        intro h e
        unfold SV.putAt at e
        repeat' split at e
        all_goals first | (subst e; rw [hit_par] at hh; cases hh) | cases e) (by
        intro inv t e
        exfalso
        unfold SV.putAt at e
        repeat' split at e
        all_goals first | (subst e; rw [hit_own] at hh; cases hh) | cases e)
      · obtain ⟨bl', ty', fz', pre', cs', post', k1, _, k2, k3, k4, k5⟩ := hit_item h.wok hrep hh hb
        rw [g1] at k1
        cases k1
        have hpre : pre' = pre ∧ cs' ++ post' = cs ++ post := by
          have : pre' ++ (cs' ++ post') = pre ++ (cs ++ post) := by rw [← List.append_assoc, ← k2, g2, List.append_assoc]
          exact List.append_inj this (by rw [k3, g3])
        have hpost : post' = post := (List.append_inj hpre.2 (by rw [RepI.length _ _ k4, RepI.length _ _ g4])).2
        have := k5 u _ hsz hv.cells
        rw [hpre.1, hpost] at this
        rw [RepSV.own]
        · exact this
        · have : (sv.putAt k r u).root = none := by
            unfold SV.putAt
            repeat' split
            all_goals first | rfl | exact hroot
          exact this
  · rename_i off' k' hh
    split at hq
    · rename_i fs j
      obtain ⟨⟨rfl, hu, rfl⟩, hq⟩ := hq
      have hrep := h.slots s cv _ hs
      rw [RepSV.own rfl] at hrep
      obtain ⟨b', cells, ty, h1, h2, h3, h4⟩ := hrep
      obtain rfl := h.wok.inj b b' _ hb h2
      simp only [SV.hit] at hh
      split at hh
      · obtain ⟨_, _, _, _, hh⟩ := hitI_some hh; cases hh
      · rename_i e sz l hy
        cases hh
        obtain ⟨c1, cc, c2, e1, e2, e3, hset⟩ := RepFs.nth h4 hy
        have hcc : cc.length = 1 := by obtain ⟨c', rfl, _⟩ := e3; rfl
        have hrun := run_storeVar_at (P := P) (cs := cc) (agg := agg) (by rw [hcc]; exact ht) h3 (.inl rfl) e1 e2 hv (by rw [hcc, hu])
        refine ⟨_, σ, _, hrun, ?_, hq⟩
        refine Rel.self (new := .box (.st (fs.set j (.i u)))) (ver := cv + 1) h (h.wok.setRow hb _) (Mem.le.refl G) hs (Nat.lt_succ_self _) (fun s' hs' => Kept.setRow hb hs' _) (w' := w.setRow b (c1 ++ v.cells.toList ++ c2).toArray) ?_
        · refine ⟨b, _, ty, h1, h2, setRow_heap w b cells _ ty (0, 0) h3, ?_⟩
          show RepFs _ _ _ _ _ _ _
          have := hset (.i u) v.cells.toList hv.cells
          exact RepFs.far (b := b) this (fun k hk e => by rw [h2] at e; cases e; omega) _
      · cases hh
    · exact hq.elim
  · exact hq.elim
end
end Go.Ab
