/- One text of the proof whose last text says what is proved. -/
import Derived.Test.YtbpnhefkfamhaaaAb17
set_option linter.unusedVariables false
set_option linter.unusedSimpArgs false
namespace Go.Ab

/-- An operation or a call, with its guard. -/
inductive Ao where
  | op (g : Option (Nat × Bool)) (i : IOp)
  | call (g : Option (Nat × Bool)) (d : Option Nat) (f : FuncId) (as : List (Bool × Opd))
  | peek (g : Option (Nat × Bool)) (d : Option Nat) (f : FuncId) (as : List (Bool × Opd))
  | dyn (g : Option (Nat × Bool)) (d : Option Nat) (fs : List FuncId) (x : Opd) (as : List (Bool × Opd))
  deriving Inhabited

def guarded (g : Option (Nat × Bool)) (d : Option Nat) (m : M) : M := match g with
  | none => m
  | some (t, want) => .get t fun _ sv => match sv with
    | .v (.bool b) => match want with
      | true => .ite b m (setD d (.tup []) .done)
      | false => .ite b (setD d (.tup []) .done) m
    | .tup [] => setD d (.tup []) .done
    | _ => .fail

def IOp.dst : IOp → Option Nat
  | .mv d _ | .asg d _ | .mov d _ _ _ | .bin d _ _ _ | .not d _ | .neg d _ | .pick d _ _ _ | .load d _ _ _ | .alloc d _ | .box d _ | .faddr d _ _ _ | .iaddr d _ _ _ | .aaddr d _ _ _ _ | .len d _ _ | .slc d _ _ _ _ _ | .sfx d _ _ _ | .s2b d _ _ | .b2s d _ | .mkf d _ _ | .build d _ _
  | .bsl d _ _ _ _ _ | .empty d _ _ | .ext d _ _ | .fld d _ _ _ _ _ | .mm d _ _ _ | .app d _ _ _ _ _ | .eqs d _ _ _ _ | .isnil d _ _ | .sidx d _ _ => some d
  | .store _ _ _ => none
  | .dead d => d
  | .clr d _ _ _ => d

def Ao.sem : Ao → M
  | .op g i => guarded g i.dst i.sem
  | .call g d f as => guarded g d (semCall d f as)
  | .peek g d f as => guarded g d (semPeek d f as)
  | .dyn g d fs x as => guarded g d (semDyn d fs x as)

def gOk (N : Nat) (ops : Array Oper) : Option (Nat × Bool) → Option (Nat × Bool) → Bool
  | none, none => true
  | some (j, b), some (t, b') => b == b' && isSome' ((ops[j]?).bind (·.dst)) t && t < N
  | _, _ => false
def dOk (N : Nat) (d : Option Nat) : Bool := match d with
  | none => true
  | some d => d < N
def chkIO (P : Program) (N : Nat) (ops : Array Oper) (o : Oper) : Ao → Bool
  | .op g i => gOk N ops o.guard g && dOk N o.dst && decide (o.dst = i.dst) && chk P N o i
  | .call g d f as => gOk N ops o.guard g && dOk N o.dst && decide (o.dst = d) && match o.op with
    | .call { callee := .value (.func f'), args, .. } => f' == f && callOk P f && argsOk N args.toList as
    | _ => false
  | .peek g d f as => gOk N ops o.guard g && dOk N o.dst && decide (o.dst = d) && match o.op with
    | .call { callee := .value (.func f'), args, .. } => f' == f && callOk P f && argsOk N args.toList as
    | _ => false
  | .dyn g d fs x as => gOk N ops o.guard g && dOk N o.dst && decide (o.dst = d) && match o.op with
    | .call { callee := .value x', args, .. } => opdOk N x' x && fs.all (callOk P) && argsOk N args.toList as
    | _ => false
def chkL (P : Program) (N : Nat) (ops : Array Oper) : List Oper → List Ao → Bool
  | [], [] => true
  | o :: l, i :: m => chkIO P N ops o i && chkL P N ops l m
  | _, _ => false

def wpIOs (P : Program) : List Ao → (St → Prop) → St → Prop
  | [], Q, st => Q st
  | i :: l, Q, st => i.sem.wp P (wpIOs P l Q) st

section
variable {P : Program} {N : Nat} {G : Mem} {σ : Lab} {Fr : Mem} {w0 : Base} {w : World} {st : St} {a : Act}

theorem guarded_spec {ops : Array Oper} {o : Oper} {g : Option (Nat × Bool)} {m : M} {Q : St → Prop} {next : Act → World → Prop} (hr : Rel G σ Fr w0 st a w) (hg : gOk w0.n ops o.guard g = true) (hd : dOk w0.n o.dst = true)
    (hq : (guarded g o.dst m).wp P Q st) (hn : ∀ G' σ' st' a' w', G.le G' → Rel G' σ' Fr w0 st' a' w' → Q st' → next a' w') :
    (Region.wanted o (yielded ops a.tmps) = true ∧ m.wp P Q st) ∨ (Region.wanted o (yielded ops a.tmps) = false ∧ next (a.put o.dst undef) w) := by
  unfold gOk at hg
  split at hg
  · rename_i hog
    exact .inl ⟨by simp [Region.wanted, hog], hq⟩
  · rename_i j b t b' hog
    simp only [Bool.and_eq_true, beq_iff_eq, decide_eq_true_eq] at hg
    obtain ⟨⟨rfl, h1⟩, h2⟩ := hg
    have h1 := isSome'_eq h1
    simp only [guarded, M.wp] at hq
    cases hs : st[t]? with
    | none => simp [hs] at hq
    | some cur =>
      simp only [hs] at hq
      have skip : (setD o.dst (.tup []) .done).wp P Q st → next (a.put o.dst undef) w := by
        intro hq
        obtain ⟨σ', st', r1, r2⟩ := hr.setD (sv := .tup []) (c := undef) (fun d' hd' => by
          unfold dOk at hd
          rw [hd'] at hd
          simpa using hd) (fun _ _ _ _ => ⟨#[], rfl, rfl⟩) hq
        exact hn _ _ _ _ _ (Mem.le.refl G) r1 r2
      have ht : t < a.tmps.size := by rw [hr.n]; exact h2
      split at hq
      · rename_i bb hcur
        obtain ⟨cv, csv⟩ := cur
        simp only at hcur
        subst hcur
        have hrep : RepV G (.bool bb) (a.eval (.tmp t)) := hr.slot h2 hs
        rw [RepV.bool] at hrep
        have hy : yielded ops a.tmps j = some bb := by
          unfold yielded
          rw [h1]
          have : a.tmps[t]? = some (.bool bb) := by
            rw [Array.getElem?_eq_getElem ht]
            simp [Act.eval, Array.getElem?_eq_getElem ht] at hrep
            rw [hrep]
          simp [this]
        have hw : Region.wanted o (yielded ops a.tmps) = (bb == b) := by
          unfold Region.wanted
          rw [hog]
          simp [hy]
        rw [hw]
        cases b <;> cases bb
        · exact .inl ⟨rfl, hq.2 rfl⟩
        · exact .inr ⟨rfl, skip (hq.1 rfl)⟩
        · exact .inr ⟨rfl, skip (hq.2 rfl)⟩
        · exact .inl ⟨rfl, hq.1 rfl⟩
      · rename_i hcur
        obtain ⟨cv, csv⟩ := cur
        simp only at hcur
        subst hcur
        obtain ⟨ta, ht1, ht2⟩ := (show RepOwn G σ w t (.tup []) (a.eval (.tmp t)) from hr.slot h2 hs)
        have ht2 : ta.toList = [] := ht2
        have hta : ta = #[] := by simpa using ht2
        have hrep : a.eval (.tmp t) = undef := by rw [ht1, hta]; rfl
        have hy : yielded ops a.tmps j = none := by
          unfold yielded
          rw [h1]
          have : a.tmps[t]? = some undef := by
            rw [Array.getElem?_eq_getElem ht]
            simp [Act.eval, Array.getElem?_eq_getElem ht] at hrep
            rw [hrep]
          simp [this, undef]
        have hw : Region.wanted o (yielded ops a.tmps) = false := by
          unfold Region.wanted
          rw [hog]
          simp [hy]
        exact .inr ⟨hw, skip hq⟩
      · exact hq.elim
  · cases hg

/-- One operation's step, guard and all. -/
theorem io_step {ops : Array Oper} {o : Oper} {i : Ao} {Q : St → Prop} {next : Act → World → Prop} {E : Exit → Act → World → Prop} (h1 : chkIO P w0.n ops o i = true) (hr : Rel G σ Fr w0 st a w) (hq : i.sem.wp P Q st)
    (hn : ∀ G' σ' st' a' w', G.le G' → Rel G' σ' Fr w0 st' a' w' → Q st' → next a' w') :
    if Region.wanted o (yielded ops a.tmps) then o.wp P a w next E ∨ (o.asks P a w ∧ LetsOut E) else next (a.put o.dst undef) w := by
  have hdst : dOk w0.n o.dst = true → ∀ d, o.dst = some d → d < w0.n := by
    intro h d hd
    unfold dOk at h
    rw [hd] at h
    simpa using h
  have fin : ∀ {g : Option (Nat × Bool)} {mm : M}, gOk w0.n ops o.guard g = true → dOk w0.n o.dst = true → (guarded g o.dst mm).wp P Q st → Sound P w0.n o mm →
      if Region.wanted o (yielded ops a.tmps) then o.wp P a w next E ∨ (o.asks P a w ∧ LetsOut E) else next (a.put o.dst undef) w := by
    intro g mm hg hd hq' hs
    rcases guarded_spec hr hg hd hq' hn with ⟨k1, k2⟩ | ⟨k1, k2⟩
    · rw [if_pos k1]
      exact .inl (hs G σ Fr w0 st a w _ _ _ rfl hr k2 hn (hdst hd))
    · rw [if_neg (by rw [k1]; decide)]
      exact k2
  cases i with
  | op g i =>
    simp only [chkIO, Bool.and_eq_true, decide_eq_true_eq] at h1
    obtain ⟨⟨⟨h3, h4⟩, h5⟩, h6⟩ := h1
    simp only [Ao.sem] at hq
    rw [← h5] at hq
    exact fin h3 h4 hq (chk_sound h6)
  | call g d f as =>
    simp only [chkIO, Bool.and_eq_true, decide_eq_true_eq] at h1
    obtain ⟨⟨⟨h3, h4⟩, h5⟩, h6⟩ := h1
    simp only [Ao.sem] at hq
    rw [← h5] at hq
    split at h6
    · rename_i ho
      simp only [Bool.and_eq_true, beq_iff_eq] at h6
      obtain ⟨⟨rfl, h7⟩, h8⟩ := h6
      exact fin h3 h4 hq (sound_call ho h7 h8)
    · cases h6
  | peek g d f as =>
    simp only [chkIO, Bool.and_eq_true, decide_eq_true_eq] at h1
    obtain ⟨⟨⟨h3, h4⟩, h5⟩, h6⟩ := h1
    simp only [Ao.sem] at hq
    rw [← h5] at hq
    split at h6
    · rename_i ho
      simp only [Bool.and_eq_true, beq_iff_eq] at h6
      obtain ⟨⟨rfl, h7⟩, h8⟩ := h6
      exact fin h3 h4 hq (sound_peek ho h7 h8)
    · cases h6
  | dyn g d fs x as =>
    simp only [chkIO, Bool.and_eq_true, decide_eq_true_eq] at h1
    obtain ⟨⟨⟨h3, h4⟩, h5⟩, h6⟩ := h1
    simp only [Ao.sem] at hq
    rw [← h5] at hq
    split at h6
    · rename_i ho
      simp only [Bool.and_eq_true] at h6
      obtain ⟨⟨h7, h8⟩, h9⟩ := h6
      exact fin h3 h4 hq (sound_dyn ho h7 h8 h9)
    · cases h6

theorem ops_sound {ops : Array Oper} {Qx : Exit → Act → World → Prop} : ∀ {l : List Oper} {m : List Ao} {Q : St → Prop} {G : Mem} {σ : Lab} {st : St} {a : Act} {w : World},
    chkL P w0.n ops l m = true → Rel G σ Fr w0 st a w → wpIOs P m Q st → (∀ G' σ' st' a' w', G.le G' → Rel G' σ' Fr w0 st' a' w' → Q st' → Qx .normal a' w') → wpList P ops Qx l a w
  | [], [], Q, G, σ, st, a, w, _, hr, hq, hn => hn G σ st a w (Mem.le.refl G) hr hq
  | o :: l, i :: m, Q, G, σ, st, a, w, hc, hr, hq, hn => by
    simp only [chkL, Bool.and_eq_true] at hc
    obtain ⟨h1, h2⟩ := hc
    unfold wpList
    exact io_step h1 hr hq fun G' σ' st' a' w' hG hr' hq' => ops_sound h2 hr' hq' fun G'' σ'' st'' a'' w'' hG' => hn G'' σ'' st'' a'' w'' (hG.trans hG')
  | [], _ :: _, _, _, _, _, _, _, hc, _, _, _ => by cases hc
  | _ :: _, [], _, _, _, _, _, _, hc, _, _, _ => by simp [chkL] at hc
end
end Go.Ab
