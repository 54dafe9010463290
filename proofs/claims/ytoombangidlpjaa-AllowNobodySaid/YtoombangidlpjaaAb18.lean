/- One text of the proof whose last text says what is proved. -/
import Derived.Test.YtoombangidlpjaaAb17
import Derived.Orders
set_option linter.unusedVariables false
set_option linter.unusedSimpArgs false
namespace Go.Ab

/-- An operation or a call, with its guard. -/
inductive Ao where
  | op (g : Option (Nat × Bool)) (i : IOp)
  | call (g : Option (Nat × Bool)) (d : Option Nat) (f : FuncId) (as : List (Bool × Opd))
  | peek (g : Option (Nat × Bool)) (d : Option Nat) (f : FuncId) (as : List (Bool × Opd))
  | dyn (g : Option (Nat × Bool)) (d : Option Nat) (fs : List FuncId) (x : Opd) (as : List (Bool × Opd))
  deriving Inhabited

def guarded (g : Option (Nat × Bool)) (d : Option Nat) (m : M) : M := match g with
  | none => m
  | some (t, want) => .get t fun _ sv => match sv with
    | .v (.bool b) => match want with
      | true => .ite b m (setD d (.tup []) .done)
      | false => .ite b (setD d (.tup []) .done) m
    | .tup [] => setD d (.tup []) .done
    | _ => .fail

def IOp.dst : IOp → Option Nat
  | .mv d _ | .asg d _ | .mov d _ _ _ | .bin d _ _ _ | .not d _ | .neg d _ | .pick d _ _ _ | .load d _ _ _ | .alloc d _ | .box d _ | .faddr d _ _ _ | .iaddr d _ _ _ | .aaddr d _ _ _ _ | .len d _ _ | .slc d _ _ _ _ _ | .sfx d _ _ _ | .s2b d _ _ | .b2s d _ | .mkf d _ _ | .build d _ _
  | .bsl d _ _ _ _ _ | .bslD d _ _ _ _ _ | .buildD d _ _ | .boxD d _ | .allocD d _ | .loadF d _ _ _ | .bits d _ _ _ | .compl d _ | .conv d _ _ | .make d _ _ _ _ _ | .appB d _ _ _ _ _ _ | .empty d _ _ | .ext d _ _ | .fld d _ _ _ _ _ | .mm d _ _ _ | .app d _ _ _ _ _ | .eqs d _ _ _ _ | .isnil d _ _ | .sidx d _ _ => some d
  | .store _ _ _ => none
  | .dead d => d
  | .clr d _ _ _ => d

def Ao.sem : Ao → M
  | .op g i => guarded g i.dst i.sem
  | .call g d f as => guarded g d (semCall d f as)
  | .peek g d f as => guarded g d (semPeek d f as)
  | .dyn g d fs x as => guarded g d (semDyn d fs x as)

def gOk (N : Nat) (ops : Array Oper) : Option (Nat × Bool) → Option (Nat × Bool) → Bool
  | none, none => true
  | some (j, b), some (t, b') => b == b' && isSome' ((ops[j]?).bind (·.dst)) t && t < N
  | _, _ => false
def dOk (N : Nat) (d : Option Nat) : Bool := match d with
  | none => true
  | some d => d < N
def chkIO (P : Program) (N : Nat) (ops : Array Oper) (o : Oper) : Ao → Bool
  | .op g i => gOk N ops o.guard g && dOk N o.dst && decide (o.dst = i.dst) && chk P N o i
  | .call g d f as => gOk N ops o.guard g && dOk N o.dst && decide (o.dst = d) && match o.op with
    | .call { callee := .value (.func f'), args, .. } => f' == f && callOk P f && argsOk N args.toList as
    | _ => false
  | .peek g d f as => gOk N ops o.guard g && dOk N o.dst && decide (o.dst = d) && match o.op with
    | .call { callee := .value (.func f'), args, .. } => f' == f && callOk P f && argsOk N args.toList as
    | _ => false
  | .dyn g d fs x as => gOk N ops o.guard g && dOk N o.dst && decide (o.dst = d) && match o.op with
    | .call { callee := .value x', args, .. } => opdOk N x' x && fs.all (callOk P) && argsOk N args.toList as
    | _ => false
def chkL (P : Program) (N : Nat) (ops : Array Oper) : List Oper → List Ao → Bool
  | [], [] => true
  | o :: l, i :: m => chkIO P N ops o i && chkL P N ops l m
  | _, _ => false

def wpIOs (P : Program) : List Ao → (St → Prop) → St → Prop
  | [], Q, st => Q st
  | i :: l, Q, st => i.sem.wp P (wpIOs P l Q) st

section
variable {P : Program} {N : Nat} {G : Mem} {σ : Lab} {Fr : Mem} {w0 : Base} {w : World} {st : St} {a : Act}

theorem guarded_spec {ops : Array Oper} {o : Oper} {g : Option (Nat × Bool)} {m : M} {Q : St → Prop} {next : Act → World → Prop} (hr : Rel G σ Fr w0 st a w) (hg : gOk w0.n ops o.guard g = true) (hd : dOk w0.n o.dst = true)
    (hq : (guarded g o.dst m).wp P Q st) (hn : ∀ G' σ' st' a' w', G.le G' → Rel G' σ' Fr w0 st' a' w' → Q st' → next a' w') :
    (Region.wanted o (yielded ops a.tmps) = true ∧ m.wp P Q st) ∨ (Region.wanted o (yielded ops a.tmps) = false ∧ next (a.put o.dst undef) w) := by
  unfold gOk at hg
  split at hg
  · rename_i hog
    exact .inl ⟨by simp [Region.wanted, hog], hq⟩
  · rename_i j b t b' hog
    simp only [Bool.and_eq_true, beq_iff_eq, decide_eq_true_eq] at hg
    obtain ⟨⟨rfl, h1⟩, h2⟩ := hg
    have h1 := isSome'_eq h1
    simp only [guarded, M.wp] at hq
    cases hs : st[t]? with
    | none => simp [hs] at hq
    | some cur =>
      simp only [hs] at hq
      have skip : (setD o.dst (.tup []) .done).wp P Q st → next (a.put o.dst undef) w := by
        intro hq
        obtain ⟨σ', st', r1, r2⟩ := hr.setD (sv := .tup []) (c := undef) (fun d' hd' => by
          unfold dOk at hd
          rw [hd'] at hd
          simpa using hd) (fun _ _ _ _ => ⟨#[], rfl, rfl⟩) hq
        exact hn _ _ _ _ _ (Mem.le.refl G) r1 r2
      have ht : t < a.tmps.size := by rw [hr.n]; exact h2
      split at hq
      · rename_i bb hcur
        obtain ⟨cv, csv⟩ := cur
        simp only at hcur
        subst hcur
        have hrep : RepV G (.bool bb) (a.eval (.tmp t)) := hr.slot h2 hs
        rw [RepV.bool] at hrep
        have hy : yielded ops a.tmps j = some bb := by
          unfold yielded
          rw [h1]
          have : a.tmps[t]? = some (.bool bb) := by
            rw [Array.getElem?_eq_getElem ht]
            simp [Act.eval, Array.getElem?_eq_getElem ht] at hrep
            rw [hrep]
          simp [this]
        have hw : Region.wanted o (yielded ops a.tmps) = (bb == b) := by
          unfold Region.wanted
          rw [hog]
          simp [hy]
        rw [hw]
        cases b <;> cases bb
        · exact .inl ⟨rfl, hq.2 rfl⟩
        · exact .inr ⟨rfl, skip (hq.1 rfl)⟩
        · exact .inr ⟨rfl, skip (hq.2 rfl)⟩
        · exact .inl ⟨rfl, hq.1 rfl⟩
      · rename_i hcur
        obtain ⟨cv, csv⟩ := cur
        simp only at hcur
        subst hcur
        obtain ⟨ta, ht1, ht2⟩ := (show RepOwn G σ w t (.tup []) (a.eval (.tmp t)) from hr.slot h2 hs)
        have ht2 : ta.toList = [] := ht2
        have hta : ta = #[] := by simpa using ht2
        have hrep : a.eval (.tmp t) = undef := by rw [ht1, hta]; rfl
        have hy : yielded ops a.tmps j = none := by
          unfold yielded
          rw [h1]
          have : a.tmps[t]? = some undef := by
            rw [Array.getElem?_eq_getElem ht]
            simp [Act.eval, Array.getElem?_eq_getElem ht] at hrep
            rw [hrep]
          simp [this, undef]
        have hw : Region.wanted o (yielded ops a.tmps) = false := by
          unfold Region.wanted
          rw [hog]
          simp [hy]
        exact .inr ⟨hw, skip hq⟩
      · exact hq.elim
  · cases hg

/-- One operation's step, guard and all. -/
theorem io_step {ops : Array Oper} {o : Oper} {i : Ao} {Q : St → Prop} {next : Act → World → Prop} {E : Exit → Act → World → Prop} (h1 : chkIO P w0.n ops o i = true) (hr : Rel G σ Fr w0 st a w) (hq : i.sem.wp P Q st)
    (hn : ∀ G' σ' st' a' w', G.le G' → Rel G' σ' Fr w0 st' a' w' → Q st' → next a' w') :
    if Region.wanted o (yielded ops a.tmps) then o.wp P a w next E ∨ (o.asks P a w ∧ LetsOut E) else next (a.put o.dst undef) w := by
  have hdst : dOk w0.n o.dst = true → ∀ d, o.dst = some d → d < w0.n := by
    intro h d hd
    unfold dOk at h
    rw [hd] at h
    simpa using h
  have fin : ∀ {g : Option (Nat × Bool)} {mm : M}, gOk w0.n ops o.guard g = true → dOk w0.n o.dst = true → (guarded g o.dst mm).wp P Q st → Sound P w0.n o mm →
      if Region.wanted o (yielded ops a.tmps) then o.wp P a w next E ∨ (o.asks P a w ∧ LetsOut E) else next (a.put o.dst undef) w := by
    intro g mm hg hd hq' hs
    rcases guarded_spec hr hg hd hq' hn with ⟨k1, k2⟩ | ⟨k1, k2⟩
    · rw [if_pos k1]
      exact .inl (hs G σ Fr w0 st a w _ _ _ rfl hr k2 hn (hdst hd))
    · rw [if_neg (by rw [k1]; decide)]
      exact k2
  cases i with
  | op g i =>
    simp only [chkIO, Bool.and_eq_true, decide_eq_true_eq] at h1
    obtain ⟨⟨⟨h3, h4⟩, h5⟩, h6⟩ := h1
    simp only [Ao.sem] at hq
    rw [← h5] at hq
    exact fin h3 h4 hq (chk_sound h6)
  | call g d f as =>
    simp only [chkIO, Bool.and_eq_true, decide_eq_true_eq] at h1
    obtain ⟨⟨⟨h3, h4⟩, h5⟩, h6⟩ := h1
    simp only [Ao.sem] at hq
    rw [← h5] at hq
    split at h6
    · rename_i ho
      simp only [Bool.and_eq_true, beq_iff_eq] at h6
      obtain ⟨⟨rfl, h7⟩, h8⟩ := h6
      exact fin h3 h4 hq (sound_call ho h7 h8)
    · cases h6
  | peek g d f as =>
    simp only [chkIO, Bool.and_eq_true, decide_eq_true_eq] at h1
    obtain ⟨⟨⟨h3, h4⟩, h5⟩, h6⟩ := h1
    simp only [Ao.sem] at hq
    rw [← h5] at hq
    split at h6
    · rename_i ho
      simp only [Bool.and_eq_true, beq_iff_eq] at h6
      obtain ⟨⟨rfl, h7⟩, h8⟩ := h6
      exact fin h3 h4 hq (sound_peek ho h7 h8)
    · cases h6
  | dyn g d fs x as =>
    simp only [chkIO, Bool.and_eq_true, decide_eq_true_eq] at h1
    obtain ⟨⟨⟨h3, h4⟩, h5⟩, h6⟩ := h1
    simp only [Ao.sem] at hq
    rw [← h5] at hq
    split at h6
    · rename_i ho
      simp only [Bool.and_eq_true] at h6
      obtain ⟨⟨h7, h8⟩, h9⟩ := h6
      exact fin h3 h4 hq (sound_dyn ho h7 h8 h9)
    · cases h6

theorem ops_sound {ops : Array Oper} {Qx : Exit → Act → World → Prop} : ∀ {l : List Oper} {m : List Ao} {Q : St → Prop} {G : Mem} {σ : Lab} {st : St} {a : Act} {w : World},
    chkL P w0.n ops l m = true → Rel G σ Fr w0 st a w → wpIOs P m Q st → (∀ G' σ' st' a' w', G.le G' → Rel G' σ' Fr w0 st' a' w' → Q st' → Qx .normal a' w') → wpList P ops Qx l a w
  | [], [], Q, G, σ, st, a, w, _, hr, hq, hn => hn G σ st a w (Mem.le.refl G) hr hq
  | o :: l, i :: m, Q, G, σ, st, a, w, hc, hr, hq, hn => by
    simp only [chkL, Bool.and_eq_true] at hc
    obtain ⟨h1, h2⟩ := hc
    unfold wpList
    exact io_step h1 hr hq fun G' σ' st' a' w' hG hr' hq' => ops_sound h2 hr' hq' fun G'' σ'' st'' a'' w'' hG' => hn G'' σ'' st'' a'' w'' (hG.trans hG')
  | [], _ :: _, _, _, _, _, _, _, hc, _, _, _ => by cases hc
  | _ :: _, [], _, _, _, _, _, _, hc, _, _, _ => by simp [chkL] at hc
end
end Go.Ab

namespace Go.Ab

/-- A call whose answer is this one and no other. -/
def Is (r0 : SV) (as0 : List SV) (r : SV) (as : List SV) : Prop := r = r0 ∧ as = as0
/-- A call within operations whose order is drawn, as the walk stops at it. -/
structure CallIs (P : Program) (f : FuncId) (args : List SV) (K : SV → List SV → Prop) : Prop where
  out : ∃ r0 as0, Fn P f args (Is r0 as0) ∧ K r0 as0

abbrev Log := List (Nat × (Nat × SV))
/-- What is written, the last one first. -/
def play1 : Log → St → St
  | [], st => st
  | (i, c) :: r, st => (play1 r st).set i c

/-- What is read of a slot: all of it, or what a look at it shows. -/
inductive Rd where
  | all (i : Nat)
  | prj (i : Nat) (f : Nat → SV → Nat × SV) (o : Nat × SV)
def Rd.slot : Rd → Nat
  | .all i => i
  | .prj i _ _ => i
def Rd.Agree (r : Rd) (st' st : St) : Prop := match r with
  | .all i => st'[i]? = st[i]?
  | .prj i f o => ∃ cur, st'[i]? = some cur ∧ f cur.1 cur.2 = o
def fulls : List Rd → List Nat
  | [] => []
  | .all i :: r => i :: fulls r
  | .prj _ _ _ :: r => fulls r
def alls (R : List Rd) : List Nat := R.map Rd.slot
theorem fulls_mem : ∀ {R : List Rd} {i : Nat}, Rd.all i ∈ R → i ∈ fulls R
  | .all j :: r, i, h => by
    simp only [fulls, List.mem_cons]
    rcases List.mem_cons.1 h with h | h
    · cases h; exact .inl rfl
    · exact .inr (fulls_mem h)
  | .prj _ _ _ :: r, i, h => by
    rcases List.mem_cons.1 h with h | h
    · cases h
    · exact fulls_mem (R := r) h
def slots (L : Log) : List Nat := L.map (·.1)

/-- As 'wp', with a record: the slots read, what is written, what is known. -/
def M.wr (P : Program) : M → (St → List Rd → Log → List Prop → Prop) → St → List Rd → Log → List Prop → Prop
  | .get i k, K, st, R, L, F => st[i]? ≠ none ∧ ∀ cur, st[i]? = some cur → (k cur.1 cur.2).wr P K st (.all i :: R) L F
  | .getp i f k, K, st, R, L, F => st[i]? ≠ none ∧ ∀ cur, st[i]? = some cur → (k (f cur.1 cur.2).1 (f cur.1 cur.2).2).wr P K st ((match (slots L).contains i with | true => .all i | false => .prj i f (f cur.1 cur.2)) :: R) L F
  | .set i ver sv k, K, st, R, L, F => k.wr P K (st.set i (ver, sv)) R ((i, (ver, sv)) :: L) F
  | .done, K, st, R, L, F => K st R L F
  | .chk _, _, _, _, _, _ => False
  | .fail, _, _, _, _, _ => False
  | .need p k, K, st, R, L, F => ∃ h : p, (k h).wr P K st R L F
  | .all _ _, _, _, _, _, _ => False
  | .fact p k, K, st, R, L, F => k.wr P K st R L (p :: F)
  | .ite b x y, K, st, R, L, F => (b = true → x.wr P K st R L F) ∧ (b = false → y.wr P K st R L F)
  | .call f args k, K, st, R, L, F => CallIs P f args fun r as => (k r as).wr P K st R L F

theorem play1_get {L : Log} {x : Nat} : ∀ {st st' : St}, st[x]? = st'[x]? → (play1 L st)[x]? = (play1 L st')[x]? := by
  induction L with
  | nil => intro st st' h; exact h
  | cons p L ih =>
    intro st st' h
    obtain ⟨i, c⟩ := p
    simp only [play1, List.getElem?_set']
    rw [ih h]
theorem play1_off {L : Log} {x : Nat} (h : x ∉ slots L) : ∀ {st : St}, (play1 L st)[x]? = st[x]? := by
  induction L with
  | nil => intro st; rfl
  | cons p L ih =>
    intro st
    obtain ⟨i, c⟩ := p
    simp only [slots, List.map_cons, List.mem_cons, not_or] at h
    simp only [play1]
    rw [List.getElem?_set_ne (fun e => h.1 e.symm)]
    exact ih h.2
theorem play1_comm {L L' : Log} (h : ∀ x ∈ slots L, x ∉ slots L') (st : St) : play1 L (play1 L' st) = play1 L' (play1 L st) := by
  apply List.ext_getElem?
  intro x
  by_cases hx : x ∈ slots L
  · rw [play1_off (h x hx)]
    exact play1_get (play1_off (h x hx))
  · rw [play1_off hx]
    exact (play1_get (play1_off hx)).symm

/-- What is recorded of one operation. -/
structure Rec where
  R : List Rd
  L : Log
  F : List Prop

/-- The record tells what the operation does from any state that agrees with it. -/
def Local (P : Program) (m : M) (st : St) (d : Rec) : Prop :=
  ∀ st' : St, (∀ x ∈ d.R, x.Agree st' st) → m.wp P (fun st2 => st2 = play1 d.L st' ∧ ∀ p ∈ d.F, p) st'

theorem M.wr_spec {P : Program} {K : St → List Rd → Log → List Prop → Prop} : ∀ {m : M} {st0 : St} {R : List Rd} {L : Log} {F : List Prop}, m.wr P K (play1 L st0) R L F →
    ∃ R' L' F', K (play1 L' st0) R' L' F' ∧ (∀ x ∈ R, x ∈ R') ∧ (∀ p ∈ F, p ∈ F') ∧ (∀ x ∈ R', x ∈ R ∨ x.Agree st0 st0) ∧
      ∀ st' : St, (∀ x ∈ R', x.Agree st' st0) → (∀ p ∈ F, p) → m.wp P (fun st2 => st2 = play1 L' st' ∧ ∀ p ∈ F', p) (play1 L st') := by
  intro m
  induction m with
  | get i k ih =>
    intro st0 R L F h
    obtain ⟨h1, h2⟩ := h
    cases hc : (play1 L st0)[i]? with
    | none => exact absurd hc h1
    | some cur =>
      obtain ⟨R', L', F', g1, g2, g3, g5, g4⟩ := ih _ _ (h2 cur hc)
      refine ⟨R', L', F', g1, fun x hx => g2 x (List.mem_cons_of_mem _ hx), g3, fun x hx => ?_, ?_⟩
      · rcases g5 x hx with h | h
        · rcases List.mem_cons.1 h with rfl | h
          · exact .inr rfl
          · exact .inl h
        · exact .inr h
      intro st' ha hF
      have : (play1 L st')[i]? = some cur := by rw [← hc]; exact play1_get (show st'[i]? = st0[i]? from ha (.all i) (g2 _ (List.mem_cons_self ..)))
      simp only [M.wp, this]
      exact g4 st' ha hF
  | getp i f k ih =>
    intro st0 R L F h
    obtain ⟨h1, h2⟩ := h
    cases hc : (play1 L st0)[i]? with
    | none => exact absurd hc h1
    | some cur =>
      obtain ⟨R', L', F', g1, g2, g3, g5, g4⟩ := ih _ _ (h2 cur hc)
      refine ⟨R', L', F', g1, fun x hx => g2 x (List.mem_cons_of_mem _ hx), g3, fun x hx => ?_, ?_⟩
      · rcases g5 x hx with h | h
        · rcases List.mem_cons.1 h with rfl | h
          · right
            cases hcl : (slots L).contains i with
            | true => exact rfl
            | false =>
              refine ⟨cur, ?_, rfl⟩
              rw [← hc, play1_off]
              intro hmem
              rw [List.contains_iff_mem.2 hmem] at hcl
              cases hcl
          · exact .inl h
        · exact .inr h
      intro st' ha hF
      have hm := g2 _ (List.mem_cons_self ..)
      have : ∃ cur', (play1 L st')[i]? = some cur' ∧ f cur'.1 cur'.2 = f cur.1 cur.2 := by
        cases hcl : (slots L).contains i with
        | true =>
          rw [hcl] at hm
          exact ⟨cur, by rw [← hc]; exact play1_get (show st'[i]? = st0[i]? from ha (.all i) hm), rfl⟩
        | false =>
          rw [hcl] at hm
          obtain ⟨cur', k1, k2⟩ := ha _ hm
          refine ⟨cur', ?_, k2⟩
          rw [play1_off]
          · exact k1
          · intro hmem
            rw [List.contains_iff_mem.2 hmem] at hcl
            cases hcl
      obtain ⟨cur', k1, k2⟩ := this
      simp only [M.wp, k1]
      have k3 : (f cur'.1 cur'.2).1 = (f cur.1 cur.2).1 := by rw [k2]
      have k4 : (f cur'.1 cur'.2).2 = (f cur.1 cur.2).2 := by rw [k2]
      rw [k3, k4]
      exact g4 st' ha hF
  | set i ver sv k ih =>
    intro st0 R L F h
    obtain ⟨R', L', F', g1, g2, g3, g5, g4⟩ := ih (L := (i, (ver, sv)) :: L) (st0 := st0) h
    exact ⟨R', L', F', g1, g2, g3, g5, fun st' ha hF => g4 st' ha hF⟩
  | done => intro st0 R L F h; exact ⟨R, L, F, h, fun _ h => h, fun _ h => h, fun _ h => .inl h, fun st' _ hF => ⟨rfl, hF⟩⟩
  | chk p => intro st0 R L F h; exact h.elim
  | fail => intro st0 R L F h; exact h.elim
  | need p k ih =>
    intro st0 R L F ⟨h1, h2⟩
    obtain ⟨R', L', F', g1, g2, g3, g5, g4⟩ := ih h1 h2
    exact ⟨R', L', F', g1, g2, g3, g5, fun st' ha hF => ⟨h1, g4 st' ha hF⟩⟩
  | all p k ih => intro st0 R L F h; exact h.elim
  | fact p k ih =>
    intro st0 R L F h
    obtain ⟨R', L', F', g1, g2, g3, g5, g4⟩ := ih h
    refine ⟨R', L', F', g1, g2, fun q hq => g3 q (List.mem_cons_of_mem _ hq), g5, fun st' ha hF hp => g4 st' ha ?_⟩
    intro q hq
    rcases List.mem_cons.mp hq with rfl | hq
    · exact hp
    · exact hF q hq
  | ite b x y ihx ihy =>
    intro st0 R L F ⟨h1, h2⟩
    cases b with
    | true =>
      obtain ⟨R', L', F', g1, g2, g3, g5, g4⟩ := ihx (h1 rfl)
      exact ⟨R', L', F', g1, g2, g3, g5, fun st' ha hF => ⟨fun _ => g4 st' ha hF, fun hb => by cases hb⟩⟩
    | false =>
      obtain ⟨R', L', F', g1, g2, g3, g5, g4⟩ := ihy (h2 rfl)
      exact ⟨R', L', F', g1, g2, g3, g5, fun st' ha hF => ⟨fun hb => (by cases hb), fun _ => g4 st' ha hF⟩⟩
  | call f args k ih =>
    intro st0 R L F ⟨r0, as0, h1, h2⟩
    obtain ⟨R', L', F', g1, g2, g3, g5, g4⟩ := ih r0 as0 h2
    refine ⟨R', L', F', g1, g2, g3, g5, fun st' ha hF => ⟨Is r0 as0, h1, ?_⟩⟩
    rintro r as ⟨rfl, rfl⟩
    exact g4 st' ha hF

/-- Operations whose order is drawn: walked in the text's order, with a record. -/
def wrIOs (P : Program) : List Ao → (List Rec → St → Prop) → List Rec → St → Prop
  | [], K, ds, st => K ds st
  | i :: l, K, ds, st => i.sem.wr P (fun st' R L F => wrIOs P l K (ds ++ [⟨R, L, F⟩]) st') st [] [] []

/-- What the records come to, where those of 'b' are done. -/
def playL (b : Nat → Bool) : Nat → List Rec → St → St
  | _, [], st => st
  | k, d :: ds, st => playL b (k + 1) ds (if b k then play1 d.L st else st)

theorem playL_agree {b b' : Nat → Bool} {x : Nat} : ∀ {ds : List Rec} {k : Nat} {st st' : St}, st[x]? = st'[x]? → (∀ j d, ds[j]? = some d → b (k + j) = b' (k + j) ∨ x ∉ slots d.L) →
    (playL b k ds st)[x]? = (playL b' k ds st')[x]?
  | [], k, st, st', h, _ => h
  | d :: ds, k, st, st', h, hd => by
    refine playL_agree (ds := ds) ?_ fun j d' hj => by
      have := hd (j + 1) d' hj
      rwa [show k + (j + 1) = k + 1 + j by omega] at this
    rcases hd 0 d rfl with h1 | h1
    · simp only [Nat.add_zero] at h1
      rw [h1]
      split
      · exact play1_get h
      · exact h
    · have : ∀ (c : Bool) (s : St), (if c then play1 d.L s else s)[x]? = s[x]? := by
        intro c s
        cases c
        · rfl
        · exact play1_off h1
      rw [this, this, h]
theorem playL_take {b : Nat → Bool} : ∀ {ds : List Rec} {n k : Nat} {st : St}, playL (fun j => b j && decide (j < k + n)) k ds st = playL b k (ds.take n) st
  | [], n, k, st => by simp [playL]
  | d :: ds, 0, k, st => by
    simp only [playL, Nat.add_zero, Nat.lt_irrefl, decide_false, Bool.and_false, List.take_zero]
    have aux : ∀ (ds : List Rec) (k' : Nat) (s : St), k ≤ k' → playL (fun j => b j && decide (j < k)) k' ds s = s := by
      intro ds
      induction ds with
      | nil => intro _ _ _; rfl
      | cons d ds ih =>
        intro k' s hk
        simp only [playL]
        rw [ih _ _ (by omega)]
        simp [show ¬ k' < k by omega]
    exact aux ds (k + 1) st (by omega)
  | d :: ds, n + 1, k, st => by
    simp only [playL, List.take_succ_cons]
    rw [← playL_take (ds := ds) (n := n) (k := k + 1)]
    simp only [show k < k + (n + 1) by omega, decide_true, Bool.and_true, show k + 1 + n = k + (n + 1) by omega]
theorem playL_snoc {b : Nat → Bool} {d : Rec} : ∀ {ds : List Rec} {k : Nat} {st : St}, playL b k (ds ++ [d]) st = if b (k + ds.length) then play1 d.L (playL b k ds st) else playL b k ds st
  | [], k, st => by simp [playL]
  | e :: ds, k, st => by
    simp only [List.cons_append, playL, List.length_cons]
    rw [playL_snoc (ds := ds), show k + 1 + ds.length = k + (ds.length + 1) by omega]
theorem playL_congr {b b' : Nat → Bool} : ∀ {ds : List Rec} {k : Nat} {st : St}, (∀ j, j < ds.length → b (k + j) = b' (k + j)) → playL b k ds st = playL b' k ds st
  | [], _, _, _ => rfl
  | d :: ds, k, st, h => by
    have h0 := h 0 (by simp)
    simp only [Nat.add_zero] at h0
    simp only [playL, h0]
    exact playL_congr (ds := ds) fun j hj => by
      have := h (j + 1) (by simpa using hj)
      rwa [show k + (j + 1) = k + 1 + j by omega] at this

theorem playL_add {b : Nat → Bool} {ds : List Rec} {i : Nat} {d : Rec} {st : St} (hd : ds[i]? = some d) (hb : b i = false)
    (hx : ∀ j e, i < j → ds[j]? = some e → b j = true → ∀ x ∈ slots d.L, x ∉ slots e.L) :
    playL (fun j => b j || j == i) 0 ds st = play1 d.L (playL b 0 ds st) := by
  apply List.ext_getElem?
  intro x
  by_cases h : x ∈ slots d.L
  · have hi : i < ds.length := (List.getElem?_eq_some_iff.1 hd).1
    have e1 : (playL (fun j => b j || j == i) 0 ds st)[x]? = (playL (fun j => (b j || j == i) && decide (j < 0 + (i + 1))) 0 ds st)[x]? := by
      refine playL_agree rfl fun j e hj => ?_
      by_cases hj' : j < i + 1
      · left; simp [hj']
      · by_cases hbj : b j = true
        · exact .inr (hx j e (by omega) hj hbj x h)
        · left
          simp at hbj
          simp [hbj, show ¬ j = i by omega]
    have e2 : (playL b 0 ds st)[x]? = (playL (fun j => b j && decide (j < 0 + i)) 0 ds st)[x]? := by
      refine playL_agree rfl fun j e hj => ?_
      by_cases hj' : j < i
      · left; simp [hj']
      · by_cases hbj : b j = true
        · by_cases hij : j = i
          · subst hij; rw [hb] at hbj; cases hbj
          · exact .inr (hx j e (by omega) hj hbj x h)
        · left
          simp at hbj
          simp [hbj]
    rw [e1, playL_take, play1_get e2, playL_take]
    have e3 : ds.take (i + 1) = ds.take i ++ [d] := by rw [List.take_add_one, hd]; rfl
    rw [e3, playL_snoc]
    have e4 : 0 + (ds.take i).length = i := by simp; omega
    rw [e4]
    simp only [beq_self_eq_true, Bool.or_true, if_true]
    refine play1_get ?_
    rw [playL_congr]
    intro j hj
    simp at hj
    simp
    omega
  · rw [play1_off h]
    refine playL_agree rfl fun j e hj => ?_
    by_cases hij : j = i
    · subst hij
      rw [hd] at hj
      cases hj
      exact .inr h
    · left; simp [hij]

/-- What must have been done ahead of each, as bits. -/
def masks : List (List Nat) → List Nat → List Nat
  | [], acc => acc
  | e :: r, acc => masks r (acc ++ [e.foldl (fun s j => s ||| 2 ^ j ||| acc.getD j 0) 0])
/-- 'j' is done where all that is asked of 'e' is. -/
def Covers (es : List (List Nat)) (e : List Nat) (j : Nat) : Prop := ∀ b : Nat → Bool, (∀ i l, es[i]? = some l → b i = true → ∀ k ∈ l, b k = true) → (∀ k ∈ e, b k = true) → b j = true
theorem masks_spec {es : List (List Nat)} : ∀ {r pre : List (List Nat)} {acc : List Nat}, es = pre ++ r → acc.length = pre.length →
    (∀ (i : Nat) e (m : Nat), pre[i]? = some e → acc[i]? = some m → ∀ j, m.testBit j = true → Covers es e j) →
    ∀ (i : Nat) e (m : Nat), es[i]? = some e → (masks r acc)[i]? = some m → ∀ j, m.testBit j = true → Covers es e j
  | [], pre, acc, h, hl, ha => by
    simp only [List.append_nil] at h
    subst h
    exact ha
  | e :: r, pre, acc, h, hl, ha => by
    refine masks_spec (r := r) (pre := pre ++ [e]) (by rw [h]; simp) (by simp [hl]) ?_
    intro i e' m h1 h2 j hj
    by_cases hi : i < pre.length
    · rw [List.getElem?_append_left hi] at h1
      rw [List.getElem?_append_left (by omega)] at h2
      exact ha i e' m h1 h2 j hj
    · have hi' : i = pre.length := by
        have := (List.getElem?_eq_some_iff.1 h1).1
        simp at this
        omega
      subst hi'
      rw [← hl, List.getElem?_concat_length] at h2
      rw [List.getElem?_concat_length] at h1
      cases h1
      cases h2
      have aux : ∀ (l : List Nat) (s : Nat), (∀ j, s.testBit j = true → Covers es e j) → (∀ k ∈ l, k ∈ e) → ∀ j, (l.foldl (fun s j => s ||| 2 ^ j ||| acc.getD j 0) s).testBit j = true → Covers es e j := by
        intro l
        induction l with
        | nil => intro s hs _ j hj; exact hs j hj
        | cons k l ih =>
          intro s hs hl' j hj
          refine ih _ ?_ (fun k hk => hl' k (List.mem_cons_of_mem _ hk)) j hj
          intro j hj
          have hke := hl' k (List.mem_cons_self ..)
          simp only [Nat.testBit_or, Bool.or_eq_true] at hj
          rcases hj with (hj | hj) | hj
          · exact hs j hj
          · rw [Nat.testBit_two_pow] at hj
            simp at hj
            subst hj
            exact fun b _ h2 => h2 k hke
          · intro b hb1 hb2
            cases hk : acc[k]? with
            | none => rw [List.getD_eq_getElem?_getD, hk] at hj; simp at hj
            | some m =>
              rw [List.getD_eq_getElem?_getD, hk] at hj
              have hkl : k < pre.length := by rw [← hl]; exact (List.getElem?_eq_some_iff.1 hk).1
              have hpre : pre[k]? = some pre[k] := List.getElem?_eq_getElem hkl
              have hes : es[k]? = some pre[k] := by rw [h, List.getElem?_append_left hkl, hpre]
              exact ha k _ m hpre hk j hj b hb1 (hb1 k _ hes (hb2 k hke))
      exact aux e 0 (fun j hj => by simp at hj) (fun _ h => h) j hj

def noneIn : List Nat → List Nat → Bool
  | [], _ => true
  | x :: r, l => !l.contains x && noneIn r l
theorem noneIn_spec : ∀ {a l : List Nat}, noneIn a l = true → ∀ x ∈ a, x ∉ l
  | [], _, _, _, h => by cases h
  | y :: r, l, h, x, hx => by
    simp only [noneIn, Bool.and_eq_true, Bool.not_eq_true'] at h
    rcases List.mem_cons.mp hx with rfl | hx
    · intro hm
      have := List.contains_iff_mem.2 hm
      rw [h.1] at this
      cases this
    · exact noneIn_spec h.2 x hx
def okOne (d : Rec) (m : Nat) : Nat → List Rec → Bool
  | _, [] => true
  | j, e :: r => (m.testBit j || (noneIn (slots d.L) (slots e.L) && noneIn (slots d.L) (fulls e.R) && noneIn (slots e.L) (alls d.R))) && okOne d m (j + 1) r
def okAll (pre : List Rec) : List Rec → List Nat → Bool
  | [], _ => true
  | d :: r, m :: ms => okOne d m 0 pre && okAll (pre ++ [d]) r ms
  | _ :: _, [] => false
/-- Behind a write a look shows what it showed ahead of it. -/
def fitsP (c : Nat × (Nat × SV)) : List Rd → Prop
  | [] => True
  | .all _ :: r => fitsP c r
  | .prj i f o :: r => (match Nat.beq i c.1 with
    | true => f c.2.1 c.2.2 = o
    | false => True) ∧ fitsP c r
def fitsL : Log → List Rd → Prop
  | [], _ => True
  | c :: L, R => fitsP c R ∧ fitsL L R
def fitsOne (d : Rec) (m : Nat) : Nat → List Rec → Prop
  | _, [] => True
  | j, e :: r => (match m.testBit j with
    | true => True
    | false => fitsL d.L e.R) ∧ fitsOne d m (j + 1) r
def fitsAll (pre : List Rec) : List Rec → List Nat → Prop
  | [], _ => True
  | d :: r, m :: ms => fitsOne d m 0 pre ∧ fitsAll (pre ++ [d]) r ms
  | _ :: _, [] => False
theorem fitsP_spec {c : Nat × (Nat × SV)} : ∀ {R : List Rd}, fitsP c R → ∀ i f o, Rd.prj i f o ∈ R → i = c.1 → f c.2.1 c.2.2 = o
  | [], _, _, _, _, h, _ => by cases h
  | .all _ :: r, h, i, f, o, hm, hi => by
    rcases List.mem_cons.1 hm with hm | hm
    · cases hm
    · exact fitsP_spec (R := r) h i f o hm hi
  | .prj i' f' o' :: r, h, i, f, o, hm, hi => by
    simp only [fitsP] at h
    rcases List.mem_cons.1 hm with hm | hm
    · rw [Rd.prj.injEq] at hm
      obtain ⟨h1, h2, h3⟩ := hm
      subst h1; subst h2; subst h3
      have : Nat.beq i c.1 = true := by rw [hi]; exact Nat.beq_refl _
      rw [this] at h
      exact h.1
    · exact fitsP_spec h.2 i f o hm hi
theorem fitsL_spec : ∀ {L : Log} {R : List Rd}, fitsL L R → ∀ c ∈ L, ∀ i f o, Rd.prj i f o ∈ R → i = c.1 → f c.2.1 c.2.2 = o
  | [], _, _, _, hc => by cases hc
  | a :: L, R, h, c, hc => by
    rcases List.mem_cons.1 hc with rfl | hc
    · exact fitsP_spec h.1
    · exact fitsL_spec h.2 c hc
theorem fitsOne_spec {d : Rec} {m : Nat} : ∀ {pre : List Rec} {k : Nat}, fitsOne d m k pre → ∀ j e, pre[j]? = some e → m.testBit (k + j) = true ∨ fitsL d.L e.R
  | [], _, _, j, e, h => by simp at h
  | f :: r, k, h, j, e, he => by
    simp only [fitsOne] at h
    cases j with
    | zero =>
      cases he
      cases hb : m.testBit k with
      | true => exact .inl (by simp)
      | false => rw [hb] at h; exact .inr h.1
    | succ j =>
      have := fitsOne_spec h.2 j e he
      rwa [show k + 1 + j = k + (j + 1) by omega] at this
theorem fitsAll_spec : ∀ {ds pre : List Rec} {ms : List Nat}, fitsAll pre ds ms → ∀ i d, ds[i]? = some d → ∃ m, ms[i]? = some m ∧ ∀ j e, j < pre.length + i → (pre ++ ds)[j]? = some e → m.testBit j = true ∨ fitsL d.L e.R
  | [], _, _, _, i, d, h => by simp at h
  | d :: r, pre, [], h, _, _, _ => by cases h
  | d :: r, pre, m :: ms, h, i, d', hd => by
    simp only [fitsAll] at h
    cases i with
    | zero =>
      cases hd
      refine ⟨m, rfl, fun j e hj he => ?_⟩
      rw [List.getElem?_append_left (by omega)] at he
      have := fitsOne_spec h.1 j e he
      rwa [Nat.zero_add] at this
    | succ i =>
      obtain ⟨m', h1, h2⟩ := fitsAll_spec h.2 i d' hd
      refine ⟨m', h1, fun j e hj he => h2 j e (by simp; omega) (by rw [List.append_assoc]; exact he)⟩
/-- No look and no write that meet are without an order. -/
def offOne (d : Rec) (m : Nat) : Nat → List Rec → Bool
  | _, [] => true
  | j, e :: r => (m.testBit j || noneIn (slots d.L) (alls e.R)) && offOne d m (j + 1) r
def offAll (pre : List Rec) : List Rec → List Nat → Bool
  | [], _ => true
  | d :: r, m :: ms => offOne d m 0 pre && offAll (pre ++ [d]) r ms
  | _ :: _, [] => false
theorem fitsL_off : ∀ {L : Log} {R : List Rd}, noneIn (slots L) (alls R) = true → fitsL L R
  | [], _, _ => trivial
  | p :: L, R, h => by
    simp only [slots, List.map_cons, noneIn, Bool.and_eq_true, Bool.not_eq_true'] at h
    refine ⟨?_, fitsL_off h.2⟩
    have hi : p.1 ∉ alls R := fun hm => by rw [List.contains_iff_mem.2 hm] at h; cases h.1
    clear h
    induction R with
    | nil => trivial
    | cons r R ih =>
      simp only [alls, List.map_cons, List.mem_cons, not_or] at hi
      cases r with
      | all j => exact ih hi.2
      | prj j f o =>
        refine ⟨?_, ih hi.2⟩
        have : Nat.beq j p.1 = false := by
          rw [Bool.eq_false_iff]
          intro e
          exact hi.1 (Nat.eq_of_beq_eq_true e).symm
        rw [this]
        trivial
theorem fitsOne_off {d : Rec} {m : Nat} : ∀ {pre : List Rec} {k : Nat}, offOne d m k pre = true → fitsOne d m k pre
  | [], _, _ => trivial
  | f :: r, k, h => by
    simp only [offOne, Bool.and_eq_true, Bool.or_eq_true] at h
    refine ⟨?_, fitsOne_off h.2⟩
    cases hb : m.testBit k with
    | true => trivial
    | false =>
      rcases h.1 with h1 | h1
      · rw [hb] at h1; cases h1
      · exact fitsL_off h1
theorem fitsAll_off : ∀ {ds pre : List Rec} {ms : List Nat}, offAll pre ds ms = true → fitsAll pre ds ms
  | [], _, _, _ => trivial
  | _ :: _, _, [], h => by cases h
  | d :: r, pre, m :: ms, h => by
    simp only [offAll, Bool.and_eq_true] at h
    exact ⟨fitsOne_off h.1, fitsAll_off h.2⟩
theorem play1_keep {x : Nat} {f : Nat → SV → Nat × SV} {o : Nat × SV} : ∀ {L : Log} {st : St}, (∃ cur, st[x]? = some cur ∧ f cur.1 cur.2 = o) → (∀ c ∈ L, c.1 = x → f c.2.1 c.2.2 = o) → ∃ cur, (play1 L st)[x]? = some cur ∧ f cur.1 cur.2 = o
  | [], _, h, _ => h
  | (i, c) :: L, st, h, hL => by
    obtain ⟨cur, h1, h2⟩ := play1_keep (L := L) h fun c hc => hL c (List.mem_cons_of_mem _ hc)
    simp only [play1]
    by_cases hi : i = x
    · subst hi
      exact ⟨c, by rw [List.getElem?_set_self (List.getElem?_eq_some_iff.1 h1).1], hL _ (List.mem_cons_self ..) rfl⟩
    · exact ⟨cur, by rw [List.getElem?_set_ne hi]; exact h1, h2⟩
theorem playL_keep {b : Nat → Bool} {x : Nat} {f : Nat → SV → Nat × SV} {o : Nat × SV} : ∀ {ds : List Rec} {k : Nat} {st : St}, (∃ cur, st[x]? = some cur ∧ f cur.1 cur.2 = o) →
    (∀ j d, ds[j]? = some d → b (k + j) = true → ∀ c ∈ d.L, c.1 = x → f c.2.1 c.2.2 = o) → ∃ cur, (playL b k ds st)[x]? = some cur ∧ f cur.1 cur.2 = o
  | [], _, _, h, _ => h
  | d :: ds, k, st, h, hd => by
    simp only [playL]
    refine playL_keep (ds := ds) ?_ fun j e hj hb => hd (j + 1) e hj (by rwa [show k + (j + 1) = k + 1 + j by omega])
    split
    · rename_i hb
      exact play1_keep h (hd 0 d rfl hb)
    · exact h
theorem playL_split {b : Nat → Bool} : ∀ {ds ds' : List Rec} {k : Nat} {st : St}, playL b k (ds ++ ds') st = playL b (k + ds.length) ds' (playL b k ds st)
  | [], _, _, _ => rfl
  | d :: ds, ds', k, st => by
    simp only [List.cons_append, playL, List.length_cons]
    rw [playL_split, show k + 1 + ds.length = k + (ds.length + 1) by omega]
theorem okOne_spec {d : Rec} {m : Nat} : ∀ {pre : List Rec} {k : Nat}, okOne d m k pre = true → ∀ j e, pre[j]? = some e → m.testBit (k + j) = true ∨
    ((∀ x ∈ slots d.L, x ∉ slots e.L) ∧ (∀ x ∈ slots d.L, x ∉ fulls e.R) ∧ ∀ x ∈ slots e.L, x ∉ alls d.R)
  | [], _, _, j, e, h => by simp at h
  | f :: r, k, h, j, e, he => by
    simp only [okOne, Bool.and_eq_true, Bool.or_eq_true] at h
    cases j with
    | zero =>
      cases he
      rcases h.1 with h1 | ⟨⟨h1, h2⟩, h3⟩
      · exact .inl h1
      · exact .inr ⟨noneIn_spec h1, noneIn_spec h2, noneIn_spec h3⟩
    | succ j =>
      have := okOne_spec h.2 j e he
      rwa [show k + 1 + j = k + (j + 1) by omega] at this
theorem okAll_spec : ∀ {ds pre : List Rec} {ms : List Nat}, okAll pre ds ms = true → ∀ i d, ds[i]? = some d → ∃ m, ms[i]? = some m ∧ ∀ j e, j < pre.length + i → (pre ++ ds)[j]? = some e → m.testBit j = true ∨
    ((∀ x ∈ slots d.L, x ∉ slots e.L) ∧ (∀ x ∈ slots d.L, x ∉ fulls e.R) ∧ ∀ x ∈ slots e.L, x ∉ alls d.R)
  | [], _, _, _, i, d, h => by simp at h
  | d :: r, pre, [], h, _, _, _ => by cases h
  | d :: r, pre, m :: ms, h, i, d', hd => by
    simp only [okAll, Bool.and_eq_true] at h
    cases i with
    | zero =>
      cases hd
      refine ⟨m, rfl, fun j e hj he => ?_⟩
      rw [List.getElem?_append_left (by omega)] at he
      have := okOne_spec h.1 j e he
      rwa [Nat.zero_add] at this
    | succ i =>
      obtain ⟨m', h1, h2⟩ := okAll_spec h.2 i d' hd
      refine ⟨m', h1, fun j e hj he => h2 j e (by simp; omega) (by rw [List.append_assoc]; exact he)⟩

/-- The end of such a region, as the walk stops at it. -/
structure Drawn (es : List (List Nat)) (Q : St → Prop) (ds : List Rec) (st : St) : Prop where
  ok : okAll [] ds (masks es []) = true
  fits : fitsAll [] ds (masks es [])
  go : (∀ d ∈ ds, ∀ p ∈ d.F, p) → Q st

theorem Drawn.by0 {es : List (List Nat)} {Q : St → Prop} {ds : List Rec} {st : St} (h : (okAll [] ds (masks es []) && offAll [] ds (masks es [])) = true) (hq : (∀ d ∈ ds, ∀ p ∈ d.F, p) → Q st) : Drawn es Q ds st := by
  rw [Bool.and_eq_true] at h
  exact ⟨h.1, fitsAll_off h.2, hq⟩
/-- The text's edges, as we have them. -/
def edgesOk : List (List Nat) → Nat → List Oper → Bool
  | [], _, [] => true
  | e :: es, i, o :: os => (e.all fun j => o.after.any fun x => Region.binds .any x && x.on == j) && (o.after.all fun x => !Region.binds .any x || decide (x.on < i)) && edgesOk es (i + 1) os
  | _, _, _ => false
theorem edgesOk_spec : ∀ {es : List (List Nat)} {k : Nat} {os : List Oper}, edgesOk es k os = true → es.length = os.length ∧ ∀ i o, os[i]? = some o → ∃ e, es[i]? = some e ∧
    (∀ j ∈ e, ∃ x ∈ o.after, Region.binds .any x = true ∧ x.on = j) ∧ ∀ x ∈ o.after, Region.binds .any x = true → x.on < k + i
  | [], _, [], _ => ⟨rfl, fun i o h => by simp at h⟩
  | e :: es, k, o :: os, h => by
    simp only [edgesOk, Bool.and_eq_true] at h
    obtain ⟨⟨h1, h2⟩, h3⟩ := h
    obtain ⟨h4, h5⟩ := edgesOk_spec h3
    refine ⟨by simp [h4], fun i o' hi => ?_⟩
    cases i with
    | zero =>
      cases hi
      refine ⟨e, rfl, fun j hj => ?_, fun x hx hb => ?_⟩
      · have := List.all_eq_true.1 h1 j hj
        obtain ⟨x, hx, hx'⟩ := Array.any_eq_true'.1 this
        simp only [Bool.and_eq_true, beq_iff_eq] at hx'
        exact ⟨x, hx, hx'.1, hx'.2⟩
      · have := Array.all_eq_true'.1 h2 x hx
        simpa [hb] using this
    | succ i =>
      obtain ⟨e', g1, g2, g3⟩ := h5 i o' hi
      exact ⟨e', g1, g2, fun x hx hb => by have := g3 x hx hb; omega⟩
  | [], _, _ :: _, h => by cases h
  | _ :: _, _, [], h => by cases h

theorem wrIOs_spec {P : Program} {K : List Rec → St → Prop} {st0 : St} : ∀ {l : List Ao} {pre : List Rec}, wrIOs P l K pre (playL (fun _ => true) 0 pre st0) →
    ∃ ds, ds.length = l.length ∧ K (pre ++ ds) (playL (fun _ => true) 0 (pre ++ ds) st0) ∧
      ∀ i m d, l[i]? = some m → ds[i]? = some d → Local P m.sem (playL (fun _ => true) 0 ((pre ++ ds).take (pre.length + i)) st0) d ∧
        ∀ x ∈ d.R, x.Agree (playL (fun _ => true) 0 ((pre ++ ds).take (pre.length + i)) st0) (playL (fun _ => true) 0 ((pre ++ ds).take (pre.length + i)) st0)
  | [], pre, h => ⟨[], rfl, by simpa [wrIOs] using h, fun i m d h => by simp at h⟩
  | m :: l, pre, h => by
    simp only [wrIOs] at h
    obtain ⟨R, L, F, h1, h2, h3, h5, h4⟩ := M.wr_spec (L := []) (st0 := playL (fun _ => true) 0 pre st0) h
    have e1 : playL (fun _ => true) 0 (pre ++ [⟨R, L, F⟩]) st0 = play1 L (playL (fun _ => true) 0 pre st0) := by rw [playL_snoc]; rfl
    rw [← e1] at h1
    obtain ⟨ds, g1, g2, g3⟩ := wrIOs_spec (l := l) (pre := pre ++ [⟨R, L, F⟩]) h1
    rw [List.append_assoc] at g2 g3
    refine ⟨⟨R, L, F⟩ :: ds, by simp [g1], g2, fun i m' d hm hd => ?_⟩
    cases i with
    | zero =>
      cases hm
      cases hd
      rw [Nat.add_zero, List.take_left' rfl]
      refine ⟨fun st' hst => h4 st' hst (fun p hp => by cases hp), fun x hx => ?_⟩
      rcases h5 x hx with h | h
      · cases h
      · exact h
    | succ i =>
      have := g3 i m' d hm hd
      simpa [Nat.add_assoc, Nat.add_comm 1 i] using this

section
variable {P : Program} {N : Nat} {G : Mem} {σ : Lab} {Fr : Mem} {w0 : Base} {w : World} {st : St} {a : Act}

theorem chkL_get {ops : Array Oper} : ∀ {l : List Oper} {m : List Ao}, chkL P N ops l m = true → l.length = m.length ∧ ∀ (i : Nat) o, l[i]? = some o → ∃ x, m[i]? = some x ∧ chkIO P N ops o x = true
  | [], [], _ => ⟨rfl, fun i o h => by simp at h⟩
  | o :: l, x :: m, h => by
    simp only [chkL, Bool.and_eq_true] at h
    obtain ⟨h1, h2⟩ := chkL_get h.2
    refine ⟨by simp [h1], fun i o' hi => ?_⟩
    cases i with
    | zero => cases hi; exact ⟨x, rfl, h.1⟩
    | succ i => exact h2 i o' hi
  | [], _ :: _, h => by cases h
  | _ :: _, [], h => by simp [chkL] at h

theorem WOk.drawn (h : WOk G σ Fr w0 w) (n : Nat) : WOk G σ Fr w0 { w with drawn := n } := ⟨h.fixed, h.own, h.inj, h.frame, h.os, h.tape, h.output, h.size, h.apart⟩
theorem Rel.drawn (h : Rel G σ Fr w0 st a w) (n : Nat) : Rel G σ Fr w0 st a { w with drawn := n } :=
  ⟨h.wok.drawn n, h.defers, h.n, h.len, fun s ver sv hs => (h.slots s ver sv hs).keep (Mem.le.refl G) (fun _ _ _ hb => ⟨hb, rfl⟩) h.slots, h.pars⟩

theorem draw_sound {id : Nat} {ops : Array Oper} {es : List (List Nat)} {l : List Ao} {Q : St → Prop} {Qx : Exit → Act → World → Prop} (hm : P.follows .mixedOrders = true)
    (hc : chkL P w0.n ops ops.toList l = true) (he : edgesOk es 0 ops.toList = true) (hr : Rel G σ Fr w0 st a w) (hq : wrIOs P l (Drawn es Q) [] st)
    (hn : ∀ G' σ' st' a' w', G.le G' → Rel G' σ' Fr w0 st' a' w' → Q st' → Qx .normal a' w') : (Code.region id ops true).wp P Qx a w := by
  obtain ⟨hlen, hops⟩ := chkL_get hc
  obtain ⟨helen, hedge⟩ := edgesOk_spec he
  obtain ⟨ds, hdl, ⟨hok, hfit, hgo⟩, hloc⟩ := wrIOs_spec (st0 := st) (pre := []) hq
  simp only [List.nil_append, List.length_nil, Nat.zero_add] at hok hfit hgo hloc
  have hdn : ds.length = ops.size := by rw [hdl, ← hlen, Array.length_toList]
  have hconf : ∀ i d, ds[i]? = some d → ∀ e, es[i]? = some e → ∀ j f, j < i → ds[j]? = some f → Covers es e j ∨
      (((∀ x ∈ slots d.L, x ∉ slots f.L) ∧ (∀ x ∈ slots d.L, x ∉ fulls f.R) ∧ ∀ x ∈ slots f.L, x ∉ alls d.R) ∧ fitsL d.L f.R) := by
    intro i d hd e hes j f hj hf
    obtain ⟨m, h1, h2⟩ := okAll_spec hok i d hd
    obtain ⟨m', h1', h2'⟩ := fitsAll_spec hfit i d hd
    rw [h1] at h1'
    cases h1'
    rcases h2 j f (by simpa using hj) (by simpa using hf) with h3 | h3
    · exact .inl (masks_spec (r := es) (pre := []) (acc := []) rfl rfl (by simp) i e m hes h1 j h3)
    · rcases h2' j f (by simpa using hj) (by simpa using hf) with h4 | h4
      · exact .inl (masks_spec (r := es) (pre := []) (acc := []) rfl rfl (by simp) i e m hes h1 j h4)
      · exact .inr ⟨h3, h4⟩
  refine wp_region_any hm ?_
  suffices H : ∀ (fuel : Nat) (listed : Array Bool) (G1 : Mem) (σ1 : Lab) (a1 : Act) (w1 : World), listed.size = ops.size → ((List.range ops.size).filter fun i => !listed.getD i true).length ≤ fuel → G.le G1 →
      (∀ i e, es[i]? = some e → listed.getD i false = true → ∀ k ∈ e, listed.getD k false = true) →
      (∀ i d, ds[i]? = some d → listed.getD i false = true → ∀ p ∈ d.F, p) →
      Rel G1 σ1 Fr w0 (playL (fun i => listed.getD i false) 0 ds st) a1 w1 → wpAny P .any ops Qx fuel listed a1 w1 by
    refine H _ _ G σ a _ (by simp) ?_ (Mem.le.refl G) ?_ ?_ ?_
    · refine Nat.le_trans (List.length_filter_le _ _) (by simp)
    · intro i e _ hi
      simp [Array.getD_eq_getD_getElem?, Array.getElem?_replicate] at hi
      split at hi <;> simp at hi
    · intro i d _ hi
      simp [Array.getD_eq_getD_getElem?, Array.getElem?_replicate] at hi
      split at hi <;> simp at hi
    · have : playL (fun i => (Array.replicate ops.size false).getD i false) 0 ds st = st := by
        have aux : ∀ (ds : List Rec) (k : Nat), playL (fun i => (Array.replicate ops.size false).getD i false) k ds st = st := by
          intro ds
          induction ds with
          | nil => intro k; rfl
          | cons d ds ih =>
            intro k
            have hf : (Array.replicate ops.size false).getD k false = false := by
              simp [Array.getD_eq_getD_getElem?, Array.getElem?_replicate]
              split <;> rfl
            simp only [playL, hf]
            exact ih _
        exact aux ds 0
      rw [this]
      exact hr.drawn _
  have ready_nil : ∀ (listed : Array Bool), listed.size = ops.size → Region.ready .any ops listed = [] → ∀ i, i < ops.size → listed.getD i false = true := by
    intro listed hsz hnil i
    induction i using Nat.strongRecOn with
    | ind i ih =>
      intro hi
      cases hli : listed.getD i false with
      | true => rfl
      | false =>
        exfalso
        have : i ∈ Region.ready .any ops listed := by
          unfold Region.ready
          rw [List.mem_filter]
          refine ⟨List.mem_range.2 hi, ?_⟩
          have hli' : listed.getD i true = false := by
            rw [Array.getD_eq_getD_getElem?, Array.getElem?_eq_getElem (by omega)] at hli ⊢
            exact hli
          rw [hli', Array.getElem?_eq_getElem hi]
          simp only [Bool.not_false, Bool.true_and, Option.map_some, Option.getD_some]
          rw [Array.all_eq_true']
          intro x hx
          cases hb : Region.binds .any x with
          | false => rfl
          | true =>
            obtain ⟨e, _, _, g3⟩ := hedge i ops[i] (by simp [hi])
            have := g3 x hx hb
            simp only [Nat.zero_add] at this
            simp [ih x.on this (by omega)]
        rw [hnil] at this
        cases this
  have fin : ∀ {listed : Array Bool} {G1 : Mem} {σ1 : Lab} {a1 : Act} {w1 : World}, listed.size = ops.size → Region.ready .any ops listed = [] → G.le G1 →
      (∀ i d, ds[i]? = some d → listed.getD i false = true → ∀ p ∈ d.F, p) →
      Rel G1 σ1 Fr w0 (playL (fun i => listed.getD i false) 0 ds st) a1 w1 → Qx .normal a1 w1 := by
    intro listed G1 σ1 a1 w1 hsz hnil hG hF hr1
    have hall := ready_nil listed hsz hnil
    have : playL (fun i => listed.getD i false) 0 ds st = playL (fun _ => true) 0 ds st := playL_congr fun j hj => by rw [Nat.zero_add]; exact hall j (by omega)
    rw [this] at hr1
    refine hn G1 σ1 _ a1 w1 hG hr1 (hgo fun d hd => ?_)
    obtain ⟨i, hi, rfl⟩ := List.mem_iff_getElem.1 hd
    exact hF i _ (List.getElem?_eq_getElem hi) (hall i (by omega))
  intro fuel
  induction fuel with
  | zero =>
    intro listed G1 σ1 a1 w1 hsz hcnt hG hcl hF hr1
    have hnil : Region.ready .any ops listed = [] := by
      cases hrd : Region.ready .any ops listed with
      | nil => rfl
      | cons i r =>
        exfalso
        have hi : i ∈ Region.ready .any ops listed := by rw [hrd]; exact List.mem_cons_self ..
        unfold Region.ready at hi
        rw [List.mem_filter] at hi
        have : i ∈ (List.range ops.size).filter fun i => !listed.getD i true := by
          rw [List.mem_filter]
          exact ⟨hi.1, by have := hi.2; simp only [Bool.and_eq_true] at this; exact this.1⟩
        have := List.length_pos_of_mem this
        omega
    exact ⟨hnil, fin hsz hnil hG hF hr1⟩
  | succ fuel ih =>
    intro listed G1 σ1 a1 w1 hsz hcnt hG hcl hF hr1
    refine ⟨fun hnil => fin hsz hnil hG hF hr1, fun i hi => ?_⟩
    have hi0 := hi
    unfold Region.ready at hi
    rw [List.mem_filter, List.mem_range] at hi
    obtain ⟨hilt, hi2⟩ := hi
    rw [Array.getElem?_eq_getElem hilt] at hi2
    simp only [Option.map_some, Option.getD_some, Bool.and_eq_true, Bool.not_eq_true'] at hi2
    obtain ⟨hun, haft⟩ := hi2
    have hun' : listed.getD i false = false := by
      rw [Array.getD_eq_getD_getElem?, Array.getElem?_eq_getElem (by omega)] at hun ⊢
      exact hun
    obtain ⟨x, hx, hchk⟩ := hops i ops[i] (by simp [hilt])
    obtain ⟨e, hes, hpre, _⟩ := hedge i ops[i] (by simp [hilt])
    have hprel : ∀ k ∈ e, listed.getD k false = true := by
      intro k hk
      obtain ⟨y, hy, hb, rfl⟩ := hpre k hk
      have := Array.all_eq_true'.1 haft y hy
      simpa [hb] using this
    obtain ⟨d, hd⟩ : ∃ d, ds[i]? = some d := ⟨ds[i]'(by omega), List.getElem?_eq_getElem (by omega)⟩
    have hcov : ∀ j f, j < i → ds[j]? = some f → listed.getD j false = true ∨ (((∀ x ∈ slots d.L, x ∉ slots f.L) ∧ (∀ x ∈ slots d.L, x ∉ fulls f.R) ∧ ∀ x ∈ slots f.L, x ∉ alls d.R) ∧ fitsL d.L f.R) := by
      intro j f hj hf
      rcases hconf i d hd e hes j f hj hf with h1 | h1
      · exact .inl (h1 _ hcl hprel)
      · exact .inr h1
    have hlater : ∀ j f, i < j → ds[j]? = some f → listed.getD j false = true → (((∀ x ∈ slots f.L, x ∉ slots d.L) ∧ (∀ x ∈ slots f.L, x ∉ fulls d.R) ∧ ∀ x ∈ slots d.L, x ∉ alls f.R) ∧ fitsL f.L d.R) := by
      intro j f hj hf hlj
      have hjl : j < ds.length := (List.getElem?_eq_some_iff.1 hf).1
      obtain ⟨e', hes', _, _⟩ := hedge j (ops[j]'(by omega)) (by simp [show j < ops.size by omega])
      rcases hconf j f hf e' hes' i d hj hd with h1 | h1
      · have := h1 _ hcl (hcl j e' hes' hlj)
        rw [hun'] at this
        cases this
      · exact h1
    have hL := (hloc i x d hx hd).1 (playL (fun i => listed.getD i false) 0 ds st) ?_
    · refine (by
        unfold wpOp
        rw [Array.getElem?_eq_getElem hilt]
        refine io_step hchk hr1 hL ?_
        rintro G2 σ2 st2 a2 w2 hG2 hr2 ⟨rfl, hfacts⟩
        have hset : ∀ k, (listed.setIfInBounds i true).getD k false = (listed.getD k false || k == i) := by
          intro k
          simp only [Array.getD_eq_getD_getElem?, Array.getElem?_setIfInBounds]
          by_cases hk : i = k
          · subst hk; simp [hsz, hilt]
          · simp [hk, show ¬ k = i from fun h => hk h.symm]
        refine ih _ G2 σ2 a2 w2 (by simp [hsz]) ?_ (hG.trans hG2) ?_ ?_ ?_
        · have hlt : ((List.range ops.size).filter fun k => !(listed.setIfInBounds i true).getD k true).length < ((List.range ops.size).filter fun k => !listed.getD k true).length := by
            have hsub : ((List.range ops.size).filter fun k => !(listed.setIfInBounds i true).getD k true) = ((List.range ops.size).filter fun k => !listed.getD k true).filter fun k => !(k == i) := by
              rw [List.filter_filter]
              refine List.filter_congr fun k hk => ?_
              have hk := List.mem_range.1 hk
              simp only [Array.getD_eq_getD_getElem?, Array.getElem?_setIfInBounds]
              by_cases hki : i = k
              · subst hki; simp [hsz, hilt]
              · simp [hki, show ¬ k = i from fun h => hki h.symm]
            rw [hsub]
            refine List.length_filter_lt_length_iff_exists.2 ⟨i, ?_, by simp⟩
            rw [List.mem_filter]
            exact ⟨List.mem_range.2 hilt, by rw [hun]; rfl⟩
          omega
        · intro k e' hk hlk y hy
          rw [hset] at hlk ⊢
          simp only [Bool.or_eq_true, beq_iff_eq] at hlk ⊢
          rcases hlk with hlk | rfl
          · exact .inl (hcl k e' hk hlk y hy)
          · rw [hes] at hk
            cases hk
            exact .inl (hprel y hy)
        · intro k f hk hlk
          rw [hset] at hlk
          simp only [Bool.or_eq_true, beq_iff_eq] at hlk
          rcases hlk with hlk | rfl
          · exact hF k f hk hlk
          · rw [hd] at hk
            cases hk
            exact hfacts
        · have := playL_add (b := fun i => listed.getD i false) (st := st) hd hun' fun j f hj hf hlj => fun y hy hy' => (hlater j f hj hf hlj).1.1 y hy' hy
          have hfun : (fun k => (listed.setIfInBounds i true).getD k false) = fun k => (listed.getD k false || k == i) := funext hset
          rw [hfun, this]
          exact hr2)
    · intro rd hy
      cases rd with
      | all y =>
        show (playL (fun i => listed.getD i false) 0 ds st)[y]? = (playL (fun _ => true) 0 (ds.take i) st)[y]?
        rw [← playL_take]
        refine playL_agree rfl fun j f hf => ?_
        simp only [Nat.zero_add, Bool.true_and]
        by_cases hji : j < i
        · rcases hcov j f hji hf with h1 | h1
          · left; simp [hji, h1]
          · exact .inr fun hm => h1.1.2.2 y hm (List.mem_map_of_mem (f := Rd.slot) hy)
        · by_cases hij : j = i
          · subst hij; left; simp [hun']
          · cases hlj : listed.getD j false with
            | false => left; simp [hji]
            | true => exact .inr fun hm => (hlater j f (by omega) hf hlj).1.2.1 y hm (fulls_mem hy)
      | prj y f o =>
        obtain ⟨cur, k1, k2⟩ := (hloc i x d hx hd).2 _ hy
        have hsp : ds = ds.take i ++ ds.drop i := (List.take_append_drop i ds).symm
        have e1 : playL (fun i => listed.getD i false) 0 ds st = playL (fun i => listed.getD i false) (0 + (ds.take i).length) (ds.drop i) (playL (fun i => listed.getD i false) 0 (ds.take i) st) := by
          conv => lhs; rw [hsp]
          exact playL_split
        have hil : i < ds.length := (List.getElem?_eq_some_iff.1 hd).1
        have hl : 0 + (ds.take i).length = i := by simp; omega
        show ∃ cur, (playL (fun i => listed.getD i false) 0 ds st)[y]? = some cur ∧ f cur.1 cur.2 = o
        rw [e1, hl]
        refine playL_keep ⟨cur, ?_, k2⟩ ?_
        · rw [← k1]
          refine playL_agree rfl fun j g hg => ?_
          have hji : j < i := by
            have := (List.getElem?_eq_some_iff.1 hg).1
            simp at this; omega
          rw [List.getElem?_take_of_lt hji] at hg
          rcases hcov j g hji hg with h1 | h1
          · left; rw [Nat.zero_add, h1]
          · exact .inr fun hm => h1.1.2.2 y hm (List.mem_map_of_mem (f := Rd.slot) hy)
        · intro j g hg hb c hc hcy
          rw [List.getElem?_drop] at hg
          by_cases hj0 : j = 0
          · subst hj0
            rw [Nat.add_zero] at hb
            rw [hun'] at hb
            cases hb
          · exact fitsL_spec (hlater (i + j) g (by omega) hg hb).2 c hc y f o hy hcy.symm
end
end Go.Ab

namespace Go.Ab

/-- What is to hold behind a piece of code, way out by way out. -/
structure Post where
  nrm : St → Prop
  ex : Nat → St → Prop
  ret : St → Prop

inductive Stm where
  | skip
  | ops (l : List Ao)
  | drw (es : List (List Nat)) (l : List Ao)
  | seq (a b : Stm)
  | cond (c : Opd) (a b : Stm)
  | block (id : Nat) (a : Stm)
  | loop (ks : List Nat) (a : Stm)
  | exit (id : Nat)
  | ret
  deriving Inhabited

def normSV (ks : List Nat) (st : St) : SV → SV
  | .bor s k v => match st[s]? with
    | some cur => if v = cur.1 ∧ ks.contains s = false then .bor s k 0 else .no
    | none => .no
  | .sub s k v n => match st[s]? with
    | some cur => if v = cur.1 ∧ ks.contains s = false then .sub s k 0 n else .no
    | none => .no
  | .suf _ _ _ _ => .no
  | .pt s k v off r => match st[s]? with
    | some cur => if v = cur.1 ∧ ks.contains s = false then .pt s k 0 off r else .no
    | none => .no
  | .pd s v p => match st[s]? with
    | some (_, .own inv _) => if alive v inv p.length = true ∧ ks.contains s = false then .pd s 0 p else .no
    | _ => .no
  | .bd s v p => match st[s]? with
    | some (_, .own inv _) => if alive v inv (p.length + 1) = true ∧ ks.contains s = false then .bd s 0 p else .no
    | _ => .no
  | .own _ t => .own [] t
  | sv => sv
def normFrom (ks : List Nat) (st : St) : Nat → St → St
  | _, [] => []
  | i, (_, sv) :: r => (0, if ks.contains i then .no else normSV ks st sv) :: normFrom ks st (i + 1) r
/-- The slots at a loop's head: what is not read any more is forgotten, the versions begin anew. -/
def norm (ks : List Nat) (st : St) : St := normFrom ks st 0 st

/-- A round's end. -/
def LoopEnd {X : Type} (ks : List Nat) (J : X → St) (R : X → Prop) (μ : X → Nat) (x : X) (st : St) : Prop := ∃ x', norm ks st = J x' ∧ R x' ∧ μ x' < μ x
def brk (id : Nat) (Q : Post) (i : Nat) : St → Prop := if i = id then Q.nrm else Q.ex i
def rdB' (c : Opd) (k : Bool → M) : M := rdI c fun i => match i with
  | .bool t => k t
  | _ => .fail

/-- A loop, as the walk stops at it: 'body' is what a round must give. -/
structure LoopWp (ks : List Nat) (body : (St → Prop) → St → Prop) (st : St) : Prop where
  out : ∃ (X : Type) (J : X → St) (R : X → Prop) (μ : X → Nat), (∃ x, norm ks st = J x ∧ R x) ∧ ∀ x, R x → body (LoopEnd ks J R μ x) (J x)

def wpS (P : Program) : Stm → Post → St → Prop
  | .skip, Q, st => Q.nrm st
  | .ops l, Q, st => wpIOs P l Q.nrm st
  | .drw es l, Q, st => wrIOs P l (Drawn es Q.nrm) [] st
  | .seq a b, Q, st => wpS P a ⟨wpS P b Q, Q.ex, Q.ret⟩ st
  | .cond c a b, Q, st => (rdB' c fun t => .ite t (.chk (wpS P a Q)) (.chk (wpS P b Q))).wp P (fun _ => False) st
  | .block id a, Q, st => wpS P a ⟨Q.nrm, brk id Q, Q.ret⟩ st
  | .loop ks a, Q, st => LoopWp ks (fun K => wpS P a ⟨K, Q.ex, Q.ret⟩) st
  | .exit id, Q, st => Q.ex id st
  | .ret, Q, st => Q.ret st

section
variable {P : Program} {N : Nat} {G : Mem} {σ : Lab} {Fr : Mem} {w0 : Base} {w : World} {st : St} {a : Act}

theorem normFrom_get {ks : List Nat} {st : St} : ∀ (r : St) (i j : Nat), (normFrom ks st i r)[j]? = (r[j]?).map fun p => (0, if ks.contains (i + j) then .no else normSV ks st p.2)
  | [], i, j => by simp [normFrom]
  | p :: r, i, 0 => by simp [normFrom]
  | p :: r, i, j + 1 => by
    simp only [normFrom, List.getElem?_cons_succ]
    rw [normFrom_get r (i + 1) j, show i + (j + 1) = i + 1 + j by omega]
theorem norm_get {ks : List Nat} (j : Nat) : (norm ks st)[j]? = (st[j]?).map fun p => (0, if ks.contains j then .no else normSV ks st p.2) := by
  unfold norm
  rw [normFrom_get st 0 j, Nat.zero_add]
theorem normFrom_length {ks : List Nat} {st : St} : ∀ (r : St) (i : Nat), (normFrom ks st i r).length = r.length
  | [], _ => rfl
  | _ :: r, i => by simp [normFrom, normFrom_length r]

theorem Rel.norm (h : Rel G σ Fr w0 st a w) (ks : List Nat) : Rel G σ Fr w0 (Ab.norm ks st) a w := by
  have vec : ∀ {s k : Nat} {cur : Nat × SV} {p : TypeId × Nat × List I}, st[s]? = some cur → ks.contains s = false → cur.2.vecAt k = some p → ∃ cur', (Ab.norm ks st)[s]? = some cur' ∧ cur'.1 = 0 ∧ cur'.2.vecAt k = some p := by
    intro s k cur p h1 h2 h3
    refine ⟨_, by rw [norm_get, h1]; rfl, rfl, ?_⟩
    simp only [h2]
    obtain ⟨v, sv⟩ := cur
    cases sv <;> first | exact h3 | (cases k <;> cases h3)
  refine ⟨h.wok, h.defers, h.n, by rw [h.len]; exact (normFrom_length st 0).symm, ?_, ?_⟩
  · intro s ver sv hs
    rw [norm_get] at hs
    cases h0 : st[s]? with
    | none => simp [h0] at hs
    | some p =>
      obtain ⟨v, sv0⟩ := p
      simp only [h0, Option.map_some, Option.some.injEq, Prod.mk.injEq] at hs
      obtain ⟨rfl, hs⟩ := hs
      have hrep := h.slots s v sv0 h0
      split at hs
      · subst hs; trivial
      · subst hs
        generalize val a w0 s = c at hrep ⊢
        cases sv0 with
        | bor s' k ver' =>
          obtain ⟨cur, g1, g2, g3⟩ := hrep
          simp only [normSV, g1]
          split
          · rename_i hc
            obtain ⟨e, sz, l, g4, g5⟩ := g3 hc.1
            obtain ⟨cur', q1, q2, q3⟩ := vec g1 hc.2 g4
            exact ⟨cur', q1, Nat.zero_le _, fun _ => ⟨e, sz, l, q3, g5⟩⟩
          · trivial
        | sub s' k ver' n =>
          obtain ⟨cur, g1, g2, g3⟩ := hrep
          simp only [normSV, g1]
          split
          · rename_i hc
            obtain ⟨e, sz, l, g4, g5⟩ := g3 hc.1
            obtain ⟨cur', q1, q2, q3⟩ := vec g1 hc.2 g4
            exact ⟨cur', q1, Nat.zero_le _, fun _ => ⟨e, sz, l, q3, g5⟩⟩
          · trivial
        | suf s' k ver' n => trivial
        | pt s' k ver' off r =>
          obtain ⟨cur, g1, g2, g3⟩ := hrep
          simp only [normSV, g1]
          split
          · rename_i hc
            obtain ⟨b, g4, g5⟩ := g3 hc.1
            exact ⟨_, by rw [norm_get, g1]; rfl, Nat.zero_le _, fun _ => ⟨b, g4, g5⟩⟩
          · trivial
        | pd s' ver' p =>
          obtain ⟨cur, g1, g2, g3⟩ := hrep
          obtain ⟨cv, csv⟩ := cur
          simp only [normSV, g1]
          split
          · rename_i cv' inv t e
            cases e
            split
            · rename_i hc
              refine ⟨(0, .own [] t), by rw [norm_get, g1]; simp only [Option.map_some, hc.2]; rfl, Nat.le_refl _, fun inv' t' e hp _ => ?_⟩
              cases e
              exact g3 inv t rfl hp hc.1
            · trivial
          · trivial
        | bd s' ver' p =>
          obtain ⟨cur, g1, g2, g3⟩ := hrep
          obtain ⟨cv, csv⟩ := cur
          simp only [normSV, g1]
          split
          · rename_i cv' inv t e
            cases e
            split
            · rename_i hc
              refine ⟨(0, .own [] t), by rw [norm_get, g1]; simp only [Option.map_some, hc.2]; rfl, Nat.le_refl _, fun inv' t' e _ => ?_⟩
              cases e
              exact g3 inv t rfl hc.1
            · trivial
          · trivial
        | _ => exact hrep
  · intro s ver hh hs
    rw [norm_get] at hs
    cases h0 : st[s]? with
    | none => simp [h0] at hs
    | some p =>
      obtain ⟨v, sv0⟩ := p
      simp only [h0, Option.map_some, Option.some.injEq, Prod.mk.injEq] at hs
      obtain ⟨rfl, hs⟩ := hs
      split at hs
      · cases hs
      · have : sv0 = .par hh := by
          cases sv0 with
          | bor s' k ver' =>
            simp only [normSV] at hs
            split at hs
            · split at hs <;> cases hs
            · cases hs
          | sub s' k ver' n =>
            simp only [normSV] at hs
            split at hs
            · split at hs <;> cases hs
            · cases hs
          | suf s' k ver' n => simp only [normSV] at hs; cases hs
          | pt s' k ver' off r =>
            simp only [normSV] at hs
            split at hs
            · split at hs <;> cases hs
            · cases hs
          | pd s' ver' p =>
            simp only [normSV] at hs
            split at hs
            · split at hs <;> cases hs
            · cases hs
          | bd s' ver' p =>
            simp only [normSV] at hs
            split at hs
            · split at hs <;> cases hs
            · cases hs
          | own inv t => simp only [normSV] at hs; cases hs
          | _ => exact hs
        subst this
        exact h.pars s v hh h0

/-- What the abstract machine says of a way out, said of the program. -/
def lift (G : Mem) (Fr : Mem) (w0 : Base) (Q : Post) : Exit → Act → World → Prop := fun e a w => ∃ G' σ' st, G.le G' ∧ Rel G' σ' Fr w0 st a w ∧ match e with
  | .normal => Q.nrm st
  | .exit i => Q.ex i st
  | .ret => Q.ret st
  | _ => False
theorem lift_le {G' : Mem} {Q : Post} (hG : G.le G') {e : Exit} {a : Act} {w : World} (h : lift G' Fr w0 Q e a w) : lift G Fr w0 Q e a w := by
  obtain ⟨G1, σ1, st, h1, h2, h3⟩ := h
  exact ⟨G1, σ1, st, hG.trans h1, h2, h3⟩

def chkC (P : Program) (N : Nat) : Code → Stm → Bool
  | .skip, .skip => true
  | .region _ ops false, .ops l => chkL P N ops ops.toList l
  | .region _ ops true, .drw es l => P.follows .mixedOrders && chkL P N ops ops.toList l && edgesOk es 0 ops.toList
  | .seq a b, .seq x y => chkC P N a x && chkC P N b y
  | .cond c a b, .cond c' x y => opdOk N c c' && chkC P N a x && chkC P N b y
  | .block id c, .block id' x => id == id' && chkC P N c x
  | .loop c, .loop _ x => chkC P N c x
  | .exit id, .exit id' => id == id'
  | .ret, .ret => true
  | _, _ => false

theorem code_sound : ∀ {s : Stm} {c : Code} {Q : Post} {G : Mem} {σ : Lab} {st : St} {a : Act} {w : World},
    chkC P w0.n c s = true → Rel G σ Fr w0 st a w → wpS P s Q st → c.wp P (lift G Fr w0 Q) a w := by
  intro s
  induction s with
  | skip =>
    intro c Q G σ st a w hc hr hq
    cases c <;> first | (simp [chkC] at hc; done) | skip
    exact wp_skip ⟨G, σ, st, Mem.le.refl G, hr, hq⟩
  | ops l =>
    intro c Q G σ st a w hc hr hq
    cases c <;> first | (simp [chkC] at hc; done) | skip
    rename_i id ops draw'
    cases draw' <;> first | (simp [chkC] at hc; done) | skip
    simp only [chkC] at hc
    exact wp_region_list (ops_sound hc hr hq fun G' σ' st' a' w' hG hr' hq' => ⟨G', σ', st', hG, hr', hq'⟩)
  | drw es l =>
    intro c Q G σ st a w hc hr hq
    cases c <;> first | (simp [chkC] at hc; done) | skip
    rename_i id ops draw'
    cases draw' <;> first | (simp [chkC] at hc; done) | skip
    simp only [chkC, Bool.and_eq_true] at hc
    exact draw_sound hc.1.1 hc.1.2 hc.2 hr hq fun G' σ' st' a' w' hG hr' hq' => ⟨G', σ', st', hG, hr', hq'⟩
  | seq x y ihx ihy =>
    intro c Q G σ st a w hc hr hq
    cases c <;> first | (simp [chkC] at hc; done) | skip
    simp only [chkC, Bool.and_eq_true] at hc
    refine wp_seq (Code.wp_mono ?_ (ihx hc.1 hr hq))
    rintro e a' w' ⟨G', σ', st', hG, hr', hq'⟩
    cases e with
    | normal => exact Code.wp_mono (fun e a w h => lift_le hG h) (ihy hc.2 hr' hq')
    | exit i => exact ⟨G', σ', st', hG, hr', hq'⟩
    | ret => exact ⟨G', σ', st', hG, hr', hq'⟩
    | _ => exact hq'.elim
  | cond c' x y ihx ihy =>
    intro c Q G σ st a w hc hr hq
    cases c <;> first | (simp [chkC] at hc; done) | skip
    simp only [chkC, Bool.and_eq_true] at hc
    obtain ⟨⟨h1, h2⟩, h3⟩ := hc
    obtain ⟨i, h4, h5⟩ := rdI_rep hr h1 hq
    split at h4
    · rename_i t
      rw [RepV.bool] at h5
      refine wp_cond h5 ?_
      cases t with
      | true => exact ihx h2 hr (h4.1 rfl)
      | false => exact ihy h3 hr (h4.2 rfl)
    · exact h4.elim
  | block id x ih =>
    intro c Q G σ st a w hc hr hq
    cases c <;> first | (simp [chkC] at hc; done) | skip
    simp only [chkC, Bool.and_eq_true, beq_iff_eq] at hc
    obtain ⟨rfl, h1⟩ := hc
    refine wp_block (Code.wp_mono ?_ (ih h1 hr hq))
    rintro e a' w' ⟨G', σ', st', hG, hr', hq'⟩
    cases e with
    | exit i =>
      simp only [Exit.inBlock]
      simp only [brk] at hq'
      split
      · rename_i hi
        rw [if_pos hi] at hq'
        exact ⟨G', σ', st', hG, hr', hq'⟩
      · rename_i hi
        rw [if_neg hi] at hq'
        exact ⟨G', σ', st', hG, hr', hq'⟩
    | normal => exact ⟨G', σ', st', hG, hr', hq'⟩
    | ret => exact ⟨G', σ', st', hG, hr', hq'⟩
    | _ => exact hq'.elim
  | loop ks x ih =>
    intro c Q G σ st a w hc hr hq
    cases c <;> first | (simp [chkC] at hc; done) | skip
    simp only [chkC] at hc
    obtain ⟨⟨X, J, R, μ, ⟨x0, hx0, hR0⟩, hround⟩⟩ := hq
    refine wp_loop_ghost (fun n a w => ∃ G' σ' x, G.le G' ∧ Rel G' σ' Fr w0 (J x) a w ∧ R x ∧ μ x = n) (μ x0) ⟨G, σ, x0, Mem.le.refl G, by rw [← hx0]; exact hr.norm ks, hR0, rfl⟩ ?_
    rintro n a1 w1 ⟨G1, σ1, x1, hG1, hr1, hR1, rfl⟩
    refine Code.wp_mono ?_ (ih hc hr1 (hround x1 hR1))
    rintro e a' w' ⟨G', σ', st', hG, hr', hq'⟩
    cases e with
    | normal =>
      obtain ⟨x', h1, h2, h3⟩ := hq'
      exact ⟨μ x', h3, G', σ', x', hG1.trans hG, by rw [← h1]; exact hr'.norm ks, h2, rfl⟩
    | exit i => exact ⟨G', σ', st', hG1.trans hG, hr', hq'⟩
    | ret => exact ⟨G', σ', st', hG1.trans hG, hr', hq'⟩
    | _ => exact hq'.elim
  | exit id =>
    intro c Q G σ st a w hc hr hq
    cases c <;> first | (simp [chkC] at hc; done) | skip
    simp only [chkC, beq_iff_eq] at hc
    subst hc
    exact wp_exit ⟨G, σ, st, Mem.le.refl G, hr, hq⟩
  | ret =>
    intro c Q G σ st a w hc hr hq
    cases c <;> first | (simp [chkC] at hc; done) | skip
    exact wp_ret ⟨G, σ, st, Mem.le.refl G, hr, hq⟩
end
end Go.Ab
