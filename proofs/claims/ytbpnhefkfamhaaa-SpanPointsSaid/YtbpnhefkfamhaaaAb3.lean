/- One text of the proof whose last text says what is proved. -/
import Derived.Test.YtbpnhefkfamhaaaAb2
set_option linter.unusedVariables false
set_option linter.unusedSimpArgs false
namespace Go.Ab

/-- What a called function comes to: from what is handed in ('args': slot i owns args[i]) to its result and to what it leaves of what it was handed. -/
def Fn (P : Program) (f : FuncId) (args : List SV) (Post : SV → List SV → Prop) : Prop :=
  ∀ (G : Mem) (σ : Lab) (Fr : Mem) (w : World) (cargs : Array Value), WOk G σ Fr ⟨w, 0, #[]⟩ w → cargs.size = args.length →
    (∀ i sv, args[i]? = some sv → sv.root = none ∧ RepOwn G σ w i sv (cargs.getD i undef)) →
    Calls P f cargs w fun e w' => ∃ (r : SV) (as : List SV) (c : Value) (G' : Mem) (σ' : Lab), e = .returned c ∧ Post r as ∧ G.le G' ∧ WOk G' σ' Fr ⟨w, 0, #[]⟩ w' ∧
      r.root = none ∧ RepOwn G' σ' w' args.length r c ∧ as.length = args.length ∧ ∀ i sv, as[i]? = some sv → sv.root = none ∧ RepOwn G' σ' w' i sv (cargs.getD i undef)

/-- The steps of the abstract machine: what an operation does to the slots. -/
inductive M where
  | get (i : Nat) (k : Nat → SV → M)
  | set (i ver : Nat) (sv : SV) (k : M)
  | done
  | chk (p : St → Prop)
  | fail
  | need (p : Prop) (k : p → M)
  | all (p : Bool → Prop) (k : Bool → M)
  | fact (p : Prop) (k : M)
  | ite (b : Bool) (x y : M)
  | call (f : FuncId) (args : List SV) (k : SV → List SV → M)

/-- A call, as the walk stops at it. -/
structure CallWp (P : Program) (f : FuncId) (args : List SV) (Q : SV → List SV → Prop) : Prop where
  out : ∃ Post, Fn P f args Post ∧ ∀ r as, Post r as → Q r as

def M.wp (P : Program) : M → (St → Prop) → St → Prop
  | .get i k, Q, st => match st[i]? with
    | some cur => (k cur.1 cur.2).wp P Q st
    | none => False
  | .set i ver sv k, Q, st => k.wp P Q (st.set i (ver, sv))
  | .done, Q, st => Q st
  | .chk p, _, st => p st
  | .fail, _, _ => False
  | .need p k, Q, st => ∃ h : p, (k h).wp P Q st
  | .all p k, Q, st => ∀ b, p b → (k b).wp P Q st
  | .fact p k, Q, st => p → k.wp P Q st
  | .ite b x y, Q, st => (b = true → x.wp P Q st) ∧ (b = false → y.wp P Q st)
  | .call f args k, Q, st => CallWp P f args fun r as => (k r as).wp P Q st

theorem M.wp_mono {P : Program} {Q Q' : St → Prop} (hQ : ∀ st, Q st → Q' st) : ∀ (m : M) (st : St), m.wp P Q st → m.wp P Q' st := by
  intro m
  induction m with
  | get i k ih =>
    intro st h
    simp only [M.wp] at h ⊢
    split at h
    · exact ih _ _ _ h
    · exact h
  | set i ver sv k ih => intro st h; exact ih _ h
  | done => intro st h; exact hQ _ h
  | chk p => intro st h; exact h
  | fail => intro st h; exact h
  | need p k ih => intro st ⟨h1, h2⟩; exact ⟨h1, ih _ _ h2⟩
  | all p k ih => intro st h b hb; exact ih _ _ (h b hb)
  | fact p k ih => intro st h hp; exact ih _ (h hp)
  | ite b x y ihx ihy =>
    intro st h
    exact ⟨fun hb => ihx _ (h.1 hb), fun hb => ihy _ (h.2 hb)⟩
  | call f args k ih => intro st ⟨Post, h1, h2⟩; exact ⟨Post, h1, fun r as hp => ih _ _ _ (h2 r as hp)⟩

/-- An operand. -/
inductive Opd where
  | t (n : Nat)
  | c (x : I)
  | nils (e : TypeId) (sz : Nat)
  deriving Inhabited

def setD (d : Option Nat) (sv : SV) (k : M) : M := match d with
  | some d => .get d fun ver _ => .set d (ver + 1) sv k
  | none => k

/-- An immutable item is read. -/
def rdI (x : Opd) (k : I → M) : M := match x with
  | .c x => k x
  | .nils _ _ => k (.list [])
  | .t n => .get n fun _ sv => match sv with
    | .v x => k x
    | _ => .fail

section
variable {P : Program} {N : Nat} {G : Mem} {σ : Lab} {Fr : Mem} {w0 : Base} {w : World} {st : St} {a : Act}

theorem Rel.slot (h : Rel G σ Fr w0 st a w) {n ver : Nat} {sv : SV} (hlt : n < w0.n) (hn : st[n]? = some (ver, sv)) : RepSV G σ w st n sv (a.eval (.tmp n)) := by
  have := h.slots n ver sv hn
  rwa [val_tmp (by rw [h.n]; exact hlt)] at this

/-- What an operation of the program must be for its steps to be sound. -/
def Sound (P : Program) (N : Nat) (o : Oper) (m : M) : Prop :=
  ∀ (G : Mem) (σ : Lab) (Fr : Mem) (w0 : Base) (st : St) (a : Act) (w : World) (Q : St → Prop) (next : Act → World → Prop) (E : Exit → Act → World → Prop),
    w0.n = N → Rel G σ Fr w0 st a w → m.wp P Q st →
    (∀ G' σ' st' a' w', G.le G' → Rel G' σ' Fr w0 st' a' w' → Q st' → next a' w') → (∀ d, o.dst = some d → d < w0.n) → o.wp P a w next E

theorem wp_value {o : Oper} {next : Act → World → Prop} {E : Exit → Act → World → Prop} {v : Value} {w' : World}
    (h : (execOp a.eval o).run P w = .ok (.value v) w') (k : next (a.put o.dst v) w') : o.wp P a w next E := by
  unfold Oper.wp
  rw [h]
  exact k
theorem wp_skipped {o : Oper} {next : Act → World → Prop} {E : Exit → Act → World → Prop} {w' : World}
    (h : (execOp a.eval o).run P w = .ok .skip w') (k : next (a.put o.dst undef) w') : o.wp P a w next E := by
  unfold Oper.wp
  rw [h]
  exact k

/-- The common end: a value that means 'sv', the world as it was (but for what is fixed by now). -/
theorem Rel.setD {Q : St → Prop} {d : Option Nat} {sv : SV} {c : Value} (h : Rel G σ Fr w0 st a w) (hb : ∀ d', d = some d' → d' < w0.n)
    (hnew : ∀ d', d = some d' → ∀ ver, (st.set d' (ver, sv))[d']? = some (ver, sv) → RepSV G (σ.drop d') w (st.set d' (ver, sv)) d' sv c)
    (hq : (setD d sv .done).wp P Q st) (hp : ∀ h, sv = .par h → c = val a w0 h ∧ w0.n ≤ h := by intro _ e; cases e) : ∃ σ' st', Rel G σ' Fr w0 st' (a.put d c) w ∧ Q st' := by
  cases d with
  | none => exact ⟨σ, st, h, hq⟩
  | some d =>
    simp only [Ab.setD, M.wp] at hq
    cases hd : st[d]? with
    | none => simp [hd] at hq
    | some cur =>
      simp only [hd] at hq
      have hlt : d < st.length := (List.getElem?_eq_some_iff.1 hd).1
      exact ⟨σ.drop d, _, h.put (hb d rfl) (h.wok.drop d) (Mem.le.refl G) hd (Nat.lt_succ_self _) (fun s' hs => Kept.drop σ w hs)
        (hnew d rfl (cur.1 + 1) (by simp [hlt])) hp, hq⟩

/-- 'x' is an operand that means 'v'. -/
theorem rdI_spec {x : Opd} {k : I → M} {Q : St → Prop} (h : (rdI x k).wp P Q st) :
    ∃ i, (k i).wp P Q st ∧ ((∃ n ver, x = .t n ∧ st[n]? = some (ver, .v i)) ∨ x = .c i ∨ (∃ e sz, x = .nils e sz ∧ i = .list [])) := by
  cases x with
  | c i => exact ⟨i, h, .inr (.inl rfl)⟩
  | nils e sz => exact ⟨_, h, .inr (.inr ⟨e, sz, rfl, rfl⟩)⟩
  | t n =>
    simp only [rdI, M.wp] at h
    cases hn : st[n]? with
    | none => simp [hn] at h
    | some cur =>
      obtain ⟨ver, sv⟩ := cur
      simp only [hn] at h
      cases sv with
      | v i => exact ⟨i, h, .inl ⟨n, ver, rfl, hn⟩⟩
      | _ => simp [M.wp] at h
end

/-- A constant's reading. -/
def cOk : I → Value → Bool
  | .int k n, .int k' n' => k == k' && n == n'
  | .bool b, .bool b' => b == b'
  | .str s, .string t => s == t.data.toList && s.length ≤ maxLen
  | .fn f, .func (.func g) a b => f == g && a.isEmpty && b.isEmpty
  | .nili, .nilIface => true
  | _, _ => false
theorem cOk_spec {x : I} {c : Value} (h : cOk x c = true) (G : Mem) : RepV G x c := by
  unfold cOk at h
  split at h
  · simp only [Bool.and_eq_true, beq_iff_eq] at h; simp [RepV, I.isAgg, RepI, h]
  · simp only [beq_iff_eq] at h; simp [RepV, I.isAgg, RepI, h]
  · rename_i s t
    simp only [Bool.and_eq_true, beq_iff_eq, decide_eq_true_eq] at h
    obtain ⟨h1, h2⟩ := h
    subst h1
    unfold RepV
    rw [if_neg (by simp [I.isAgg])]
    exact ⟨rfl, h2⟩
  · simp only [Bool.and_eq_true, beq_iff_eq, Array.isEmpty_iff] at h
    obtain ⟨⟨h1, h2⟩, h3⟩ := h
    simp [RepV, I.isAgg, RepI, h1, h2, h3]
  · simp [RepV, I.isAgg, RepI]
  · cases h

/-- An operand of the program's own, and ours. -/
def opdOk (N : Nat) : Operand → Opd → Bool
  | .tmp n, .t m => n == m && n < N
  | .const c, .c x => cOk x c
  | .const (.slice none 0 0), .nils _ _ => true
  | .func f, .c (.fn g) => f == g
  | _, _ => false
theorem opdOk_t {N : Nat} {x : Operand} {n : Nat} (h : opdOk N x (.t n) = true) : x = .tmp n ∧ n < N := by
  cases x <;> simp only [opdOk, Bool.and_eq_true, beq_iff_eq, decide_eq_true_eq] at h
  · obtain ⟨rfl, h⟩ := h; exact ⟨rfl, h⟩
  · cases h
  · cases h
  · cases h
section
variable {P : Program} {N : Nat} {G : Mem} {σ : Lab} {Fr : Mem} {w0 : Base} {w : World} {st : St} {a : Act}
theorem opdOk_c {x : Operand} {i : I} (h : opdOk N x (.c i) = true) (G : Mem) : RepV G i (a.eval x) := by
  unfold opdOk at h
  split at h
  · simp_all
  · rename_i c y he
    cases he
    exact cOk_spec h G
  · simp_all
  · rename_i f g he
    cases he
    simp only [beq_iff_eq] at h
    subst h
    simp [RepV, I.isAgg, RepI, Act.eval]
  · cases h
theorem opdOk_nils {x : Operand} {e : TypeId} {sz : Nat} (h : opdOk N x (.nils e sz) = true) : a.eval x = .slice none 0 0 := by
  unfold opdOk at h
  split at h <;> simp_all [Act.eval]

/-- The reading of an operand that is an item. -/
theorem rdI_rep {x : Operand} {y : Opd} {k : I → M} {Q : St → Prop} (h : Rel G σ Fr w0 st a w) (ho : opdOk w0.n x y = true) (hq : (rdI y k).wp P Q st) :
    ∃ i, (k i).wp P Q st ∧ RepV G i (a.eval x) := by
  obtain ⟨i, h1, h2⟩ := rdI_spec hq
  refine ⟨i, h1, ?_⟩
  rcases h2 with ⟨n, ver, rfl, hn⟩ | rfl | ⟨e, sz, rfl, rfl⟩
  · obtain ⟨rfl, hnlt⟩ := opdOk_t ho
    exact h.slot hnlt hn
  · exact opdOk_c ho G
  · rw [opdOk_nils ho]
    unfold RepV
    rw [if_neg (by simp [I.isAgg])]
    exact ⟨none, 0, rfl, Nat.le_refl _, by simp [maxLen], .inl rfl⟩
end
end Go.Ab
