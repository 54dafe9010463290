/- One text of the proof whose last text says what is proved. -/
import Derived.Test.YtbpnhefkfamhaaaAb19
import Derived.IntWalk
set_option linter.unusedVariables false
set_option linter.unusedSimpArgs false
namespace Go.Ab

/-- A slot is read; the state stays written out. -/
def look : St → Nat → (Nat → SV → Prop) → Prop
  | [], _, _ => False
  | cur :: _, 0, K => match cur with
    | (v, sv) => K v sv
  | _ :: r, n + 1, K => look r n K
/-- A slot is set; the state stays written out. -/
def upK : St → Nat → Nat → SV → (St → Prop) → Prop
  | [], _, _, _, K => K []
  | _ :: r, 0, v, sv, K => K ((v, sv) :: r)
  | x :: r, n + 1, v, sv, K => upK r n v sv fun r' => K (x :: r')
def svK (sv : SV) (K : SV → Prop) : Prop := match sv with
  | .no => K .no
  | .v x => K (.v x)
  | .vec e sz l => K (.vec e sz l)
  | .box t => K (.box t)
  | .st fs => K (.st fs)
  | .tup fs => K (.tup fs)
  | .bor s k ver => K (.bor s k ver)
  | .sub s k ver n => K (.sub s k ver n)
  | .suf s k ver n => K (.suf s k ver n)
  | .pt s k ver off r => K (.pt s k ver off r)
  | .rp x => K (.rp x)
  | .par h => K (.par h)
theorem look_spec {K : Nat → SV → Prop} : ∀ {st : St} {n : Nat}, look st n K → ∃ cur, st[n]? = some cur ∧ K cur.1 cur.2
  | [], _, h => h.elim
  | (v, sv) :: _, 0, h => ⟨(v, sv), rfl, h⟩
  | _ :: r, n + 1, h => look_spec (st := r) (n := n) h
theorem upK_spec {v : Nat} {sv : SV} : ∀ {st : St} {n : Nat} {K : St → Prop}, upK st n v sv K → K (st.set n (v, sv))
  | [], _, _, h => h
  | _ :: _, 0, _, h => h
  | _ :: r, n + 1, K, h => upK_spec (st := r) (n := n) (K := fun r' => K (_ :: r')) h
theorem svK_spec {sv : SV} {K : SV → Prop} (h : svK sv K) : K sv := by cases sv <;> exact h

def M.wq (P : Program) : M → (St → Prop) → St → Prop
  | .get i k, Q, st => look st i fun v sv => (k v sv).wq P Q st
  | .set i ver sv k, Q, st => svK sv fun sv => upK st i ver sv fun st => k.wq P Q st
  | .done, Q, st => Q st
  | .chk p, _, st => p st
  | .fail, _, _ => False
  | .need p k, Q, st => ∃ h : p, (k h).wq P Q st
  | .all p k, Q, st => ∀ b, p b → (k b).wq P Q st
  | .fact p k, Q, st => p → k.wq P Q st
  | .ite b x y, Q, st => (b = true → x.wq P Q st) ∧ (b = false → y.wq P Q st)
  | .call f args k, Q, st => CallWp P f args fun r as => (k r as).wq P Q st
theorem M.wq_wp {P : Program} {Q : St → Prop} : ∀ {m : M} {st : St}, m.wq P Q st → m.wp P Q st := by
  intro m
  induction m with
  | get i k ih =>
    intro st h
    obtain ⟨cur, h1, h2⟩ := look_spec h
    simp only [M.wp, h1]
    exact ih _ _ h2
  | set i ver sv k ih =>
    intro st h
    simp only [M.wq] at h
    simp only [M.wp]
    exact ih (upK_spec (svK_spec (K := fun sv => upK st i ver sv fun st => k.wq P Q st) h))
  | done => intro st h; exact h
  | chk p => intro st h; exact h
  | fail => intro st h; exact h
  | need p k ih => intro st ⟨h1, h2⟩; exact ⟨h1, ih _ h2⟩
  | all p k ih => intro st h b hb; exact ih _ (h b hb)
  | fact p k ih => intro st h hp; exact ih (h hp)
  | ite b x y ihx ihy => intro st h; exact ⟨fun hb => ihx (h.1 hb), fun hb => ihy (h.2 hb)⟩
  | call f args k ih => intro st ⟨Post, h1, h2⟩; exact ⟨Post, h1, fun r as hp => ih _ _ (h2 r as hp)⟩

def wqIOs (P : Program) : List Ao → (St → Prop) → St → Prop
  | [], Q, st => Q st
  | i :: l, Q, st => i.sem.wq P (wqIOs P l Q) st
theorem wqIOs_wp {P : Program} {Q Q' : St → Prop} (hQ : ∀ st, Q st → Q' st) : ∀ {l : List Ao} {st : St}, wqIOs P l Q st → wpIOs P l Q' st
  | [], st, h => hQ st h
  | i :: l, st, h => M.wp_mono (fun _ h => wqIOs_wp (l := l) hQ h) _ _ (M.wq_wp h)

def M.wz (P : Program) : M → (St → List Nat → Log → List Prop → Prop) → St → List Nat → Log → List Prop → Prop
  | .get i k, K, st, R, L, F => look st i fun v sv => (k v sv).wz P K st (i :: R) L F
  | .set i ver sv k, K, st, R, L, F => svK sv fun sv => upK st i ver sv fun st => k.wz P K st R ((i, (ver, sv)) :: L) F
  | .done, K, st, R, L, F => K st R L F
  | .chk _, _, _, _, _, _ => False
  | .fail, _, _, _, _, _ => False
  | .need p k, K, st, R, L, F => ∃ h : p, (k h).wz P K st R L F
  | .all _ _, _, _, _, _, _ => False
  | .fact p k, K, st, R, L, F => k.wz P K st R L (p :: F)
  | .ite b x y, K, st, R, L, F => (b = true → x.wz P K st R L F) ∧ (b = false → y.wz P K st R L F)
  | .call f args k, K, st, R, L, F => CallIs P f args fun r as => (k r as).wz P K st R L F
theorem M.wz_wr {P : Program} {K K' : St → List Nat → Log → List Prop → Prop} (hK : ∀ st R L F, K st R L F → K' st R L F) : ∀ {m : M} {st : St} {R : List Nat} {L : Log} {F : List Prop}, m.wz P K st R L F → m.wr P K' st R L F := by
  intro m
  induction m with
  | get i k ih =>
    intro st R L F h
    obtain ⟨cur, h1, h2⟩ := look_spec h
    refine ⟨by rw [h1]; simp, fun cur' h3 => ?_⟩
    rw [h1] at h3
    cases h3
    exact ih _ _ h2
  | set i ver sv k ih =>
    intro st R L F h
    simp only [M.wz] at h
    simp only [M.wr]
    have h1 := svK_spec (K := fun sv => upK st i ver sv fun st => k.wz P K st R ((i, (ver, sv)) :: L) F) h
    exact ih (upK_spec (K := fun st => k.wz P K st R ((i, (ver, sv)) :: L) F) h1)
  | done => intro st R L F h; exact hK _ _ _ _ h
  | chk p => intro st R L F h; exact h
  | fail => intro st R L F h; exact h
  | need p k ih => intro st R L F ⟨h1, h2⟩; exact ⟨h1, ih _ h2⟩
  | all p k ih => intro st R L F h; exact h.elim
  | fact p k ih => intro st R L F h; exact ih (F := p :: F) h
  | ite b x y ihx ihy => intro st R L F h; exact ⟨fun hb => ihx (h.1 hb), fun hb => ihy (h.2 hb)⟩
  | call f args k ih => intro st R L F ⟨r0, as0, h1, h2⟩; exact ⟨r0, as0, h1, ih _ _ h2⟩
def wzIOs (P : Program) : List Ao → (List Rec → St → Prop) → List Rec → St → Prop
  | [], K, ds, st => K ds st
  | i :: l, K, ds, st => i.sem.wz P (fun st' R L F => wzIOs P l K (ds ++ [⟨R, L, F⟩]) st') st [] [] []
theorem wzIOs_wr {P : Program} {K K' : List Rec → St → Prop} (hK : ∀ ds st, K ds st → K' ds st) : ∀ {l : List Ao} {ds : List Rec} {st : St}, wzIOs P l K ds st → wrIOs P l K' ds st
  | [], ds, st, h => hK ds st h
  | i :: l, ds, st, h => M.wz_wr (fun _ _ _ _ h => wzIOs_wr (l := l) hK h) h

/-- A state is written out. -/
def litK : St → (St → Prop) → Prop
  | [], K => K []
  | x :: r, K => litK r fun r' => match x with
    | (v, sv) => svK sv fun sv => K ((v, sv) :: r')
theorem litK_spec : ∀ {st : St} {K : St → Prop}, litK st K → K st
  | [], _, h => h
  | (v, sv) :: r, K, h => by
    have := litK_spec (st := r) (K := fun r' => svK sv fun sv => K ((v, sv) :: r')) h
    exact svK_spec (K := fun sv => K ((v, sv) :: r)) this

/-- A round's end, as the walk stops at it. -/
structure Round {X : Type} (ks : List Nat) (J : X → St) (R : X → Prop) (μ : X → Nat) (x : X) (st : St) : Prop where
  out : ∃ x', norm ks st = J x' ∧ R x' ∧ μ x' < μ x
/-- A loop, as the walk stops at it: 'body' is what a round must give. -/
structure LoopWq (ks : List Nat) (body : (St → Prop) → St → Prop) (st : St) : Prop where
  out : ∃ (X : Type) (J : X → St) (R : X → Prop) (μ : X → Nat), (∃ x, norm ks st = J x ∧ R x) ∧ ∀ x, R x → litK (J x) (body (Round ks J R μ x))
/-- Slots that a loop changes. -/
def upd : St → List (Nat × SV) → St
  | st, [] => st
  | st, (n, sv) :: r => upd (st.set n (0, sv)) r
theorem LoopWq.by {X : Type} {ks : List Nat} {body : (St → Prop) → St → Prop} {st : St} (vals : X → List (Nat × SV)) (R : X → Prop) (μ : X → Nat) (x0 : X)
    (h0 : norm ks st = upd (norm ks st) (vals x0)) (hR : R x0) (h : ∀ x, R x → litK (upd (norm ks st) (vals x)) (body (Round ks (fun x => upd (norm ks st) (vals x)) R μ x))) : LoopWq ks body st :=
  ⟨X, fun x => upd (norm ks st) (vals x), R, μ, ⟨x0, h0, hR⟩, h⟩
theorem Round.by {X : Type} {ks : List Nat} {J : X → St} {R : X → Prop} {μ : X → Nat} {x : X} {st : St} (x' : X) (h1 : norm ks st = J x') (h2 : R x') (h3 : μ x' < μ x) : Round ks J R μ x st := ⟨x', h1, h2, h3⟩

def wqS (P : Program) : Stm → Post → St → Prop
  | .skip, Q, st => Q.nrm st
  | .ops l, Q, st => wqIOs P l Q.nrm st
  | .drw es l, Q, st => wzIOs P l (Drawn es Q.nrm) [] st
  | .seq a b, Q, st => wqS P a ⟨wqS P b Q, Q.ex, Q.ret⟩ st
  | .cond c a b, Q, st => (rdB' c fun t => .ite t (.chk (wqS P a Q)) (.chk (wqS P b Q))).wq P (fun _ => False) st
  | .block id a, Q, st => wqS P a ⟨Q.nrm, brk id Q, Q.ret⟩ st
  | .loop ks a, Q, st => LoopWq ks (fun K => wqS P a ⟨K, Q.ex, Q.ret⟩) st
  | .exit id, Q, st => Q.ex id st
  | .ret, Q, st => Q.ret st
theorem wqS_wp {P : Program} : ∀ {s : Stm} {Q Q' : Post} {st : St}, (∀ st, Q.nrm st → Q'.nrm st) → (∀ i st, Q.ex i st → Q'.ex i st) → (∀ st, Q.ret st → Q'.ret st) → wqS P s Q st → wpS P s Q' st := by
  intro s
  induction s with
  | skip => intro Q Q' st h1 h2 h3 h; exact h1 _ h
  | ops l => intro Q Q' st h1 h2 h3 h; exact wqIOs_wp h1 h
  | drw es l => intro Q Q' st h1 h2 h3 h; exact wzIOs_wr (fun _ _ h => ⟨h.ok, fun hf => h1 _ (h.go hf)⟩) h
  | seq a b iha ihb => intro Q Q' st h1 h2 h3 h; exact iha (Q := ⟨wqS P b Q, Q.ex, Q.ret⟩) (Q' := ⟨wpS P b Q', Q'.ex, Q'.ret⟩) (fun st h => ihb h1 h2 h3 h) h2 h3 h
  | cond c a b iha ihb =>
    intro Q Q' st h1 h2 h3 h
    have h := M.wq_wp h
    unfold wpS
    have aux : ∀ (t : Bool), (M.ite t (.chk (wqS P a Q)) (.chk (wqS P b Q))).wp P (fun _ => False) st → (M.ite t (.chk (wpS P a Q')) (.chk (wpS P b Q'))).wp P (fun _ => False) st := by
      intro t ⟨g1, g2⟩
      exact ⟨fun hb => iha h1 h2 h3 (g1 hb), fun hb => ihb h1 h2 h3 (g2 hb)⟩
    unfold rdB' at h ⊢
    obtain ⟨i, g1, g2⟩ := rdI_spec h
    have g3 : (match i with | .bool t => M.ite t (.chk (wpS P a Q')) (.chk (wpS P b Q')) | _ => .fail).wp P (fun _ => False) st := by
      split at g1
      · exact aux _ g1
      · exact g1.elim
    rcases g2 with ⟨n, ver, rfl, hn⟩ | rfl | ⟨e, sz, rfl, rfl⟩
    · simp only [rdI, M.wp, hn]; exact g3
    · exact g3
    · exact g3
  | block id a ih =>
    intro Q Q' st h1 h2 h3 h
    refine ih (Q := ⟨Q.nrm, brk id Q, Q.ret⟩) (Q' := ⟨Q'.nrm, brk id Q', Q'.ret⟩) h1 ?_ h3 h
    intro i st h
    simp only [brk] at h ⊢
    split
    · rename_i hi; rw [if_pos hi] at h; exact h1 _ h
    · rename_i hi; rw [if_neg hi] at h; exact h2 _ _ h
  | loop ks a ih =>
    intro Q Q' st h1 h2 h3 ⟨X, J, R, μ, h4, h5⟩
    exact ⟨X, J, R, μ, h4, fun x hx => ih (Q := ⟨Round ks J R μ x, Q.ex, Q.ret⟩) (Q' := ⟨LoopEnd ks J R μ x, Q'.ex, Q'.ret⟩) (fun _ h => h.out) h2 h3 (litK_spec (K := wqS P a ⟨Round ks J R μ x, Q.ex, Q.ret⟩) (h5 x hx))⟩
  | exit id => intro Q Q' st h1 h2 h3 h; exact h2 _ _ h
  | ret => intro Q Q' st h1 h2 h3 h; exact h3 _ h

/-- What is to hold at the end of a body, as the walk goes through it. -/
def Fin' (P : Program) (N : Nat) (rs : List Ret) (args : List SV) (R : SV → List SV → Prop) (st : St) : Prop :=
  (retI rs fun us => .chk fun st' => Done (R (resSV us) (outsFrom N st' 0 args)) (outsFrom N st' 0 args)).wq P (fun _ => False) st
/-- A function's body, as the walk goes through it. -/
def wqF (P : Program) (N : Nat) (s : Stm) (rs : List Ret) (args : List SV) (R : SV → List SV → Prop) : Prop :=
  litK (entry N args) fun st => wqS P s ⟨Fin' P N rs args R, noEx, Fin' P N rs args R⟩ st
theorem wqF_wp {P : Program} {N : Nat} {s : Stm} {rs : List Ret} {args : List SV} {R : SV → List SV → Prop} (h : wqF P N s rs args R) : wpF P N s rs args R :=
  wqS_wp (Q := ⟨Fin' P N rs args R, noEx, Fin' P N rs args R⟩) (Q' := ⟨Fin P N rs args R, noEx, Fin P N rs args R⟩) (fun _ h => M.wq_wp h) (fun _ _ h => h) (fun _ h => M.wq_wp h)
    (litK_spec (K := fun st => wqS P s ⟨Fin' P N rs args R, noEx, Fin' P N rs args R⟩ st) h)

def FinV' (P : Program) (N n : Nat) (args : List SV) (R : SV → List SV → Prop) (st : St) : Prop :=
  (M.get n fun _ sv => match sv with
    | .vec e sz l => .chk fun st' => Done (R (.vec e sz l) (outsFrom N st' 0 args)) (outsFrom N st' 0 args)
    | _ => .fail).wq P (fun _ => False) st
def wqFV (P : Program) (N : Nat) (s : Stm) (n : Nat) (args : List SV) (R : SV → List SV → Prop) : Prop :=
  litK (entry N args) fun st => wqS P s ⟨FinV' P N n args R, noEx, FinV' P N n args R⟩ st
theorem wqFV_wp {P : Program} {N : Nat} {s : Stm} {n : Nat} {args : List SV} {R : SV → List SV → Prop} (h : wqFV P N s n args R) : wpFV P N s n args R :=
  wqS_wp (Q := ⟨FinV' P N n args R, noEx, FinV' P N n args R⟩) (Q' := ⟨FinV P N n args R, noEx, FinV P N n args R⟩) (fun _ h => M.wq_wp h) (fun _ _ h => h) (fun _ h => M.wq_wp h)
    (litK_spec (K := fun st => wqS P s ⟨FinV' P N n args R, noEx, FinV' P N n args R⟩ st) h)
end Go.Ab

namespace Go.Ab
theorem wrap_id {n : Int} (h : -9223372036854775808 ≤ n ∧ n ≤ 9223372036854775807) : IntKind.i64.wrap n = n := by rw [IntKind.wrap_i64]; omega
theorem wrap_succ {k n : Nat} (h : k < n) (hn : n ≤ maxLen) : IntKind.i64.wrap ((k : Int) + 1) = ((k + 1 : Nat) : Int) := by
  simp only [maxLen] at hn
  rw [wrap_id (by omega)]
  rfl
/-- A boolean result. -/
theorem SV.bool_congr {a b : Bool} (h : a = b) : SV.v (.bool a) = SV.v (.bool b) := congrArg (fun b => SV.v (.bool b)) h
theorem all_size {l : List I} {sz : Nat} (h : (l.all fun u => u.size == sz) = true) : ∀ u ∈ l, u.size = sz := by
  intro u hu
  simpa using List.all_eq_true.1 h u hu
end Go.Ab
