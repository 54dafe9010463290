/- One text of the proof whose last text says what is proved. -/
import Derived.Test.YtbpnhefkfamhaaaAb18
set_option linter.unusedVariables false
set_option linter.unusedSimpArgs false
namespace Go.Ab

/-- How a result is read. -/
inductive Ret where
  | t (n : Nat)
  | cell (n : Nat) (agg : Bool) (sz : Nat)
  deriving Inhabited

/-- All owned slices of a box lie fixed from now on. -/
def frzAll (n : Nat) : List F → Nat → M → M
  | [], _, k => k
  | .i _ :: fs, j, k => frzAll n fs (j + 1) k
  | .vec _ _ _ :: fs, j, k => .get n fun ver sv => match sv.vecAt (j + 1) with
    | some _ => .set n (ver + 1) (sv.frzAt (j + 1)) (frzAll n fs (j + 1) k)
    | none => .fail

def retI : List Ret → (List I → M) → M
  | [], k => k []
  | .t n :: r, k => takeV (.t n) fun u => retI r fun us => k (u :: us)
  | .cell n agg sz :: r, k => .get n fun _ sv => match sv with
    | .box (.st fs) => frzAll n fs 0 (.get n fun _ sv => match sv with
      | .box t => match (SV.box t).hit 0 [] with
        | some (0, .item u) => .need (u.isAgg = agg ∧ u.size = sz) fun _ => retI r fun us => k (u :: us)
        | _ => .fail
      | _ => .fail)
    | .box (.one f) => match (SV.box (.one f)).hit 0 [] with
      | some (0, .item u) => .need (u.isAgg = agg ∧ u.size = sz) fun _ => retI r fun us => k (u :: us)
      | _ => .fail
    | _ => .fail

def resSV : List I → SV
  | [u] => .v u
  | us => .tup (us.map .i)

def paramOf (N : Nat) (i : Nat) : SV → SV
  | .v x => .v x
  | .rp x => .rp x
  | .box _ | .vec _ _ _ => .par (N + i)
  | _ => .no
def hidOf : SV → SV
  | .box t => .box t
  | .vec e sz l => .vec e sz l
  | _ => .no
def paramsFrom (N : Nat) : Nat → List SV → St
  | _, [] => []
  | i, sv :: r => (0, paramOf N i sv) :: paramsFrom N (i + 1) r
def entry (N : Nat) (args : List SV) : St := paramsFrom N 0 args ++ List.replicate (N - args.length) (0, .no) ++ args.map fun sv => (0, hidOf sv)
def outsFrom (N : Nat) (st : St) : Nat → List SV → List SV
  | _, [] => []
  | i, sv :: r => (if sv.lends then (match st[N + i]? with
    | some cur => cur.2
    | none => .no) else .no) :: outsFrom N st (i + 1) r

/-- Whether nothing but what is owned comes back. -/
def ownAll : List SV → Bool
  | [] => true
  | sv :: r => match sv.root with
    | none => ownAll r
    | some _ => false
theorem ownAll_spec : ∀ {l : List SV}, ownAll l = true → ∀ sv ∈ l, sv.root = none
  | [], _, _, h => by cases h
  | x :: r, h, sv, hm => by
    unfold ownAll at h
    split at h
    · rename_i hx
      rcases List.mem_cons.mp hm with rfl | hm
      · exact hx
      · exact ownAll_spec h sv hm
    · cases h
/-- A body's end, as the walk stops at it. -/
structure Done (R : Prop) (outs : List SV) : Prop where
  post : R
  own : ownAll outs = true

/-- What is to hold at the end of a body. -/
def Fin (P : Program) (N : Nat) (rs : List Ret) (args : List SV) (R : SV → List SV → Prop) (st : St) : Prop :=
  (retI rs fun us => .chk fun st' => Done (R (resSV us) (outsFrom N st' 0 args)) (outsFrom N st' 0 args)).wp P (fun _ => False) st
def noEx (_ : Nat) (_ : St) : Prop := False
/-- A function's body, from what it is handed to what it hands back. -/
def wpF (P : Program) (N : Nat) (s : Stm) (rs : List Ret) (args : List SV) (R : SV → List SV → Prop) : Prop :=
  wpS P s ⟨Fin P N rs args R, noEx, Fin P N rs args R⟩ (entry N args)

def retOk (P : Program) (N : Nat) : List ResultVar → List Ret → Bool
  | [], [] => true
  | .tmp t :: l, .t n :: r => t == n && n < N && retOk P N l r
  | .cell a t :: l, .cell n agg sz :: r => a == n && n < N && tyOk P t agg sz && retOk P N l r
  | _, _ => false

/-- A result's value. -/
def resV (tmps : Array Value) : ResultVar → Sem Value
  | .tmp t => pure (tmps.getD t undef)
  | .cell p t => do loadVar t (← asAddr (tmps.getD p undef))
theorem results_eq (fn : Func) (tmps : Array Value) : results fn tmps = (do let vs ← fn.results.mapM (resV tmps); pure (if h : vs.size = 1 then vs[0] else .tuple vs)) := by
  unfold results
  congr 1

section
variable {P : Program} {N : Nat} {G : Mem} {σ : Lab} {Fr : Mem} {w0 : Base} {w : World} {st : St} {a : Act}

theorem frzAll_rep {Q : St → Prop} {n : Nat} {k : M} : ∀ {fs : List F} {j : Nat} {G : Mem} {σ : Lab} {st : St}, Rel G σ Fr w0 st a w → (frzAll n fs j k).wp P Q st →
    ∃ G' σ' st', G.le G' ∧ Rel G' σ' Fr w0 st' a w ∧ k.wp P Q st'
  | [], _, G, σ, st, hr, hq => ⟨G, σ, st, Mem.le.refl G, hr, hq⟩
  | .i _ :: fs, j, G, σ, st, hr, hq => frzAll_rep (fs := fs) hr hq
  | .vec _ _ _ :: fs, j, G, σ, st, hr, hq => by
    simp only [frzAll, M.wp] at hq
    cases hs : st[n]? with
    | none => simp [hs] at hq
    | some cur =>
      obtain ⟨ver, sv⟩ := cur
      simp only [hs] at hq
      split at hq
      · rename_i p hp
        obtain ⟨e, sz, l⟩ := p
        obtain ⟨G', σ', h1, h2, _⟩ := hr.freeze hs hp (Nat.lt_succ_self ver)
        obtain ⟨G'', σ'', st'', h3, h4, h5⟩ := frzAll_rep (fs := fs) h2 hq
        exact ⟨G'', σ'', st'', h1.trans h3, h4, h5⟩
      · exact hq.elim

theorem cell_rep {n : Nat} {sv : SV} {ver : Nat} {u : I} {t : TypeId} (hr : Rel G σ Fr w0 st a w) (hn : n < w0.n) (hs : st[n]? = some (ver, sv)) (hb : ∃ t, sv = .box t) (hh : sv.hit 0 [] = some (0, .item u)) (ht : tyOk P t u.isAgg u.size = true) :
    ∃ v, (do loadVar t (← asAddr (a.tmps.getD n undef)) : Sem Value).run P w = .ok v w ∧ RepV G u v := by
  obtain ⟨tt, rfl⟩ := hb
  have hrep := hr.slot hn hs
  obtain ⟨b, cells, ty, h1, h2, h3, h4⟩ := hrep
  obtain ⟨bl, ty', fz, pre, cs, post, g1, _, g2, g3, g4, _⟩ := hit_item hr.wok (show RepOwn G σ w n (.box tt) (a.eval (.tmp n)) from hr.slot hn hs) hh h2
  obtain ⟨v, hl, hv⟩ := load_item (P := P) ht g1 g2 g3 g4
  have he : a.tmps.getD n undef = .pointer (some ⟨b, 0, none⟩) := h1
  exact ⟨v, by rw [he]; simp [asAddr, hl], hv⟩

theorem retI_rep {Q : St → Prop} : ∀ {rs : List Ret} {rv : List ResultVar} {k : List I → M} {G : Mem} {σ : Lab} {st : St}, Rel G σ Fr w0 st a w → retOk P w0.n rv rs = true → (retI rs k).wp P Q st →
    ∃ us cs G' σ' st', G.le G' ∧ Rel G' σ' Fr w0 st' a w ∧ (k us).wp P Q st' ∧
      (rv.mapM (resV a.tmps)).run P w = .ok cs w ∧ RepTup G' σ' w 0 0 (us.map F.i) cs
  | [], [], k, G, σ, st, hr, _, hq => ⟨[], [], G, σ, st, Mem.le.refl G, hr, hq, by simp, rfl⟩
  | .t n :: rs, .tmp m :: rv, k, G, σ, st, hr, ho, hq => by
    simp only [retOk, Bool.and_eq_true, beq_iff_eq, decide_eq_true_eq] at ho
    obtain ⟨⟨rfl, h1⟩, h2⟩ := ho
    obtain ⟨u, G1, σ1, st1, g1, g2, g3, g4⟩ := takeV_rep (x := .tmp m) hr (by simp [opdOk, h1]) hq
    obtain ⟨us, cs, G2, σ2, st2, q1, q2, q3, q4, q5⟩ := retI_rep g2 h2 g3
    refine ⟨u :: us, a.tmps.getD m undef :: cs, G2, σ2, st2, g1.trans q1, q2, q3, ?_, ?_⟩
    · simp only [List.mapM_cons, resV, Sem.run_bind, Sem.run_pure, Result.andThen, q4]
    · exact ⟨_, cs, rfl, g4.mono q1, by
        have aux : ∀ (l : List I) (j j' : Nat) (cs : List Value), RepTup G2 σ2 w 0 j (l.map F.i) cs → RepTup G2 σ2 w 0 j' (l.map F.i) cs := by
          intro l
          induction l with
          | nil => intro j j' cs h; exact h
          | cons x l ih => intro j j' cs h; obtain ⟨c, d, e, h1, h2⟩ := h; exact ⟨c, d, e, h1, ih _ _ _ h2⟩
        exact aux us 0 1 cs q5⟩
  | .cell n agg sz :: rs, .cell m t :: rv, k, G, σ, st, hr, ho, hq => by
    simp only [retOk, Bool.and_eq_true, beq_iff_eq, decide_eq_true_eq] at ho
    obtain ⟨⟨⟨rfl, h1⟩, ht⟩, h2⟩ := ho
    have aux : ∀ (G2 : Mem) (σ2 : Lab) (l : List I) (j j' : Nat) (cs : List Value), RepTup G2 σ2 w 0 j (l.map F.i) cs → RepTup G2 σ2 w 0 j' (l.map F.i) cs := by
      intro G2 σ2 l
      induction l with
      | nil => intro j j' cs h; exact h
      | cons x l ih => intro j j' cs h; obtain ⟨c, d, e, h1, h2⟩ := h; exact ⟨c, d, e, h1, ih _ _ _ h2⟩
    have fin : ∀ {G1 : Mem} {σ1 : Lab} {st1 : St} {ver : Nat} {sv : SV}, G.le G1 → Rel G1 σ1 Fr w0 st1 a w → st1[m]? = some (ver, sv) →
        (match sv.hit 0 [] with
          | some (0, .item u) => M.need (u.isAgg = agg ∧ u.size = sz) fun _ => retI rs fun us => k (u :: us)
          | _ => .fail).wp P Q st1 → (∃ t, sv = .box t) → ∃ us cs G' σ' st', G.le G' ∧ Rel G' σ' Fr w0 st' a w ∧ (k us).wp P Q st' ∧
      ((ResultVar.cell m t :: rv).mapM (resV a.tmps)).run P w = .ok cs w ∧ RepTup G' σ' w 0 0 (us.map F.i) cs := by
      intro G1 σ1 st1 ver sv hG1 hr1 hs hq1 hbox
      split at hq1
      · rename_i u hh
        obtain ⟨⟨rfl, rfl⟩, hq1⟩ := hq1
        obtain ⟨v, hl, hv⟩ := cell_rep (P := P) hr1 h1 hs hbox hh ht
        obtain ⟨us, cs, G2, σ2, st2, q1, q2, q3, q4, q5⟩ := retI_rep hr1 h2 hq1
        refine ⟨u :: us, v :: cs, G2, σ2, st2, hG1.trans q1, q2, q3, ?_, ⟨v, cs, rfl, hv.mono q1, aux _ _ us 0 1 cs q5⟩⟩
        have hl' : (resV a.tmps (.cell m t)).run P w = .ok v w := hl
        rw [List.mapM_cons, Sem.run_bind, hl']
        simp only [Result.andThen, Sem.run_bind, Sem.run_pure, q4]
      · exact hq1.elim
    simp only [retI, M.wp] at hq
    cases hs : st[m]? with
    | none => simp [hs] at hq
    | some cur =>
      obtain ⟨ver, sv⟩ := cur
      simp only [hs] at hq
      split at hq
      · obtain ⟨G1, σ1, st1, g1, g2, g3⟩ := frzAll_rep hr hq
        simp only [M.wp] at g3
        cases hs1 : st1[m]? with
        | none => simp [hs1] at g3
        | some cur1 =>
          obtain ⟨ver1, sv1⟩ := cur1
          simp only [hs1] at g3
          split at g3
          · exact fin g1 g2 hs1 g3 ⟨_, rfl⟩
          · exact g3.elim
      · exact fin (Mem.le.refl G) hr hs hq ⟨_, rfl⟩
      · exact hq.elim
  | [], r :: _, _, _, _, _, _, ho, _ => by cases r <;> simp [retOk] at ho
  | .t _ :: _, [], _, _, _, _, _, ho, _ => by simp [retOk] at ho
  | .cell _ _ _ :: _, [], _, _, _, _, _, ho, _ => by simp [retOk] at ho
  | .t _ :: _, .cell _ _ :: _, _, _, _, _, _, ho, _ => by simp [retOk] at ho
  | .cell _ _ _ :: _, .tmp _ :: _, _, _, _, _, _, ho, _ => by simp [retOk] at ho

theorem paramsFrom_get {N : Nat} : ∀ (args : List SV) (i j : Nat), (paramsFrom N i args)[j]? = (args[j]?).map fun sv => (0, paramOf N (i + j) sv)
  | [], i, j => by simp [paramsFrom]
  | sv :: r, i, 0 => by simp [paramsFrom]
  | sv :: r, i, j + 1 => by
    simp only [paramsFrom, List.getElem?_cons_succ]
    rw [paramsFrom_get r (i + 1) j, show i + (j + 1) = i + 1 + j by omega]
theorem paramsFrom_length {N : Nat} : ∀ (args : List SV) (i : Nat), (paramsFrom N i args).length = args.length
  | [], _ => rfl
  | _ :: r, i => by simp [paramsFrom, paramsFrom_length r]
theorem outsFrom_get {N : Nat} {st : St} : ∀ (args : List SV) (i j : Nat), (outsFrom N st i args)[j]? = (args[j]?).map fun sv => if sv.lends then (match st[N + (i + j)]? with | some cur => cur.2 | none => .no) else .no
  | [], i, j => by simp [outsFrom]
  | sv :: r, i, 0 => by simp [outsFrom]
  | sv :: r, i, j + 1 => by
    simp only [outsFrom, List.getElem?_cons_succ]
    rw [outsFrom_get r (i + 1) j, show i + (j + 1) = i + 1 + j by omega]
theorem outsFrom_length {N : Nat} {st : St} : ∀ (args : List SV) (i : Nat), (outsFrom N st i args).length = args.length
  | [], _ => rfl
  | _ :: r, i => by simp [outsFrom, outsFrom_length r]

theorem RepTup.one {s : Nat} : ∀ {us : List I} {j : Nat} {cs : List Value}, RepTup G σ w s j (us.map F.i) cs → cs.length = us.length
  | [], _, _, h => by simp [show _ = [] from h]
  | u :: us, j, cs, h => by
    obtain ⟨c, d, rfl, _, h2⟩ := h
    simp [RepTup.one h2]

/-- The labels of the caller, as the called function's hidden slots have them. -/
def Lab.shift (σ : Lab) (N : Nat) : Lab := fun b => (σ b).map fun p => (p.1 + N, p.2)
def Lab.unshift (σ : Lab) (N : Nat) : Lab := fun b => match σ b with
  | some (s, k) => if N ≤ s then some (s - N, k) else none
  | none => none

/-- What the end of a body must give. -/
def Ends (P : Program) (fn : Func) (args : List SV) (Post : SV → List SV → Prop) (E : St → Prop) : Prop :=
  ∀ {G : Mem} {Fr : Mem} {w : World} {cargs : Array Value} {a : Act} {w' : World} {G' : Mem} {σ' : Lab} {st : St}, cargs.size = args.length → args.length ≤ fn.ntmps → G.le G' → Rel G' σ' Fr ⟨w, fn.ntmps, cargs⟩ st a w' → E st →
      a.defers = [] ∧ ∃ v, (results fn a.tmps).run P w' = .ok v w' ∧ ∃ r as c G'' σ'', Ending.returned v = .returned c ∧ Post r as ∧ G.le G'' ∧ WOk G'' σ'' Fr ⟨w, 0, #[]⟩ w' ∧ r.root = none ∧ RepOwn G'' σ'' w' args.length r c ∧ as.length = args.length ∧
        ∀ i sv, as[i]? = some sv → sv.root = none ∧ RepOwn G'' σ'' w' i sv (cargs.getD i undef)

theorem Fn.of_code {f : FuncId} {fn : Func} {c : Code} {s : Stm} {args : List SV} {Post : SV → List SV → Prop} {E : St → Prop} (hf : P.funcs[f]? = some fn) (hb : fn.body = some c)
    (hc : chkC P fn.ntmps c s = true) (hn : args.length ≤ fn.ntmps) (hE : Ends P fn args Post E) (h : wpS P s ⟨E, noEx, E⟩ (entry fn.ntmps args)) : Fn P f args Post := by
  intro G σ Fr w cargs hok hlen hargs
  refine calls_of_wp hf hb ?_
  let B : Base := ⟨w, fn.ntmps, cargs⟩
  let a0 : Act := { tmps := cargs ++ Array.replicate (fn.ntmps - cargs.size) undef, defers := [] }
  have hsz : a0.tmps.size = fn.ntmps := by simp [a0, hlen]; omega
  have valT : ∀ i, i < cargs.size → val a0 B i = cargs.getD i undef := by
    intro i hi
    unfold val
    have : i < a0.tmps.size := by rw [hsz]; omega
    rw [Array.getD_eq_getD_getElem?, Array.getElem?_append_left this, Array.getD_eq_getD_getElem?]
    simp only [a0]
    rw [Array.getElem?_append_left hi]
  have valH : ∀ i, val a0 B (fn.ntmps + i) = cargs.getD i undef := by
    intro i
    unfold val
    rw [Array.getD_eq_getD_getElem?, Array.getElem?_append_right (by rw [hsz]; omega), hsz, Nat.add_sub_cancel_left, Array.getD_eq_getD_getElem?]
  have hshift : ∀ {b s k}, σ.shift fn.ntmps b = some (s, k) → ∃ i, s = i + fn.ntmps ∧ σ b = some (i, k) := by
    intro b s k hb
    unfold Lab.shift at hb
    cases hσ : σ b with
    | none => simp [hσ] at hb
    | some p =>
      obtain ⟨i, k'⟩ := p
      simp only [hσ, Option.map_some, Option.some.injEq, Prod.mk.injEq] at hb
      exact ⟨i, hb.1.symm, by rw [hb.2]⟩
  have hrel : Rel G (σ.shift fn.ntmps) Fr B (entry fn.ntmps args) a0 w := by
    have e1 : (paramsFrom fn.ntmps 0 args).length = args.length := paramsFrom_length args 0
    refine ⟨⟨hok.fixed, ?_, ?_, hok.frame, rfl, rfl, rfl, Nat.le_refl _, hok.apart⟩, rfl, hsz, ?_, ?_, ?_⟩
    · rintro b ⟨s, k⟩ hb
      obtain ⟨i, _, h1⟩ := hshift hb
      exact hok.own b _ h1
    · rintro b b' ⟨s, k⟩ hb hb'
      obtain ⟨i, h1, h2⟩ := hshift hb
      obtain ⟨i', h3, h4⟩ := hshift hb'
      obtain rfl : i = i' := by omega
      exact hok.inj b b' _ h2 h4
    · rw [hsz]
      simp [entry, e1, B, hlen]
      omega
    · intro s ver sv hs
      unfold entry at hs
      by_cases h1 : s < args.length
      · rw [List.append_assoc, List.getElem?_append_left (by rw [e1]; exact h1), paramsFrom_get, List.getElem?_eq_getElem h1] at hs
        simp only [Option.map_some, Option.some.injEq, Prod.mk.injEq, Nat.zero_add] at hs
        obtain ⟨rfl, rfl⟩ := hs
        rw [valT s (by omega)]
        obtain ⟨_, h2⟩ := hargs s _ (List.getElem?_eq_getElem h1)
        cases hsv : args[s] with
        | v x => rw [hsv] at h2; exact h2
        | rp x => rw [hsv] at h2; exact h2
        | _ => trivial
      · by_cases h2 : s < fn.ntmps
        · rw [List.append_assoc, List.getElem?_append_right (by rw [e1]; omega), e1, List.getElem?_append_left (by simp; omega), List.getElem?_replicate, if_pos (by omega)] at hs
          simp only [Option.some.injEq, Prod.mk.injEq] at hs
          obtain ⟨rfl, rfl⟩ := hs
          trivial
        · rw [List.getElem?_append_right (by simp [e1]; omega)] at hs
          have e2 : s - (paramsFrom fn.ntmps 0 args ++ List.replicate (fn.ntmps - args.length) (0, SV.no)).length = s - fn.ntmps := by simp [e1]; omega
          rw [e2, List.getElem?_map] at hs
          cases hi : args[s - fn.ntmps]? with
          | none => simp [hi] at hs
          | some sv0 =>
            simp only [hi, Option.map_some, Option.some.injEq, Prod.mk.injEq] at hs
            obtain ⟨rfl, rfl⟩ := hs
            have hv := valH (s - fn.ntmps)
            rw [show fn.ntmps + (s - fn.ntmps) = s by omega] at hv
            rw [hv]
            obtain ⟨_, h3⟩ := hargs _ _ hi
            have tr : ∀ b k, σ b = some (s - fn.ntmps, k) → σ.shift fn.ntmps b = some (s, k) ∧ w.heap[b]? = w.heap[b]? := by
              intro b k hb
              refine ⟨?_, rfl⟩
              unfold Lab.shift
              rw [hb]
              simp
              omega
            cases sv0 with
            | box t => exact RepOwn.tr h3 (Mem.le.refl G) tr
            | vec e sz l => exact RepOwn.tr h3 (Mem.le.refl G) tr
            | _ => trivial
    · intro s ver hh hs
      unfold entry at hs
      by_cases h1 : s < args.length
      · rw [List.append_assoc, List.getElem?_append_left (by rw [e1]; exact h1), paramsFrom_get, List.getElem?_eq_getElem h1] at hs
        simp only [Option.map_some, Option.some.injEq, Prod.mk.injEq, Nat.zero_add] at hs
        obtain ⟨rfl, hs⟩ := hs
        have : hh = fn.ntmps + s := by
          cases hsv : args[s] with
          | box t => rw [hsv] at hs; cases hs; rfl
          | vec e sz l => rw [hsv] at hs; cases hs; rfl
          | _ => rw [hsv] at hs; cases hs
        subst this
        exact ⟨by rw [valT s (by omega), valH], Nat.le_add_right _ _⟩
      · by_cases h2 : s < fn.ntmps
        · rw [List.append_assoc, List.getElem?_append_right (by rw [e1]; omega), e1, List.getElem?_append_left (by simp; omega), List.getElem?_replicate, if_pos (by omega)] at hs
          cases hs
        · rw [List.getElem?_append_right (by simp [e1]; omega)] at hs
          have e2 : s - (paramsFrom fn.ntmps 0 args ++ List.replicate (fn.ntmps - args.length) (0, SV.no)).length = s - fn.ntmps := by simp [e1]; omega
          rw [e2, List.getElem?_map] at hs
          cases hi : args[s - fn.ntmps]? with
          | none => simp [hi] at hs
          | some sv0 =>
            simp only [hi, Option.map_some, Option.some.injEq, Prod.mk.injEq] at hs
            obtain ⟨_, hs⟩ := hs
            cases sv0 <;> cases hs
  refine Code.wp_mono ?_ (code_sound (w0 := B) hc hrel h)
  rintro e a w' ⟨G', σ', st, hG, hr', hq⟩
  cases e with
  | normal =>
    obtain ⟨h1, v, h2, r, as, c', G'', σ'', h3, h4⟩ := hE hlen hn hG hr' hq
    exact ⟨h1, v, h2, r, as, c', G'', σ'', h3, h4⟩
  | ret =>
    obtain ⟨h1, v, h2, r, as, c', G'', σ'', h3, h4⟩ := hE hlen hn hG hr' hq
    exact ⟨h1, v, h2, r, as, c', G'', σ'', h3, h4⟩
  | _ => exact hq.elim

theorem ends_ret {fn : Func} {rs : List Ret} {args : List SV} {Post : SV → List SV → Prop} (hr : retOk P fn.ntmps fn.results.toList rs = true) : Ends P fn args Post (Fin P fn.ntmps rs args Post) := by
    intro G Fr w cargs a w' G' σ' st hlen hn hG hr' hq
    let B : Base := ⟨w, fn.ntmps, cargs⟩
    refine ⟨hr'.defers, ?_⟩
    obtain ⟨us, cs, G2, σ2, st2, q1, q2, ⟨q3, q3'⟩, q4, q5⟩ := retI_rep hr' hr hq
    have q3' := ownAll_spec q3'
    have hlcs := RepTup.one q5
    have hresM : (fn.results.mapM (resV a.tmps)).run P w' = .ok cs.toArray w' := by
      rw [Array.mapM_eq_mapM_toList, Sem.run_map, q4]
      rfl
    have hun : ∀ {b s k}, σ2.unshift fn.ntmps b = some (s, k) → σ2 b = some (fn.ntmps + s, k) := by
      intro b s k hb
      unfold Lab.unshift at hb
      split at hb
      · rename_i s' k' h1
        split at hb
        · rename_i hle
          simp only [Option.some.injEq, Prod.mk.injEq] at hb
          obtain ⟨rfl, rfl⟩ := hb
          rw [h1, show fn.ntmps + (s' - fn.ntmps) = s' by omega]
        · cases hb
      · cases hb
    have hok2 : WOk G2 (σ2.unshift fn.ntmps) Fr ⟨w, 0, #[]⟩ w' := by
      refine ⟨q2.wok.fixed, ?_, ?_, q2.wok.frame, q2.wok.os, q2.wok.tape, q2.wok.output, q2.wok.size, q2.wok.apart⟩
      · rintro b ⟨s, k⟩ hb
        exact q2.wok.own b _ (hun hb)
      · rintro b b' ⟨s, k⟩ hb hb'
        exact q2.wok.inj b b' _ (hun hb) (hun hb')
    have hresV : ∃ v, (results fn a.tmps).run P w' = .ok v w' ∧ RepOwn G2 (σ2.unshift fn.ntmps) w' args.length (resSV us) v := by
      rw [results_eq, Sem.run_bind, hresM]
      match us, cs, q5, hlcs with
      | [], [], _, _ => exact ⟨.tuple #[], by simp [Result.andThen], #[], rfl, rfl⟩
      | [u], [v], h5, _ =>
        obtain ⟨c', d', e', h6, _⟩ := h5
        cases e'
        exact ⟨v, by simp [Result.andThen], h6⟩
      | u :: u' :: us, v :: v' :: cs, h5, _ =>
        refine ⟨.tuple (v :: v' :: cs).toArray, by simp [Result.andThen], _, rfl, ?_⟩
        have aux : ∀ (l : List I) (j : Nat) (cs : List Value), RepTup G2 σ2 w' 0 j (l.map F.i) cs → RepTup G2 (σ2.unshift fn.ntmps) w' args.length j (l.map F.i) cs := by
          intro l
          induction l with
          | nil => intro j cs h; exact h
          | cons x l ih => intro j cs h; obtain ⟨c, d, e, h1, h2⟩ := h; exact ⟨c, d, e, h1, ih _ _ h2⟩
        exact aux (u :: u' :: us) 0 _ h5
    obtain ⟨v, hv1, hv2⟩ := hresV
    refine ⟨v, hv1, resSV us, outsFrom fn.ntmps st2 0 args, v, G2, _, rfl, q3, hG.trans q1, hok2, ?_, hv2, outsFrom_length args 0, ?_⟩
    · unfold resSV; split <;> rfl
    · intro i sv hi
      refine ⟨q3' sv (List.mem_of_getElem? hi), ?_⟩
      rw [outsFrom_get] at hi
      cases harg : args[i]? with
      | none => simp [harg] at hi
      | some sv0 =>
        simp only [harg, Option.map_some, Option.some.injEq, Nat.zero_add] at hi
        split at hi
        · cases hst : st2[fn.ntmps + i]? with
          | none => simp only [hst] at hi; subst hi; trivial
          | some cur =>
            obtain ⟨ver, sv1⟩ := cur
            simp only [hst] at hi
            subst hi
            have hrep := q2.slots _ _ _ hst
            have hroot := q3' sv1 (by
              apply List.mem_of_getElem? (i := i)
              rw [outsFrom_get, harg]
              simp only [Option.map_some, Nat.zero_add, hst]
              rename_i hl
              rw [if_pos hl])
            rw [RepSV.own hroot] at hrep
            have hval : val a B (fn.ntmps + i) = cargs.getD i undef := by
              unfold val
              rw [Array.getD_eq_getD_getElem?, Array.getElem?_append_right (by rw [q2.n]; exact Nat.le_add_right _ _), q2.n, Array.getD_eq_getD_getElem?]
              simp [B]
            rw [hval] at hrep
            refine RepOwn.tr hrep (Mem.le.refl G2) fun b k hb => ⟨?_, rfl⟩
            unfold Lab.unshift
            rw [hb]
            simp
        · subst hi; trivial

/-- A function whose body is right, is right. -/
theorem Fn.of_body {f : FuncId} {fn : Func} {c : Code} {s : Stm} {rs : List Ret} {args : List SV} {Post : SV → List SV → Prop} (hf : P.funcs[f]? = some fn) (hb : fn.body = some c)
    (hc : chkC P fn.ntmps c s = true) (hr : retOk P fn.ntmps fn.results.toList rs = true) (hn : args.length ≤ fn.ntmps) (h : wpF P fn.ntmps s rs args Post) : Fn P f args Post :=
  Fn.of_code hf hb hc hn (ends_ret hr) h

theorem Fn.of_body' {f : FuncId} {fn : Func} {c : Code} {s : Stm} {rs : List Ret} {args : List SV} {Post : SV → List SV → Prop} {N : Nat} (hf : P.funcs[f]? = some fn) (hb : fn.body = some c) (hN : fn.ntmps = N)
    (hc : chkC P N c s = true) (hr : retOk P N fn.results.toList rs = true) (hn : args.length ≤ N) (h : wpF P N s rs args Post) : Fn P f args Post := by
  subst hN
  exact Fn.of_body hf hb hc hr hn h

/-- The end of a body whose one result is a slice that is its own. -/
def FinV (P : Program) (N n : Nat) (args : List SV) (R : SV → List SV → Prop) (st : St) : Prop :=
  (M.get n fun _ sv => match sv with
    | .vec e sz l => .chk fun st' => Done (R (.vec e sz l) (outsFrom N st' 0 args)) (outsFrom N st' 0 args)
    | _ => .fail).wp P (fun _ => False) st

/-- The labels behind a call whose result is a slice of its own. -/
def Lab.outV (σ : Lab) (N n m : Nat) : Lab := fun b => match σ b with
  | some (s, k) => if s = n ∧ k = 0 then some (m, 0) else if N ≤ s ∧ s < N + m then some (s - N, k) else none
  | none => none

theorem ends_vec {fn : Func} {n : Nat} {args : List SV} {Post : SV → List SV → Prop} (hr : fn.results = #[.tmp n]) (hn' : n < fn.ntmps) : Ends P fn args Post (FinV P fn.ntmps n args Post) := by
  intro G Fr w cargs a w' G' σ' st hlen hn hG hr' hq
  refine ⟨hr'.defers, ?_⟩
  simp only [FinV, M.wp] at hq
  cases hs : st[n]? with
  | none => simp [hs] at hq
  | some cur =>
    obtain ⟨ver, sv⟩ := cur
    simp only [hs] at hq
    split at hq
    · rename_i e sz l
      obtain ⟨q3, q3'⟩ := hq
      have q3' := ownAll_spec q3'
      have hrep : VecAt G' σ' w' (n, 0) e sz l (a.eval (.tmp n)) := hr'.slot hn' hs
      have hresM : (fn.results.mapM (resV a.tmps)).run P w' = .ok #[a.tmps.getD n undef] w' := by
        rw [hr, Array.mapM_eq_mapM_toList, Sem.run_map]
        simp [resV, Result.andThen]
      have hun : ∀ {b s k}, σ'.outV fn.ntmps n args.length b = some (s, k) → (s = args.length ∧ k = 0 ∧ σ' b = some (n, 0)) ∨ (s < args.length ∧ σ' b = some (fn.ntmps + s, k)) := by
        intro b s k hb
        unfold Lab.outV at hb
        split at hb
        · rename_i s' k' h1
          split at hb
          · rename_i hc
            obtain ⟨rfl, rfl⟩ := hc
            simp only [Option.some.injEq, Prod.mk.injEq] at hb
            exact .inl ⟨hb.1.symm, hb.2.symm, h1⟩
          · split at hb
            · rename_i hle
              simp only [Option.some.injEq, Prod.mk.injEq] at hb
              obtain ⟨rfl, rfl⟩ := hb
              exact .inr ⟨by omega, by rw [h1, show fn.ntmps + (s' - fn.ntmps) = s' by omega]⟩
            · cases hb
        · cases hb
      have hok2 : WOk G' (σ'.outV fn.ntmps n args.length) Fr ⟨w, 0, #[]⟩ w' := by
        refine ⟨hr'.wok.fixed, ?_, ?_, hr'.wok.frame, hr'.wok.os, hr'.wok.tape, hr'.wok.output, hr'.wok.size, hr'.wok.apart⟩
        · rintro b ⟨s, k⟩ hb
          rcases hun hb with ⟨_, _, h⟩ | ⟨_, h⟩
          · exact hr'.wok.own b _ h
          · exact hr'.wok.own b _ h
        · rintro b b' ⟨s, k⟩ hb hb'
          rcases hun hb with ⟨h1, h2, h⟩ | ⟨h1, h⟩ <;> rcases hun hb' with ⟨h3, h4, h'⟩ | ⟨h3, h'⟩
          · exact hr'.wok.inj b b' _ h h'
          · omega
          · omega
          · exact hr'.wok.inj b b' _ h h'
      refine ⟨a.tmps.getD n undef, ?_, .vec e sz l, outsFrom fn.ntmps st 0 args, _, G', _, rfl, q3, hG, hok2, rfl, ?_, outsFrom_length args 0, ?_⟩
      · rw [results_eq, Sem.run_bind, hresM]
        simp [Result.andThen]
      · refine VecAt.tr hrep (Mem.le.refl G') fun b hb => ⟨?_, rfl⟩
        unfold Lab.outV
        rw [hb]
        simp
      · intro i sv hi
        refine ⟨q3' sv (List.mem_of_getElem? hi), ?_⟩
        rw [outsFrom_get] at hi
        cases harg : args[i]? with
        | none => simp [harg] at hi
        | some sv0 =>
          have hil : i < args.length := (List.getElem?_eq_some_iff.1 harg).1
          simp only [harg, Option.map_some, Option.some.injEq, Nat.zero_add] at hi
          split at hi
          · cases hst : st[fn.ntmps + i]? with
            | none => simp only [hst] at hi; subst hi; trivial
            | some cur =>
              obtain ⟨ver, sv1⟩ := cur
              simp only [hst] at hi
              subst hi
              have hrep := hr'.slots _ _ _ hst
              have hroot := q3' sv1 (by
                apply List.mem_of_getElem? (i := i)
                rw [outsFrom_get, harg]
                simp only [Option.map_some, Nat.zero_add, hst]
                rename_i hl
                rw [if_pos hl])
              rw [RepSV.own hroot] at hrep
              have hval : val a ⟨w, fn.ntmps, cargs⟩ (fn.ntmps + i) = cargs.getD i undef := by
                unfold val
                rw [Array.getD_eq_getD_getElem?, Array.getElem?_append_right (by rw [hr'.n]; exact Nat.le_add_right _ _), hr'.n, Array.getD_eq_getD_getElem?]
                simp
              rw [hval] at hrep
              refine RepOwn.tr hrep (Mem.le.refl G') fun b k hb => ⟨?_, rfl⟩
              unfold Lab.outV
              rw [hb]
              simp only
              rw [if_neg (by omega), if_pos (by omega)]
              simp
          · subst hi; trivial
    · exact hq.elim

def wpFV (P : Program) (N : Nat) (s : Stm) (n : Nat) (args : List SV) (R : SV → List SV → Prop) : Prop :=
  wpS P s ⟨FinV P N n args R, noEx, FinV P N n args R⟩ (entry N args)
/-- A function whose one result is a slice of its own. -/
theorem Fn.of_vec {f : FuncId} {fn : Func} {c : Code} {s : Stm} {n : Nat} {args : List SV} {Post : SV → List SV → Prop} {N : Nat} (hf : P.funcs[f]? = some fn) (hb : fn.body = some c) (hN : fn.ntmps = N)
    (hc : chkC P N c s = true) (hr : fn.results = #[.tmp n]) (hn' : n < N) (hn : args.length ≤ N) (h : wpFV P N s n args Post) : Fn P f args Post := by
  subst hN
  exact Fn.of_code hf hb hc hn (ends_vec hr hn') h
end
end Go.Ab
