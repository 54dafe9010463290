/- One text of the proof whose last text says what is proved. -/
import Derived.Test.YtoombangidlpjaaAb18
import Derived.IntWalk
set_option linter.unusedVariables false
set_option linter.unusedSimpArgs false
namespace Go.Ab

/-- How a result is read. -/
inductive Ret where
  | t (n : Nat)
  | cell (n : Nat) (agg : Bool) (sz : Nat)
  deriving Inhabited

/-- All owned slices of a box lie fixed from now on. -/
def frzAll (n : Nat) : List F → Nat → M → M
  | [], _, k => k
  | .i _ :: fs, j, k => frzAll n fs (j + 1) k
  | .vec _ _ _ :: fs, j, k => .get n fun ver sv => match sv.vecAt (j + 1) with
    | some _ => .set n (ver + 1) (sv.frzAt (j + 1)) (frzAll n fs (j + 1) k)
    | none => .fail

def retI : List Ret → (List I → M) → M
  | [], k => k []
  | .t n :: r, k => takeV (.t n) fun u => retI r fun us => k (u :: us)
  | .cell n agg sz :: r, k => .get n fun _ sv => match sv with
    | .box (.st fs) => frzAll n fs 0 (.get n fun _ sv => match sv with
      | .box t => match (SV.box t).hit 0 [] with
        | some (0, .item u) => .need (u.isAgg = agg ∧ u.size = sz) fun _ => retI r fun us => k (u :: us)
        | _ => .fail
      | _ => .fail)
    | .box (.one f) => match (SV.box (.one f)).hit 0 [] with
      | some (0, .item u) => .need (u.isAgg = agg ∧ u.size = sz) fun _ => retI r fun us => k (u :: us)
      | _ => .fail
    | _ => .fail

def resSV : List I → SV
  | [u] => .v u
  | us => .tup (us.map .i)

def paramOf (N : Nat) (i : Nat) : SV → SV
  | .v x => .v x
  | .rp x => .rp x
  | .box _ | .vec _ _ _ | .own _ _ => .par (N + i)
  | _ => .no
def hidOf : SV → SV
  | .box t => .box t
  | .vec e sz l => .vec e sz l
  | .own _ t => .own [] t
  | _ => .no
def paramsFrom (N : Nat) : Nat → List SV → St
  | _, [] => []
  | i, sv :: r => (0, paramOf N i sv) :: paramsFrom N (i + 1) r
def entry (N : Nat) (args : List SV) : St := paramsFrom N 0 args ++ List.replicate (N - args.length) (0, .no) ++ args.map fun sv => (0, hidOf sv)
/-- A tree as it is handed back: its record begins anew. -/
def SV.clean : SV → SV
  | .own _ t => .own [] t
  | sv => sv
theorem clean_root {sv : SV} : sv.clean.root = sv.root := by cases sv <;> rfl
theorem clean_rep {G : Mem} {σ : Lab} {w : World} {s : Nat} {sv : SV} {c : Value} : RepOwn G σ w s sv.clean c = RepOwn G σ w s sv c := by cases sv <;> rfl
def outsFrom (N : Nat) (st : St) : Nat → List SV → List SV
  | _, [] => []
  | i, sv :: r => (if sv.lends then (match st[N + i]? with
    | some cur => cur.2.clean
    | none => .no) else .no) :: outsFrom N st (i + 1) r

/-- Whether nothing but what is owned comes back. -/
def ownAll : List SV → Bool
  | [] => true
  | sv :: r => match sv.root with
    | none => ownAll r
    | some _ => false
theorem ownAll_spec : ∀ {l : List SV}, ownAll l = true → ∀ sv ∈ l, sv.root = none
  | [], _, _, h => by cases h
  | x :: r, h, sv, hm => by
    unfold ownAll at h
    split at h
    · rename_i hx
      rcases List.mem_cons.mp hm with rfl | hm
      · exact hx
      · exact ownAll_spec h sv hm
    · cases h
/-- A body's end, as the walk stops at it. -/
structure Done (R : Prop) (outs : List SV) : Prop where
  post : R
  own : ownAll outs = true

/-- What is to hold at the end of a body. -/
def Fin (P : Program) (N : Nat) (rs : List Ret) (args : List SV) (R : SV → List SV → Prop) (st : St) : Prop :=
  (retI rs fun us => .chk fun st' => Done (R (resSV us) (outsFrom N st' 0 args)) (outsFrom N st' 0 args)).wp P (fun _ => False) st
def noEx (_ : Nat) (_ : St) : Prop := False
/-- A function's body, from what it is handed to what it hands back. -/
def wpF (P : Program) (N : Nat) (s : Stm) (rs : List Ret) (args : List SV) (R : SV → List SV → Prop) : Prop :=
  wpS P s ⟨Fin P N rs args R, noEx, Fin P N rs args R⟩ (entry N args)

def retOk (P : Program) (N : Nat) : List ResultVar → List Ret → Bool
  | [], [] => true
  | .tmp t :: l, .t n :: r => t == n && n < N && retOk P N l r
  | .cell a t :: l, .cell n agg sz :: r => a == n && n < N && tyOk P t agg sz && retOk P N l r
  | _, _ => false

/-- A result's value. -/
def resV (tmps : Array Value) : ResultVar → Sem Value
  | .tmp t => pure (tmps.getD t undef)
  | .cell p t => do loadVar t (← asAddr (tmps.getD p undef))
theorem results_eq (fn : Func) (tmps : Array Value) : results fn tmps = (do let vs ← fn.results.mapM (resV tmps); pure (if h : vs.size = 1 then vs[0] else .tuple vs)) := by
  unfold results
  congr 1

section
variable {P : Program} {N : Nat} {G : Mem} {σ : Lab} {Fr : Mem} {w0 : Base} {w : World} {st : St} {a : Act}

theorem frzAll_rep {Q : St → Prop} {n : Nat} {k : M} : ∀ {fs : List F} {j : Nat} {G : Mem} {σ : Lab} {st : St}, Rel G σ Fr w0 st a w → (frzAll n fs j k).wp P Q st →
    ∃ G' σ' st', G.le G' ∧ Rel G' σ' Fr w0 st' a w ∧ k.wp P Q st'
  | [], _, G, σ, st, hr, hq => ⟨G, σ, st, Mem.le.refl G, hr, hq⟩
  | .i _ :: fs, j, G, σ, st, hr, hq => frzAll_rep (fs := fs) hr hq
  | .vec _ _ _ :: fs, j, G, σ, st, hr, hq => by
    simp only [frzAll, M.wp] at hq
    cases hs : st[n]? with
    | none => simp [hs] at hq
    | some cur =>
      obtain ⟨ver, sv⟩ := cur
      simp only [hs] at hq
      split at hq
      · rename_i p hp
        obtain ⟨e, sz, l⟩ := p
        obtain ⟨G', σ', h1, h2, _⟩ := hr.freeze hs hp (Nat.lt_succ_self ver)
        obtain ⟨G'', σ'', st'', h3, h4, h5⟩ := frzAll_rep (fs := fs) h2 hq
        exact ⟨G'', σ'', st'', h1.trans h3, h4, h5⟩
      · exact hq.elim

theorem cell_rep {n : Nat} {sv : SV} {ver : Nat} {u : I} {t : TypeId} (hr : Rel G σ Fr w0 st a w) (hn : n < w0.n) (hs : st[n]? = some (ver, sv)) (hb : ∃ t, sv = .box t) (hh : sv.hit 0 [] = some (0, .item u)) (ht : tyOk P t u.isAgg u.size = true) :
    ∃ v, (do loadVar t (← asAddr (a.tmps.getD n undef)) : Sem Value).run P w = .ok v w ∧ RepV G u v := by
  obtain ⟨tt, rfl⟩ := hb
  have hrep := hr.slot hn hs
  obtain ⟨b, cells, ty, h1, h2, h3, h4⟩ := hrep
  obtain ⟨bl, ty', fz, pre, cs, post, g1, _, g2, g3, g4, _⟩ := hit_item hr.wok (show RepOwn G σ w n (.box tt) (a.eval (.tmp n)) from hr.slot hn hs) hh h2
  obtain ⟨v, hl, hv⟩ := load_item (P := P) ht g1 g2 g3 g4
  have he : a.tmps.getD n undef = .pointer (some ⟨b, 0, none⟩) := h1
  exact ⟨v, by rw [he]; simp [asAddr, hl], hv⟩

theorem retI_rep {Q : St → Prop} : ∀ {rs : List Ret} {rv : List ResultVar} {k : List I → M} {G : Mem} {σ : Lab} {st : St}, Rel G σ Fr w0 st a w → retOk P w0.n rv rs = true → (retI rs k).wp P Q st →
    ∃ us cs G' σ' st', G.le G' ∧ Rel G' σ' Fr w0 st' a w ∧ (k us).wp P Q st' ∧
      (rv.mapM (resV a.tmps)).run P w = .ok cs w ∧ RepTup G' σ' w 0 0 (us.map F.i) cs
  | [], [], k, G, σ, st, hr, _, hq => ⟨[], [], G, σ, st, Mem.le.refl G, hr, hq, by simp, rfl⟩
  | .t n :: rs, .tmp m :: rv, k, G, σ, st, hr, ho, hq => by
    simp only [retOk, Bool.and_eq_true, beq_iff_eq, decide_eq_true_eq] at ho
    obtain ⟨⟨rfl, h1⟩, h2⟩ := ho
    obtain ⟨u, G1, σ1, st1, g1, g2, g3, g4⟩ := takeV_rep (x := .tmp m) hr (by simp [opdOk, h1]) hq
    obtain ⟨us, cs, G2, σ2, st2, q1, q2, q3, q4, q5⟩ := retI_rep g2 h2 g3
    refine ⟨u :: us, a.tmps.getD m undef :: cs, G2, σ2, st2, g1.trans q1, q2, q3, ?_, ?_⟩
    · simp only [List.mapM_cons, resV, Sem.run_bind, Sem.run_pure, Result.andThen, q4]
    · exact ⟨_, cs, rfl, g4.mono q1, by
        have aux : ∀ (l : List I) (j j' : Nat) (cs : List Value), RepTup G2 σ2 w 0 j (l.map F.i) cs → RepTup G2 σ2 w 0 j' (l.map F.i) cs := by
          intro l
          induction l with
          | nil => intro j j' cs h; exact h
          | cons x l ih => intro j j' cs h; obtain ⟨c, d, e, h1, h2⟩ := h; exact ⟨c, d, e, h1, ih _ _ _ h2⟩
        exact aux us 0 1 cs q5⟩
  | .cell n agg sz :: rs, .cell m t :: rv, k, G, σ, st, hr, ho, hq => by
    simp only [retOk, Bool.and_eq_true, beq_iff_eq, decide_eq_true_eq] at ho
    obtain ⟨⟨⟨rfl, h1⟩, ht⟩, h2⟩ := ho
    have aux : ∀ (G2 : Mem) (σ2 : Lab) (l : List I) (j j' : Nat) (cs : List Value), RepTup G2 σ2 w 0 j (l.map F.i) cs → RepTup G2 σ2 w 0 j' (l.map F.i) cs := by
      intro G2 σ2 l
      induction l with
      | nil => intro j j' cs h; exact h
      | cons x l ih => intro j j' cs h; obtain ⟨c, d, e, h1, h2⟩ := h; exact ⟨c, d, e, h1, ih _ _ _ h2⟩
    have fin : ∀ {G1 : Mem} {σ1 : Lab} {st1 : St} {ver : Nat} {sv : SV}, G.le G1 → Rel G1 σ1 Fr w0 st1 a w → st1[m]? = some (ver, sv) →
        (match sv.hit 0 [] with
          | some (0, .item u) => M.need (u.isAgg = agg ∧ u.size = sz) fun _ => retI rs fun us => k (u :: us)
          | _ => .fail).wp P Q st1 → (∃ t, sv = .box t) → ∃ us cs G' σ' st', G.le G' ∧ Rel G' σ' Fr w0 st' a w ∧ (k us).wp P Q st' ∧
      ((ResultVar.cell m t :: rv).mapM (resV a.tmps)).run P w = .ok cs w ∧ RepTup G' σ' w 0 0 (us.map F.i) cs := by
      intro G1 σ1 st1 ver sv hG1 hr1 hs hq1 hbox
      split at hq1
      · rename_i u hh
        obtain ⟨⟨rfl, rfl⟩, hq1⟩ := hq1
        obtain ⟨v, hl, hv⟩ := cell_rep (P := P) hr1 h1 hs hbox hh ht
        obtain ⟨us, cs, G2, σ2, st2, q1, q2, q3, q4, q5⟩ := retI_rep hr1 h2 hq1
        refine ⟨u :: us, v :: cs, G2, σ2, st2, hG1.trans q1, q2, q3, ?_, ⟨v, cs, rfl, hv.mono q1, aux _ _ us 0 1 cs q5⟩⟩
        have hl' : (resV a.tmps (.cell m t)).run P w = .ok v w := hl
        rw [List.mapM_cons, Sem.run_bind, hl']
        simp only [Result.andThen, Sem.run_bind, Sem.run_pure, q4]
      · exact hq1.elim
    simp only [retI, M.wp] at hq
    cases hs : st[m]? with
    | none => simp [hs] at hq
    | some cur =>
      obtain ⟨ver, sv⟩ := cur
      simp only [hs] at hq
      split at hq
      · obtain ⟨G1, σ1, st1, g1, g2, g3⟩ := frzAll_rep hr hq
        simp only [M.wp] at g3
        cases hs1 : st1[m]? with
        | none => simp [hs1] at g3
        | some cur1 =>
          obtain ⟨ver1, sv1⟩ := cur1
          simp only [hs1] at g3
          split at g3
          · exact fin g1 g2 hs1 g3 ⟨_, rfl⟩
          · exact g3.elim
      · exact fin (Mem.le.refl G) hr hs hq ⟨_, rfl⟩
      · exact hq.elim
  | [], r :: _, _, _, _, _, _, ho, _ => by cases r <;> simp [retOk] at ho
  | .t _ :: _, [], _, _, _, _, _, ho, _ => by simp [retOk] at ho
  | .cell _ _ _ :: _, [], _, _, _, _, _, ho, _ => by simp [retOk] at ho
  | .t _ :: _, .cell _ _ :: _, _, _, _, _, _, ho, _ => by simp [retOk] at ho
  | .cell _ _ _ :: _, .tmp _ :: _, _, _, _, _, _, ho, _ => by simp [retOk] at ho

theorem paramsFrom_get {N : Nat} : ∀ (args : List SV) (i j : Nat), (paramsFrom N i args)[j]? = (args[j]?).map fun sv => (0, paramOf N (i + j) sv)
  | [], i, j => by simp [paramsFrom]
  | sv :: r, i, 0 => by simp [paramsFrom]
  | sv :: r, i, j + 1 => by
    simp only [paramsFrom, List.getElem?_cons_succ]
    rw [paramsFrom_get r (i + 1) j, show i + (j + 1) = i + 1 + j by omega]
theorem paramsFrom_length {N : Nat} : ∀ (args : List SV) (i : Nat), (paramsFrom N i args).length = args.length
  | [], _ => rfl
  | _ :: r, i => by simp [paramsFrom, paramsFrom_length r]
theorem outsFrom_get {N : Nat} {st : St} : ∀ (args : List SV) (i j : Nat), (outsFrom N st i args)[j]? = (args[j]?).map fun sv => if sv.lends then (match st[N + (i + j)]? with | some cur => cur.2.clean | none => .no) else .no
  | [], i, j => by simp [outsFrom]
  | sv :: r, i, 0 => by simp [outsFrom]
  | sv :: r, i, j + 1 => by
    simp only [outsFrom, List.getElem?_cons_succ]
    rw [outsFrom_get r (i + 1) j, show i + (j + 1) = i + 1 + j by omega]
theorem outsFrom_length {N : Nat} {st : St} : ∀ (args : List SV) (i : Nat), (outsFrom N st i args).length = args.length
  | [], _ => rfl
  | _ :: r, i => by simp [outsFrom, outsFrom_length r]

theorem RepTup.one {s : Nat} : ∀ {us : List I} {j : Nat} {cs : List Value}, RepTup G σ w s j (us.map F.i) cs → cs.length = us.length
  | [], _, _, h => by simp [show _ = [] from h]
  | u :: us, j, cs, h => by
    obtain ⟨c, d, rfl, _, h2⟩ := h
    simp [RepTup.one h2]

/-- The labels of the caller, as the called function's hidden slots have them. -/
def Lab.shift (σ : Lab) (N : Nat) : Lab := fun b => (σ b).map fun p => (p.1 + N, p.2)
def Lab.unshift (σ : Lab) (N : Nat) : Lab := fun b => match σ b with
  | some (s, k) => if N ≤ s then some (s - N, k) else none
  | none => none

/-- What the end of a body must give. -/
def Ends (P : Program) (fn : Func) (args : List SV) (Post : SV → List SV → Prop) (E : St → Prop) : Prop :=
  ∀ {G : Mem} {Fr : Mem} {w : World} {cargs : Array Value} {a : Act} {w' : World} {G' : Mem} {σ' : Lab} {st : St}, cargs.size = args.length → args.length ≤ fn.ntmps → G.le G' → Rel G' σ' Fr ⟨w, fn.ntmps, cargs⟩ st a w' → E st →
      a.defers = [] ∧ ∃ v, (results fn a.tmps).run P w' = .ok v w' ∧ ∃ r as c G'' σ'', Ending.returned v = .returned c ∧ Post r as ∧ G.le G'' ∧ WOk G'' σ'' Fr ⟨w, 0, #[]⟩ w' ∧ r.root = none ∧ RepOwn G'' σ'' w' args.length r c ∧ as.length = args.length ∧
        ∀ i sv, as[i]? = some sv → sv.root = none ∧ RepOwn G'' σ'' w' i sv (cargs.getD i undef)

theorem Fn.of_code {f : FuncId} {fn : Func} {c : Code} {s : Stm} {args : List SV} {Post : SV → List SV → Prop} {E : St → Prop} (hf : P.funcs[f]? = some fn) (hb : fn.body = some c)
    (hc : chkC P fn.ntmps c s = true) (hn : args.length ≤ fn.ntmps) (hE : Ends P fn args Post E) (h : wpS P s ⟨E, noEx, E⟩ (entry fn.ntmps args)) : Fn P f args Post := by
  intro G σ Fr w cargs hok hlen hargs
  refine calls_of_wp hf hb ?_
  let B : Base := ⟨w, fn.ntmps, cargs⟩
  let a0 : Act := { tmps := cargs ++ Array.replicate (fn.ntmps - cargs.size) undef, defers := [] }
  have hsz : a0.tmps.size = fn.ntmps := by simp [a0, hlen]; omega
  have valT : ∀ i, i < cargs.size → val a0 B i = cargs.getD i undef := by
    intro i hi
    unfold val
    have : i < a0.tmps.size := by rw [hsz]; omega
    rw [Array.getD_eq_getD_getElem?, Array.getElem?_append_left this, Array.getD_eq_getD_getElem?]
    simp only [a0]
    rw [Array.getElem?_append_left hi]
  have valH : ∀ i, val a0 B (fn.ntmps + i) = cargs.getD i undef := by
    intro i
    unfold val
    rw [Array.getD_eq_getD_getElem?, Array.getElem?_append_right (by rw [hsz]; omega), hsz, Nat.add_sub_cancel_left, Array.getD_eq_getD_getElem?]
  have hshift : ∀ {b s k}, σ.shift fn.ntmps b = some (s, k) → ∃ i, s = i + fn.ntmps ∧ σ b = some (i, k) := by
    intro b s k hb
    unfold Lab.shift at hb
    cases hσ : σ b with
    | none => simp [hσ] at hb
    | some p =>
      obtain ⟨i, k'⟩ := p
      simp only [hσ, Option.map_some, Option.some.injEq, Prod.mk.injEq] at hb
      exact ⟨i, hb.1.symm, by rw [hb.2]⟩
  have hrel : Rel G (σ.shift fn.ntmps) Fr B (entry fn.ntmps args) a0 w := by
    have e1 : (paramsFrom fn.ntmps 0 args).length = args.length := paramsFrom_length args 0
    refine ⟨⟨hok.fixed, ?_, ?_, hok.frame, rfl, rfl, rfl, Nat.le_refl _, hok.apart⟩, rfl, hsz, ?_, ?_, ?_⟩
    · rintro b ⟨s, k⟩ hb
      obtain ⟨i, _, h1⟩ := hshift hb
      exact hok.own b _ h1
    · rintro b b' ⟨s, k⟩ hb hb'
      obtain ⟨i, h1, h2⟩ := hshift hb
      obtain ⟨i', h3, h4⟩ := hshift hb'
      obtain rfl : i = i' := by omega
      exact hok.inj b b' _ h2 h4
    · rw [hsz]
      simp [entry, e1, B, hlen]
      omega
    · intro s ver sv hs
      unfold entry at hs
      by_cases h1 : s < args.length
      · rw [List.append_assoc, List.getElem?_append_left (by rw [e1]; exact h1), paramsFrom_get, List.getElem?_eq_getElem h1] at hs
        simp only [Option.map_some, Option.some.injEq, Prod.mk.injEq, Nat.zero_add] at hs
        obtain ⟨rfl, rfl⟩ := hs
        rw [valT s (by omega)]
        obtain ⟨_, h2⟩ := hargs s _ (List.getElem?_eq_getElem h1)
        cases hsv : args[s] with
        | v x => rw [hsv] at h2; exact h2
        | rp x => rw [hsv] at h2; exact h2
        | _ => trivial
      · by_cases h2 : s < fn.ntmps
        · rw [List.append_assoc, List.getElem?_append_right (by rw [e1]; omega), e1, List.getElem?_append_left (by simp; omega), List.getElem?_replicate, if_pos (by omega)] at hs
          simp only [Option.some.injEq, Prod.mk.injEq] at hs
          obtain ⟨rfl, rfl⟩ := hs
          trivial
        · rw [List.getElem?_append_right (by simp [e1]; omega)] at hs
          have e2 : s - (paramsFrom fn.ntmps 0 args ++ List.replicate (fn.ntmps - args.length) (0, SV.no)).length = s - fn.ntmps := by simp [e1]; omega
          rw [e2, List.getElem?_map] at hs
          cases hi : args[s - fn.ntmps]? with
          | none => simp [hi] at hs
          | some sv0 =>
            simp only [hi, Option.map_some, Option.some.injEq, Prod.mk.injEq] at hs
            obtain ⟨rfl, rfl⟩ := hs
            have hv := valH (s - fn.ntmps)
            rw [show fn.ntmps + (s - fn.ntmps) = s by omega] at hv
            rw [hv]
            obtain ⟨_, h3⟩ := hargs _ _ hi
            have tr : ∀ b k, σ b = some (s - fn.ntmps, k) → σ.shift fn.ntmps b = some (s, k) ∧ w.heap[b]? = w.heap[b]? := by
              intro b k hb
              refine ⟨?_, rfl⟩
              unfold Lab.shift
              rw [hb]
              simp
              omega
            cases sv0 with
            | box t => exact RepOwn.tr h3 (Mem.le.refl G) tr
            | vec e sz l => exact RepOwn.tr h3 (Mem.le.refl G) tr
            | own inv t => exact RepOwn.tr h3 (Mem.le.refl G) tr
            | _ => trivial
    · intro s ver hh hs
      unfold entry at hs
      by_cases h1 : s < args.length
      · rw [List.append_assoc, List.getElem?_append_left (by rw [e1]; exact h1), paramsFrom_get, List.getElem?_eq_getElem h1] at hs
        simp only [Option.map_some, Option.some.injEq, Prod.mk.injEq, Nat.zero_add] at hs
        obtain ⟨rfl, hs⟩ := hs
        have : hh = fn.ntmps + s := by
          cases hsv : args[s] with
          | box t => rw [hsv] at hs; cases hs; rfl
          | vec e sz l => rw [hsv] at hs; cases hs; rfl
          | own inv t => rw [hsv] at hs; cases hs; rfl
          | _ => rw [hsv] at hs; cases hs
        subst this
        exact ⟨by rw [valT s (by omega), valH], Nat.le_add_right _ _⟩
      · by_cases h2 : s < fn.ntmps
        · rw [List.append_assoc, List.getElem?_append_right (by rw [e1]; omega), e1, List.getElem?_append_left (by simp; omega), List.getElem?_replicate, if_pos (by omega)] at hs
          cases hs
        · rw [List.getElem?_append_right (by simp [e1]; omega)] at hs
          have e2 : s - (paramsFrom fn.ntmps 0 args ++ List.replicate (fn.ntmps - args.length) (0, SV.no)).length = s - fn.ntmps := by simp [e1]; omega
          rw [e2, List.getElem?_map] at hs
          cases hi : args[s - fn.ntmps]? with
          | none => simp [hi] at hs
          | some sv0 =>
            simp only [hi, Option.map_some, Option.some.injEq, Prod.mk.injEq] at hs
            obtain ⟨_, hs⟩ := hs
            cases sv0 <;> cases hs
  refine Code.wp_mono ?_ (code_sound (w0 := B) hc hrel h)
  rintro e a w' ⟨G', σ', st, hG, hr', hq⟩
  cases e with
  | normal =>
    obtain ⟨h1, v, h2, r, as, c', G'', σ'', h3, h4⟩ := hE hlen hn hG hr' hq
    exact ⟨h1, v, h2, r, as, c', G'', σ'', h3, h4⟩
  | ret =>
    obtain ⟨h1, v, h2, r, as, c', G'', σ'', h3, h4⟩ := hE hlen hn hG hr' hq
    exact ⟨h1, v, h2, r, as, c', G'', σ'', h3, h4⟩
  | _ => exact hq.elim

theorem ends_ret {fn : Func} {rs : List Ret} {args : List SV} {Post : SV → List SV → Prop} (hr : retOk P fn.ntmps fn.results.toList rs = true) : Ends P fn args Post (Fin P fn.ntmps rs args Post) := by
    intro G Fr w cargs a w' G' σ' st hlen hn hG hr' hq
    let B : Base := ⟨w, fn.ntmps, cargs⟩
    refine ⟨hr'.defers, ?_⟩
    obtain ⟨us, cs, G2, σ2, st2, q1, q2, ⟨q3, q3'⟩, q4, q5⟩ := retI_rep hr' hr hq
    have q3' := ownAll_spec q3'
    have hlcs := RepTup.one q5
    have hresM : (fn.results.mapM (resV a.tmps)).run P w' = .ok cs.toArray w' := by
      rw [Array.mapM_eq_mapM_toList, Sem.run_map, q4]
      rfl
    have hun : ∀ {b s k}, σ2.unshift fn.ntmps b = some (s, k) → σ2 b = some (fn.ntmps + s, k) := by
      intro b s k hb
      unfold Lab.unshift at hb
      split at hb
      · rename_i s' k' h1
        split at hb
        · rename_i hle
          simp only [Option.some.injEq, Prod.mk.injEq] at hb
          obtain ⟨rfl, rfl⟩ := hb
          rw [h1, show fn.ntmps + (s' - fn.ntmps) = s' by omega]
        · cases hb
      · cases hb
    have hok2 : WOk G2 (σ2.unshift fn.ntmps) Fr ⟨w, 0, #[]⟩ w' := by
      refine ⟨q2.wok.fixed, ?_, ?_, q2.wok.frame, q2.wok.os, q2.wok.tape, q2.wok.output, q2.wok.size, q2.wok.apart⟩
      · rintro b ⟨s, k⟩ hb
        exact q2.wok.own b _ (hun hb)
      · rintro b b' ⟨s, k⟩ hb hb'
        exact q2.wok.inj b b' _ (hun hb) (hun hb')
    have hresV : ∃ v, (results fn a.tmps).run P w' = .ok v w' ∧ RepOwn G2 (σ2.unshift fn.ntmps) w' args.length (resSV us) v := by
      rw [results_eq, Sem.run_bind, hresM]
      match us, cs, q5, hlcs with
      | [], [], _, _ => exact ⟨.tuple #[], by simp [Result.andThen], #[], rfl, rfl⟩
      | [u], [v], h5, _ =>
        obtain ⟨c', d', e', h6, _⟩ := h5
        cases e'
        exact ⟨v, by simp [Result.andThen], h6⟩
      | u :: u' :: us, v :: v' :: cs, h5, _ =>
        refine ⟨.tuple (v :: v' :: cs).toArray, by simp [Result.andThen], _, rfl, ?_⟩
        have aux : ∀ (l : List I) (j : Nat) (cs : List Value), RepTup G2 σ2 w' 0 j (l.map F.i) cs → RepTup G2 (σ2.unshift fn.ntmps) w' args.length j (l.map F.i) cs := by
          intro l
          induction l with
          | nil => intro j cs h; exact h
          | cons x l ih => intro j cs h; obtain ⟨c, d, e, h1, h2⟩ := h; exact ⟨c, d, e, h1, ih _ _ h2⟩
        exact aux (u :: u' :: us) 0 _ h5
    obtain ⟨v, hv1, hv2⟩ := hresV
    refine ⟨v, hv1, resSV us, outsFrom fn.ntmps st2 0 args, v, G2, _, rfl, q3, hG.trans q1, hok2, ?_, hv2, outsFrom_length args 0, ?_⟩
    · unfold resSV; split <;> rfl
    · intro i sv hi
      refine ⟨q3' sv (List.mem_of_getElem? hi), ?_⟩
      rw [outsFrom_get] at hi
      cases harg : args[i]? with
      | none => simp [harg] at hi
      | some sv0 =>
        simp only [harg, Option.map_some, Option.some.injEq, Nat.zero_add] at hi
        split at hi
        · cases hst : st2[fn.ntmps + i]? with
          | none => simp only [hst] at hi; subst hi; trivial
          | some cur =>
            obtain ⟨ver, sv1⟩ := cur
            simp only [hst] at hi
            subst hi
            have hrep := q2.slots _ _ _ hst
            have hroot := q3' sv1.clean (by
              apply List.mem_of_getElem? (i := i)
              rw [outsFrom_get, harg]
              simp only [Option.map_some, Nat.zero_add, hst]
              rename_i hl
              rw [if_pos hl])
            rw [clean_root] at hroot
            rw [RepSV.own hroot] at hrep
            have hval : val a B (fn.ntmps + i) = cargs.getD i undef := by
              unfold val
              rw [Array.getD_eq_getD_getElem?, Array.getElem?_append_right (by rw [q2.n]; exact Nat.le_add_right _ _), q2.n, Array.getD_eq_getD_getElem?]
              simp [B]
            rw [hval] at hrep
            rw [clean_rep]
            refine RepOwn.tr hrep (Mem.le.refl G2) fun b k hb => ⟨?_, rfl⟩
            unfold Lab.unshift
            rw [hb]
            simp
        · subst hi; trivial

/-- A function whose body is right, is right. -/
theorem Fn.of_body {f : FuncId} {fn : Func} {c : Code} {s : Stm} {rs : List Ret} {args : List SV} {Post : SV → List SV → Prop} (hf : P.funcs[f]? = some fn) (hb : fn.body = some c)
    (hc : chkC P fn.ntmps c s = true) (hr : retOk P fn.ntmps fn.results.toList rs = true) (hn : args.length ≤ fn.ntmps) (h : wpF P fn.ntmps s rs args Post) : Fn P f args Post :=
  Fn.of_code hf hb hc hn (ends_ret hr) h

theorem Fn.of_body' {f : FuncId} {fn : Func} {c : Code} {s : Stm} {rs : List Ret} {args : List SV} {Post : SV → List SV → Prop} {N : Nat} (hf : P.funcs[f]? = some fn) (hb : fn.body = some c) (hN : fn.ntmps = N)
    (hc : chkC P N c s = true) (hr : retOk P N fn.results.toList rs = true) (hn : args.length ≤ N) (h : wpF P N s rs args Post) : Fn P f args Post := by
  subst hN
  exact Fn.of_body hf hb hc hr hn h

/-- The end of a body whose one result is a slice that is its own. -/
def FinV (P : Program) (N n : Nat) (args : List SV) (R : SV → List SV → Prop) (st : St) : Prop :=
  (M.get n fun _ sv => match sv with
    | .vec e sz l => .chk fun st' => Done (R (.vec e sz l) (outsFrom N st' 0 args)) (outsFrom N st' 0 args)
    | _ => .fail).wp P (fun _ => False) st

/-- The labels behind a call whose result is a slice of its own. -/
def Lab.outV (σ : Lab) (N n m : Nat) : Lab := fun b => match σ b with
  | some (s, k) => if s = n ∧ k = 0 then some (m, 0) else if N ≤ s ∧ s < N + m then some (s - N, k) else none
  | none => none

theorem ends_vec {fn : Func} {n : Nat} {args : List SV} {Post : SV → List SV → Prop} (hr : fn.results = #[.tmp n]) (hn' : n < fn.ntmps) : Ends P fn args Post (FinV P fn.ntmps n args Post) := by
  intro G Fr w cargs a w' G' σ' st hlen hn hG hr' hq
  refine ⟨hr'.defers, ?_⟩
  simp only [FinV, M.wp] at hq
  cases hs : st[n]? with
  | none => simp [hs] at hq
  | some cur =>
    obtain ⟨ver, sv⟩ := cur
    simp only [hs] at hq
    split at hq
    · rename_i e sz l
      obtain ⟨q3, q3'⟩ := hq
      have q3' := ownAll_spec q3'
      have hrep : VecAt G' σ' w' (n, 0) e sz l (a.eval (.tmp n)) := hr'.slot hn' hs
      have hresM : (fn.results.mapM (resV a.tmps)).run P w' = .ok #[a.tmps.getD n undef] w' := by
        rw [hr, Array.mapM_eq_mapM_toList, Sem.run_map]
        simp [resV, Result.andThen]
      have hun : ∀ {b s k}, σ'.outV fn.ntmps n args.length b = some (s, k) → (s = args.length ∧ k = 0 ∧ σ' b = some (n, 0)) ∨ (s < args.length ∧ σ' b = some (fn.ntmps + s, k)) := by
        intro b s k hb
        unfold Lab.outV at hb
        split at hb
        · rename_i s' k' h1
          split at hb
          · rename_i hc
            obtain ⟨rfl, rfl⟩ := hc
            simp only [Option.some.injEq, Prod.mk.injEq] at hb
            exact .inl ⟨hb.1.symm, hb.2.symm, h1⟩
          · split at hb
            · rename_i hle
              simp only [Option.some.injEq, Prod.mk.injEq] at hb
              obtain ⟨rfl, rfl⟩ := hb
              exact .inr ⟨by omega, by rw [h1, show fn.ntmps + (s' - fn.ntmps) = s' by omega]⟩
            · cases hb
        · cases hb
      have hok2 : WOk G' (σ'.outV fn.ntmps n args.length) Fr ⟨w, 0, #[]⟩ w' := by
        refine ⟨hr'.wok.fixed, ?_, ?_, hr'.wok.frame, hr'.wok.os, hr'.wok.tape, hr'.wok.output, hr'.wok.size, hr'.wok.apart⟩
        · rintro b ⟨s, k⟩ hb
          rcases hun hb with ⟨_, _, h⟩ | ⟨_, h⟩
          · exact hr'.wok.own b _ h
          · exact hr'.wok.own b _ h
        · rintro b b' ⟨s, k⟩ hb hb'
          rcases hun hb with ⟨h1, h2, h⟩ | ⟨h1, h⟩ <;> rcases hun hb' with ⟨h3, h4, h'⟩ | ⟨h3, h'⟩
          · exact hr'.wok.inj b b' _ h h'
          · omega
          · omega
          · exact hr'.wok.inj b b' _ h h'
      refine ⟨a.tmps.getD n undef, ?_, .vec e sz l, outsFrom fn.ntmps st 0 args, _, G', _, rfl, q3, hG, hok2, rfl, ?_, outsFrom_length args 0, ?_⟩
      · rw [results_eq, Sem.run_bind, hresM]
        simp [Result.andThen]
      · refine VecAt.tr hrep (Mem.le.refl G') fun b hb => ⟨?_, rfl⟩
        unfold Lab.outV
        rw [hb]
        simp
      · intro i sv hi
        refine ⟨q3' sv (List.mem_of_getElem? hi), ?_⟩
        rw [outsFrom_get] at hi
        cases harg : args[i]? with
        | none => simp [harg] at hi
        | some sv0 =>
          have hil : i < args.length := (List.getElem?_eq_some_iff.1 harg).1
          simp only [harg, Option.map_some, Option.some.injEq, Nat.zero_add] at hi
          split at hi
          · cases hst : st[fn.ntmps + i]? with
            | none => simp only [hst] at hi; subst hi; trivial
            | some cur =>
              obtain ⟨ver, sv1⟩ := cur
              simp only [hst] at hi
              subst hi
              have hrep := hr'.slots _ _ _ hst
              have hroot := q3' sv1.clean (by
                apply List.mem_of_getElem? (i := i)
                rw [outsFrom_get, harg]
                simp only [Option.map_some, Nat.zero_add, hst]
                rename_i hl
                rw [if_pos hl])
              rw [clean_root] at hroot
              rw [RepSV.own hroot] at hrep
              have hval : val a ⟨w, fn.ntmps, cargs⟩ (fn.ntmps + i) = cargs.getD i undef := by
                unfold val
                rw [Array.getD_eq_getD_getElem?, Array.getElem?_append_right (by rw [hr'.n]; exact Nat.le_add_right _ _), hr'.n, Array.getD_eq_getD_getElem?]
                simp
              rw [hval] at hrep
              rw [clean_rep]
              refine RepOwn.tr hrep (Mem.le.refl G') fun b k hb => ⟨?_, rfl⟩
              unfold Lab.outV
              rw [hb]
              simp only
              rw [if_neg (by omega), if_pos (by omega)]
              simp
          · subst hi; trivial
    · exact hq.elim

def wpFV (P : Program) (N : Nat) (s : Stm) (n : Nat) (args : List SV) (R : SV → List SV → Prop) : Prop :=
  wpS P s ⟨FinV P N n args R, noEx, FinV P N n args R⟩ (entry N args)
/-- A function whose one result is a slice of its own. -/
theorem Fn.of_vec {f : FuncId} {fn : Func} {c : Code} {s : Stm} {n : Nat} {args : List SV} {Post : SV → List SV → Prop} {N : Nat} (hf : P.funcs[f]? = some fn) (hb : fn.body = some c) (hN : fn.ntmps = N)
    (hc : chkC P N c s = true) (hr : fn.results = #[.tmp n]) (hn' : n < N) (hn : args.length ≤ N) (h : wpFV P N s n args Post) : Fn P f args Post := by
  subst hN
  exact Fn.of_code hf hb hc hn (ends_vec hr hn') h
end
end Go.Ab

namespace Go.Ab

/-- A slot is read; the state stays written out. -/
def look : St → Nat → (Nat → SV → Prop) → Prop
  | [], _, _ => False
  | cur :: _, 0, K => match cur with
    | (v, sv) => K v sv
  | _ :: r, n + 1, K => look r n K
/-- A slot is set; the state stays written out. -/
def upK : St → Nat → Nat → SV → (St → Prop) → Prop
  | [], _, _, _, K => K []
  | _ :: r, 0, v, sv, K => K ((v, sv) :: r)
  | x :: r, n + 1, v, sv, K => upK r n v sv fun r' => K (x :: r')
def svK (sv : SV) (K : SV → Prop) : Prop := match sv with
  | .no => K .no
  | .v x => K (.v x)
  | .vec e sz l => K (.vec e sz l)
  | .box t => K (.box t)
  | .st fs => K (.st fs)
  | .tup fs => K (.tup fs)
  | .bor s k ver => K (.bor s k ver)
  | .sub s k ver n => K (.sub s k ver n)
  | .suf s k ver n => K (.suf s k ver n)
  | .pt s k ver off r => K (.pt s k ver off r)
  | .rp x => K (.rp x)
  | .par h => K (.par h)
  | .own inv t => K (.own inv t)
  | .pd s ver p => K (.pd s ver p)
  | .bd s ver p => K (.bd s ver p)
  | .tupd l => K (.tupd l)
theorem look_spec {K : Nat → SV → Prop} : ∀ {st : St} {n : Nat}, look st n K → ∃ cur, st[n]? = some cur ∧ K cur.1 cur.2
  | [], _, h => h.elim
  | (v, sv) :: _, 0, h => ⟨(v, sv), rfl, h⟩
  | _ :: r, n + 1, h => look_spec (st := r) (n := n) h
theorem upK_spec {v : Nat} {sv : SV} : ∀ {st : St} {n : Nat} {K : St → Prop}, upK st n v sv K → K (st.set n (v, sv))
  | [], _, _, h => h
  | _ :: _, 0, _, h => h
  | _ :: r, n + 1, K, h => upK_spec (st := r) (n := n) (K := fun r' => K (_ :: r')) h
theorem svK_spec {sv : SV} {K : SV → Prop} (h : svK sv K) : K sv := by cases sv <;> exact h

/-- A number is written out. -/
def natK (n : Nat) (K : Nat → Prop) : Prop := match n with
  | 0 => K 0
  | m + 1 => K (m + 1)
theorem natK_spec {n : Nat} {K : Nat → Prop} (h : natK n K) : K n := by cases n <;> exact h
/-- What is seen is written out; where it can't be, the walk stops here. -/
def seeK : List SV → (SV → Prop) → Prop
  | [], _ => False
  | [.no], K => K .no
  | [.v x], K => K (.v x)
  | [.vec e sz l], K => K (.vec e sz l)
  | [.box t], K => K (.box t)
  | [.st fs], K => K (.st fs)
  | [.tup fs], K => K (.tup fs)
  | [.bor s k ver], K => K (.bor s k ver)
  | [.sub s k ver n], K => K (.sub s k ver n)
  | [.suf s k ver n], K => K (.suf s k ver n)
  | [.pt s k ver off r], K => K (.pt s k ver off r)
  | [.rp x], K => K (.rp x)
  | [.par h], K => K (.par h)
  | [.own inv t], K => K (.own inv t)
  | [.pd s ver p], K => K (.pd s ver p)
  | [.bd s ver p], K => K (.bd s ver p)
  | [.tupd l], K => K (.tupd l)
  | _ :: y :: r, K => seeK (y :: r) K
theorem seeK_spec {sv : SV} {K : SV → Prop} (h : seeK [sv] K) : K sv := by cases sv <;> exact h
theorem seeK_of {sv : SV} {K : SV → Prop} (h : K sv) : seeK [sv] K := by cases sv <;> exact h
def pairK (x : Nat × SV) (K : Nat → SV → Prop) : Prop := seeK [x.2] fun b => natK x.1 fun a => K a b
theorem pairK_spec {x : Nat × SV} {K : Nat → SV → Prop} (h : pairK x K) : K x.1 x.2 :=
  natK_spec (K := fun a => K a x.2) (seeK_spec (K := fun b => natK x.1 fun a => K a b) h)

def M.wq (P : Program) : M → (St → Prop) → St → Prop
  | .get i k, Q, st => look st i fun v sv => (k v sv).wq P Q st
  | .getp i f k, Q, st => look st i fun v sv => pairK (f v sv) fun a b => (k a b).wq P Q st
  | .set i ver sv k, Q, st => svK sv fun sv => upK st i ver sv fun st => k.wq P Q st
  | .done, Q, st => Q st
  | .chk p, _, st => p st
  | .fail, _, _ => False
  | .need p k, Q, st => ∃ h : p, (k h).wq P Q st
  | .all p k, Q, st => ∀ b, p b → (k b).wq P Q st
  | .fact p k, Q, st => p → k.wq P Q st
  | .ite b x y, Q, st => (b = true → x.wq P Q st) ∧ (b = false → y.wq P Q st)
  | .call f args k, Q, st => CallWp P f args fun r as => (k r as).wq P Q st
theorem M.wq_wp {P : Program} {Q : St → Prop} : ∀ {m : M} {st : St}, m.wq P Q st → m.wp P Q st := by
  intro m
  induction m with
  | get i k ih =>
    intro st h
    obtain ⟨cur, h1, h2⟩ := look_spec h
    simp only [M.wp, h1]
    exact ih _ _ h2
  | getp i f k ih =>
    intro st h
    obtain ⟨cur, h1, h2⟩ := look_spec h
    simp only [M.wp, h1]
    exact ih _ _ (pairK_spec h2)
  | set i ver sv k ih =>
    intro st h
    simp only [M.wq] at h
    simp only [M.wp]
    exact ih (upK_spec (svK_spec (K := fun sv => upK st i ver sv fun st => k.wq P Q st) h))
  | done => intro st h; exact h
  | chk p => intro st h; exact h
  | fail => intro st h; exact h
  | need p k ih => intro st ⟨h1, h2⟩; exact ⟨h1, ih _ h2⟩
  | all p k ih => intro st h b hb; exact ih _ (h b hb)
  | fact p k ih => intro st h hp; exact ih (h hp)
  | ite b x y ihx ihy => intro st h; exact ⟨fun hb => ihx (h.1 hb), fun hb => ihy (h.2 hb)⟩
  | call f args k ih => intro st ⟨Post, h1, h2⟩; exact ⟨Post, h1, fun r as hp => ih _ _ (h2 r as hp)⟩

def wqIOs (P : Program) : List Ao → (St → Prop) → St → Prop
  | [], Q, st => Q st
  | i :: l, Q, st => i.sem.wq P (wqIOs P l Q) st
theorem wqIOs_wp {P : Program} {Q Q' : St → Prop} (hQ : ∀ st, Q st → Q' st) : ∀ {l : List Ao} {st : St}, wqIOs P l Q st → wpIOs P l Q' st
  | [], st, h => hQ st h
  | i :: l, st, h => M.wp_mono (fun _ h => wqIOs_wp (l := l) hQ h) _ _ (M.wq_wp h)

def M.wz (P : Program) : M → (St → List Rd → Log → List Prop → Prop) → St → List Rd → Log → List Prop → Prop
  | .get i k, K, st, R, L, F => look st i fun v sv => (k v sv).wz P K st (.all i :: R) L F
  | .getp i f k, K, st, R, L, F => look st i fun v sv => pairK (f v sv) fun a b => (k a b).wz P K st ((match (slots L).contains i with | true => .all i | false => .prj i f (a, b)) :: R) L F
  | .set i ver sv k, K, st, R, L, F => svK sv fun sv => upK st i ver sv fun st => k.wz P K st R ((i, (ver, sv)) :: L) F
  | .done, K, st, R, L, F => K st R L F
  | .chk _, _, _, _, _, _ => False
  | .fail, _, _, _, _, _ => False
  | .need p k, K, st, R, L, F => ∃ h : p, (k h).wz P K st R L F
  | .all _ _, _, _, _, _, _ => False
  | .fact p k, K, st, R, L, F => k.wz P K st R L (p :: F)
  | .ite b x y, K, st, R, L, F => (b = true → x.wz P K st R L F) ∧ (b = false → y.wz P K st R L F)
  | .call f args k, K, st, R, L, F => CallIs P f args fun r as => (k r as).wz P K st R L F
theorem M.wz_wr {P : Program} {K K' : St → List Rd → Log → List Prop → Prop} (hK : ∀ st R L F, K st R L F → K' st R L F) : ∀ {m : M} {st : St} {R : List Rd} {L : Log} {F : List Prop}, m.wz P K st R L F → m.wr P K' st R L F := by
  intro m
  induction m with
  | get i k ih =>
    intro st R L F h
    obtain ⟨cur, h1, h2⟩ := look_spec h
    refine ⟨by rw [h1]; simp, fun cur' h3 => ?_⟩
    rw [h1] at h3
    cases h3
    exact ih _ _ h2
  | getp i f k ih =>
    intro st R L F h
    obtain ⟨cur, h1, h2⟩ := look_spec h
    refine ⟨by rw [h1]; simp, fun cur' h3 => ?_⟩
    rw [h1] at h3
    cases h3
    exact ih _ _ (pairK_spec h2)
  | set i ver sv k ih =>
    intro st R L F h
    simp only [M.wz] at h
    simp only [M.wr]
    have h1 := svK_spec (K := fun sv => upK st i ver sv fun st => k.wz P K st R ((i, (ver, sv)) :: L) F) h
    exact ih (upK_spec (K := fun st => k.wz P K st R ((i, (ver, sv)) :: L) F) h1)
  | done => intro st R L F h; exact hK _ _ _ _ h
  | chk p => intro st R L F h; exact h
  | fail => intro st R L F h; exact h
  | need p k ih => intro st R L F ⟨h1, h2⟩; exact ⟨h1, ih _ h2⟩
  | all p k ih => intro st R L F h; exact h.elim
  | fact p k ih => intro st R L F h; exact ih (F := p :: F) h
  | ite b x y ihx ihy => intro st R L F h; exact ⟨fun hb => ihx (h.1 hb), fun hb => ihy (h.2 hb)⟩
  | call f args k ih => intro st R L F ⟨r0, as0, h1, h2⟩; exact ⟨r0, as0, h1, ih _ _ h2⟩
def wzIOs (P : Program) : List Ao → (List Rec → St → Prop) → List Rec → St → Prop
  | [], K, ds, st => K ds st
  | i :: l, K, ds, st => i.sem.wz P (fun st' R L F => wzIOs P l K (ds ++ [⟨R, L, F⟩]) st') st [] [] []
theorem wzIOs_wr {P : Program} {K K' : List Rec → St → Prop} (hK : ∀ ds st, K ds st → K' ds st) : ∀ {l : List Ao} {ds : List Rec} {st : St}, wzIOs P l K ds st → wrIOs P l K' ds st
  | [], ds, st, h => hK ds st h
  | i :: l, ds, st, h => M.wz_wr (fun _ _ _ _ h => wzIOs_wr (l := l) hK h) h

/-- A state is written out. -/
def litK : St → (St → Prop) → Prop
  | [], K => K []
  | x :: r, K => litK r fun r' => match x with
    | (v, sv) => svK sv fun sv => K ((v, sv) :: r')
theorem litK_spec : ∀ {st : St} {K : St → Prop}, litK st K → K st
  | [], _, h => h
  | (v, sv) :: r, K, h => by
    have := litK_spec (st := r) (K := fun r' => svK sv fun sv => K ((v, sv) :: r')) h
    exact svK_spec (K := fun sv => K ((v, sv) :: r)) this

/-- A round's end, as the walk stops at it. -/
structure Round {X : Type} (ks : List Nat) (J : X → St) (R : X → Prop) (μ : X → Nat) (x : X) (st : St) : Prop where
  out : ∃ x', norm ks st = J x' ∧ R x' ∧ μ x' < μ x
/-- A loop, as the walk stops at it: 'body' is what a round must give. -/
structure LoopWq (ks : List Nat) (body : (St → Prop) → St → Prop) (st : St) : Prop where
  out : ∃ (X : Type) (J : X → St) (R : X → Prop) (μ : X → Nat), (∃ x, norm ks st = J x ∧ R x) ∧ ∀ x, R x → litK (J x) (body (Round ks J R μ x))
/-- Slots that a loop changes. -/
def upd : St → List (Nat × SV) → St
  | st, [] => st
  | st, (n, sv) :: r => upd (st.set n (0, sv)) r
theorem LoopWq.by {X : Type} {ks : List Nat} {body : (St → Prop) → St → Prop} {st : St} (vals : X → List (Nat × SV)) (R : X → Prop) (μ : X → Nat) (x0 : X)
    (h0 : norm ks st = upd (norm ks st) (vals x0)) (hR : R x0) (h : ∀ x, R x → litK (upd (norm ks st) (vals x)) (body (Round ks (fun x => upd (norm ks st) (vals x)) R μ x))) : LoopWq ks body st :=
  ⟨X, fun x => upd (norm ks st) (vals x), R, μ, ⟨x0, h0, hR⟩, h⟩
theorem Round.by {X : Type} {ks : List Nat} {J : X → St} {R : X → Prop} {μ : X → Nat} {x : X} {st : St} (x' : X) (h1 : norm ks st = J x') (h2 : R x') (h3 : μ x' < μ x) : Round ks J R μ x st := ⟨x', h1, h2, h3⟩

def wqS (P : Program) : Stm → Post → St → Prop
  | .skip, Q, st => Q.nrm st
  | .ops l, Q, st => wqIOs P l Q.nrm st
  | .drw es l, Q, st => wzIOs P l (Drawn es Q.nrm) [] st
  | .seq a b, Q, st => wqS P a ⟨wqS P b Q, Q.ex, Q.ret⟩ st
  | .cond c a b, Q, st => (rdB' c fun t => .ite t (.chk (wqS P a Q)) (.chk (wqS P b Q))).wq P (fun _ => False) st
  | .block id a, Q, st => wqS P a ⟨Q.nrm, brk id Q, Q.ret⟩ st
  | .loop ks a, Q, st => LoopWq ks (fun K => wqS P a ⟨K, Q.ex, Q.ret⟩) st
  | .exit id, Q, st => Q.ex id st
  | .ret, Q, st => Q.ret st
theorem wqS_wp {P : Program} : ∀ {s : Stm} {Q Q' : Post} {st : St}, (∀ st, Q.nrm st → Q'.nrm st) → (∀ i st, Q.ex i st → Q'.ex i st) → (∀ st, Q.ret st → Q'.ret st) → wqS P s Q st → wpS P s Q' st := by
  intro s
  induction s with
  | skip => intro Q Q' st h1 h2 h3 h; exact h1 _ h
  | ops l => intro Q Q' st h1 h2 h3 h; exact wqIOs_wp h1 h
  | drw es l => intro Q Q' st h1 h2 h3 h; exact wzIOs_wr (fun _ _ h => ⟨h.ok, h.fits, fun hf => h1 _ (h.go hf)⟩) h
  | seq a b iha ihb => intro Q Q' st h1 h2 h3 h; exact iha (Q := ⟨wqS P b Q, Q.ex, Q.ret⟩) (Q' := ⟨wpS P b Q', Q'.ex, Q'.ret⟩) (fun st h => ihb h1 h2 h3 h) h2 h3 h
  | cond c a b iha ihb =>
    intro Q Q' st h1 h2 h3 h
    have h := M.wq_wp h
    unfold wpS
    have aux : ∀ (t : Bool), (M.ite t (.chk (wqS P a Q)) (.chk (wqS P b Q))).wp P (fun _ => False) st → (M.ite t (.chk (wpS P a Q')) (.chk (wpS P b Q'))).wp P (fun _ => False) st := by
      intro t ⟨g1, g2⟩
      exact ⟨fun hb => iha h1 h2 h3 (g1 hb), fun hb => ihb h1 h2 h3 (g2 hb)⟩
    unfold rdB' at h ⊢
    obtain ⟨i, g1, g2⟩ := rdI_spec h
    have g3 : (match i with | .bool t => M.ite t (.chk (wpS P a Q')) (.chk (wpS P b Q')) | _ => .fail).wp P (fun _ => False) st := by
      split at g1
      · exact aux _ g1
      · exact g1.elim
    rcases g2 with ⟨n, ver, rfl, hn⟩ | rfl | ⟨e, sz, rfl, rfl⟩
    · simp only [rdI, M.wp, hn]; exact g3
    · exact g3
    · exact g3
  | block id a ih =>
    intro Q Q' st h1 h2 h3 h
    refine ih (Q := ⟨Q.nrm, brk id Q, Q.ret⟩) (Q' := ⟨Q'.nrm, brk id Q', Q'.ret⟩) h1 ?_ h3 h
    intro i st h
    simp only [brk] at h ⊢
    split
    · rename_i hi; rw [if_pos hi] at h; exact h1 _ h
    · rename_i hi; rw [if_neg hi] at h; exact h2 _ _ h
  | loop ks a ih =>
    intro Q Q' st h1 h2 h3 ⟨X, J, R, μ, h4, h5⟩
    exact ⟨X, J, R, μ, h4, fun x hx => ih (Q := ⟨Round ks J R μ x, Q.ex, Q.ret⟩) (Q' := ⟨LoopEnd ks J R μ x, Q'.ex, Q'.ret⟩) (fun _ h => h.out) h2 h3 (litK_spec (K := wqS P a ⟨Round ks J R μ x, Q.ex, Q.ret⟩) (h5 x hx))⟩
  | exit id => intro Q Q' st h1 h2 h3 h; exact h2 _ _ h
  | ret => intro Q Q' st h1 h2 h3 h; exact h3 _ h

/-- What is to hold at the end of a body, as the walk goes through it. -/
def Fin' (P : Program) (N : Nat) (rs : List Ret) (args : List SV) (R : SV → List SV → Prop) (st : St) : Prop :=
  (retI rs fun us => .chk fun st' => Done (R (resSV us) (outsFrom N st' 0 args)) (outsFrom N st' 0 args)).wq P (fun _ => False) st
/-- A function's body, as the walk goes through it. -/
def wqF (P : Program) (N : Nat) (s : Stm) (rs : List Ret) (args : List SV) (R : SV → List SV → Prop) : Prop :=
  litK (entry N args) fun st => wqS P s ⟨Fin' P N rs args R, noEx, Fin' P N rs args R⟩ st
theorem wqF_wp {P : Program} {N : Nat} {s : Stm} {rs : List Ret} {args : List SV} {R : SV → List SV → Prop} (h : wqF P N s rs args R) : wpF P N s rs args R :=
  wqS_wp (Q := ⟨Fin' P N rs args R, noEx, Fin' P N rs args R⟩) (Q' := ⟨Fin P N rs args R, noEx, Fin P N rs args R⟩) (fun _ h => M.wq_wp h) (fun _ _ h => h) (fun _ h => M.wq_wp h)
    (litK_spec (K := fun st => wqS P s ⟨Fin' P N rs args R, noEx, Fin' P N rs args R⟩ st) h)

def FinV' (P : Program) (N n : Nat) (args : List SV) (R : SV → List SV → Prop) (st : St) : Prop :=
  (M.get n fun _ sv => match sv with
    | .vec e sz l => .chk fun st' => Done (R (.vec e sz l) (outsFrom N st' 0 args)) (outsFrom N st' 0 args)
    | _ => .fail).wq P (fun _ => False) st
def wqFV (P : Program) (N : Nat) (s : Stm) (n : Nat) (args : List SV) (R : SV → List SV → Prop) : Prop :=
  litK (entry N args) fun st => wqS P s ⟨FinV' P N n args R, noEx, FinV' P N n args R⟩ st
theorem wqFV_wp {P : Program} {N : Nat} {s : Stm} {n : Nat} {args : List SV} {R : SV → List SV → Prop} (h : wqFV P N s n args R) : wpFV P N s n args R :=
  wqS_wp (Q := ⟨FinV' P N n args R, noEx, FinV' P N n args R⟩) (Q' := ⟨FinV P N n args R, noEx, FinV P N n args R⟩) (fun _ h => M.wq_wp h) (fun _ _ h => h) (fun _ h => M.wq_wp h)
    (litK_spec (K := fun st => wqS P s ⟨FinV' P N n args R, noEx, FinV' P N n args R⟩ st) h)
end Go.Ab

namespace Go.Ab
theorem wrap_id {n : Int} (h : -9223372036854775808 ≤ n ∧ n ≤ 9223372036854775807) : IntKind.i64.wrap n = n := by rw [IntKind.wrap_i64]; omega
theorem wrap_succ {k n : Nat} (h : k < n) (hn : n ≤ maxLen) : IntKind.i64.wrap ((k : Int) + 1) = ((k + 1 : Nat) : Int) := by
  simp only [maxLen] at hn
  rw [wrap_id (by omega)]
  rfl
/-- A boolean result. -/
theorem SV.bool_congr {a b : Bool} (h : a = b) : SV.v (.bool a) = SV.v (.bool b) := congrArg (fun b => SV.v (.bool b)) h
theorem all_size {l : List I} {sz : Nat} (h : (l.all fun u => u.size == sz) = true) : ∀ u ∈ l, u.size = sz := by
  intro u hu
  simpa using List.all_eq_true.1 h u hu
end Go.Ab

namespace Go.Ab
/-- The results are handed back as what they are: trees that nobody else holds. -/
def retD : List Ret → (List D → M) → M
  | [], k => k []
  | .t n :: r, k => takeD (.t n) fun u => retD r fun us => k (u :: us)
  | .cell n agg sz :: r, k => .get n fun ver sv => match sv with
    | .own _ t => match t with
      | .ptr u => .need (u.isAgg = agg ∧ u.size = sz) fun _ => .set n (ver + 1) .no (retD r fun us => k (u :: us))
      | _ => .fail
    | _ => .fail
def resD : List D → SV
  | [u] => match u with
    | .it x => .v x
    | u => .own [] u
  | us => .tupd us
def FinD (P : Program) (N : Nat) (rs : List Ret) (args : List SV) (R : SV → List SV → Prop) (st : St) : Prop :=
  (retD rs fun us => .chk fun st' => Done (R (resD us) (outsFrom N st' 0 args)) (outsFrom N st' 0 args)).wp P (fun _ => False) st
def FinD' (P : Program) (N : Nat) (rs : List Ret) (args : List SV) (R : SV → List SV → Prop) (st : St) : Prop :=
  (retD rs fun us => .chk fun st' => Done (R (resD us) (outsFrom N st' 0 args)) (outsFrom N st' 0 args)).wq P (fun _ => False) st
def wqFD (P : Program) (N : Nat) (s : Stm) (rs : List Ret) (args : List SV) (R : SV → List SV → Prop) : Prop :=
  litK (entry N args) fun st => wqS P s ⟨FinD' P N rs args R, noEx, FinD' P N rs args R⟩ st
section
variable {P : Program} {N : Nat} {G : Mem} {σ : Lab} {Fr : Mem} {w0 : Base} {w : World} {st : St} {a : Act}

theorem retD_rep {Q : St → Prop} : ∀ {rs : List Ret} {rv : List ResultVar} {k : List D → M} {G : Mem} {σ : Lab} {st : St}, Rel G σ Fr w0 st a w → retOk P w0.n rv rs = true → (retD rs k).wp P Q st →
    ∃ us cs bs G' σ' st', G.le G' ∧ Rel G' σ' Fr w0 st' a w ∧ (k us).wp P Q st' ∧ (rv.mapM (resV a.tmps)).run P w = .ok cs w ∧ RepVs G' w us cs bs ∧ bs.Nodup ∧
      (∀ b ∈ bs, G' b = none ∧ Fr b = none ∧ σ' b = none ∧ b < w.heap.size) ∧ (∀ b ∈ bs, σ b ≠ none) ∧ ∀ b, σ b = none → G b = none → σ' b = none ∧ G' b = none
  | [], [], k, G, σ, st, hr, _, hq => ⟨[], [], [], G, σ, st, Mem.le.refl G, hr, hq, by simp, by simp [RepVs], List.nodup_nil, by simp, by simp, fun _ h1 h2 => ⟨h1, h2⟩⟩
  | .t n :: rs, .tmp m :: rv, k, G, σ, st, hr, ho, hq => by
    simp only [retOk, Bool.and_eq_true, beq_iff_eq, decide_eq_true_eq] at ho
    obtain ⟨⟨rfl, h1⟩, h2⟩ := ho
    obtain ⟨u, b1, G1, σ1, st1, g1, g2, g3, g4, g5, g6⟩ := takeD_rep2 (x := .tmp m) hr (by simp [opdOk, h1]) hq
    obtain ⟨us, cs, bs, G2, σ2, st2, q1, q2, q3, q4, q5, q6, q7, q8, q9⟩ := retD_rep g2 h2 g3
    obtain ⟨f1, f2, f3, f4⟩ := g4.later q1 q9
    refine ⟨u :: us, a.tmps.getD m undef :: cs, b1 ++ bs, G2, σ2, st2, g1.trans q1, q2, q3, ?_, ?_, ?_, ?_, ?_, ?_⟩
    · simp only [List.mapM_cons, resV, Sem.run_bind, Sem.run_pure, Result.andThen, q4]
    · simp only [RepVs]
      exact ⟨_, cs, b1, bs, rfl, rfl, f2, f1, q5⟩
    · rw [List.nodup_append]
      refine ⟨f3, q6, fun x hx y hy e => ?_⟩
      subst e
      exact q8 x hy (g4.2.2.2 x hx).2.2.1
    · intro b hb
      rcases List.mem_append.1 hb with hb | hb
      · exact f4 b hb
      · exact q7 b hb
    · intro b hb hn
      rcases List.mem_append.1 hb with hb' | hb'
      · exact g5 b hb' hn
      · by_cases hG : G b = none
        · exact q8 b hb' (g6 b hn hG).1
        · obtain ⟨o, hob⟩ := Option.ne_none_iff_exists'.1 hG
          have := g1 b o hob
          have := q1 b o this
          rw [(q7 b hb').1] at this
          cases this
    · intro b k1 k2
      obtain ⟨k3, k4⟩ := g6 b k1 k2
      exact q9 b k3 k4
  | .cell n agg sz :: rs, .cell m t :: rv, k, G, σ, st, hr, ho, hq => by
    simp only [retOk, Bool.and_eq_true, beq_iff_eq, decide_eq_true_eq] at ho
    obtain ⟨⟨⟨rfl, h1⟩, ht⟩, h2⟩ := ho
    simp only [retD, M.wp] at hq
    cases hs : st[m]? with
    | none => simp [hs] at hq
    | some cur =>
      obtain ⟨ver, sv⟩ := cur
      simp only [hs] at hq
      split at hq
      · rename_i inv tr
        split at hq
        · rename_i u
          obtain ⟨⟨rfl, rfl⟩, hq⟩ := hq
          have hown : OwnD G σ w m (.ptr u) (a.eval (.tmp m)) := hr.slot h1 hs
          obtain ⟨bs0, r1, r2, r3, r4⟩ := hown
          rw [valOf_one r2] at r1
          simp only [RepD] at r1
          obtain ⟨b, cells, ty, bu, e1, e2, e3, rfl⟩ := r1
          injection e1 with e1
          have hdrop : ∀ x ∈ b :: bu, σ.drop m x = none := fun x hx => by
            obtain ⟨kk, hk⟩ := r4 x hx
            simp [Lab.drop, hk]
          obtain ⟨us, cs, bs, G2, σ2, st2, q1, q2, q3, q4, q5, q6, q7, q8, q9⟩ := retD_rep (hr.drop hs (Nat.lt_succ_self ver)) h2 hq
          have hf0 : ∀ x ∈ bu, G x = none ∧ Fr x = none ∧ σ.drop m x = none ∧ x < w.heap.size := fun x hx => by
            obtain ⟨kk, hk⟩ := r4 x (by simp [hx])
            obtain ⟨k1, k2, k3⟩ := hr.wok.own x _ hk
            exact ⟨k1, k2, hdrop x (by simp [hx]), k3⟩
          have hlen := RepD.length e3
          have hone := RepD.one e3
          obtain ⟨v, hl, hvc, hva⟩ := load_cells (P := P) (w := w) (t := t) (agg := u.isAgg) (b := b) (off := 0) (bl := cells) (pre := []) (cs := cells.toList) (post := []) (by rw [hlen]; exact ht) (by
            intro hag
            rw [hlen]
            cases u <;> first | rfl | (rename_i x; cases x <;> first | rfl | cases hag) | cases hag) e2 (by simp) rfl hone
          have hev : a.tmps.getD m undef = .pointer (some ⟨b, 0, none⟩) := e1
          refine ⟨u :: us, v :: cs, bu ++ bs, G2, σ2, st2, q1, q2, q3, ?_, ?_, ?_, ?_, ?_, ?_⟩
          · simp only [List.mapM_cons, resV, hev, asAddr, Sem.run_bind, Sem.run_pure, Result.andThen, hl, q4]
          · simp only [RepVs]
            exact ⟨v, cs, bu, bs, rfl, rfl, hva, by rw [hvc]; exact e3.tr q1 fun _ _ => rfl, q5⟩
          · rw [List.nodup_append]
            refine ⟨(List.nodup_cons.1 r3).2, q6, fun x hx y hy e => ?_⟩
            subst e
            exact q8 x hy (hf0 x hx).2.2.1
          · intro x hx
            rcases List.mem_append.1 hx with hx | hx
            · obtain ⟨k1, k2, k3, k4⟩ := hf0 x hx
              obtain ⟨k5, k6⟩ := q9 x k3 k1
              exact ⟨k6, k2, k5, k4⟩
            · exact q7 x hx
          · intro x hx hn
            rcases List.mem_append.1 hx with hx | hx
            · obtain ⟨kk, hk⟩ := r4 x (by simp [hx])
              rw [hn] at hk; cases hk
            · refine q8 x hx ?_
              simp [Lab.drop, hn]
          · intro x k1 k2
            exact q9 x (by simp [Lab.drop, k1]) k2
        · exact hq.elim
      · exact hq.elim
  | [], _ :: _, _, _, _, _, _, ho, _ => by simp [retOk] at ho
  | .t _ :: _, [], _, _, _, _, _, ho, _ => by simp [retOk] at ho
  | .cell _ _ _ :: _, [], _, _, _, _, _, ho, _ => by simp [retOk] at ho
  | .t _ :: _, .cell _ _ :: _, _, _, _, _, _, ho, _ => by simp [retOk] at ho
  | .cell _ _ _ :: _, .tmp _ :: _, _, _, _, _, _, ho, _ => by simp [retOk] at ho

theorem ends_retD {fn : Func} {rs : List Ret} {args : List SV} {Post : SV → List SV → Prop} (hr : retOk P fn.ntmps fn.results.toList rs = true) : Ends P fn args Post (FinD P fn.ntmps rs args Post) := by
    intro G Fr w cargs a w' G' σ' st hlen hn hG hr' hq
    let B : Base := ⟨w, fn.ntmps, cargs⟩
    refine ⟨hr'.defers, ?_⟩
    obtain ⟨us, cs, bs, G2, σ2, st2, q1, q2, ⟨q3, q3'⟩, q4, q5, q6, q7, q8, q9⟩ := retD_rep hr' hr hq
    have q3' := ownAll_spec q3'
    have hresM : (fn.results.mapM (resV a.tmps)).run P w' = .ok cs.toArray w' := by
      rw [Array.mapM_eq_mapM_toList, Sem.run_map, q4]
      rfl
    let σ3 : Lab := (σ2.unshift fn.ntmps).adopt args.length 0 bs
    have hun : ∀ {b s k}, σ2.unshift fn.ntmps b = some (s, k) → σ2 b = some (fn.ntmps + s, k) := by
      intro b s k hb
      unfold Lab.unshift at hb
      split at hb
      · rename_i s' k' h1
        split at hb
        · rename_i hle
          simp only [Option.some.injEq, Prod.mk.injEq] at hb
          obtain ⟨rfl, rfl⟩ := hb
          rw [h1, show fn.ntmps + (s' - fn.ntmps) = s' by omega]
        · cases hb
      · cases hb
    have hok2 : WOk G2 (σ2.unshift fn.ntmps) Fr ⟨w, 0, #[]⟩ w' := by
      refine ⟨q2.wok.fixed, ?_, ?_, q2.wok.frame, q2.wok.os, q2.wok.tape, q2.wok.output, q2.wok.size, q2.wok.apart⟩
      · rintro b ⟨s, k⟩ hb
        exact q2.wok.own b _ (hun hb)
      · rintro b b' ⟨s, k⟩ hb hb'
        exact q2.wok.inj b b' _ (hun hb) (hun hb')
    -- what lies behind the arguments is nobody's
    let σ2' : Lab := fun b => match σ2.unshift fn.ntmps b with
      | some (s, k) => if s < args.length then some (s, k) else none
      | none => none
    have hle : ∀ {b lab}, σ2' b = some lab → σ2.unshift fn.ntmps b = some lab ∧ lab.1 < args.length := by
      intro b lab hb
      simp only [σ2'] at hb
      split at hb
      · rename_i s k h1
        split at hb
        · rename_i hlt; cases hb; exact ⟨h1, hlt⟩
        · cases hb
      · cases hb
    have hok3 : WOk G2 σ2' Fr ⟨w, 0, #[]⟩ w' := ⟨hok2.fixed, fun b lab hb => hok2.own b lab (hle hb).1, fun b b' lab hb hb' => hok2.inj b b' lab (hle hb).1 (hle hb').1, hok2.frame, hok2.os, hok2.tape, hok2.output, hok2.size, hok2.apart⟩
    have hok4 : WOk G2 (σ2'.adopt args.length 0 bs) Fr ⟨w, 0, #[]⟩ w' := hok3.adopt (fun b k hb => absurd (hle hb).2 (Nat.lt_irrefl _)) fun b hb => ⟨(q7 b hb).1, (q7 b hb).2.1, (q7 b hb).2.2.2⟩
    have hlabs : ∀ b ∈ bs, ∃ k, (σ2'.adopt args.length 0 bs) b = some (args.length, k) := fun b hb => ⟨_, Lab.adopt_new hb⟩
    have hresV : ∃ v, (results fn a.tmps).run P w' = .ok v w' ∧ (resD us).root = none ∧ RepOwn G2 (σ2'.adopt args.length 0 bs) w' args.length (resD us) v := by
      rw [results_eq, Sem.run_bind, hresM]
      match us, cs, q5, hlabs with
      | [], [], h5, hl => 
        simp only [RepVs] at h5
        exact ⟨.tuple #[], by simp [Result.andThen], rfl, #[], bs, rfl, by simp [RepVs, h5.2], q6, hl⟩
      | [u], cs, h5, hl =>
        simp only [RepVs] at h5
        obtain ⟨v, _, b1, _, rfl, rfl, hva, hrv, rfl, rfl⟩ := h5
        refine ⟨v, by simp [Result.andThen], ?_⟩
        cases u with
        | it x =>
          refine ⟨rfl, ?_⟩
          show RepV G2 x v
          simp only [RepD] at hrv
          simp only [D.isAgg] at hva
          unfold RepV
          cases hx : x.isAgg with
          | true =>
            rw [hx] at hva
            obtain ⟨a', rfl⟩ := valOf_agg hva
            rw [if_pos rfl]
            exact ⟨a', rfl, hrv.1⟩
          | false =>
            rw [hx] at hva
            rw [valOf_one hva] at hrv
            rw [if_neg (by simp)]
            exact hrv.1
        | _ => exact ⟨rfl, b1, hrv, hva, by simpa using q6, fun b hb => hl b (by simpa using hb)⟩
      | u :: u' :: us, cs, h5, hl =>
        have h5' := h5
        simp only [RepVs] at h5
        obtain ⟨v, _, _, _, rfl, _, _, _, v', _, _, _, rfl, _⟩ := h5
        exact ⟨.tuple (v :: v' :: _).toArray, by simp [Result.andThen], rfl, _, bs, rfl, h5', q6, hl⟩
    obtain ⟨v, hv1, hv0, hv2⟩ := hresV
    refine ⟨v, hv1, resD us, outsFrom fn.ntmps st2 0 args, v, G2, _, rfl, q3, hG.trans q1, hok4, hv0, hv2, outsFrom_length args 0, ?_⟩
    intro i sv hi
    refine ⟨q3' sv (List.mem_of_getElem? hi), ?_⟩
    rw [outsFrom_get] at hi
    cases harg : args[i]? with
    | none => simp [harg] at hi
    | some sv0 =>
      have hil : i < args.length := (List.getElem?_eq_some_iff.1 harg).1
      simp only [harg, Option.map_some, Option.some.injEq, Nat.zero_add] at hi
      split at hi
      · cases hst : st2[fn.ntmps + i]? with
        | none => simp only [hst] at hi; subst hi; trivial
        | some cur =>
          obtain ⟨ver, sv1⟩ := cur
          simp only [hst] at hi
          subst hi
          have hrep := q2.slots _ _ _ hst
          have hroot := q3' sv1.clean (by
            apply List.mem_of_getElem? (i := i)
            rw [outsFrom_get, harg]
            simp only [Option.map_some, Nat.zero_add, hst]
            rename_i hl
            rw [if_pos hl])
          rw [clean_root] at hroot
          rw [RepSV.own hroot] at hrep
          have hval : val a B (fn.ntmps + i) = cargs.getD i undef := by
            unfold val
            rw [Array.getD_eq_getD_getElem?, Array.getElem?_append_right (by rw [q2.n]; exact Nat.le_add_right _ _), q2.n, Array.getD_eq_getD_getElem?]
            simp [B]
          rw [hval] at hrep
          rw [clean_rep]
          refine RepOwn.tr hrep (Mem.le.refl G2) fun b k hb => ⟨?_, rfl⟩
          rw [Lab.adopt_old]
          · simp only [σ2', Lab.unshift, hb]
            simp [hil]
          · intro hm
            rw [(q7 b hm).2.2.1] at hb
            cases hb
      · subst hi; trivial
theorem Fn.of_bodyD {f : FuncId} {fn : Func} {c : Code} {s : Stm} {rs : List Ret} {args : List SV} {Post : SV → List SV → Prop} {N : Nat} (hf : P.funcs[f]? = some fn) (hb : fn.body = some c) (hN : fn.ntmps = N)
    (hc : chkC P N c s = true) (hr : retOk P N fn.results.toList rs = true) (hn : args.length ≤ N) (h : wqFD P N s rs args Post) : Fn P f args Post := by
  subst hN
  refine Fn.of_code hf hb hc hn (ends_retD hr) ?_
  have h := litK_spec h
  exact wqS_wp (Q := ⟨FinD' P fn.ntmps rs args Post, noEx, FinD' P fn.ntmps rs args Post⟩) (Q' := ⟨FinD P fn.ntmps rs args Post, noEx, FinD P fn.ntmps rs args Post⟩) (fun st h => M.wq_wp h) (fun _ _ h => h) (fun st h => M.wq_wp h) h
end
end Go.Ab

namespace Go.Ab
/-- A result that nobody else holds, as an item. -/
def frzSV : SV → Option SV
  | .own _ t => match t.toI with
    | some y => some (.v y)
    | none => none
  | .tupd l => match toIs l with
    | some r => some (.tup (r.map F.i))
    | none => none
  | .v x => some (.v x)
  | _ => none
theorem repV_of {G : Mem} {y : I} {v : Value} (h : RepI G y v.cells.toList) (hv : valOf y.isAgg v = true) : RepV G y v := by
  unfold RepV
  cases hx : y.isAgg with
  | true =>
    rw [hx] at hv
    obtain ⟨a', rfl⟩ := valOf_agg hv
    rw [if_pos rfl]
    exact ⟨a', rfl, h⟩
  | false =>
    rw [hx] at hv
    rw [valOf_one hv] at h
    rw [if_neg (by simp)]
    exact h
theorem repVs_tup {G G' : Mem} {σ : Lab} {w : World} {s : Nat} (hG : G.le G') : ∀ {l : List D} {r : List I} {cs : List Value} {bs : List Nat} {j : Nat}, RepVs G w l cs bs → toIs l = some r → (∀ b ∈ bs, G' b = w.heap[b]?) → RepTup G' σ w s j (r.map F.i) cs
  | [], r, cs, bs, j, h, hr, _ => by
    simp only [toIs, Option.some.injEq] at hr
    subst hr
    simp only [RepVs] at h
    simp [RepTup, h.1]
  | d :: l, r, cs, bs, j, h, hr, hb => by
    simp only [toIs] at hr
    split at hr
    · rename_i x hx
      split at hr
      · rename_i r' hr'
        cases hr
        simp only [RepVs] at h
        obtain ⟨v, c', b, b', rfl, rfl, hv, h1, h2⟩ := h
        simp only [List.map_cons, RepTup]
        refine ⟨v, c', rfl, repV_of (RepD.toI hG h1 hx fun b hb' => hb b (by simp [hb'])) ?_, repVs_tup hG h2 hr' fun b hb' => hb b (by simp [hb'])⟩
        rw [(toI_shape hx).2]; exact hv
      · cases hr
    · cases hr
theorem Fn.frz {P : Program} {f : FuncId} {args : List SV} {Post Post' : SV → List SV → Prop} (h : Fn P f args Post) (hP : ∀ r as, Post r as → ∃ r', frzSV r = some r' ∧ Post' r' as) : Fn P f args Post' := by
  intro G σ Fr w cargs hok hsz hin
  refine (h G σ Fr w cargs hok hsz hin).mono ?_
  rintro e w' ⟨r, as, c, G1, σ1, rfl, hp, hG, hok1, hroot, hrep, hlen, has⟩
  obtain ⟨r', hfr, hp'⟩ := hP r as hp
  let G2 : Mem := fun b => match σ1 b with
    | some (s, _) => if s = args.length then w'.heap[b]? else G1 b
    | none => G1 b
  let σ2 : Lab := fun b => match σ1 b with
    | some (s, k) => if s = args.length then none else some (s, k)
    | none => none
  have hG2n : ∀ b k, σ1 b = some (args.length, k) → G2 b = w'.heap[b]? := by
    intro b k hb
    simp only [G2, hb, if_true]
  have hG2o : ∀ b, (∀ k, σ1 b ≠ some (args.length, k)) → G2 b = G1 b := by
    intro b hb
    simp only [G2]
    split
    · rename_i s k hs
      split
      · rename_i hsn; subst hsn; exact absurd hs (hb k)
      · rfl
    · rfl
  have hle : G1.le G2 := by
    intro b o hb
    rw [hG2o b]
    · exact hb
    · intro k hk
      rw [(hok1.own b _ hk).1] at hb
      cases hb
  have hσ2 : ∀ b s k, σ2 b = some (s, k) → σ1 b = some (s, k) ∧ s ≠ args.length := by
    intro b s k hb
    simp only [σ2] at hb
    split at hb
    · rename_i s' k' hs
      split at hb
      · cases hb
      · rename_i hne; cases hb; exact ⟨hs, hne⟩
    · cases hb
  have hok2 : WOk G2 σ2 Fr ⟨w, 0, #[]⟩ w' := by
    refine ⟨?_, ?_, ?_, hok1.frame, hok1.os, hok1.tape, hok1.output, hok1.size, ?_⟩
    · intro b o hb
      by_cases hk : ∃ k, σ1 b = some (args.length, k)
      · obtain ⟨k, hk⟩ := hk
        rw [hG2n b k hk] at hb; exact hb
      · rw [hG2o b (fun k hk' => hk ⟨k, hk'⟩)] at hb
        exact hok1.fixed b o hb
    · rintro b ⟨s, k⟩ hb
      obtain ⟨h1, h2⟩ := hσ2 b s k hb
      obtain ⟨h3, h4, h5⟩ := hok1.own b _ h1
      refine ⟨?_, h4, h5⟩
      rw [hG2o b (fun k' hk' => ?_)]
      · exact h3
      · rw [h1] at hk'; cases hk'; exact h2 rfl
    · rintro b b' ⟨s, k⟩ hb hb'
      exact hok1.inj b b' _ (hσ2 b s k hb).1 (hσ2 b' s k hb').1
    · intro b o hb
      by_cases hk : ∃ k, σ1 b = some (args.length, k)
      · obtain ⟨k, hk⟩ := hk
        rw [(hok1.own b _ hk).2.1] at hb; cases hb
      · rw [hG2o b (fun k hk' => hk ⟨k, hk'⟩)]
        exact hok1.apart b o hb
  have hasn : ∀ i sv, as[i]? = some sv → sv.root = none ∧ RepOwn G2 σ2 w' i sv (cargs.getD i undef) := by
    intro i sv hi
    obtain ⟨h1, h2⟩ := has i sv hi
    refine ⟨h1, RepOwn.tr h2 hle fun b k hb => ⟨?_, rfl⟩⟩
    have hil : i < args.length := by
      have := (List.getElem?_eq_some_iff.1 hi).1
      omega
    simp only [σ2, hb]
    rw [if_neg (by omega)]
  refine ⟨r', as, c, G2, σ2, rfl, hp', hG.trans hle, hok2, ?_, ?_, hlen, hasn⟩
  · unfold frzSV at hfr
    split at hfr
    · split at hfr
      · cases hfr; rfl
      · cases hfr
    · split at hfr
      · cases hfr; rfl
      · cases hfr
    · cases hfr; rfl
    · cases hfr
  · unfold frzSV at hfr
    split at hfr
    · rename_i inv t
      split at hfr
      · rename_i y hy
        cases hfr
        obtain ⟨bs, h1, h2, h3, h4⟩ := (show OwnD G1 σ1 w' args.length t c from hrep)
        refine repV_of (RepD.toI hle h1 hy fun b hb => ?_) (by rw [(toI_shape hy).2]; exact h2)
        obtain ⟨k, hk⟩ := h4 b hb
        exact hG2n b k hk
      · cases hfr
    · rename_i l
      split at hfr
      · rename_i r0 hr0
        cases hfr
        obtain ⟨a, bs, h0, h1, h3, h4⟩ := (show OwnT G1 σ1 w' args.length l c from hrep)
        refine ⟨a, h0, repVs_tup hle h1 hr0 fun b hb => ?_⟩
        obtain ⟨k, hk⟩ := h4 b hb
        exact hG2n b k hk
      · cases hfr
    · cases hfr
      exact RepV.mono hle hrep
    · cases hfr
end Go.Ab

namespace Go.Ab
mutual
/-- The second tree is the first one, parts of which lie fixed. -/
def Frz : D → D → Prop
  | d, .it y => d.toI = some y
  | .st l, .st l' => Frzs l l'
  | .vec e sz l, .vec e' sz' l' => e = e' ∧ sz = sz' ∧ Frzs l l'
  | .ptr d, .ptr d' => Frz d d'
  | _, _ => False
def Frzs : List D → List D → Prop
  | [], [] => True
  | d :: l, d' :: l' => Frz d d' ∧ Frzs l l'
  | _, _ => False
end
theorem frzs_map {α : Type} {f g : α → D} (h : ∀ x, Frz (f x) (g x)) : ∀ l : List α, Frzs (l.map f) (l.map g)
  | [] => by simp [Frzs]
  | a :: l => by simp only [List.map_cons, Frzs]; exact ⟨h a, frzs_map h l⟩
theorem frzs_its : ∀ l : List I, Frzs (l.map D.it) (l.map D.it)
  | [] => by simp [Frzs]
  | a :: l => by simp only [List.map_cons, Frzs, Frz, D.toI, true_and]; exact frzs_its l
theorem frzs_len : ∀ {l l' : List D}, Frzs l l' → l'.length = l.length
  | [], [], _ => rfl
  | d :: l, d' :: l', h => by simp only [Frzs] at h; simp [frzs_len h.2]
  | [], _ :: _, h => by simp [Frzs] at h
  | _ :: _, [], h => by simp [Frzs] at h
mutual
theorem frz_shape : ∀ {d d' : D}, Frz d d' → d'.size = d.size ∧ d'.isAgg = d.isAgg
  | d, .it y, h => by simp only [Frz] at h; exact toI_shape h
  | .st l, .st l', h => by simp only [Frz] at h; exact ⟨frzs_shape h, rfl⟩
  | .vec e sz l, .vec e' sz' l', h => ⟨rfl, rfl⟩
  | .ptr d, .ptr d', h => ⟨rfl, rfl⟩
  | .it _, .st _, h => by simp [Frz] at h
  | .it _, .vec _ _ _, h => by simp [Frz] at h
  | .it _, .ptr _, h => by simp [Frz] at h
  | .it _, .map _ _, h => by simp [Frz] at h
  | .st _, .vec _ _ _, h => by simp [Frz] at h
  | .st _, .ptr _, h => by simp [Frz] at h
  | .st _, .map _ _, h => by simp [Frz] at h
  | .vec _ _ _, .st _, h => by simp [Frz] at h
  | .vec _ _ _, .ptr _, h => by simp [Frz] at h
  | .vec _ _ _, .map _ _, h => by simp [Frz] at h
  | .ptr _, .st _, h => by simp [Frz] at h
  | .ptr _, .vec _ _ _, h => by simp [Frz] at h
  | .ptr _, .map _ _, h => by simp [Frz] at h
  | .map _ _, .st _, h => by simp [Frz] at h
  | .map _ _, .vec _ _ _, h => by simp [Frz] at h
  | .map _ _, .ptr _, h => by simp [Frz] at h
  | .map _ _, .map _ _, h => by simp [Frz] at h
theorem frzs_shape : ∀ {l l' : List D}, Frzs l l' → dsizes l' = dsizes l
  | [], [], _ => rfl
  | d :: l, d' :: l', h => by simp only [Frzs] at h; simp [dsizes, (frz_shape h.1).1, frzs_shape h.2]
  | [], _ :: _, h => by simp [Frzs] at h
  | _ :: _, [], h => by simp [Frzs] at h
end
theorem frzs_size {sz : Nat} : ∀ {l l' : List D}, Frzs l l' → (∀ x ∈ l, x.size = sz) → ∀ x ∈ l', x.size = sz
  | [], [], _, _ => by simp
  | d :: l, d' :: l', h, hs => by
    simp only [Frzs] at h
    intro x hx
    rcases List.mem_cons.1 hx with rfl | hx
    · rw [(frz_shape h.1).1]; exact hs d (List.mem_cons_self ..)
    · exact frzs_size h.2 (fun y hy => hs y (List.mem_cons_of_mem _ hy)) x hx
  | [], _ :: _, h, _ => by simp [Frzs] at h
  | _ :: _, [], h, _ => by simp [Frzs] at h
mutual
theorem Frz.rep {G : Mem} {w : World} : ∀ {d d' : D} {cs : List Value} {bs : List Nat}, Frz d d' → RepD G w d cs bs → bs.Nodup →
    ∃ bs' : List Nat, bs'.Sublist bs ∧ ∀ G' : Mem, G.le G' → (∀ b ∈ bs, b ∉ bs' → G' b = w.heap[b]?) → RepD G' w d' cs bs'
  | d, .it y, cs, bs, h, hr, hn => by
    simp only [Frz] at h
    refine ⟨[], by simp, fun G' hG hb => ?_⟩
    simp only [RepD]
    exact ⟨RepD.toI hG hr h fun b hb1 => hb b hb1 (by simp), trivial⟩
  | .st l, .st l', cs, bs, h, hr, hn => by
    simp only [Frz] at h
    simp only [RepD] at hr
    obtain ⟨bs', h1, h2⟩ := Frzs.rep h hr hn
    exact ⟨bs', h1, fun G' hG hb => by simp only [RepD]; exact h2 G' hG hb⟩
  | .vec e sz l, .vec e' sz' l', cs, bs, h, hr, hn => by
    simp only [Frz] at h
    obtain ⟨rfl, rfl, h⟩ := h
    simp only [RepD] at hr
    rcases hr with ⟨rfl, rfl, rfl⟩ | ⟨g, cap, cur, xs, b0, rfl, h1, h2, h3, h4, h5, h6, h7, rfl⟩
    · have : l' = [] := by have := frzs_len h; simpa using this
      subst this
      exact ⟨[], by simp, fun G' hG hb => by simp [RepD]⟩
    · obtain ⟨bs', k1, k2⟩ := Frzs.rep h h6 (List.nodup_cons.1 hn).2
      have hlen := frzs_len h
      refine ⟨g :: bs', by simpa using k1, fun G' hG hb => ?_⟩
      simp only [RepD]
      refine .inr ⟨g, cap, cur, xs, bs', by rw [hlen], h1, by omega, h3, h4, by rw [hlen]; exact h5, k2 G' hG fun b hb1 hb2 => ?_, frzs_size h h7, rfl⟩
      refine hb b (by simp [hb1]) fun hb3 => ?_
      rcases List.mem_cons.1 hb3 with rfl | hb3
      · exact (List.nodup_cons.1 hn).1 hb1
      · exact hb2 hb3
  | .ptr d, .ptr d', cs, bs, h, hr, hn => by
    simp only [Frz] at h
    simp only [RepD] at hr
    obtain ⟨g, cells, ty, b0, rfl, h1, h2, rfl⟩ := hr
    obtain ⟨bs', k1, k2⟩ := Frz.rep h h2 (List.nodup_cons.1 hn).2
    refine ⟨g :: bs', by simpa using k1, fun G' hG hb => ?_⟩
    simp only [RepD]
    refine ⟨g, cells, ty, bs', rfl, h1, k2 G' hG fun b hb1 hb2 => ?_, rfl⟩
    refine hb b (by simp [hb1]) fun hb3 => ?_
    rcases List.mem_cons.1 hb3 with rfl | hb3
    · exact (List.nodup_cons.1 hn).1 hb1
    · exact hb2 hb3
  | .it _, .st _, _, _, h, _, _ => by simp [Frz] at h
  | .it _, .vec _ _ _, _, _, h, _, _ => by simp [Frz] at h
  | .it _, .ptr _, _, _, h, _, _ => by simp [Frz] at h
  | .it _, .map _ _, _, _, h, _, _ => by simp [Frz] at h
  | .st _, .vec _ _ _, _, _, h, _, _ => by simp [Frz] at h
  | .st _, .ptr _, _, _, h, _, _ => by simp [Frz] at h
  | .st _, .map _ _, _, _, h, _, _ => by simp [Frz] at h
  | .vec _ _ _, .st _, _, _, h, _, _ => by simp [Frz] at h
  | .vec _ _ _, .ptr _, _, _, h, _, _ => by simp [Frz] at h
  | .vec _ _ _, .map _ _, _, _, h, _, _ => by simp [Frz] at h
  | .ptr _, .st _, _, _, h, _, _ => by simp [Frz] at h
  | .ptr _, .vec _ _ _, _, _, h, _, _ => by simp [Frz] at h
  | .ptr _, .map _ _, _, _, h, _, _ => by simp [Frz] at h
  | .map _ _, .st _, _, _, h, _, _ => by simp [Frz] at h
  | .map _ _, .vec _ _ _, _, _, h, _, _ => by simp [Frz] at h
  | .map _ _, .ptr _, _, _, h, _, _ => by simp [Frz] at h
  | .map _ _, .map _ _, _, _, h, _, _ => by simp [Frz] at h
theorem Frzs.rep {G : Mem} {w : World} : ∀ {l l' : List D} {cs : List Value} {bs : List Nat}, Frzs l l' → RepDs G w l cs bs → bs.Nodup →
    ∃ bs' : List Nat, bs'.Sublist bs ∧ ∀ G' : Mem, G.le G' → (∀ b ∈ bs, b ∉ bs' → G' b = w.heap[b]?) → RepDs G' w l' cs bs'
  | [], [], cs, bs, _, hr, _ => by
    simp only [RepDs] at hr
    obtain ⟨rfl, rfl⟩ := hr
    exact ⟨[], by simp, fun G' hG hb => by simp [RepDs]⟩
  | d :: l, d' :: l', cs, bs, h, hr, hn => by
    simp only [Frzs] at h
    simp only [RepDs] at hr
    obtain ⟨c, c', b, b', rfl, rfl, h1, h2⟩ := hr
    rw [List.nodup_append] at hn
    obtain ⟨n1, n2, n3⟩ := hn
    obtain ⟨bs1, k1, k2⟩ := Frz.rep h.1 h1 n1
    obtain ⟨bs2, k3, k4⟩ := Frzs.rep h.2 h2 n2
    refine ⟨bs1 ++ bs2, List.Sublist.append k1 k3, fun G' hG hb => ?_⟩
    simp only [RepDs]
    refine ⟨c, c', bs1, bs2, rfl, rfl, k2 G' hG fun x hx1 hx2 => ?_, k4 G' hG fun x hx1 hx2 => ?_⟩
    · refine hb x (by simp [hx1]) fun hx3 => ?_
      rcases List.mem_append.1 hx3 with hx3 | hx3
      · exact hx2 hx3
      · exact n3 x hx1 x (k3.subset hx3) rfl
    · refine hb x (by simp [hx1]) fun hx3 => ?_
      rcases List.mem_append.1 hx3 with hx3 | hx3
      · exact n3 x (k1.subset hx3) x hx1 rfl
      · exact hx2 hx3
  | [], _ :: _, _, _, h, _, _ => by simp [Frzs] at h
  | _ :: _, [], _, _, h, _, _ => by simp [Frzs] at h
end
/-- A result, parts of which lie fixed from then on. -/
theorem Fn.part {P : Program} {f : FuncId} {args : List SV} {Post Post' : SV → List SV → Prop} (h : Fn P f args Post) (hP : ∀ r as, Post r as → ∃ inv d d', r = .own inv d ∧ Frz d d' ∧ Post' (.own [] d') as) : Fn P f args Post' := by
  intro G σ Fr w cargs hok hsz hin
  refine (h G σ Fr w cargs hok hsz hin).mono ?_
  rintro e w' ⟨r, as, c, G1, σ1, rfl, hp, hG, hok1, hroot, hrep, hlen, has⟩
  obtain ⟨inv, d, d', rfl, hfr, hp'⟩ := hP r as hp
  obtain ⟨bs, h1, h2, h3, h4⟩ := (show OwnD G1 σ1 w' args.length d c from hrep)
  obtain ⟨bs', k1, k2⟩ := hfr.rep h1 h3
  let G2 : Mem := fun b => if b ∈ bs ∧ b ∉ bs' then w'.heap[b]? else G1 b
  let σ2 : Lab := fun b => if b ∈ bs ∧ b ∉ bs' then none else σ1 b
  have hle : G1.le G2 := by
    intro b o hb
    simp only [G2]
    split
    · rename_i hc
      obtain ⟨k, hk⟩ := h4 b hc.1
      rw [(hok1.own b _ hk).1] at hb
      cases hb
    · exact hb
  have hσ2 : ∀ b lab, σ2 b = some lab → σ1 b = some lab ∧ ¬ (b ∈ bs ∧ b ∉ bs') := by
    intro b lab hb
    simp only [σ2] at hb
    split at hb
    · cases hb
    · rename_i hc; exact ⟨hb, hc⟩
  have hok2 : WOk G2 σ2 Fr ⟨w, 0, #[]⟩ w' := by
    refine ⟨?_, ?_, ?_, hok1.frame, hok1.os, hok1.tape, hok1.output, hok1.size, ?_⟩
    · intro b o hb
      simp only [G2] at hb
      split at hb
      · exact hb
      · exact hok1.fixed b o hb
    · intro b lab hb
      obtain ⟨q1, q2⟩ := hσ2 b lab hb
      obtain ⟨q3, q4, q5⟩ := hok1.own b lab q1
      refine ⟨?_, q4, q5⟩
      simp only [G2]
      rw [if_neg q2]
      exact q3
    · intro b b' lab hb hb'
      exact hok1.inj b b' lab (hσ2 b lab hb).1 (hσ2 b' lab hb').1
    · intro b o hb
      simp only [G2]
      split
      · rename_i hc
        obtain ⟨k, hk⟩ := h4 b hc.1
        rw [(hok1.own b _ hk).2.1] at hb
        cases hb
      · exact hok1.apart b o hb
  refine ⟨.own [] d', as, c, G2, σ2, rfl, hp', hG.trans hle, hok2, rfl, ?_, hlen, ?_⟩
  · refine ⟨bs', k2 G2 hle fun b q1 q2 => ?_, by rw [(frz_shape hfr).2]; exact h2, h3.sublist k1, fun b hb => ?_⟩
    · simp only [G2]
      rw [if_pos ⟨q1, q2⟩]
    · obtain ⟨k, hk⟩ := h4 b (k1.subset hb)
      refine ⟨k, ?_⟩
      simp only [σ2]
      rw [if_neg (fun hc => hc.2 hb)]
      exact hk
  · intro i sv hi
    obtain ⟨q1, q2⟩ := has i sv hi
    refine ⟨q1, RepOwn.tr q2 hle fun b k hb => ⟨?_, rfl⟩⟩
    have hil : i < args.length := by
      have := (List.getElem?_eq_some_iff.1 hi).1
      omega
    simp only [σ2]
    rw [if_neg]
    · exact hb
    · rintro ⟨hc, _⟩
      obtain ⟨k', hk'⟩ := h4 b hc
      rw [hb] at hk'
      cases hk'
      exact Nat.lt_irrefl _ hil
end Go.Ab
