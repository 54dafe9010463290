/- One text of the proof whose last text says what is proved. -/
import Derived.Test.YtbpnhefkfamhaaaAb15
set_option linter.unusedVariables false
set_option linter.unusedSimpArgs false
namespace Go.Ab

/-- What is handed over for good is taken first. -/
def takeImm : List (Bool × Opd) → (List I → M) → M
  | [], k => k []
  | (false, x) :: as, k => takeV x fun u => takeImm as fun us => k (u :: us)
  | (true, _) :: as, k => takeImm as fun us => k (.und :: us)

/-- What is lent: a box, or an owned slice. -/
def lendA (x : Opd) (k : SV → Nat → M) : M := match x with
  | .t n => .get n fun _ sv => match sv with
    | .box t => k (.box t) n
    | .vec e sz l => k (.vec e sz l) n
    | .pt s kk ver off r => .get s fun cur sv' => .need (kk = 0 ∧ off = 0 ∧ r = [] ∧ ver = cur) fun _ => match sv' with
      | .box t => k (.box t) s
      | _ => .fail
    | .par h => .get h fun _ sv' => match sv' with
      | .box t => k (.box t) h
      | .vec e sz l => k (.vec e sz l) h
      | _ => .fail
    | _ => .fail
  | _ => .fail
/-- The same over a whole slice that is borrowed: an empty one is handed over as it is. -/
def lendB (x : Opd) (k : SV → Option Nat → M) : M := match x with
  | .t n => .get n fun _ sv => match sv with
    | .bor s kk v => .get s fun cur sv' => .need (v = cur) fun _ => match kk, sv' with
      | 0, .vec e sz l => match l with
        | [] => k (.v (.list [])) none
        | y :: l' => .need (sz ≠ 0) fun _ => k (.vec e sz (y :: l')) (some s)
      | _, _ => .fail
    | _ => lendA x fun sv s => k sv (some s)
  | _ => lendA x fun sv s => k sv (some s)
def lendAll : List (Bool × Opd) → List I → (List SV → List (Option Nat) → M) → M
  | [], _, k => k [] []
  | (false, _) :: as, us, k => lendAll as us.tail fun svs rs => k (.v (us.headD .und) :: svs) (none :: rs)
  | (true, .nils e sz) :: as, us, k => lendAll as us.tail fun svs rs => k (.vec e sz [] :: svs) (none :: rs)
  | (true, x) :: as, us, k => lendB x fun sv s => lendAll as us.tail fun svs rs => k (sv :: svs) (s :: rs)

/-- What was lent comes back. -/
def putBack : List (Option Nat) → List SV → M → M
  | some s :: rs, sv :: outs, k => .get s fun ver _ => .set s (ver + 1) sv (putBack rs outs k)
  | none :: rs, _ :: outs, k => putBack rs outs k
  | _, _, k => k

def somes (rs : List (Option Nat)) : List Nat := rs.filterMap id

def semCall (d : Option Nat) (f : FuncId) (as : List (Bool × Opd)) : M := takeImm as fun us => lendAll as us fun svs rs => .need ((somes rs).Nodup ∧ ∀ d', d = some d' → d' ∉ somes rs) fun _ =>
  .call f svs fun r outs => .need (∀ h, r ≠ .par h) fun _ => .need (∀ sv ∈ outs, ∀ h, sv ≠ .par h) fun _ => putBack rs outs (setD d r .done)

def argsOk (N : Nat) : List Operand → List (Bool × Opd) → Bool
  | [], [] => true
  | x :: l, (_, y) :: m => opdOk N x y && argsOk N l m
  | _, _ => false

section
variable {P : Program} {N : Nat} {G : Mem} {σ : Lab} {Fr : Mem} {w0 : Base} {w : World} {st : St} {a : Act}

theorem takeImm_rep {Q : St → Prop} : ∀ {xs : List Operand} {as : List (Bool × Opd)} {k : List I → M} {G : Mem} {σ : Lab} {st : St}, Rel G σ Fr w0 st a w → argsOk w0.n xs as = true → (takeImm as k).wp P Q st →
    ∃ us G' σ' st', G.le G' ∧ Rel G' σ' Fr w0 st' a w ∧ (k us).wp P Q st' ∧ us.length = as.length ∧ ∀ (i : Nat) (y : Opd) (x : Operand) (u : I), as[i]? = some (false, y) → xs[i]? = some x → us[i]? = some u → RepV G' u (a.eval x)
  | [], [], k, G, σ, st, hr, _, hq => ⟨[], G, σ, st, Mem.le.refl G, hr, hq, rfl, by simp⟩
  | x :: xs, (false, y) :: as, k, G, σ, st, hr, ho, hq => by
    simp only [argsOk, Bool.and_eq_true] at ho
    obtain ⟨u, G1, σ1, st1, hG, hr1, h1, hv⟩ := takeV_rep hr ho.1 hq
    obtain ⟨us, G2, σ2, st2, hG2, hr2, h2, hl, hu⟩ := takeImm_rep hr1 ho.2 h1
    refine ⟨u :: us, G2, σ2, st2, hG.trans hG2, hr2, h2, by simp [hl], ?_⟩
    intro i y' x' u' h3 h4 h5
    cases i with
    | zero =>
      simp only [List.getElem?_cons_zero, Option.some.injEq] at h4 h5
      subst h4; subst h5
      exact hv.mono hG2
    | succ i => exact hu i y' x' u' (by simpa using h3) (by simpa using h4) (by simpa using h5)
  | x :: xs, (true, y) :: as, k, G, σ, st, hr, ho, hq => by
    simp only [argsOk, Bool.and_eq_true] at ho
    obtain ⟨us, G2, σ2, st2, hG2, hr2, h2, hl, hu⟩ := takeImm_rep hr ho.2 hq
    refine ⟨.und :: us, G2, σ2, st2, hG2, hr2, h2, by simp [hl], ?_⟩
    intro i y' x' u' h3 h4 h5
    cases i with
    | zero => simp at h3
    | succ i => exact hu i y' x' u' (by simpa using h3) (by simpa using h4) (by simpa using h5)
  | [], _ :: _, _, _, _, _, _, ho, _ => by cases ho
  | _ :: _, [], _, _, _, _, _, ho, _ => by simp [argsOk] at ho

def SV.lends : SV → Bool
  | .box _ | .vec _ _ _ => true
  | _ => false
theorem SV.lends_root {sv : SV} (h : sv.lends = true) : sv.root = none := by cases sv <;> first | rfl | cases h

theorem lendA_rep {x : Operand} {y : Opd} {k : SV → Nat → M} {Q : St → Prop} (h : Rel G σ Fr w0 st a w) (ho : opdOk w0.n x y = true) (hq : (lendA y k).wp P Q st) :
    ∃ sv s ver, (k sv s).wp P Q st ∧ st[s]? = some (ver, sv) ∧ sv.lends = true ∧ RepOwn G σ w s sv (a.eval x) ∧ a.eval x = val a w0 s := by
  cases y with
  | c _ => exact hq.elim
  | nils _ _ => exact hq.elim
  | t n =>
    obtain ⟨rfl, hnlt⟩ := opdOk_t ho
    simp only [lendA, M.wp] at hq
    cases hs : st[n]? with
    | none => simp [hs] at hq
    | some cur =>
      obtain ⟨ver, sv⟩ := cur
      simp only [hs] at hq
      have hrep := h.slot hnlt hs
      cases sv with
      | box t => exact ⟨_, n, ver, hq, hs, rfl, hrep, (val_tmp (by rw [h.n]; exact hnlt)).symm⟩
      | vec e sz l => exact ⟨_, n, ver, hq, hs, rfl, hrep, (val_tmp (by rw [h.n]; exact hnlt)).symm⟩
      | pt s kk ver' off r =>
        obtain ⟨cur, h1, h2, h3⟩ := hrep
        simp only [M.wp, h1] at hq
        obtain ⟨⟨rfl, rfl, rfl, hv⟩, hq⟩ := hq
        obtain ⟨b, h4, h5⟩ := h3 hv
        obtain ⟨cv, csv⟩ := cur
        cases csv with
        | box t =>
          refine ⟨_, s, cv, hq, h1, rfl, ?_⟩
          obtain ⟨b', cells, ty, k1, k2, k3, k4⟩ := h.slots s cv _ h1
          obtain rfl := h.wok.inj b b' _ h4 k2
          exact ⟨⟨b, cells, ty, h5, k2, k3, k4⟩, by rw [h5, k1]⟩
        | _ => exact hq.elim
      | par hh =>
        obtain ⟨hv, hle⟩ := h.pars n ver hh hs
        rw [val_tmp (by rw [h.n]; exact hnlt)] at hv
        simp only [M.wp] at hq
        cases h1 : st[hh]? with
        | none => simp [h1] at hq
        | some cur =>
          obtain ⟨cv, csv⟩ := cur
          simp only [h1] at hq
          have hrep' := h.slots hh cv csv h1
          rw [← hv] at hrep'
          cases csv with
          | box t => exact ⟨_, hh, cv, hq, h1, rfl, hrep', hv⟩
          | vec e sz l => exact ⟨_, hh, cv, hq, h1, rfl, hrep', hv⟩
          | _ => exact hq.elim
      | _ => exact hq.elim

theorem lendB_rep {x : Operand} {y : Opd} {k : SV → Option Nat → M} {Q : St → Prop} (h : Rel G σ Fr w0 st a w) (ho : opdOk w0.n x y = true) (hq : (lendB y k).wp P Q st) :
    ∃ sv r, (k sv r).wp P Q st ∧ ((r = none ∧ ∃ u, sv = .v u ∧ RepV G u (a.eval x)) ∨ ∃ s ver, r = some s ∧ st[s]? = some (ver, sv) ∧ sv.lends = true ∧ RepOwn G σ w s sv (a.eval x) ∧ a.eval x = val a w0 s) := by
  have old : (lendA y fun sv s => k sv (some s)).wp P Q st → ∃ sv r, (k sv r).wp P Q st ∧ ((r = none ∧ ∃ u, sv = .v u ∧ RepV G u (a.eval x)) ∨ ∃ s ver, r = some s ∧ st[s]? = some (ver, sv) ∧ sv.lends = true ∧ RepOwn G σ w s sv (a.eval x) ∧ a.eval x = val a w0 s) := by
    intro hq
    obtain ⟨sv, s, ver, h1, h2⟩ := lendA_rep h ho hq
    exact ⟨sv, some s, h1, .inr ⟨s, ver, rfl, h2⟩⟩
  cases y with
  | c _ => exact old hq
  | nils _ _ => exact old hq
  | t n =>
    obtain ⟨rfl, hnlt⟩ := opdOk_t ho
    simp only [lendB, M.wp] at hq
    cases hs : st[n]? with
    | none => simp [hs] at hq
    | some cur =>
      obtain ⟨ver, sv⟩ := cur
      simp only [hs] at hq
      have hrep := h.slot hnlt hs
      cases sv with
      | bor s kk v =>
        obtain ⟨cur, g1, g2, g3⟩ := hrep
        simp only [M.wp, g1] at hq
        obtain ⟨hv, hq⟩ := hq
        obtain ⟨e, sz, l, g4, g5⟩ := g3 hv
        obtain ⟨cv, csv⟩ := cur
        cases kk with
        | succ _ => exact hq.elim
        | zero =>
          cases csv with
          | vec e' sz' l' =>
            cases g4
            have hown : VecAt G σ w (s, 0) e sz l (val a w0 s) := h.slots s cv _ g1
            cases l with
            | nil =>
              obtain ⟨ad, cap, hc, hm⟩ := g5.len
              refine ⟨_, none, hq, .inl ⟨rfl, _, rfl, ?_⟩⟩
              obtain ⟨xs, k1, _⟩ := g5
              rcases k1.2 with ⟨hc', _⟩ | ⟨g, cap', cur, hc', _, _, hn, hcm, _⟩
              · exact RepV.list.2 ⟨none, 0, hc', Nat.le_refl _, Nat.zero_le _, .inl rfl⟩
              · exact RepV.list.2 ⟨_, cap', hc', hn, hcm, .inl rfl⟩
            | cons y l' =>
              obtain ⟨hz, hq⟩ := hq
              refine ⟨_, some s, hq, .inr ⟨s, cv, rfl, g1, rfl, g5, ?_⟩⟩
              obtain ⟨b, hb⟩ : ∃ b, σ b = some (s, 0) := by
                obtain ⟨xs, k1, k2, k3, k4⟩ := g5
                rcases k1.2 with ⟨_, h0⟩ | ⟨g, cap', cur, hc', _⟩
                · simp at h0
                · exact ⟨g, k4 g (by rw [hc']; rfl)⟩
              obtain ⟨bl, xs, post, cap, p1, _, _, p2, ⟨ty, fz, p3, _⟩, _⟩ := g5.row h.wok hb (by simp)
              obtain ⟨bl', xs', post', cap', q1, _, _, q2, ⟨ty', fz', q3, _⟩, _⟩ := hown.row h.wok hb (by simp)
              rw [p3] at q3
              cases q3
              have : cap = cap' := Nat.eq_of_mul_eq_mul_right (Nat.pos_of_ne_zero hz) (p2.symm.trans q2)
              rw [p1, q1, this]
          | _ => exact hq.elim
      | _ => exact old hq

theorem lendAll_rep {Q : St → Prop} (h : Rel G σ Fr w0 st a w) : ∀ {xs : List Operand} {as : List (Bool × Opd)} {us : List I} {k : List SV → List (Option Nat) → M}, argsOk w0.n xs as = true → us.length = as.length →
    (∀ (i : Nat) (y : Opd) (x : Operand) (u : I), as[i]? = some (false, y) → xs[i]? = some x → us[i]? = some u → RepV G u (a.eval x)) → (lendAll as us k).wp P Q st →
    ∃ svs rs, (k svs rs).wp P Q st ∧ svs.length = xs.length ∧ rs.length = xs.length ∧ ∀ (i : Nat) (sv : SV) (x : Operand), svs[i]? = some sv → xs[i]? = some x →
      (rs[i]? = some none ∧ ((∃ u, sv = .v u ∧ RepV G u (a.eval x)) ∨ ∃ e sz, sv = .vec e sz [] ∧ a.eval x = .slice none 0 0)) ∨ (∃ s ver, rs[i]? = some (some s) ∧ st[s]? = some (ver, sv) ∧ sv.lends = true ∧ RepOwn G σ w s sv (a.eval x) ∧ a.eval x = val a w0 s)
  | [], [], us, k, _, _, _, hq => ⟨[], [], hq, rfl, rfl, by simp⟩
  | x :: xs, (false, y) :: as, us, k, ho, hl, hu, hq => by
    simp only [argsOk, Bool.and_eq_true] at ho
    cases us with
    | nil => simp at hl
    | cons u us =>
      obtain ⟨svs, rs, h1, h2, h3, h4⟩ := lendAll_rep h ho.2 (by simpa using hl) (fun i y' x' u' a1 a2 a3 => hu (i + 1) y' x' u' (by simpa using a1) (by simpa using a2) (by simpa using a3)) hq
      refine ⟨.v u :: svs, none :: rs, h1, by simp [h2], by simp [h3], ?_⟩
      intro i sv x' a1 a2
      cases i with
      | zero =>
        simp only [List.getElem?_cons_zero, Option.some.injEq] at a1 a2
        subst a1; subst a2
        exact .inl ⟨rfl, .inl ⟨u, rfl, hu 0 y _ u rfl rfl rfl⟩⟩
      | succ i => exact h4 i sv x' (by simpa using a1) (by simpa using a2)
  | x :: xs, (true, y) :: as, us, k, ho, hl, hu, hq => by
    simp only [argsOk, Bool.and_eq_true] at ho
    cases us with
    | nil => simp at hl
    | cons u us =>
      have gen : (lendB y fun sv s => lendAll as us fun svs rs => k (sv :: svs) (s :: rs)).wp P Q st → ∃ svs rs, (k svs rs).wp P Q st ∧ svs.length = (x :: xs).length ∧ rs.length = (x :: xs).length ∧ ∀ (i : Nat) (sv : SV) (x' : Operand), svs[i]? = some sv → (x :: xs)[i]? = some x' →
          (rs[i]? = some none ∧ ((∃ u, sv = .v u ∧ RepV G u (a.eval x')) ∨ ∃ e sz, sv = .vec e sz [] ∧ a.eval x' = .slice none 0 0)) ∨ (∃ s ver, rs[i]? = some (some s) ∧ st[s]? = some (ver, sv) ∧ sv.lends = true ∧ RepOwn G σ w s sv (a.eval x') ∧ a.eval x' = val a w0 s) := by
        intro hq
        obtain ⟨sv0, r0, g1, g2⟩ := lendB_rep h ho.1 hq
        obtain ⟨svs, rs, h1, h2, h3, h4⟩ := lendAll_rep h ho.2 (by simpa using hl) (fun i y' x' u' a1 a2 a3 => hu (i + 1) y' x' u' (by simpa using a1) (by simpa using a2) (by simpa using a3)) g1
        refine ⟨sv0 :: svs, r0 :: rs, h1, by simp [h2], by simp [h3], ?_⟩
        intro i sv x' a1 a2
        cases i with
        | zero =>
          simp only [List.getElem?_cons_zero, Option.some.injEq] at a1 a2
          subst a1; subst a2
          rcases g2 with ⟨rfl, u, rfl, g3⟩ | ⟨s, ver, rfl, g3⟩
          · exact .inl ⟨rfl, .inl ⟨u, rfl, g3⟩⟩
          · exact .inr ⟨s, ver, rfl, g3⟩
        | succ i => exact h4 i sv x' (by simpa using a1) (by simpa using a2)
      cases y with
      | t n => exact gen hq
      | c z => exact gen hq
      | nils e sz =>
        obtain ⟨svs, rs, h1, h2, h3, h4⟩ := lendAll_rep h ho.2 (by simpa using hl) (fun i y' x' u' a1 a2 a3 => hu (i + 1) y' x' u' (by simpa using a1) (by simpa using a2) (by simpa using a3)) hq
        refine ⟨.vec e sz [] :: svs, none :: rs, h1, by simp [h2], by simp [h3], ?_⟩
        intro i sv x' a1 a2
        cases i with
        | zero =>
          simp only [List.getElem?_cons_zero, Option.some.injEq] at a1 a2
          subst a1; subst a2
          exact .inl ⟨rfl, .inr ⟨e, sz, rfl, opdOk_nils ho.1⟩⟩
        | succ i => exact h4 i sv x' (by simpa using a1) (by simpa using a2)
  | [], _ :: _, _, _, ho, _, _, _ => by cases ho
  | _ :: _, [], _, _, ho, _, _, _ => by simp [argsOk] at ho

/-- Several slots are laid anew at once, their values as they were. -/
theorem Rel.many {G' : Mem} {σ' : Lab} {w' : World} {st' : St} (h : Rel G σ Fr w0 st a w) (hok : WOk G' σ' Fr w0 w') (hG : G.le G') (hlen : st'.length = st.length)
    (hs : ∀ s, (st'[s]? = st[s]? ∧ Kept σ σ' w w' s) ∨ ∃ ver old ver' new, st[s]? = some (ver, old) ∧ st'[s]? = some (ver', new) ∧ ver < ver' ∧ new.root = none ∧ (∀ h, new ≠ .par h) ∧ RepOwn G' σ' w' s new (val a w0 s)) :
    Rel G' σ' Fr w0 st' a w' := by
  have kept : ∀ s' cur ver, st[s']? = some cur → ver ≤ cur.1 → ∃ cur', st'[s']? = some cur' ∧ ver ≤ cur'.1 ∧ (ver = cur'.1 → cur' = cur ∧ ver = cur.1 ∧ Kept σ σ' w w' s') := by
    intro s' cur ver hc hv
    rcases hs s' with ⟨h1, h2⟩ | ⟨v, old, v', new, h1, h2, h3, _⟩
    · exact ⟨cur, by rw [h1]; exact hc, hv, fun e => ⟨rfl, e, h2⟩⟩
    · rw [hc] at h1
      cases h1
      exact ⟨_, h2, by show ver ≤ v'; simp only at hv; omega, fun e => by exfalso; simp only at hv; have : ver = v' := e; omega⟩
  refine ⟨hok, h.defers, h.n, by rw [hlen]; exact h.len, ?_, ?_⟩
  · intro s ver sv hsv
    rcases hs s with ⟨h1, h2⟩ | ⟨v, old, v', new, h1, h2, h3, h4, _, h5⟩
    · rw [h1] at hsv
      have h0 := h.slots s ver sv hsv
      generalize val a w0 s = c at h0
      cases sv with
      | bor s' k ver' =>
        obtain ⟨cur, g1, g2, g3⟩ := h0
        obtain ⟨cur', k1, k2, k3⟩ := kept s' cur ver' g1 g2
        refine ⟨cur', k1, k2, fun e => ?_⟩
        obtain ⟨rfl, e', hk⟩ := k3 e
        obtain ⟨e, sz, l, g4, g5⟩ := g3 e'
        exact ⟨e, sz, l, g4, g5.tr hG fun b hb => hk b k hb⟩
      | sub s' k ver' n =>
        obtain ⟨cur, g1, g2, g3⟩ := h0
        obtain ⟨cur', k1, k2, k3⟩ := kept s' cur ver' g1 g2
        refine ⟨cur', k1, k2, fun e => ?_⟩
        obtain ⟨rfl, e', hk⟩ := k3 e
        obtain ⟨e, sz, l, g4, g5⟩ := g3 e'
        exact ⟨e, sz, l, g4, g5.tr hG fun b hb => hk b k hb⟩
      | suf s' k ver' n =>
        obtain ⟨cur, g1, g2, g3⟩ := h0
        obtain ⟨cur', k1, k2, k3⟩ := kept s' cur ver' g1 g2
        refine ⟨cur', k1, k2, fun e => ?_⟩
        obtain ⟨rfl, e', hk⟩ := k3 e
        obtain ⟨e, sz, l, c0, g4, g5, g6⟩ := g3 e'
        exact ⟨e, sz, l, c0, g4, g5.tr hG fun b hb => hk b k hb, g6⟩
      | pt s' k ver' off r =>
        obtain ⟨cur, g1, g2, g3⟩ := h0
        obtain ⟨cur', k1, k2, k3⟩ := kept s' cur ver' g1 g2
        refine ⟨cur', k1, k2, fun e => ?_⟩
        obtain ⟨rfl, e', hk⟩ := k3 e
        obtain ⟨b, g4, g5⟩ := g3 e'
        exact ⟨b, (hk b k g4).1, g5⟩
      | _ =>
        rw [RepSV.own rfl] at h0 ⊢
        exact RepOwn.tr h0 hG fun b k hb => h2 b k hb
    · rw [h2] at hsv
      cases hsv
      rw [RepSV.own h4]
      exact h5
  · intro s ver hh hsv
    rcases hs s with ⟨h1, h2⟩ | ⟨v, old, v', new, h1, h2, h3, h4, h5, _⟩
    · rw [h1] at hsv
      exact h.pars s ver hh hsv
    · rw [h2] at hsv
      cases hsv
      exact absurd rfl (h5 hh)

theorem putBack_spec {Q : St → Prop} {k : M} : ∀ {rs : List (Option Nat)} {outs : List SV} {st : St}, rs.length = outs.length → (somes rs).Nodup → (putBack rs outs k).wp P Q st →
    ∃ st', k.wp P Q st' ∧ st'.length = st.length ∧ (∀ s, s ∉ somes rs → st'[s]? = st[s]?) ∧ (∀ (i : Nat) s sv, rs[i]? = some (some s) → outs[i]? = some sv → ∃ ver old, st[s]? = some (ver, old) ∧ st'[s]? = some (ver + 1, sv))
  | [], [], st, _, _, h => ⟨st, h, rfl, fun _ _ => rfl, by simp⟩
  | none :: rs, sv :: outs, st, hl, hn, h => by
    obtain ⟨st', h1, h2, h3, h4⟩ := putBack_spec (rs := rs) (outs := outs) (by simpa using hl) (by simpa [somes] using hn) h
    refine ⟨st', h1, h2, fun s hs => h3 s (by simpa [somes] using hs), ?_⟩
    intro i s sv' a1 a2
    cases i with
    | zero => simp at a1
    | succ i => exact h4 i s sv' (by simpa using a1) (by simpa using a2)
  | some s0 :: rs, sv :: outs, st, hl, hn, h => by
    simp only [putBack, M.wp] at h
    have hn' : s0 ∉ somes rs ∧ (somes rs).Nodup := by simpa [somes] using hn
    cases hs : st[s0]? with
    | none => simp [hs] at h
    | some cur =>
      simp only [hs] at h
      obtain ⟨st', h1, h2, h3, h4⟩ := putBack_spec (rs := rs) (outs := outs) (by simpa using hl) hn'.2 h
      have hlt : s0 < st.length := (List.getElem?_eq_some_iff.1 hs).1
      refine ⟨st', h1, by simpa using h2, ?_, ?_⟩
      · intro s hs'
        have : s ≠ s0 ∧ s ∉ somes rs := by simpa [somes] using hs'
        rw [h3 s this.2, List.getElem?_set_ne (Ne.symm this.1)]
      · intro i s sv' a1 a2
        cases i with
        | zero =>
          simp only [List.getElem?_cons_zero, Option.some.injEq] at a1 a2
          subst a1; subst a2
          exact ⟨cur.1, cur.2, hs, by rw [h3 s0 hn'.1]; simp [hlt]⟩
        | succ i =>
          obtain ⟨ver, old, k1, k2⟩ := h4 i s sv' (by simpa using a1) (by simpa using a2)
          have hne : s ≠ s0 := by
            rintro rfl
            exact hn'.1 (List.mem_filterMap.2 ⟨some s, List.mem_of_getElem? (by simpa using a1), rfl⟩)
          rw [List.getElem?_set_ne (Ne.symm hne)] at k1
          exact ⟨ver, old, k1, k2⟩
  | [], _ :: _, _, hl, _, _ => by simp at hl
  | _ :: _, [], _, hl, _, _ => by simp at hl

/-- The labels that a called function sees. -/
def Lab.inner (σ : Lab) (rs : List (Option Nat)) : Lab := fun b => match σ b with
  | some (s, k) => match rs.idxOf? (some s) with
    | some i => some (i, k)
    | none => none
  | none => none
/-- What it must leave alone. -/
def Mem.inner (Fr : Mem) (σ : Lab) (w : World) (rs : List (Option Nat)) : Mem := fun b => match σ b with
  | some (s, _) => if some s ∈ rs then none else w.heap[b]?
  | none => Fr b
/-- The labels behind the call. -/
def Lab.outer (σ σ' : Lab) (rs : List (Option Nat)) : Lab := fun b => match σ b with
  | some (s, k) => if some s ∈ rs then (match σ' b with
    | some (i, k) => match rs[i]? with
      | some (some s) => some (s, k)
      | _ => none
    | none => none) else some (s, k)
  | none => match σ' b with
    | some (i, k) => match rs[i]? with
      | some (some s) => some (s, k)
      | _ => none
    | none => none

theorem idxOf_some {rs : List (Option Nat)} {s i : Nat} (hn : (somes rs).Nodup) (h : rs[i]? = some (some s)) : rs.idxOf? (some s) = some i := by
  induction rs generalizing i with
  | nil => simp at h
  | cons r rs ih =>
    cases i with
    | zero =>
      simp only [List.getElem?_cons_zero, Option.some.injEq] at h
      subst h
      simp [List.idxOf?_cons]
    | succ i =>
      have h' : rs[i]? = some (some s) := by simpa using h
      have hmem : s ∈ somes rs := List.mem_filterMap.2 ⟨some s, List.mem_of_getElem? h', rfl⟩
      have hne : r ≠ some s := by
        rintro rfl
        have : s ∉ somes rs ∧ (somes rs).Nodup := by simpa [somes] using hn
        exact this.1 hmem
      have hn' : (somes rs).Nodup := by
        cases r with
        | none => simpa [somes] using hn
        | some r => have : r ∉ somes rs ∧ (somes rs).Nodup := by simpa [somes] using hn
                    exact this.2
      rw [List.idxOf?_cons, if_neg (by simpa using hne), ih hn' h']
      rfl
theorem idxOf_inv {rs : List (Option Nat)} {s i : Nat} (h : rs.idxOf? (some s) = some i) : rs[i]? = some (some s) := by
  induction rs generalizing i with
  | nil => simp at h
  | cons r rs ih =>
    rw [List.idxOf?_cons] at h
    split at h
    · rename_i hr
      simp only [Option.some.injEq] at h
      subst h
      simpa using hr
    · cases hi : rs.idxOf? (some s) with
      | none => simp [hi] at h
      | some j =>
        simp only [hi, Option.map_some, Option.some.injEq] at h
        subst h
        simpa using ih hi
theorem mem_of_some {rs : List (Option Nat)} {s : Nat} : some s ∈ rs ↔ s ∈ somes rs := by simp [somes]
end
end Go.Ab
