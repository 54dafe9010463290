/- One text of the proof whose last text says what is proved. -/
import Derived.Test.YtbpnhefkfamhaaaAb18b
set_option linter.unusedVariables false
set_option linter.unusedSimpArgs false
namespace Go.Ab

/-- What is to hold behind a piece of code, way out by way out. -/
structure Post where
  nrm : St → Prop
  ex : Nat → St → Prop
  ret : St → Prop

inductive Stm where
  | skip
  | ops (l : List Ao)
  | drw (es : List (List Nat)) (l : List Ao)
  | seq (a b : Stm)
  | cond (c : Opd) (a b : Stm)
  | block (id : Nat) (a : Stm)
  | loop (ks : List Nat) (a : Stm)
  | exit (id : Nat)
  | ret
  deriving Inhabited

def normSV (ks : List Nat) (st : St) : SV → SV
  | .bor s k v => match st[s]? with
    | some cur => if v = cur.1 ∧ ks.contains s = false then .bor s k 0 else .no
    | none => .no
  | .sub s k v n => match st[s]? with
    | some cur => if v = cur.1 ∧ ks.contains s = false then .sub s k 0 n else .no
    | none => .no
  | .suf _ _ _ _ => .no
  | .pt s k v off r => match st[s]? with
    | some cur => if v = cur.1 ∧ ks.contains s = false then .pt s k 0 off r else .no
    | none => .no
  | sv => sv
def normFrom (ks : List Nat) (st : St) : Nat → St → St
  | _, [] => []
  | i, (_, sv) :: r => (0, if ks.contains i then .no else normSV ks st sv) :: normFrom ks st (i + 1) r
/-- The slots at a loop's head: what is not read any more is forgotten, the versions begin anew. -/
def norm (ks : List Nat) (st : St) : St := normFrom ks st 0 st

/-- A round's end. -/
def LoopEnd {X : Type} (ks : List Nat) (J : X → St) (R : X → Prop) (μ : X → Nat) (x : X) (st : St) : Prop := ∃ x', norm ks st = J x' ∧ R x' ∧ μ x' < μ x
def brk (id : Nat) (Q : Post) (i : Nat) : St → Prop := if i = id then Q.nrm else Q.ex i
def rdB' (c : Opd) (k : Bool → M) : M := rdI c fun i => match i with
  | .bool t => k t
  | _ => .fail

/-- A loop, as the walk stops at it: 'body' is what a round must give. -/
structure LoopWp (ks : List Nat) (body : (St → Prop) → St → Prop) (st : St) : Prop where
  out : ∃ (X : Type) (J : X → St) (R : X → Prop) (μ : X → Nat), (∃ x, norm ks st = J x ∧ R x) ∧ ∀ x, R x → body (LoopEnd ks J R μ x) (J x)

def wpS (P : Program) : Stm → Post → St → Prop
  | .skip, Q, st => Q.nrm st
  | .ops l, Q, st => wpIOs P l Q.nrm st
  | .drw es l, Q, st => wrIOs P l (Drawn es Q.nrm) [] st
  | .seq a b, Q, st => wpS P a ⟨wpS P b Q, Q.ex, Q.ret⟩ st
  | .cond c a b, Q, st => (rdB' c fun t => .ite t (.chk (wpS P a Q)) (.chk (wpS P b Q))).wp P (fun _ => False) st
  | .block id a, Q, st => wpS P a ⟨Q.nrm, brk id Q, Q.ret⟩ st
  | .loop ks a, Q, st => LoopWp ks (fun K => wpS P a ⟨K, Q.ex, Q.ret⟩) st
  | .exit id, Q, st => Q.ex id st
  | .ret, Q, st => Q.ret st

section
variable {P : Program} {N : Nat} {G : Mem} {σ : Lab} {Fr : Mem} {w0 : Base} {w : World} {st : St} {a : Act}

theorem normFrom_get {ks : List Nat} {st : St} : ∀ (r : St) (i j : Nat), (normFrom ks st i r)[j]? = (r[j]?).map fun p => (0, if ks.contains (i + j) then .no else normSV ks st p.2)
  | [], i, j => by simp [normFrom]
  | p :: r, i, 0 => by simp [normFrom]
  | p :: r, i, j + 1 => by
    simp only [normFrom, List.getElem?_cons_succ]
    rw [normFrom_get r (i + 1) j, show i + (j + 1) = i + 1 + j by omega]
theorem norm_get {ks : List Nat} (j : Nat) : (norm ks st)[j]? = (st[j]?).map fun p => (0, if ks.contains j then .no else normSV ks st p.2) := by
  unfold norm
  rw [normFrom_get st 0 j, Nat.zero_add]
theorem normFrom_length {ks : List Nat} {st : St} : ∀ (r : St) (i : Nat), (normFrom ks st i r).length = r.length
  | [], _ => rfl
  | _ :: r, i => by simp [normFrom, normFrom_length r]

theorem Rel.norm (h : Rel G σ Fr w0 st a w) (ks : List Nat) : Rel G σ Fr w0 (Ab.norm ks st) a w := by
  have vec : ∀ {s k : Nat} {cur : Nat × SV} {p : TypeId × Nat × List I}, st[s]? = some cur → ks.contains s = false → cur.2.vecAt k = some p → ∃ cur', (Ab.norm ks st)[s]? = some cur' ∧ cur'.1 = 0 ∧ cur'.2.vecAt k = some p := by
    intro s k cur p h1 h2 h3
    refine ⟨_, by rw [norm_get, h1]; rfl, rfl, ?_⟩
    simp only [h2]
    obtain ⟨v, sv⟩ := cur
    cases sv <;> first | exact h3 | (cases k <;> cases h3)
  refine ⟨h.wok, h.defers, h.n, by rw [h.len]; exact (normFrom_length st 0).symm, ?_, ?_⟩
  · intro s ver sv hs
    rw [norm_get] at hs
    cases h0 : st[s]? with
    | none => simp [h0] at hs
    | some p =>
      obtain ⟨v, sv0⟩ := p
      simp only [h0, Option.map_some, Option.some.injEq, Prod.mk.injEq] at hs
      obtain ⟨rfl, hs⟩ := hs
      have hrep := h.slots s v sv0 h0
      split at hs
      · subst hs; trivial
      · subst hs
        generalize val a w0 s = c at hrep ⊢
        cases sv0 with
        | bor s' k ver' =>
          obtain ⟨cur, g1, g2, g3⟩ := hrep
          simp only [normSV, g1]
          split
          · rename_i hc
            obtain ⟨e, sz, l, g4, g5⟩ := g3 hc.1
            obtain ⟨cur', q1, q2, q3⟩ := vec g1 hc.2 g4
            exact ⟨cur', q1, Nat.zero_le _, fun _ => ⟨e, sz, l, q3, g5⟩⟩
          · trivial
        | sub s' k ver' n =>
          obtain ⟨cur, g1, g2, g3⟩ := hrep
          simp only [normSV, g1]
          split
          · rename_i hc
            obtain ⟨e, sz, l, g4, g5⟩ := g3 hc.1
            obtain ⟨cur', q1, q2, q3⟩ := vec g1 hc.2 g4
            exact ⟨cur', q1, Nat.zero_le _, fun _ => ⟨e, sz, l, q3, g5⟩⟩
          · trivial
        | suf s' k ver' n => trivial
        | pt s' k ver' off r =>
          obtain ⟨cur, g1, g2, g3⟩ := hrep
          simp only [normSV, g1]
          split
          · rename_i hc
            obtain ⟨b, g4, g5⟩ := g3 hc.1
            exact ⟨_, by rw [norm_get, g1]; rfl, Nat.zero_le _, fun _ => ⟨b, g4, g5⟩⟩
          · trivial
        | _ => exact hrep
  · intro s ver hh hs
    rw [norm_get] at hs
    cases h0 : st[s]? with
    | none => simp [h0] at hs
    | some p =>
      obtain ⟨v, sv0⟩ := p
      simp only [h0, Option.map_some, Option.some.injEq, Prod.mk.injEq] at hs
      obtain ⟨rfl, hs⟩ := hs
      split at hs
      · cases hs
      · have : sv0 = .par hh := by
          cases sv0 with
          | bor s' k ver' =>
            simp only [normSV] at hs
            split at hs
            · split at hs <;> cases hs
            · cases hs
          | sub s' k ver' n =>
            simp only [normSV] at hs
            split at hs
            · split at hs <;> cases hs
            · cases hs
          | suf s' k ver' n => simp only [normSV] at hs; cases hs
          | pt s' k ver' off r =>
            simp only [normSV] at hs
            split at hs
            · split at hs <;> cases hs
            · cases hs
          | _ => exact hs
        subst this
        exact h.pars s v hh h0

/-- What the abstract machine says of a way out, said of the program. -/
def lift (G : Mem) (Fr : Mem) (w0 : Base) (Q : Post) : Exit → Act → World → Prop := fun e a w => ∃ G' σ' st, G.le G' ∧ Rel G' σ' Fr w0 st a w ∧ match e with
  | .normal => Q.nrm st
  | .exit i => Q.ex i st
  | .ret => Q.ret st
  | _ => False
theorem lift_le {G' : Mem} {Q : Post} (hG : G.le G') {e : Exit} {a : Act} {w : World} (h : lift G' Fr w0 Q e a w) : lift G Fr w0 Q e a w := by
  obtain ⟨G1, σ1, st, h1, h2, h3⟩ := h
  exact ⟨G1, σ1, st, hG.trans h1, h2, h3⟩

def chkC (P : Program) (N : Nat) : Code → Stm → Bool
  | .skip, .skip => true
  | .region _ ops false, .ops l => chkL P N ops ops.toList l
  | .region _ ops true, .drw es l => P.follows .mixedOrders && chkL P N ops ops.toList l && edgesOk es 0 ops.toList
  | .seq a b, .seq x y => chkC P N a x && chkC P N b y
  | .cond c a b, .cond c' x y => opdOk N c c' && chkC P N a x && chkC P N b y
  | .block id c, .block id' x => id == id' && chkC P N c x
  | .loop c, .loop _ x => chkC P N c x
  | .exit id, .exit id' => id == id'
  | .ret, .ret => true
  | _, _ => false

theorem code_sound : ∀ {s : Stm} {c : Code} {Q : Post} {G : Mem} {σ : Lab} {st : St} {a : Act} {w : World},
    chkC P w0.n c s = true → Rel G σ Fr w0 st a w → wpS P s Q st → c.wp P (lift G Fr w0 Q) a w := by
  intro s
  induction s with
  | skip =>
    intro c Q G σ st a w hc hr hq
    cases c <;> first | (simp [chkC] at hc; done) | skip
    exact wp_skip ⟨G, σ, st, Mem.le.refl G, hr, hq⟩
  | ops l =>
    intro c Q G σ st a w hc hr hq
    cases c <;> first | (simp [chkC] at hc; done) | skip
    rename_i id ops draw'
    cases draw' <;> first | (simp [chkC] at hc; done) | skip
    simp only [chkC] at hc
    exact wp_region_list (ops_sound hc hr hq fun G' σ' st' a' w' hG hr' hq' => ⟨G', σ', st', hG, hr', hq'⟩)
  | drw es l =>
    intro c Q G σ st a w hc hr hq
    cases c <;> first | (simp [chkC] at hc; done) | skip
    rename_i id ops draw'
    cases draw' <;> first | (simp [chkC] at hc; done) | skip
    simp only [chkC, Bool.and_eq_true] at hc
    exact draw_sound hc.1.1 hc.1.2 hc.2 hr hq fun G' σ' st' a' w' hG hr' hq' => ⟨G', σ', st', hG, hr', hq'⟩
  | seq x y ihx ihy =>
    intro c Q G σ st a w hc hr hq
    cases c <;> first | (simp [chkC] at hc; done) | skip
    simp only [chkC, Bool.and_eq_true] at hc
    refine wp_seq (Code.wp_mono ?_ (ihx hc.1 hr hq))
    rintro e a' w' ⟨G', σ', st', hG, hr', hq'⟩
    cases e with
    | normal => exact Code.wp_mono (fun e a w h => lift_le hG h) (ihy hc.2 hr' hq')
    | exit i => exact ⟨G', σ', st', hG, hr', hq'⟩
    | ret => exact ⟨G', σ', st', hG, hr', hq'⟩
    | _ => exact hq'.elim
  | cond c' x y ihx ihy =>
    intro c Q G σ st a w hc hr hq
    cases c <;> first | (simp [chkC] at hc; done) | skip
    simp only [chkC, Bool.and_eq_true] at hc
    obtain ⟨⟨h1, h2⟩, h3⟩ := hc
    obtain ⟨i, h4, h5⟩ := rdI_rep hr h1 hq
    split at h4
    · rename_i t
      rw [RepV.bool] at h5
      refine wp_cond h5 ?_
      cases t with
      | true => exact ihx h2 hr (h4.1 rfl)
      | false => exact ihy h3 hr (h4.2 rfl)
    · exact h4.elim
  | block id x ih =>
    intro c Q G σ st a w hc hr hq
    cases c <;> first | (simp [chkC] at hc; done) | skip
    simp only [chkC, Bool.and_eq_true, beq_iff_eq] at hc
    obtain ⟨rfl, h1⟩ := hc
    refine wp_block (Code.wp_mono ?_ (ih h1 hr hq))
    rintro e a' w' ⟨G', σ', st', hG, hr', hq'⟩
    cases e with
    | exit i =>
      simp only [Exit.inBlock]
      simp only [brk] at hq'
      split
      · rename_i hi
        rw [if_pos hi] at hq'
        exact ⟨G', σ', st', hG, hr', hq'⟩
      · rename_i hi
        rw [if_neg hi] at hq'
        exact ⟨G', σ', st', hG, hr', hq'⟩
    | normal => exact ⟨G', σ', st', hG, hr', hq'⟩
    | ret => exact ⟨G', σ', st', hG, hr', hq'⟩
    | _ => exact hq'.elim
  | loop ks x ih =>
    intro c Q G σ st a w hc hr hq
    cases c <;> first | (simp [chkC] at hc; done) | skip
    simp only [chkC] at hc
    obtain ⟨⟨X, J, R, μ, ⟨x0, hx0, hR0⟩, hround⟩⟩ := hq
    refine wp_loop_ghost (fun n a w => ∃ G' σ' x, G.le G' ∧ Rel G' σ' Fr w0 (J x) a w ∧ R x ∧ μ x = n) (μ x0) ⟨G, σ, x0, Mem.le.refl G, by rw [← hx0]; exact hr.norm ks, hR0, rfl⟩ ?_
    rintro n a1 w1 ⟨G1, σ1, x1, hG1, hr1, hR1, rfl⟩
    refine Code.wp_mono ?_ (ih hc hr1 (hround x1 hR1))
    rintro e a' w' ⟨G', σ', st', hG, hr', hq'⟩
    cases e with
    | normal =>
      obtain ⟨x', h1, h2, h3⟩ := hq'
      exact ⟨μ x', h3, G', σ', x', hG1.trans hG, by rw [← h1]; exact hr'.norm ks, h2, rfl⟩
    | exit i => exact ⟨G', σ', st', hG1.trans hG, hr', hq'⟩
    | ret => exact ⟨G', σ', st', hG1.trans hG, hr', hq'⟩
    | _ => exact hq'.elim
  | exit id =>
    intro c Q G σ st a w hc hr hq
    cases c <;> first | (simp [chkC] at hc; done) | skip
    simp only [chkC, beq_iff_eq] at hc
    subst hc
    exact wp_exit ⟨G, σ, st, Mem.le.refl G, hr, hq⟩
  | ret =>
    intro c Q G σ st a w hc hr hq
    cases c <;> first | (simp [chkC] at hc; done) | skip
    exact wp_ret ⟨G, σ, st, Mem.le.refl G, hr, hq⟩
end
end Go.Ab
