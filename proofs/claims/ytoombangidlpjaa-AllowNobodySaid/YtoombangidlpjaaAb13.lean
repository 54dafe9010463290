/- One text of the proof whose last text says what is proved. -/
import Derived.Test.YtoombangidlpjaaAb8
set_option linter.unusedVariables false
set_option linter.unusedSimpArgs false
namespace Go.Ab

/-- An item out of constant cells. -/
def zOne : I → Value → Bool
  | .list [], .slice none 0 0 => true
  | x, c => cOk x c
mutual
def zI : I → List Value → Option (List Value)
  | .agg l, cs => zIs l cs
  | .arr sz l, cs => if l.all (fun x => x.size == sz) then zIs l cs else none
  | x, c :: cs => if zOne x c then some cs else none
  | _, [] => none
def zIs : List I → List Value → Option (List Value)
  | [], cs => some cs
  | x :: l, cs => match zI x cs with
    | some cs => zIs l cs
    | none => none
end
def zF : F → List Value → Option (List Value)
  | .i x, cs => zI x cs
  | .vec _ _ [], .slice none 0 0 :: cs => some cs
  | _, _ => none
def zFs : List F → List Value → Option (List Value)
  | [], cs => some cs
  | f :: fs, cs => match zF f cs with
    | some cs => zFs fs cs
    | none => none
def zT : T → List Value → Bool
  | .one f, cs => match zF f cs with
    | some [] => true
    | _ => false
  | .st fs, cs => match zFs fs cs with
    | some [] => true
    | _ => false

theorem zOne_spec {x : I} {c : Value} (h : zOne x c = true) (hx : x.isAgg = false) (G : Mem) : RepI G x [c] := by
  unfold zOne at h
  split at h
  · exact ⟨none, 0, rfl, Nat.le_refl _, by simp [maxLen], .inl rfl⟩
  · have := cOk_spec h G
    unfold RepV at this
    rwa [if_neg (by simp [hx])] at this
mutual
theorem zI_spec (G : Mem) : ∀ (x : I) (cs rest : List Value), zI x cs = some rest → ∃ c, cs = c ++ rest ∧ RepI G x c
  | .agg l, cs, rest, h => by
    simp only [zI] at h
    obtain ⟨c, e, h⟩ := zIs_spec G l cs rest h
    exact ⟨c, e, h⟩
  | .arr sz l, cs, rest, h => by
    simp only [zI] at h
    split at h
    · rename_i hl
      obtain ⟨c, e, h⟩ := zIs_spec G l cs rest h
      refine ⟨c, e, h, fun x hx => ?_⟩
      simpa using List.all_eq_true.1 hl x hx
    · cases h
  | .und, cs, rest, h => by
    cases cs with
    | nil => simp [zI] at h
    | cons c cs => simp [zI, zOne, cOk] at h
  | .int k n, cs, rest, h => by
    cases cs with
    | nil => simp [zI] at h
    | cons c cs =>
      simp only [zI] at h
      split at h
      · rename_i hz; cases h; exact ⟨[c], rfl, zOne_spec hz rfl G⟩
      · cases h
  | .nilp, cs, rest, h => by
    cases cs with
    | nil => simp [zI] at h
    | cons c cs =>
      simp only [zI] at h
      split at h
      · rename_i hz; cases h; exact ⟨[c], rfl, zOne_spec hz rfl G⟩
      · cases h
  | .nilm, cs, rest, h => by
    cases cs with
    | nil => simp [zI] at h
    | cons c cs =>
      simp only [zI] at h
      split at h
      · rename_i hz; cases h; exact ⟨[c], rfl, zOne_spec hz rfl G⟩
      · cases h
  | .bool b, cs, rest, h => by
    cases cs with
    | nil => simp [zI] at h
    | cons c cs =>
      simp only [zI] at h
      split at h
      · rename_i hz; cases h; exact ⟨[c], rfl, zOne_spec hz rfl G⟩
      · cases h
  | .str s, cs, rest, h => by
    cases cs with
    | nil => simp [zI] at h
    | cons c cs =>
      simp only [zI] at h
      split at h
      · rename_i hz; cases h; exact ⟨[c], rfl, zOne_spec hz rfl G⟩
      · cases h
  | .list l, cs, rest, h => by
    cases cs with
    | nil => simp [zI] at h
    | cons c cs =>
      simp only [zI] at h
      split at h
      · rename_i hz; cases h; exact ⟨[c], rfl, zOne_spec hz rfl G⟩
      · cases h
  | .fn f, cs, rest, h => by
    cases cs with
    | nil => simp [zI] at h
    | cons c cs =>
      simp only [zI] at h
      split at h
      · rename_i hz; cases h; exact ⟨[c], rfl, zOne_spec hz rfl G⟩
      · cases h
  | .clo f caps, cs, rest, h => by
    cases cs with
    | nil => simp [zI] at h
    | cons c cs =>
      simp only [zI] at h
      split at h
      · rename_i hz; cases h; exact ⟨[c], rfl, zOne_spec hz rfl G⟩
      · cases h
  | .nili, cs, rest, h => by
    cases cs with
    | nil => simp [zI] at h
    | cons c cs =>
      simp only [zI] at h
      split at h
      · rename_i hz; cases h; exact ⟨[c], rfl, zOne_spec hz rfl G⟩
      · cases h
  | .ifc t x, cs, rest, h => by
    cases cs with
    | nil => simp [zI] at h
    | cons c cs => simp [zI, zOne, cOk] at h
theorem zIs_spec (G : Mem) : ∀ (l : List I) (cs rest : List Value), zIs l cs = some rest → ∃ c, cs = c ++ rest ∧ RepIs G l c
  | [], cs, rest, h => by simp only [zIs, Option.some.injEq] at h; subst h; exact ⟨[], rfl, rfl⟩
  | x :: l, cs, rest, h => by
    simp only [zIs] at h
    cases hx : zI x cs with
    | none => simp [hx] at h
    | some cs' =>
      simp only [hx] at h
      obtain ⟨c, e, h1⟩ := zI_spec G x cs cs' hx
      obtain ⟨d, e', h2⟩ := zIs_spec G l cs' rest h
      exact ⟨c ++ d, by rw [e, e', List.append_assoc], c, d, rfl, h1, h2⟩
end
theorem zF_spec (G : Mem) (σ : Lab) (w : World) (lab : Nat × Nat) {f : F} {cs rest : List Value} (h : zF f cs = some rest) : ∃ c, cs = c ++ rest ∧ RepF G σ w lab f c := by
  unfold zF at h
  split at h
  · exact zI_spec G _ _ _ h
  · cases h
    exact ⟨[_], rfl, _, rfl, [], OwnsR.nil w _ _, rfl, by simp, by simp [Value.ownBlock]⟩
  · cases h
theorem zFs_spec (G : Mem) (σ : Lab) (w : World) (s : Nat) : ∀ {fs : List F} {j : Nat} {cs rest : List Value}, zFs fs cs = some rest → ∃ c, cs = c ++ rest ∧ RepFs G σ w s j fs c
  | [], _, cs, rest, h => by simp only [zFs, Option.some.injEq] at h; subst h; exact ⟨[], rfl, rfl⟩
  | f :: fs, j, cs, rest, h => by
    simp only [zFs] at h
    cases hx : zF f cs with
    | none => simp [hx] at h
    | some cs' =>
      simp only [hx] at h
      obtain ⟨c, e, h1⟩ := zF_spec G σ w (s, j + 1) hx
      obtain ⟨d, e', h2⟩ := zFs_spec G σ w s (j := j + 1) h
      exact ⟨c ++ d, by rw [e, e', List.append_assoc], c, d, rfl, h1, h2⟩
theorem zT_spec (G : Mem) (σ : Lab) (w : World) (s : Nat) {t : T} {cs : List Value} (h : zT t cs = true) : RepT G σ w s t cs := by
  unfold zT at h
  split at h
  · split at h
    · rename_i f _ hz
      obtain ⟨c, e, h1⟩ := zF_spec G σ w (s, 1) hz
      rw [List.append_nil] at e
      rw [e]; exact h1
    · cases h
  · split at h
    · rename_i fs _ hz
      obtain ⟨c, e, h1⟩ := zFs_spec G σ w s (j := 0) hz
      rw [List.append_nil] at e
      rw [e]; exact h1
    · cases h

def semAlloc (d : Option Nat) (t : T) : M := setD d (.box t) .done
def zeroOk (P : Program) (t : TypeId) (x : T) : Bool := match P.info? t with
  | some i => match i.zero with
    | some z => zT x z.cells.toList
    | none => false
  | none => false

section
variable {P : Program} {N : Nat} {G : Mem} {σ : Lab} {Fr : Mem} {w0 : Base} {w : World} {st : St} {a : Act}

theorem sound_store {o : Oper} {t : TypeId} {x y : Operand} {x' y' : Opd} {agg : Bool} {sz : Nat} (hd : o.dst = none) (ho : o.op = .store t x y) (hx : opdOk N x x' = true) (hy : opdOk N y y' = true) (ht : tyOk P t agg sz = true) :
    Sound P N o (semStore sz x' y') := by
  intro G σ Fr w0 st a w Q next E hN hr hw hn hdst
  subst hN
  obtain ⟨u, G', σ', st', hG, hr', h1, hv⟩ := takeV_rep hr hy hw
  rcases rdP_spec hr' hx h1 with ⟨s, k, ver, off, r, cur, h2, hs, hp⟩ | ⟨u, h2, hp⟩
  · by_cases hver : ver = cur.1
    · obtain ⟨b, hb, hpp⟩ := hp hver
      obtain ⟨_, w', σ'', st'', hrun, hr'', hq⟩ := putItem_spec (agg := agg) hr' hs (fun _ => hb) ht hv h2
      refine wp_skipped (w' := w') ?_ ?_
      · simp [execOp, ho, hpp, Instr.storeAt, Instr.sureAddr, hrun]
      · rw [hd]
        exact hn G' σ'' st'' _ w' hG hr'' hq
    · simp only [putItem, M.wp, hs] at h2
      exact absurd h2.1 hver
  · exact h2.elim

/-- The labels with a new block. -/
def Lab.new (σ : Lab) (b : Nat) (lab : Nat × Nat) : Lab := fun b' => if b' = b then some lab else σ b'
theorem Lab.new_here {b : Nat} {lab : Nat × Nat} : σ.new b lab b = some lab := by simp [Lab.new]
theorem Lab.new_old {b b' : Nat} {lab lab' : Nat × Nat} (hb : b' ≠ b) (h : σ b' = some lab') : σ.new b lab b' = some lab' := by simp [Lab.new, hb, h]

theorem WOk.grow (h : WOk G σ Fr w0 w) {w' : World} (hos : w'.os = w.os) (ht : w'.tape = w.tape) (hout : w'.output = w.output) (hsz : w.heap.size ≤ w'.heap.size)
    (hold : ∀ b, b < w.heap.size → w'.heap[b]? = w.heap[b]?) : WOk G σ Fr w0 w' := by
  have lt : ∀ {b : Nat} {o : Obj}, w.heap[b]? = some o → b < w.heap.size := fun h => (Array.getElem?_eq_some_iff.1 h).1
  refine ⟨?_, ?_, h.inj, ?_, hos.trans h.os, ht.trans h.tape, hout.trans h.output, Nat.le_trans h.size hsz, h.apart⟩
  · intro b o hb
    have := h.fixed b o hb
    rw [hold b (lt this)]; exact this
  · intro b lab hb
    obtain ⟨h1, h2, h3⟩ := h.own b lab hb
    exact ⟨h1, h2, by omega⟩
  · intro b o hb
    have := h.frame b o hb
    rw [hold b (lt this)]; exact this

theorem WOk.new {b : Nat} {lab : Nat × Nat} (h : WOk G σ Fr w0 w) (h1 : G b = none) (h2 : Fr b = none) (h3 : b < w.heap.size) (h4 : ∀ b', σ b' ≠ some lab) : WOk G (σ.new b lab) Fr w0 w := by
  refine ⟨h.fixed, ?_, ?_, h.frame, h.os, h.tape, h.output, h.size, h.apart⟩
  · intro b' lab' hb'
    unfold Lab.new at hb'
    split at hb'
    · rename_i e; subst e; exact ⟨h1, h2, h3⟩
    · exact h.own b' lab' hb'
  · intro b1 b2 lab' hb1 hb2
    unfold Lab.new at hb1 hb2
    split at hb1 <;> split at hb2
    · rename_i e1 e2; rw [e1, e2]
    · cases hb1; exact absurd hb2 (h4 b2)
    · cases hb2; exact absurd hb1 (h4 b1)
    · exact h.inj b1 b2 lab' hb1 hb2

theorem WOk.fresh (h : WOk G σ Fr w0 w) {b : Nat} (hb : w.heap.size ≤ b) : G b = none ∧ Fr b = none ∧ σ b = none := by
  have lt : ∀ {o : Obj}, w.heap[b]? = some o → False := fun h => by have := (Array.getElem?_eq_some_iff.1 h).1; omega
  refine ⟨?_, ?_, ?_⟩
  · cases hg : G b with
    | none => rfl
    | some o => exact (lt (h.fixed b o hg)).elim
  · cases hg : Fr b with
    | none => rfl
    | some o => exact (lt (h.frame b o hg)).elim
  · cases hg : σ b with
    | none => rfl
    | some lab => have := (h.own b lab hg).2.2; omega

theorem heap_old (w : World) (o : Obj) (b : Nat) (h : b < w.heap.size) : (w.alloc o).heap[b]? = w.heap[b]? := by
  show (w.heap.push o)[b]? = w.heap[b]?
  rw [Array.getElem?_push, if_neg (Nat.ne_of_lt h)]
theorem RepSV.keep {G' : Mem} {σ' : Lab} {w' : World} {vv : Nat → Value} {s : Nat} {sv : SV} {c : Value} (h : RepSV G σ w st vv s sv c) (hG : G.le G') (hk : ∀ s', Kept σ σ' w w' s')
    (hall : ∀ s ver sv, st[s]? = some (ver, sv) → RepSV G σ w st vv s sv (vv s)) : RepSV G' σ' w' st vv s sv c := by
  cases sv with
  | bor s' k ver' =>
    obtain ⟨cur, h1, h2, h3⟩ := h
    refine ⟨cur, h1, h2, fun e => ?_⟩
    obtain ⟨e, sz, l, h4, h5⟩ := h3 e
    exact ⟨e, sz, l, h4, h5.tr hG fun b hb => hk s' b k hb⟩
  | sub s' k ver' n =>
    obtain ⟨cur, h1, h2, h3⟩ := h
    refine ⟨cur, h1, h2, fun e => ?_⟩
    obtain ⟨e, sz, l, h4, h5⟩ := h3 e
    exact ⟨e, sz, l, h4, h5.tr hG fun b hb => hk s' b k hb⟩
  | suf s' k ver' n =>
    obtain ⟨cur, h1, h2, h3⟩ := h
    refine ⟨cur, h1, h2, fun e => ?_⟩
    obtain ⟨e, sz, l, c0, h4, h5, h6⟩ := h3 e
    exact ⟨e, sz, l, c0, h4, h5.tr hG fun b hb => hk s' b k hb, h6⟩
  | pt s' k ver' off r =>
    obtain ⟨cur, h1, h2, h3⟩ := h
    refine ⟨cur, h1, h2, fun e => ?_⟩
    obtain ⟨b, h4, h5⟩ := h3 e
    exact ⟨b, (hk s' b k h4).1, h5⟩
  | pd s' ver' p =>
    obtain ⟨cur, h1, h2, h3⟩ := h
    refine ⟨cur, h1, h2, fun inv t e hp ha => ?_⟩
    obtain ⟨v, sv'⟩ := cur
    simp only at e
    subst e
    exact (h3 inv t rfl hp ha).tr (show OwnD G σ w s' t (vv s') from hall s' v _ h1) (hk s')
  | bd s' ver' p =>
    obtain ⟨cur, h1, h2, h3⟩ := h
    refine ⟨cur, h1, h2, fun inv t e ha => ?_⟩
    obtain ⟨v, sv'⟩ := cur
    simp only at e
    subst e
    exact (h3 inv t rfl ha).tr (show OwnD G σ w s' t (vv s') from hall s' v _ h1) (hk s')
  | _ =>
    rw [RepSV.own rfl] at h ⊢
    exact RepOwn.tr h hG fun b k hb => hk s b k hb

/-- The world has grown, nothing that was there has turned. -/
theorem Rel.grow (h : Rel G σ Fr w0 st a w) {w' : World} (hos : w'.os = w.os) (ht : w'.tape = w.tape) (hout : w'.output = w.output) (hsz : w.heap.size ≤ w'.heap.size)
    (hold : ∀ b, b < w.heap.size → w'.heap[b]? = w.heap[b]?) : Rel G σ Fr w0 st a w' :=
  ⟨h.wok.grow hos ht hout hsz hold, h.defers, h.n, h.len, fun s ver sv hs => (h.slots s ver sv hs).keep (Mem.le.refl G) (fun s' b k hb => ⟨hb, hold b (h.wok.own b _ hb).2.2⟩) h.slots, h.pars⟩
theorem Rel.drew (h : Rel G σ Fr w0 st a w) : Rel G σ Fr w0 st a w.drew := h.grow rfl rfl rfl (Nat.le_refl _) fun _ _ => rfl

def setN (d : Nat) (sv : SV) : M := .get d fun ver _ => .set d (ver + 1) (sv.fresh (ver + 1)) .done

/-- A new block, and a slot that owns it. -/
theorem Rel.newBlock {Q : St → Prop} {d : Nat} {sv : SV} {c : Value} {o : Obj} (h : Rel G σ Fr w0 st a w) (hdn : d < w0.n) (hr : sv.root = none) (hnp : ∀ h, sv ≠ .par h)
    (hsv : ∀ σ', (∀ b lab, lab.1 ≠ d → σ b = some lab → σ' b = some lab) → σ' w.heap.size = some (d, 0) → RepOwn G σ' (w.alloc o) d sv c) (hq : (setN d sv).wp P Q st) :
    ∃ σ' st', Rel G σ' Fr w0 st' (a.put (some d) c) (w.alloc o) ∧ Q st' := by
  have hgrow : WOk G σ Fr w0 (w.alloc o) := h.wok.grow rfl rfl rfl (by simp) fun b hb => heap_old w _ b hb
  simp only [setN, M.wp] at hq
  cases hd : st[d]? with
  | none => simp [hd] at hq
  | some cur =>
    simp only [hd] at hq
    obtain ⟨f1, f2, f3⟩ := h.wok.fresh (Nat.le_refl w.heap.size)
    have hok : WOk G ((σ.drop d).new w.heap.size (d, 0)) Fr w0 (w.alloc o) :=
      (hgrow.drop d).new f1 f2 (by simp) fun b' hb' => (Lab.drop_some.1 hb').1 rfl
    refine ⟨_, _, h.put hdn hok (Mem.le.refl G) hd (Nat.lt_succ_self _) ?_ ?_ (fun h e => absurd (fresh_par.1 e) (hnp h)) fresh_dead, hq⟩
    · intro s' hs' b k hb
      have hlt := (h.wok.own b _ hb).2.2
      exact ⟨Lab.new_old (by omega) (Lab.drop_some.2 ⟨hs', hb⟩), heap_old w _ b hlt⟩
    · rw [RepSV.own (by rw [fresh_root]; exact hr), fresh_rep]
      refine hsv _ ?_ Lab.new_here
      rintro b ⟨s', k⟩ hs' hb
      have hlt := (h.wok.own b _ hb).2.2
      exact Lab.new_old (by omega) (Lab.drop_some.2 ⟨hs', hb⟩)

def semAllocN (d : Nat) (t : T) : M := setN d (.box t)
theorem sound_alloc {o : Oper} {e : TypeId} {d : Nat} {t : T} (hd : o.dst = some d) (ho : o.op = .alloc e) (hz : zeroOk P e t = true) : Sound P N o (semAllocN d t) := by
  intro G σ Fr w0 st a w Q next E hN hr hw hn hdst
  subst hN
  unfold zeroOk at hz
  split at hz
  · rename_i i hi
    split at hz
    · rename_i z hzv
      obtain ⟨σ', st', h1, h2⟩ := hr.newBlock (hdst d hd) (sv := .box t) (o := .cells z.cells e) (c := .pointer (some ⟨w.heap.size, 0, none⟩)) rfl (by intro _ e; cases e)
        (fun σ' _ hb => ⟨_, z.cells, e, rfl, hb, heap_alloc_new w _, zT_spec _ _ _ _ hz⟩) hw
      refine wp_value (w' := w.alloc (.cells z.cells e)) ?_ (by rw [hd]; exact hn G σ' st' _ _ (Mem.le.refl G) h1 h2)
      simp [execOp, ho, Instr.alloc, zeroValue, typeInfo, hi, hzv, newVar, newRow]
    · cases hz
  · cases hz

/-- A box around an item. -/
def semBox (d : Nat) (x : Opd) : M := takeV x fun u => setN d (.box (.one (.i u)))
theorem sound_box {o : Oper} {e : TypeId} {d : Nat} {x : Operand} {x' : Opd} (hd : o.dst = some d) (ho : o.op = .box e x) (hx : opdOk N x x' = true) : Sound P N o (semBox d x') := by
  intro G σ Fr w0 st a w Q next E hN hr hw hn hdst
  subst hN
  obtain ⟨u, G', σ', st', hG, hr', h1, hv⟩ := takeV_rep hr hx hw
  obtain ⟨σ'', st'', h2, h3⟩ := hr'.newBlock (hdst d hd) (sv := .box (.one (.i u))) (o := .cells (a.eval x).cells e) (c := .pointer (some ⟨w.heap.size, 0, none⟩)) rfl (by intro _ e; cases e)
    (fun σ' _ hb => ⟨_, _, e, rfl, hb, heap_alloc_new w _, hv.cells⟩) h1
  refine wp_value (w' := w.alloc (.cells (a.eval x).cells e)) ?_ (by rw [hd]; exact hn G' σ'' st'' _ _ hG h2 h3)
  simp [execOp, ho, Instr.box, newVar, newRow]
/-- A box around an owned slice (a variable that is captured, or whose address is taken). -/
def semBoxVec (d n : Nat) : M := .get n fun ver sv => match sv with
  | .vec e sz l => .need (n ≠ d) fun _ => .set n (ver + 1) .no (setN d (.box (.one (.vec e sz l))))
  | _ => .fail

/-- A field's address. -/
def semFaddr (d : Option Nat) (x : Opd) (i off : Nat) : M := rdP x (fun s k ver o r => .need (d ≠ some s) fun _ => .get s fun cur _ => .need (ver = cur) fun _ => setD d (.pt s k ver (o + off) (r ++ [i])) .done)
  (fun y => match y with
    | .agg l => match l[i]? with
      | some u => .need (sizes (l.take i) = off) fun _ => setD d (.rp u) .done
      | none => .fail
    | _ => .fail)
def fieldOk (P : Program) (t : TypeId) (i off : Nat) : Bool := match P.underlying t with
  | some (.struct fs) => match fs[i]? with
    | some f => f.offset == off && match P.info? f.type with
      | some j => j.size != 0
      | none => false
    | none => false
  | _ => false
theorem fieldAt_run {t : TypeId} {i off b o : Nat} (h : fieldOk P t i off = true) (w : World) :
    (Instr.fieldAt t (.pointer (some ⟨b, o, none⟩)) i).run P w = .ok (.pointer (some ⟨b, o + off, none⟩)) w := by
  unfold fieldOk at h
  split at h
  · rename_i fs hu
    split at h
    · rename_i f hf
      simp only [Bool.and_eq_true, beq_iff_eq] at h
      obtain ⟨rfl, h⟩ := h
      split at h
      · rename_i j hj
        have hj0 : j.size ≠ 0 := by simpa using h
        simp [Instr.fieldAt, run_underlying hu, hf, Instr.sureAddr, fieldPlace, sizeOf, typeInfo, hj, hj0, add_lit]
      · cases h
    · cases h
  · cases h

/-- The common end over a borrowed pointer. -/
theorem Rel.setPt {Q : St → Prop} {d : Option Nat} {s k ver off b : Nat} {r : List Nat} {cur : Nat × SV} (hr : Rel G σ Fr w0 st a w) (hdb : ∀ d', d = some d' → d' < w0.n) (hs : st[s]? = some cur) (hne : d ≠ some s) (hver : ver = cur.1) (hb : σ b = some (s, k))
    (hq : (Ab.setD d (.pt s k ver off r) .done).wp P Q st) : ∃ σ' st', Rel G σ' Fr w0 st' (a.put d (.pointer (some ⟨b, off, none⟩))) w ∧ Q st' :=
  hr.setD hdb (sv := .pt s k ver off r) (c := .pointer (some ⟨b, off, none⟩)) (fun d' hd ver' _ => by
    refine ⟨cur, ?_, by omega, fun _ => ⟨b, Lab.drop_some.2 ⟨by rintro rfl; exact hne hd, hb⟩, rfl⟩⟩
    rw [List.getElem?_set_ne (by rintro rfl; exact hne hd)]; exact hs) hq

theorem sound_faddr {o : Oper} {t : TypeId} {x : Operand} {x' : Opd} {i off : Nat} (ho : o.op = .fieldAddr t x i) (hx : opdOk N x x' = true) (ht : fieldOk P t i off = true) :
    Sound P N o (semFaddr o.dst x' i off) := by
  intro G σ Fr w0 st a w Q next E hN hr hw hn hdst
  subst hN
  rcases rdP_spec hr hx hw with ⟨s, k, ver, of, r, cur, h1, hs, hp⟩ | ⟨u, h1, hp⟩
  · simp only [M.wp, hs] at h1
    obtain ⟨hne, hver, h1⟩ := h1
    obtain ⟨b, hb, hpp⟩ := hp hver
    obtain ⟨σ', st', r1, r2⟩ := hr.setPt hdst hs hne hver hb h1
    refine wp_value (w' := w) ?_ (hn G σ' st' _ w (Mem.le.refl G) r1 r2)
    simp [execOp, ho, hpp, fieldAt_run ht]
  · split at h1
    · rename_i l
      split at h1
      · rename_i u hu
        obtain ⟨rfl, h1⟩ := h1
        obtain ⟨b, of, bl, ty, fz, pre, cs, post, p1, p2, p3, p4, p5⟩ := hp
        obtain ⟨c1, c, c2, e1, e2, e3, _⟩ := RepIs.nth i p5 hu
        obtain ⟨σ', st', r1, r2⟩ := hr.setD hdst (sv := .rp u) (c := .pointer (some ⟨b, of + sizes (l.take i), none⟩))
          (fun _ _ _ _ => ⟨b, _, bl, ty, fz, pre ++ c1, c, c2 ++ post, rfl, p2, by simp [p3, e1], by simp [p4, e2], e3⟩) h1
        refine wp_value (w' := w) ?_ (hn G σ' st' _ w (Mem.le.refl G) r1 r2)
        simp [execOp, ho, p1, fieldAt_run ht]
      · exact h1.elim
    · exact h1.elim

/-- The element type's size of a slice type. -/
def sliceOk (P : Program) (t : TypeId) (sz : Nat) : Bool := match P.underlying t with
  | some (.slice e) => match P.info? e with
    | some i => i.size == sz && sz != 0
    | none => false
  | _ => false

/-- An element's address. -/
def semIaddr (d : Option Nat) (sz : Nat) (x i : Opd) : M := rdI i fun n => match n with
  | .int _ n => match x with
    | .t m => .get m fun ver sv => match sv with
      | .v (.list l) => match l[n.toNat]? with
        | some u => .need (0 ≤ n ∧ u.size = sz) fun _ => setD d (.rp u) .done
        | none => .fail
      | .vec _ sz' l => .need (0 ≤ n ∧ n.toNat < l.length ∧ sz' = sz ∧ d ≠ some m) fun _ => setD d (.pt m 0 ver (n.toNat * sz) [n.toNat]) .done
      | .bor s k ver => .get s fun cur sv' => .need (ver = cur) fun _ => match sv'.vecAt k with
        | some (_, sz', l) => .need (0 ≤ n ∧ n.toNat < l.length ∧ sz' = sz ∧ d ≠ some s) fun _ => setD d (.pt s k ver (n.toNat * sz) [n.toNat]) .done
        | none => .fail
      | _ => .fail
    | _ => .fail
  | _ => .fail

theorem indexAt_run {t : TypeId} {sz b off len cap : Nat} {k : IntKind} {n : Int} (h : sliceOk P t sz = true) (w : World) (h0 : 0 ≤ n) (h1 : n.toNat < len) :
    (Instr.indexAt t (.slice (some ⟨b, off, none⟩) len cap) (.int k n)).run P w = .ok (.pointer (some ⟨b, off + n.toNat * sz, none⟩)) w := by
  unfold sliceOk at h
  split at h
  · rename_i e hu
    split at h
    · rename_i i hi
      simp only [Bool.and_eq_true, beq_iff_eq] at h
      have hn : 0 ≤ n ∧ n < (len : Int) := ⟨h0, by omega⟩
      simp [Instr.indexAt, asIntOf, run_underlying hu, hn, sizeOf, typeInfo, hi, h.1, add_lit]
    · cases h
  · cases h

theorem RepV.list {l : List I} {c : Value} : RepV G (.list l) c ↔ ∃ a cap, c = .slice a l.length cap ∧ l.length ≤ cap ∧ cap ≤ maxLen ∧
      (l = [] ∨ ∃ b off bl ty fz sz, a = some ⟨b, off, none⟩ ∧ G b = some (.cells bl ty fz) ∧ (∀ x ∈ l, x.size = sz) ∧
        off + l.length * sz ≤ bl.size ∧ RepIs G l ((bl.toList.drop off).take (l.length * sz))) := by
  unfold RepV
  rw [if_neg (by simp [I.isAgg])]
  simp only [RepI, List.cons.injEq, and_true]

theorem sound_iaddr {o : Oper} {t : TypeId} {x i : Operand} {x' i' : Opd} {sz : Nat} (ho : o.op = .indexAddr t x i) (hx : opdOk N x x' = true) (hi : opdOk N i i' = true) (ht : sliceOk P t sz = true) :
    Sound P N o (semIaddr o.dst sz x' i') := by
  intro G σ Fr w0 st a w Q next E hN hr hw hn hdst
  subst hN
  obtain ⟨n, h1, hnv⟩ := rdI_rep hr hi hw
  clear hw
  split at h1
  · rename_i k n
    rw [RepV.int] at hnv
    cases x' with
    | t m =>
      obtain ⟨rfl, hnlt⟩ := opdOk_t hx
      simp only [M.wp] at h1
      cases hs : st[m]? with
      | none => simp [hs] at h1
      | some cur =>
        obtain ⟨ver, sv⟩ := cur
        simp only [hs] at h1
        have hrep := hr.slot hnlt hs
        have run : ∀ {b off len cap : Nat}, a.eval (.tmp m) = .slice (some ⟨b, off, none⟩) len cap → 0 ≤ n → n.toNat < len →
            (execOp a.eval o).run P w = .ok (.value (.pointer (some ⟨b, off + n.toNat * sz, none⟩))) w := by
          intro b off len cap he h0 hl
          simp [execOp, ho, he, hnv, indexAt_run ht w h0 hl]
        split at h1
        · rename_i l
          split at h1
          · rename_i u hu
            obtain ⟨⟨h0, rfl⟩, h1⟩ := h1
            have hlt : n.toNat < l.length := (List.getElem?_eq_some_iff.1 hu).1
            obtain ⟨ad, cap, hc, _, _, he⟩ := RepV.list.1 hrep
            rcases he with he | ⟨b, off, bl, ty, fz, sz, rfl, hg, hsz, hle, hr'⟩
            · subst he; simp at hlt
            · have husz := hsz u (List.mem_of_getElem? hu)
              subst husz
              obtain ⟨c1, c, c2, e1, e2, e3, _⟩ := RepIs.nth n.toNat hr' hu
              have htake : sizes (l.take n.toNat) = n.toNat * u.size := by
                rw [sizes_const (sz := u.size) fun z hz => hsz z (List.mem_of_mem_take hz), List.length_take, Nat.min_eq_left (Nat.le_of_lt hlt)]
              have hbl : bl.toList = (bl.toList.take off ++ c1) ++ c ++ (c2 ++ (bl.toList.drop off).drop (l.length * u.size)) := by
                have h2 := List.take_append_drop off bl.toList
                have h3 := List.take_append_drop (l.length * u.size) (bl.toList.drop off)
                rw [e1] at h3
                calc bl.toList = bl.toList.take off ++ bl.toList.drop off := h2.symm
                  _ = bl.toList.take off ++ (c1 ++ c ++ c2 ++ (bl.toList.drop off).drop (l.length * u.size)) := by rw [h3]
                  _ = _ := by simp
              have hofflen : (bl.toList.take off).length = off := by
                rw [List.length_take, Nat.min_eq_left]
                have : bl.toList.length = bl.size := by simp
                omega
              obtain ⟨σ', st', r1, r2⟩ := hr.setD hdst (sv := .rp u) (c := .pointer (some ⟨b, off + n.toNat * u.size, none⟩))
                (fun _ _ _ _ => ⟨b, _, bl, ty, fz, bl.toList.take off ++ c1, c, _, rfl, hg, hbl, by rw [List.length_append, hofflen, e2, htake], e3⟩) h1
              exact wp_value (w' := w) (run hc h0 hlt) (hn G σ' st' _ w (Mem.le.refl G) r1 r2)
          · exact h1.elim
        · rename_i e sz' l
          obtain ⟨⟨h0, hlt, rfl, hne⟩, h1⟩ := h1
          have hrow : ∃ b, σ b = some (m, 0) ∧ ∃ cap, a.eval (.tmp m) = .slice (some ⟨b, 0, none⟩) l.length cap := by
            obtain ⟨xs, k1, k2, k3, k4⟩ := hrep
            rcases k1.2 with ⟨hc, hz⟩ | ⟨g, cap, cur, hc, _⟩
            · omega
            · exact ⟨g, k4 g (by rw [hc]; rfl), cap, hc⟩
          obtain ⟨b, hb, cap, hc⟩ := hrow
          obtain ⟨σ', st', r1, r2⟩ := hr.setPt hdst hs hne rfl hb h1
          refine wp_value (w' := w) ?_ (hn G σ' st' _ w (Mem.le.refl G) r1 r2)
          have := run hc h0 hlt
          rwa [Nat.zero_add] at this
        · rename_i s kk ver'
          obtain ⟨cur, g1, g2, g3⟩ := hrep
          simp only [M.wp, g1] at h1
          obtain ⟨hv, h1⟩ := h1
          obtain ⟨e, sz', l, g4, g5⟩ := g3 hv
          simp only [g4, M.wp] at h1
          obtain ⟨⟨h0, hlt, rfl, hne⟩, h1⟩ := h1
          have hrow : ∃ b, σ b = some (s, kk) ∧ ∃ cap, a.eval (.tmp m) = .slice (some ⟨b, 0, none⟩) l.length cap := by
            obtain ⟨xs, k1, k2, k3, k4⟩ := g5
            rcases k1.2 with ⟨hc, hz⟩ | ⟨g, cap, cur, hc, _⟩
            · omega
            · exact ⟨g, k4 g (by rw [hc]; rfl), cap, hc⟩
          obtain ⟨b, hb, cap, hc⟩ := hrow
          obtain ⟨σ', st', r1, r2⟩ := hr.setPt hdst g1 hne hv hb h1
          refine wp_value (w' := w) ?_ (hn G σ' st' _ w (Mem.le.refl G) r1 r2)
          have := run hc h0 hlt
          rwa [Nat.zero_add] at this
        · exact h1.elim
    | _ => exact h1.elim
  · exact h1.elim
end
end Go.Ab

namespace Go.Ab

/-- The slice at place k of a slot is given up. -/
def SV.dropAt : SV → Nat → SV
  | .vec _ _ _, 0 => .no
  | .box (.one (.vec _ _ _)), 1 => .box (.one (.i .und))
  | .box (.st fs), j + 1 => match fs[j]? with
    | some (.vec _ _ _) => .box (.st (fs.set j (.i .und)))
    | _ => .box (.st fs)
  | sv, _ => sv

section
variable {P : Program} {N : Nat} {G : Mem} {σ : Lab} {Fr : Mem} {w0 : Base} {w : World} {st : St} {a : Act}

theorem WOk.lose (h : WOk G σ Fr w0 w) (lab : Nat × Nat) : WOk G (σ.lose lab) Fr w0 w :=
  ⟨h.fixed, fun b l hb => h.own b l (Lab.lose_some.1 hb).2, fun b b' l hb hb' => h.inj b b' l (Lab.lose_some.1 hb).2 (Lab.lose_some.1 hb').2, h.frame, h.os, h.tape, h.output, h.size, h.apart⟩

theorem VecAt.one {lab : Nat × Nat} {e : TypeId} {sz : Nat} {l : List I} {c : Value} (h : VecAt G σ w lab e sz l c) : c.oneCell' = true := by
  obtain ⟨xs, h1, _⟩ := h
  rcases h1.2 with ⟨rfl, _⟩ | ⟨g, cap, cur, rfl, _⟩ <;> rfl

theorem Rel.dropAt {s k ver ver' : Nat} {sv : SV} {e : TypeId} {sz : Nat} {l : List I} (h : Rel G σ Fr w0 st a w) (hs : st[s]? = some (ver, sv)) (hv : sv.vecAt k = some (e, sz, l)) (hlt : ver < ver') :
    Rel G (σ.lose (s, k)) Fr w0 (st.set s (ver', sv.dropAt k)) a w := by
  refine Rel.self (new := sv.dropAt k) (ver := ver') h (h.wok.lose (s, k)) (Mem.le.refl G) hs hlt
    (fun s' hs' b k' hb => ⟨Lab.lose_some.2 ⟨fun e => hs' (by cases e; rfl), hb⟩, rfl⟩) ?_ (by
      intro h e
      unfold SV.dropAt at e
      repeat' split at e
      all_goals first | (subst e; rw [vecAt_par] at hv; cases hv) | cases e) (by
      intro inv t e
      exfalso
      unfold SV.dropAt at e
      repeat' split at e
      all_goals first | (subst e; cases k <;> cases hv) | cases e)
  · have hold := h.slots s ver sv hs
    generalize val a w0 s = c at hold ⊢
    unfold SV.vecAt at hv
    split at hv
    · trivial
    · cases hv
      obtain ⟨b, cells, ty, h1, h2, h3, h4⟩ := hold
      refine ⟨b, cells, ty, h1, Lab.lose_some.2 ⟨by simp, h2⟩, h3, ?_⟩
      obtain ⟨c', hc', h4⟩ := h4
      exact ⟨c', hc', h4.one⟩
    · rename_i fs j
      split at hv
      · rename_i e' sz' l' hf
        cases hv
        obtain ⟨b, cells, ty, h1, h2, h3, h4⟩ := hold
        simp only [SV.dropAt, hf]
        refine ⟨b, cells, ty, h1, Lab.lose_some.2 ⟨by simp, h2⟩, h3, ?_⟩
        refine RepFs.setF (Mem.le.refl G) h4 hf (fun b k hne hb => ⟨Lab.lose_some.2 ⟨fun e => hne (by cases e; omega), hb⟩, rfl⟩) fun c hc => ?_
        obtain ⟨c', rfl, hc⟩ := hc
        exact ⟨c', rfl, hc.one⟩
      · cases hv
    · cases hv

/-- An owned slice is taken over: whoever held it holds it no more. -/
def takeOwn (e : TypeId) (sz : Nat) (x : Opd) (k : List I → M) : M := match x with
  | .nils _ _ => k []
  | .c _ => .fail
  | .t n => .get n fun ver sv => match sv with
    | .vec e' sz' l => .need (e' = e ∧ sz' = sz) fun _ => .set n (ver + 1) .no (k l)
    | .bor s kk v => .get s fun cur sv' => .need (v = cur) fun _ => match sv'.vecAt kk with
      | some (e', sz', l) => .need (e' = e ∧ sz' = sz) fun _ => .set s (cur + 1) (sv'.dropAt kk) (k l)
      | none => .fail
    | .sub s kk v m => .get s fun cur sv' => .need (v = cur) fun _ => match sv'.vecAt kk with
      | some (e', sz', l) => .need (e' = e ∧ sz' = sz) fun _ => .set s (cur + 1) (sv'.dropAt kk) (k (l.take m))
      | none => .fail
    | _ => .fail

/-- A slice that nobody holds: its row is free. -/
def Free (G : Mem) (σ : Lab) (Fr : Mem) (w : World) (e : TypeId) (sz : Nat) (l : List I) (c : Value) : Prop :=
  ∃ xs, OwnsR w e sz c l.length xs ∧ RepIs G l xs ∧ (∀ x ∈ l, x.size = sz) ∧ ∀ b, c.ownBlock = some b → G b = none ∧ Fr b = none ∧ σ b = none

theorem VecAt.free {lab : Nat × Nat} {e : TypeId} {sz : Nat} {l : List I} {c : Value} (h : VecAt G σ w lab e sz l c) (hok : WOk G σ Fr w0 w) {σ' : Lab} (hσ : ∀ b, σ b = some lab → σ' b = none) : Free G σ' Fr w e sz l c := by
  obtain ⟨xs, h1, h2, h3, h4⟩ := h
  refine ⟨xs, h1, h2, h3, fun b hb => ?_⟩
  obtain ⟨k1, k2, _⟩ := hok.own b _ (h4 b hb)
  exact ⟨k1, k2, hσ b (h4 b hb)⟩

theorem takeOwn_rep {e : TypeId} {sz : Nat} {x : Operand} {y : Opd} {k : List I → M} {Q : St → Prop} (h : Rel G σ Fr w0 st a w) (ho : opdOk w0.n x y = true) (hq : (takeOwn e sz y k).wp P Q st) :
    ∃ l σ' st', Rel G σ' Fr w0 st' a w ∧ (k l).wp P Q st' ∧ Free G σ' Fr w e sz l (a.eval x) := by
  cases y with
  | c i => exact hq.elim
  | nils e' sz' =>
    refine ⟨[], σ, st, h, hq, [], ?_, rfl, by simp, ?_⟩
    · rw [opdOk_nils ho]; exact OwnsR.nil w e sz
    · rw [opdOk_nils ho]; simp [Value.ownBlock]
  | t n =>
    obtain ⟨rfl, hnlt⟩ := opdOk_t ho
    simp only [takeOwn, M.wp] at hq
    cases hs : st[n]? with
    | none => simp [hs] at hq
    | some cur =>
      obtain ⟨ver, sv⟩ := cur
      simp only [hs] at hq
      have hrep := h.slot hnlt hs
      cases sv with
      | vec e' sz' l =>
        obtain ⟨⟨rfl, rfl⟩, hq⟩ := hq
        refine ⟨l, σ.drop n, _, h.drop hs (Nat.lt_succ_self ver), hq, VecAt.free hrep h.wok fun b hb => ?_⟩
        cases hd : σ.drop n b with
        | none => rfl
        | some lab =>
          obtain ⟨s, k'⟩ := lab
          obtain ⟨h1, h2⟩ := Lab.drop_some.1 hd
          rw [hb] at h2; cases h2; exact absurd rfl h1
      | bor s kk v =>
        obtain ⟨cur, h1, h2, h3⟩ := hrep
        simp only [M.wp, h1] at hq
        obtain ⟨hv, hq⟩ := hq
        obtain ⟨e', sz', l, h4, h5⟩ := h3 hv
        simp only [h4, M.wp] at hq
        obtain ⟨⟨rfl, rfl⟩, hq⟩ := hq
        exact ⟨l, _, _, h.dropAt (k := kk) h1 h4 (Nat.lt_succ_self cur.1), hq, h5.free h.wok fun b hb => by simp [Lab.lose, hb]⟩
      | sub s kk v m =>
        obtain ⟨cur, h1, h2, h3⟩ := hrep
        simp only [M.wp, h1] at hq
        obtain ⟨hv, hq⟩ := hq
        obtain ⟨e', sz', l, h4, h5⟩ := h3 hv
        simp only [h4, M.wp] at hq
        obtain ⟨⟨rfl, rfl⟩, hq⟩ := hq
        exact ⟨l.take m, _, _, h.dropAt (k := kk) h1 h4 (Nat.lt_succ_self cur.1), hq, h5.free h.wok fun b hb => by simp [Lab.lose, hb]⟩
      | _ => exact hq.elim

/-- An owned slice is laid into a slot; at most a free row has turned. -/
theorem Rel.putOwned {Q : St → Prop} {d : Nat} {e : TypeId} {sz : Nat} {l : List I} {c' : Value} {w' : World} {row : Option Nat} (h : Rel G σ Fr w0 st a w) (hdn : d < w0.n) (hg : w.grownBy w' row)
    (hrow : ∀ b, row = some b → G b = none ∧ Fr b = none ∧ σ b = none) (hown : Free G σ Fr w' e sz l c') (hq : (setN d (.vec e sz l)).wp P Q st) :
    ∃ σ' st', Rel G σ' Fr w0 st' (a.put (some d) c') w' ∧ Q st' := by
  simp only [setN, M.wp] at hq
  cases hd : st[d]? with
  | none => simp [hd] at hq
  | some cur =>
    simp only [hd] at hq
    have lt : ∀ {b : Nat} {o : Obj}, w.heap[b]? = some o → b < w.heap.size := fun h => (Array.getElem?_eq_some_iff.1 h).1
    have keep : ∀ b lab, σ b = some lab → w'.heap[b]? = w.heap[b]? := fun b lab hb =>
      hg.block b (h.wok.own b lab hb).2.2 (by intro e; obtain ⟨_, _, k⟩ := hrow b e.symm; rw [k] at hb; cases hb)
    have hok : WOk G σ Fr w0 w' := by
      refine ⟨?_, ?_, h.wok.inj, ?_, hg.os.trans h.wok.os, hg.tape.trans h.wok.tape, hg.output.trans h.wok.output, Nat.le_trans h.wok.size hg.size, h.wok.apart⟩
      · intro b o hb
        have := h.wok.fixed b o hb
        rw [hg.block b (lt this) (by intro e; obtain ⟨k, _, _⟩ := hrow b e.symm; rw [k] at hb; cases hb)]
        exact this
      · intro b lab hb
        obtain ⟨h1, h2, h3⟩ := h.wok.own b lab hb
        exact ⟨h1, h2, Nat.lt_of_lt_of_le h3 hg.size⟩
      · intro b o hb
        have := h.wok.frame b o hb
        rw [hg.block b (lt this) (by intro e; obtain ⟨_, k, _⟩ := hrow b e.symm; rw [k] at hb; cases hb)]
        exact this
    obtain ⟨xs, k1, k2, k3, k4⟩ := hown
    cases hb : c'.ownBlock with
    | none =>
      refine ⟨_, _, h.put hdn (hok.drop d) (Mem.le.refl G) hd (Nat.lt_succ_self _) ?_ ?_, hq⟩
      · intro s' hs' b k hb'
        exact ⟨Lab.drop_some.2 ⟨hs', hb'⟩, keep b _ hb'⟩
      · exact ⟨xs, k1, k2, k3, fun b hb' => by rw [hb] at hb'; cases hb'⟩
    | some b =>
      obtain ⟨f1, f2, f3⟩ := k4 b hb
      have hlt := k1.lt b hb
      have hok' : WOk G ((σ.drop d).new b (d, 0)) Fr w0 w' := (hok.drop d).new f1 f2 hlt fun b' hb' => (Lab.drop_some.1 hb').1 rfl
      refine ⟨_, _, h.put hdn hok' (Mem.le.refl G) hd (Nat.lt_succ_self _) ?_ ?_, hq⟩
      · intro s' hs' b' k hb'
        exact ⟨Lab.new_old (by rintro rfl; rw [f3] at hb'; cases hb') (Lab.drop_some.2 ⟨hs', hb'⟩), keep b' _ hb'⟩
      · exact ⟨xs, k1, k2, k3, fun b' hb' => by rw [hb] at hb'; cases hb'; exact Lab.new_here⟩

/-- What append asks of the types. -/
def appOk (P : Program) (t e : TypeId) (sz bytes : Nat) : Bool := match P.underlying t with
  | some (.slice e') => e' == e && match P.info? e with
    | some i => i.size == sz && i.bytes == bytes && sz != 0 && match i.zero with
      | some z => z.cells.size == sz
      | none => false
    | none => false
  | _ => false

def semApp (d : Nat) (e : TypeId) (sz bytes : Nat) (x y : Opd) : M := takeV y fun u => match u with
  | .list ys => takeOwn e sz x fun l => .need ((l.length + ys.length) * bytes ≤ 140737488355328 ∧ l.length + ys.length ≤ maxLen ∧ (∀ u ∈ ys, u.size = sz) ∧ e < 1000000) fun _ => setN d (.vec e sz (l ++ ys))
  | _ => .fail

theorem run_append_of_nil' (t ty e : TypeId) (sz : Nat) {i : TypeInfo} (ht : P.underlying t = some (.slice e)) (hi : P.info? e = some i) (v : Value) (n : Nat) (xs : List Value) (hown : w.ownsRow 0 e sz v n xs) (c : Nat) :
    (Builtin.append_ #[t, t] ty #[v, .slice none 0 c]).run P w = .ok v w := by
  rcases hown.2 with ⟨rfl, rfl⟩ | ⟨g, cap, cur, rfl, _, _, hnc, _⟩
  · simp [Builtin.append_, run_underlying ht, sizeOf, typeInfo, hi, Builtin.lenOf, Builtin.firstCells]
  · simp [Builtin.append_, run_underlying ht, sizeOf, typeInfo, hi, Builtin.lenOf, Builtin.firstCells, hnc, storeCells]

theorem sound_app {o : Oper} {d : Nat} {t e : TypeId} {x y : Operand} {x' y' : Opd} {sz bytes : Nat} (hd : o.dst = some d)
    (ho : o.op = .call { callee := .builtin .append, args := #[x, y], argTypes := #[t, t] }) (hx : opdOk N x x' = true) (hy : opdOk N y y' = true) (ht : appOk P t e sz bytes = true) :
    Sound P N o (semApp d e sz bytes x' y') := by
  intro G0 σ0 Fr w0 st0 a w Q next E hN hr hw hn hdst
  subst hN
  obtain ⟨u, G, σ1, st1, hG, hr1, h1, hv⟩ := takeV_rep hr hy hw
  clear hw
  split at h1
  · rename_i ys
    obtain ⟨l, σ, st, hr2, h2, xs, k1, k2, k3, k4⟩ := takeOwn_rep hr1 hx h1
    obtain ⟨⟨hby, hmax, hsz, hbig⟩, h2⟩ := h2
    unfold appOk at ht
    split at ht
    · rename_i e' hu
      simp only [Bool.and_eq_true, beq_iff_eq] at ht
      obtain ⟨rfl, ht⟩ := ht
      split at ht
      · rename_i i hi
        simp only [Bool.and_eq_true, beq_iff_eq, bne_iff_ne, ne_eq] at ht
        obtain ⟨⟨⟨rfl, rfl⟩, h0⟩, ht⟩ := ht
        split at ht
        · rename_i z hz
          simp only [beq_iff_eq] at ht
          have exec : ∀ {v' w'}, (Builtin.append_ #[t, t] o.type #[a.eval x, a.eval y]).run P w = .ok v' w' → (execOp a.eval o).run P w = .ok (.value v') w' := by
            intro v' w' hrun
            simp [execOp, ho, resolve, invoke, builtin, hrun]
          have fin : ∀ {v' : Value} {w' : World} {row : Option Nat}, (Builtin.append_ #[t, t] o.type #[a.eval x, a.eval y]).run P w = .ok v' w' → w.grownBy w' row →
              (∀ b, row = some b → G b = none ∧ Fr b = none ∧ σ b = none) → Free G σ Fr w' e' i.size (l ++ ys) v' → o.wp P a w next E := by
            intro v' w' row hrun hgr hrow hfree
            obtain ⟨σ', st', r1, r2⟩ := hr2.putOwned (hdst d hd) hgr hrow hfree h2
            exact wp_value (exec hrun) (by rw [hd]; exact hn G σ' st' _ w' hG r1 r2)
          obtain ⟨ad, cap, hc, hlc, hcm, hcase⟩ := RepV.list.1 hv
          have hgrow0 : w.grownBy w none := ⟨rfl, rfl, rfl, Nat.le_refl _, fun _ _ _ => rfl⟩
          have own : ∀ (A : Addr) (news : List Value), ad = some A → news.length = ys.length * i.size → RepIs G ys news → (∀ j u, news[j]? = some u → w.cell? (A.add j) = some u) → o.wp P a w next E := by
            intro A news hA hl hrep hcells
            subst hA
            obtain ⟨v', w', hrun, q1, q2, _, q3⟩ := run_append_own_at (P := P) w 0 t o.type e' i z i.size i.bytes hu hi hz rfl rfl ht (by omega) (a.eval x) l.length xs (k1.to hbig) A ys.length cap news hl hcells (RepIs.one _ _ hrep) hmax hby (Nat.zero_le _)
            rw [← hc] at hrun
            refine fin hrun q2 (fun b hb => k4 b hb) ⟨xs ++ news, by rw [List.length_append]; exact .of q1, RepIs.append k2 hrep, ?_, ?_⟩
            · intro z hz
              rcases List.mem_append.1 hz with hz | hz
              · exact k3 z hz
              · exact hsz z hz
            · intro b hb
              rcases q3 with q3 | q3
              · rw [q3] at hb; exact k4 b hb
              · rw [q3] at hb; cases hb; exact hr2.wok.fresh (Nat.le_refl _)
          rcases hcase with rfl | ⟨b, off, bl, ty, fz, sz', rfl, hg, hsz', hle, hrep⟩
          · cases ad with
            | none =>
              have hrun := run_append_of_nil' (P := P) t o.type e' i.size hu hi (a.eval x) l.length xs (k1.to hbig) cap
              have hc0 : a.eval y = .slice none 0 cap := hc
              rw [← hc0] at hrun
              exact fin hrun hgrow0 (fun b hb => by cases hb) (by rw [List.append_nil]; exact ⟨xs, k1, k2, k3, k4⟩)
            | some A => exact own A [] rfl (by simp) rfl (by simp)
          · cases ys with
            | nil => exact own _ [] rfl (by simp) rfl (by simp)
            | cons y0 ys' =>
              have hszz : sz' = i.size := by rw [← hsz' y0 (by simp), hsz y0 (by simp)]
              subst hszz
              refine own _ _ rfl ?_ hrep ?_
              · rw [List.length_take, List.length_drop, Nat.min_eq_left]
                have : bl.toList.length = bl.size := by simp
                omega
              · intro j u hj
                have hh := hr2.wok.fixed b _ hg
                rw [add_lit, cell_of_row w b (off + j) bl ty fz hh]
                have : bl[off + j]? = bl.toList[off + j]? := by simp
                rw [this]
                rw [List.getElem?_take] at hj
                split at hj
                · rwa [List.getElem?_drop] at hj
                · cases hj
        · cases ht
      · cases ht
    · cases ht
  · exact h1.elim
end
end Go.Ab

namespace Go.Ab

/-- A variable is assigned. -/
def semAsg (d : Nat) (x : Opd) : M := match x with
  | .c x => setN d (.v x)
  | .nils e sz => setN d (.vec e sz [])
  | .t n => .get n fun ver sv => match sv with
    | .v x => setN d (.v x)
    | .vec e sz l => .need (n ≠ d) fun _ => .set n (ver + 1) .no (setN d (.vec e sz l))
    | .tup fs => .need (n ≠ d) fun _ => .set n (ver + 1) .no (setN d (.tup fs))
    | .tupd l => .need (n ≠ d) fun _ => .set n (ver + 1) .no (setN d (.tupd l))
    | .st fs => .need (n ≠ d) fun _ => .set n (ver + 1) .no (setN d (.st fs))
    | .rp x => setN d (.rp x)
    | .no => setN d .no
    | .pt s k ver off r => .need (d ≠ s) fun _ => setN d (.pt s k ver off r)
    | .sub s k v m => .get s fun cur sv' => .need (v = cur) fun _ => match k, sv' with
      | 0, .vec e sz l => if s = d then .set d (cur + 1) (.vec e sz (l.take m)) .done else takeV x fun u => setN d (.v u)
      | _, _ => takeV x fun u => setN d (.v u)
    | .suf _ _ _ _ => .fail
    | .bor _ _ _ => takeV x fun u => setN d (.v u)
    | .box _ => .need (n ≠ d) fun _ => setN d (.pt n 0 ver 0 [])
    | .par h => .get h fun ver sv => .need (d ≠ h) fun _ => match sv with
      | .box _ => setN d (.pt h 0 ver 0 [])
      | .vec _ _ _ => takeV (.t n) fun u => setN d (.v u)
      | .own _ t => match t with
        | .ptr _ => setN d (.pd h ver [0])
        | .vec _ _ _ => setN d (.bd h ver [])
        | .map _ _ => setN d (.bd h ver [])
        | _ => .fail
      | _ => .fail
    | .own _ t => .need (n ≠ d) fun _ => match t with
      | .ptr _ => setN d (.pd n ver [0])
      | t => .set n (ver + 1) .no (setN d (.own [] t))
    | .pd s ver p => .need (d ≠ s) fun _ => setN d (.pd s ver p)
    | .bd s ver p => .need (d ≠ s) fun _ => setN d (.bd s ver p)

section
variable {P : Program} {N : Nat} {G : Mem} {σ : Lab} {Fr : Mem} {w0 : Base} {w : World} {st : St} {a : Act}

theorem setN_wp {d : Nat} {sv : SV} {Q : St → Prop} (h : (setN d sv).wp P Q st) (hf : ∀ v, sv.fresh v = sv := by intro _; rfl) : (setD (some d) sv .done).wp P Q st := by
  unfold setN at h
  unfold setD
  simpa only [hf] using h
theorem Rel.setNV {Q : St → Prop} {d : Nat} {x : I} {c : Value} (h : Rel G σ Fr w0 st a w) (hdn : d < w0.n) (hc : RepV G x c) (hq : (setN d (.v x)).wp P Q st) :
    ∃ σ' st', Rel G σ' Fr w0 st' (a.put (some d) c) w ∧ Q st' := h.setV (by rintro _ ⟨⟩; exact hdn) hc (setN_wp hq)

/-- What a slot owns goes over, as M has it. -/
theorem Rel.moveM {Q : St → Prop} {n d ver : Nat} {sv : SV} {c : Value} (h : Rel G σ Fr w0 st a w) (hdn : d < w0.n) (hs : st[n]? = some (ver, sv)) (hne : n ≠ d) (hr : sv.root = none) (hc : RepOwn G σ w n sv c) (hnp : ∀ h, sv ≠ .par h)
    (hq : (M.set n (ver + 1) .no (setN d sv)).wp P Q st) : ∃ σ' st', Rel G σ' Fr w0 st' (a.put (some d) c) w ∧ Q st' := by
  simp only [M.wp, setN] at hq
  cases hd : st[d]? with
  | none =>
    have : (st.set n (ver + 1, SV.no))[d]? = none := by rw [List.getElem?_set_ne hne]; exact hd
    simp [this] at hq
  | some cur =>
    have : (st.set n (ver + 1, SV.no))[d]? = some cur := by rw [List.getElem?_set_ne hne]; exact hd
    simp only [this] at hq
    exact ⟨_, _, h.move hdn hs hd (Ne.symm hne) (Nat.lt_succ_self _) (Nat.lt_succ_self _) hr hc hnp, hq⟩

theorem exec_move {o : Oper} {x : Operand} (ho : o.op = .move x ∨ o.op = .assign x) : (execOp a.eval o).run P w = .ok (.value (a.eval x)) w := by
  rcases ho with ho | ho <;> simp [execOp, ho]

theorem sound_asg {o : Oper} {d : Nat} {x : Operand} {x' : Opd} (hd : o.dst = some d) (ho : o.op = .move x ∨ o.op = .assign x) (hx : opdOk N x x' = true) : Sound P N o (semAsg d x') := by
  intro G σ Fr w0 st a w Q next E hN hr hw hn hdst
  subst hN
  have hdd : ∀ d', some d = some d' → d' < w0.n := by rintro _ ⟨⟩; exact hdst d hd
  have fin : ∀ {G' σ' st'}, G.le G' → Rel G' σ' Fr w0 st' (a.put (some d) (a.eval x)) w → Q st' → o.wp P a w next E := fun hG h1 h2 =>
    wp_value (exec_move ho) (by rw [hd]; exact hn _ _ _ _ _ hG h1 h2)
  have viaTake : ∀ {n : Nat}, x' = .t n → (takeV (.t n) fun u => setN d (.v u)).wp P Q st → o.wp P a w next E := by
    intro n hx' hq
    subst hx'
    obtain ⟨u, G', σ', st', hG, hr', h1, hv⟩ := takeV_rep hr hx hq
    obtain ⟨σ'', st'', r1, r2⟩ := hr'.setNV (hdst d hd) hv h1
    exact fin hG r1 r2
  cases x' with
  | c i =>
    obtain ⟨σ', st', r1, r2⟩ := hr.setNV (hdst d hd) (opdOk_c hx G) hw
    exact fin (Mem.le.refl G) r1 r2
  | nils e sz =>
    obtain ⟨σ', st', r1, r2⟩ := hr.setD hdd (d := some d) (sv := .vec e sz []) (c := a.eval x) (fun _ _ _ _ => by
      rw [opdOk_nils hx]
      exact ⟨[], OwnsR.nil w e sz, rfl, by simp, by simp [Value.ownBlock]⟩) hw
    exact fin (Mem.le.refl G) r1 r2
  | t n =>
    obtain ⟨rfl, hnlt⟩ := opdOk_t hx
    have hw0 := hw
    simp only [semAsg, M.wp] at hw
    cases hs : st[n]? with
    | none => simp [hs] at hw
    | some cur =>
      obtain ⟨ver, sv⟩ := cur
      simp only [hs] at hw
      have hrep := hr.slot hnlt hs
      cases sv with
      | v y =>
        obtain ⟨σ', st', r1, r2⟩ := hr.setNV (hdst d hd) hrep hw
        exact fin (Mem.le.refl G) r1 r2
      | no =>
        obtain ⟨σ', st', r1, r2⟩ := hr.setD hdd (d := some d) (sv := .no) (c := a.eval (.tmp n)) (fun _ _ _ _ => trivial) hw
        exact fin (Mem.le.refl G) r1 r2
      | rp y =>
        obtain ⟨σ', st', r1, r2⟩ := hr.setD hdd (d := some d) (sv := .rp y) (c := a.eval (.tmp n)) (fun _ _ _ _ => hrep) hw
        exact fin (Mem.le.refl G) r1 r2
      | vec e sz l =>
        obtain ⟨hne, hw⟩ := hw
        obtain ⟨σ', st', r1, r2⟩ := hr.moveM (hdst d hd) hs hne rfl hrep (by intro _ e; cases e) hw
        exact fin (Mem.le.refl G) r1 r2
      | tup fs =>
        obtain ⟨hne, hw⟩ := hw
        obtain ⟨σ', st', r1, r2⟩ := hr.moveM (hdst d hd) hs hne rfl hrep (by intro _ e; cases e) hw
        exact fin (Mem.le.refl G) r1 r2
      | tupd fs =>
        obtain ⟨hne, hw⟩ := hw
        obtain ⟨σ', st', r1, r2⟩ := hr.moveM (hdst d hd) hs hne rfl hrep (by intro _ e; cases e) hw
        exact fin (Mem.le.refl G) r1 r2
      | st fs =>
        obtain ⟨hne, hw⟩ := hw
        obtain ⟨σ', st', r1, r2⟩ := hr.moveM (hdst d hd) hs hne rfl hrep (by intro _ e; cases e) hw
        exact fin (Mem.le.refl G) r1 r2
      | box t =>
        obtain ⟨hne, hw⟩ := hw
        obtain ⟨b, cells, ty, h1, h2, _⟩ := hrep
        replace hw := setN_wp hw
        obtain ⟨σ', st', r1, r2⟩ := hr.setPt (d := some d) hdd hs (by simpa using Ne.symm hne) rfl h2 hw
        rw [← h1] at r1
        exact fin (Mem.le.refl G) r1 r2
      | pt s k ver' off r =>
        obtain ⟨hne, hw⟩ := hw
        obtain ⟨cur, h1, h2, h3⟩ := hrep
        obtain ⟨σ', st', r1, r2⟩ := hr.setD hdd (d := some d) (sv := .pt s k ver' off r) (c := a.eval (.tmp n)) (fun d' hd' ver _ => by
          refine ⟨cur, ?_, h2, fun e => ?_⟩
          · rw [List.getElem?_set_ne (by rintro rfl; cases hd'; exact hne rfl)]; exact h1
          · obtain ⟨b, h4, h5⟩ := h3 e
            exact ⟨b, Lab.drop_some.2 ⟨by rintro rfl; cases hd'; exact hne rfl, h4⟩, h5⟩) hw
        exact fin (Mem.le.refl G) r1 r2
      | bor s k v => exact viaTake rfl hw
      | own inv t =>
        obtain ⟨hne, hw⟩ := hw
        have hv : val a w0 n = a.eval (.tmp n) := val_tmp (by rw [hr.n]; exact hnlt)
        have hown : OwnD G σ w n t (val a w0 n) := by rw [hv]; exact hrep
        split at hw
        · replace hw := setN_wp hw
          obtain ⟨σ', st', r1, r2⟩ := hr.setD hdd (d := some d) (c := a.eval (.tmp n)) (fun d' hd' ver _ => by
            cases hd'
            refine ⟨_, by rw [List.getElem?_set_ne (Ne.symm hne)]; exact hs, Nat.le_refl _, fun inv' t' e _ _ => ?_⟩
            cases e
            rw [val_put_other hne, ← hv]
            exact hown.pt) hw
          exact fin (Mem.le.refl G) r1 r2
        · obtain ⟨σ', st', r1, r2⟩ := hr.moveM (hdst d hd) hs hne rfl hrep (by intro _ e; cases e) hw
          exact fin (Mem.le.refl G) r1 r2
      | pd s ver' p =>
        obtain ⟨hne, hw⟩ := hw
        obtain ⟨cur, h1, h2, h3⟩ := hrep
        replace hw := setN_wp hw
        obtain ⟨σ', st', r1, r2⟩ := hr.setD hdd (d := some d) (sv := .pd s ver' p) (c := a.eval (.tmp n)) (fun d' hd' ver _ => by
          cases hd'
          refine ⟨cur, by rw [List.getElem?_set_ne hne]; exact h1, h2, fun inv t e hp ha => ?_⟩
          rw [val_put_other (Ne.symm hne)]
          exact h3 inv t e hp ha) hw
        exact fin (Mem.le.refl G) r1 r2
      | bd s ver' p =>
        obtain ⟨hne, hw⟩ := hw
        obtain ⟨cur, h1, h2, h3⟩ := hrep
        replace hw := setN_wp hw
        obtain ⟨σ', st', r1, r2⟩ := hr.setD hdd (d := some d) (sv := .bd s ver' p) (c := a.eval (.tmp n)) (fun d' hd' ver _ => by
          cases hd'
          refine ⟨cur, by rw [List.getElem?_set_ne hne]; exact h1, h2, fun inv t e ha => ?_⟩
          rw [val_put_other (Ne.symm hne)]
          exact h3 inv t e ha) hw
        exact fin (Mem.le.refl G) r1 r2
      | par h =>
        obtain ⟨hv, hle⟩ := hr.pars n ver h hs
        rw [val_tmp (by rw [hr.n]; exact hnlt)] at hv
        simp only [M.wp] at hw
        cases hh : st[h]? with
        | none => simp [hh] at hw
        | some cur =>
          obtain ⟨ver', sv'⟩ := cur
          simp only [hh] at hw
          obtain ⟨hne, hw⟩ := hw
          have hrep' := hr.slots h ver' sv' hh
          rw [← hv] at hrep'
          split at hw
          · obtain ⟨b, cells, ty, h1, h2, _⟩ := hrep'
            replace hw := setN_wp hw
            obtain ⟨σ', st', r1, r2⟩ := hr.setPt (d := some d) hdd hh (by simpa using hne) rfl h2 hw
            rw [← h1] at r1
            exact fin (Mem.le.refl G) r1 r2
          · exact viaTake rfl hw
          · rename_i inv t
            have hown : OwnD G σ w h t (val a w0 h) := by rw [← hv]; exact hrep'
            have pt : ∀ {sv : SV}, (∀ v, sv.fresh v = sv) → (∀ h, sv ≠ .par h) → (∀ inv t, sv ≠ .own inv t) → (∀ vv : Nat → Value, vv h = val a w0 h → ∀ σ' st', st'[h]? = some (ver', .own inv t) → RepSV G σ' w st' vv d sv (a.eval (.tmp n))) → (setN d sv).wp P Q st → o.wp P a w next E := by
              intro sv hf hp hno hsv hw
              obtain ⟨σ', st', r1, r2⟩ := hr.setD hdd (d := some d) (c := a.eval (.tmp n)) (fun d' hd' ver _ => by
                cases hd'
                exact hsv _ (val_put_other (Ne.symm hne)) _ _ (by rw [List.getElem?_set_ne hne]; exact hh)) (setN_wp hw hf) (fun _ e => absurd e (hp _)) hno
              exact fin (Mem.le.refl G) r1 r2
            split at hw
            · refine pt (sv := .pd h ver' [0]) (by intro _; rfl) (by intro _ e; cases e) (by intro _ _ e; cases e) (fun vv hvv σ' st' hst => ⟨_, hst, Nat.le_refl _, fun inv' t' e _ _ => ?_⟩) hw
              cases e
              rw [hvv, hv]
              exact hown.pt
            · refine pt (sv := .bd h ver' []) (by intro _; rfl) (by intro _ e; cases e) (by intro _ _ e; cases e) (fun vv hvv σ' st' hst => ⟨_, hst, Nat.le_refl _, fun inv' t' e _ => ?_⟩) hw
              cases e
              rw [hvv, hv]
              exact hown.hd rfl
            · refine pt (sv := .bd h ver' []) (by intro _; rfl) (by intro _ e; cases e) (by intro _ _ e; cases e) (fun vv hvv σ' st' hst => ⟨_, hst, Nat.le_refl _, fun inv' t' e _ => ?_⟩) hw
              cases e
              rw [hvv, hv]
              exact hown.hd rfl
            · exact hw.elim
          · exact hw.elim
      | suf s k v m => exact hw.elim
      | sub s k v m =>
        obtain ⟨cur, h1, h2, h3⟩ := hrep
        simp only [M.wp, h1] at hw
        obtain ⟨hv, hw⟩ := hw
        split at hw
        · rename_i e sz l hsv
          split at hw
          · rename_i hsd
            subst hsd
            obtain ⟨e', sz', l', h4, h5⟩ := h3 hv
            obtain ⟨cv, csv⟩ := cur
            simp only at hsv
            subst hsv
            cases h4
            have hr' := hr.put (d := s) (ver := cv + 1) (hdst s hd) (new := .vec e sz (l.take m)) (c := a.eval (.tmp n)) hr.wok (Mem.le.refl G) h1 (Nat.lt_succ_self _) (fun s' _ => Kept.refl σ w s') h5
            exact fin (Mem.le.refl G) hr' hw
          · exact viaTake rfl hw
        · exact viaTake rfl hw

/-- A variable is assigned what nobody needs any more where it was: the slice goes over. -/
def semMov (d : Nat) (e : TypeId) (sz : Nat) (x : Opd) : M := match x with
  | .t n => .get n fun _ sv => match sv with
    | .bor _ _ _ => takeOwn e sz (.t n) fun l => setN d (.vec e sz l)
    | .sub _ _ _ _ => takeOwn e sz (.t n) fun l => setN d (.vec e sz l)
    | _ => semAsg d (.t n)
  | x => semAsg d x
theorem sound_mov {o : Oper} {d : Nat} {e : TypeId} {sz : Nat} {x : Operand} {x' : Opd} (hd : o.dst = some d) (ho : o.op = .move x ∨ o.op = .assign x) (hx : opdOk N x x' = true) : Sound P N o (semMov d e sz x') := by
  intro G σ Fr w0 st a w Q next E hN hr hw hn hdst
  subst hN
  have asg : (semAsg d x').wp P Q st → o.wp P a w next E := fun hq => sound_asg hd ho hx G σ Fr w0 st a w Q next E rfl hr hq hn hdst
  cases x' with
  | c y => exact asg hw
  | nils e sz => exact asg hw
  | t n =>
    simp only [semMov, M.wp] at hw
    cases hs : st[n]? with
    | none => simp [hs] at hw
    | some cur =>
      simp only [hs] at hw
      split at hw
      · obtain ⟨l, σ1, st1, hr1, h1, hfree⟩ := takeOwn_rep hr hx hw
        obtain ⟨σ', st', r1, r2⟩ := hr1.putOwned (w' := w) (row := none) (hdst d hd) ⟨rfl, rfl, rfl, Nat.le_refl _, fun _ _ _ => rfl⟩ (fun b hb => by cases hb) hfree h1
        exact wp_value (exec_move ho) (by rw [hd]; exact hn _ _ _ _ _ (Mem.le.refl G) r1 r2)
      · obtain ⟨l, σ1, st1, hr1, h1, hfree⟩ := takeOwn_rep hr hx hw
        obtain ⟨σ', st', r1, r2⟩ := hr1.putOwned (w' := w) (row := none) (hdst d hd) ⟨rfl, rfl, rfl, Nat.le_refl _, fun _ _ _ => rfl⟩ (fun b hb => by cases hb) hfree h1
        exact wp_value (exec_move ho) (by rw [hd]; exact hn _ _ _ _ _ (Mem.le.refl G) r1 r2)
      · exact asg hw

/-- The length. -/
def semLen (d : Option Nat) (str : Bool) (x : Opd) : M := match x with
  | .t n => .get n fun _ sv => match sv with
    | .v (.list l) => .need (str = false) fun _ => .fact (l.length ≤ maxLen) (setD d (.v (.int .i64 l.length)) .done)
    | .v (.str s) => .need (str = true) fun _ => .fact (s.length ≤ maxLen) (setD d (.v (.int .i64 s.length)) .done)
    | .vec _ _ l => .need (str = false) fun _ => .fact (l.length ≤ maxLen) (setD d (.v (.int .i64 l.length)) .done)
    | .bor s k v => .get s fun cur sv' => .need (v = cur ∧ str = false) fun _ => match sv'.vecAt k with
      | some (_, _, l) => .fact (l.length ≤ maxLen) (setD d (.v (.int .i64 l.length)) .done)
      | none => .fail
    | .sub s k v m => .get s fun cur sv' => .need (v = cur ∧ str = false) fun _ => match sv'.vecAt k with
      | some (_, _, l) => .fact ((l.take m).length ≤ maxLen) (setD d (.v (.int .i64 (l.take m).length)) .done)
      | none => .fail
    | _ => .fail
  | .c (.str s) => .need (str = true) fun _ => setD d (.v (.int .i64 s.length)) .done
  | _ => .fail
def lenOk (P : Program) (t : TypeId) (str : Bool) : Bool := match P.underlying t with
  | some .string => str
  | some (.slice _) => !str
  | _ => false

theorem VecAt.len {lab : Nat × Nat} {e : TypeId} {sz : Nat} {l : List I} {c : Value} (h : VecAt G σ w lab e sz l c) : ∃ ad cap, c = .slice ad l.length cap ∧ l.length ≤ maxLen := by
  obtain ⟨xs, h1, _⟩ := h
  rcases h1.2 with ⟨rfl, h0⟩ | ⟨g, cap, cur, rfl, _, _, h3, h4, _⟩
  · exact ⟨none, 0, by rw [h0], by rw [h0]; exact Nat.zero_le _⟩
  · exact ⟨_, cap, rfl, Nat.le_trans h3 h4⟩

theorem sound_len {o : Oper} {t : TypeId} {x : Operand} {x' : Opd} {str : Bool} (ho : o.op = .call { callee := .builtin .len, args := #[x], argTypes := #[t] }) (hx : opdOk N x x' = true) (ht : lenOk P t str = true) :
    Sound P N o (semLen o.dst str x') := by
  intro G σ Fr w0 st a w Q next E hN hr hw hn hdst
  subst hN
  have hsl : str = false → ∃ e, P.underlying t = some (.slice e) := by
    rintro rfl
    unfold lenOk at ht
    split at ht
    · cases ht
    · rename_i e h; exact ⟨e, h⟩
    · cases ht
  have hst : str = true → P.underlying t = some .string := by
    rintro rfl
    unfold lenOk at ht
    split at ht
    · assumption
    · cases ht
    · cases ht
  have sl : ∀ {ad : Option Addr} {n cap : Nat}, str = false → a.eval x = .slice ad n cap → (execOp a.eval o).run P w = .ok (.value (.int .i64 n)) w := by
    intro ad n cap hs he
    obtain ⟨e, hu⟩ := hsl hs
    simp [execOp, ho, resolve, invoke, builtin, Builtin.len_, run_underlying hu, he, goInt]
  have ss : ∀ {s : List UInt8}, str = true → a.eval x = .string ⟨⟨s⟩⟩ → (execOp a.eval o).run P w = .ok (.value (.int .i64 s.length)) w := by
    intro s hs he
    have hu := hst hs
    simp [execOp, ho, resolve, invoke, builtin, Builtin.len_, run_underlying hu, he, goInt]
    rfl
  cases x' with
  | c i =>
    cases i with
    | str s =>
      obtain ⟨h1, h2⟩ := hw
      have := RepV.str.1 (opdOk_c (a := a) hx G)
      exact done_v hr hn hdst (RepV.int.2 rfl) h2 (ss h1 this.1)
    | _ => exact hw.elim
  | nils e sz => exact hw.elim
  | t n =>
    obtain ⟨rfl, hnlt⟩ := opdOk_t hx
    simp only [semLen, M.wp] at hw
    cases hs : st[n]? with
    | none => simp [hs] at hw
    | some cur =>
      obtain ⟨ver, sv⟩ := cur
      simp only [hs] at hw
      have hrep := hr.slot hnlt hs
      split at hw
      · rename_i l
        obtain ⟨h1, h2⟩ := hw
        have hrep' : RepV G (.list l) (a.eval (.tmp n)) := hrep
        obtain ⟨ad, cap, hc, hl, hm, _⟩ := RepV.list.1 hrep'
        exact done_v hr hn hdst (RepV.int.2 rfl) (h2 (Nat.le_trans hl hm)) (sl h1 hc)
      · rename_i s
        obtain ⟨h1, h2⟩ := hw
        have hrep' : RepV G (.str s) (a.eval (.tmp n)) := hrep
        exact done_v hr hn hdst (RepV.int.2 rfl) (h2 (RepV.str.1 hrep').2) (ss h1 (RepV.str.1 hrep').1)
      · obtain ⟨h1, h2⟩ := hw
        obtain ⟨ad, cap, hc, hm⟩ := VecAt.len hrep
        exact done_v hr hn hdst (RepV.int.2 rfl) (h2 hm) (sl h1 hc)
      · rename_i s k v
        obtain ⟨cur, g1, g2, g3⟩ := hrep
        simp only [M.wp, g1] at hw
        obtain ⟨⟨hv, h1⟩, h2⟩ := hw
        obtain ⟨e, sz, l, g4, g5⟩ := g3 hv
        simp only [g4] at h2
        obtain ⟨ad, cap, hc, hm⟩ := VecAt.len g5
        exact done_v hr hn hdst (RepV.int.2 rfl) (h2 hm) (sl h1 hc)
      · rename_i s k v m
        obtain ⟨cur, g1, g2, g3⟩ := hrep
        simp only [M.wp, g1] at hw
        obtain ⟨⟨hv, h1⟩, h2⟩ := hw
        obtain ⟨e, sz, l, g4, g5⟩ := g3 hv
        simp only [g4] at h2
        obtain ⟨ad, cap, hc, hm⟩ := VecAt.len g5
        exact done_v hr hn hdst (RepV.int.2 rfl) (h2 hm) (sl h1 hc)
      · exact hw.elim
end
end Go.Ab

namespace Go.Ab

/-- Bounds of a slice expression: what is left out is 0, or the length. -/
def rdB (x : Option Opd) (dflt : Int) (k : Int → M) : M := match x with
  | none => k dflt
  | some x => rdI x fun i => match i with
    | .int _ n => k n
    | _ => .fail

def oOk (N : Nat) : Option Operand → Option Opd → Bool
  | none, none => true
  | some x, some y => opdOk N x y
  | _, _ => false
def semSlice (d : Option Nat) (str : Bool) (sz : Nat) (x : Opd) (lo hi : Option Opd) : M := match x with
  | .t n => .get n fun ver sv => match sv with
    | .v (.list l) => rdB lo 0 fun i => rdB hi l.length fun j => .need (str = false ∧ 0 ≤ i ∧ i ≤ j ∧ j ≤ l.length ∧ ∀ u ∈ l, u.size = sz) fun _ => setD d (.v (.list ((l.take j.toNat).drop i.toNat))) .done
    | .v (.str s) => rdB lo 0 fun i => rdB hi s.length fun j => .need (str = true ∧ 0 ≤ i ∧ i ≤ j ∧ j ≤ s.length) fun _ => setD d (.v (.str ((s.take j.toNat).drop i.toNat))) .done
    | .vec _ sz' l => rdB lo 0 fun i => rdB hi l.length fun j => .need (str = false ∧ sz' = sz ∧ i = 0 ∧ 0 ≤ j ∧ j ≤ l.length ∧ d ≠ some n) fun _ => setD d (.sub n 0 ver j.toNat) .done
    | .bor s k v => .get s fun cur sv' => .need (v = cur) fun _ => match sv'.vecAt k with
      | some (_, sz', l) => rdB lo 0 fun i => rdB hi l.length fun j => .need (str = false ∧ sz' = sz ∧ i = 0 ∧ 0 ≤ j ∧ j ≤ l.length ∧ d ≠ some s) fun _ => setD d (.sub s k v j.toNat) .done
      | none => .fail
    | _ => .fail
  | _ => .fail

def strIdx (d : Option Nat) (x i : Opd) : M := rdI x fun u => rdI i fun n => match u, n with
  | .str s, .int _ n => match s[n.toNat]? with
    | some b => .need (0 ≤ n) fun _ => setD d (.v (.int .u8 b.toNat)) .done
    | none => .fail
  | _, _ => .fail

section
variable {P : Program} {N : Nat} {G : Mem} {σ : Lab} {Fr : Mem} {w0 : Base} {w : World} {st : St} {a : Act}

theorem rdB_rep {x : Option Operand} {y : Option Opd} {dflt : Int} {k : Int → M} {Q : St → Prop} (h : Rel G σ Fr w0 st a w)
    (ho : oOk w0.n x y = true) (hq : (rdB y dflt k).wp P Q st) :
    ∃ i, (k i).wp P Q st ∧ ((x = none ∧ i = dflt) ∨ ∃ x' kd, x = some x' ∧ a.eval x' = .int kd i) := by
  cases y with
  | none =>
    cases x with
    | none => exact ⟨dflt, hq, .inl ⟨rfl, rfl⟩⟩
    | some x => cases ho
  | some y =>
    cases x with
    | none => cases ho
    | some x =>
      obtain ⟨i, h1, h2⟩ := rdI_rep h ho hq
      cases i with
      | int kd n => exact ⟨n, h1, .inr ⟨x, kd, rfl, RepV.int.1 h2⟩⟩
      | _ => exact h1.elim

theorem sliceBounds_run {isSlice : Bool} {len cap : Nat} {lo hi : Option Operand} {i j : Int} (w : World)
    (hlo : (lo = none ∧ i = 0) ∨ ∃ x kd, lo = some x ∧ a.eval x = .int kd i) (hhi : (hi = none ∧ j = len) ∨ ∃ x kd, hi = some x ∧ a.eval x = .int kd j)
    (h0 : 0 ≤ i) (h1 : i ≤ j) (h2 : j ≤ len) (hc : len ≤ cap) : (Instr.sliceBounds isSlice len cap (lo.map a.eval) (hi.map a.eval) none).run P w = .ok (i.toNat, j.toNat, cap) w := by
  have b1 : ∀ (kd : IntKind) (code : BoundsCode), (Instr.sliceBound (.int kd j) cap code).run P w = .ok j.toNat w := fun kd code =>
    run_sliceBound (P := P) (w := w) kd j cap code (by omega) (by omega)
  have b2 : ∀ (kd : IntKind) (code : BoundsCode), (Instr.sliceBound (.int kd i) j.toNat code).run P w = .ok i.toNat w := fun kd code =>
    run_sliceBound (P := P) (w := w) kd i j.toNat code (by omega) (by omega)
  have b3 : ∀ (kd : IntKind) (code : BoundsCode), j = len → (Instr.sliceBound (.int kd i) len code).run P w = .ok i.toNat w := fun kd code e => by
    have := b2 kd code
    rw [e] at this
    simpa using this
  rcases hlo with ⟨rfl, rfl⟩ | ⟨x, kd, rfl, hx⟩ <;> rcases hhi with ⟨rfl, rfl⟩ | ⟨y, kd', rfl, hy⟩
  · simp [Instr.sliceBounds]
  · simp [Instr.sliceBounds, hy, b1]
  · simp [Instr.sliceBounds, hx, b3]
  · simp [Instr.sliceBounds, hx, hy, b1, b2]

theorem RepIs.slice {G : Mem} {l : List I} {cs : List Value} {sz i j : Nat} (h : RepIs G l cs) (hsz : ∀ x ∈ l, x.size = sz) (hij : i ≤ j) (hj : j ≤ l.length) :
    RepIs G ((l.take j).drop i) ((cs.take (j * sz)).drop (i * sz)) := by
  have e1 : l = (l.take j) ++ l.drop j := (List.take_append_drop j l).symm
  rw [e1] at h
  obtain ⟨c, d, rfl, h1, _⟩ := RepIs.split h
  have hl1 : c.length = j * sz := by
    rw [RepIs.length _ _ h1, sizes_const (sz := sz) fun x hx => hsz x (List.mem_of_mem_take hx), List.length_take, Nat.min_eq_left hj]
  have e2 : l.take j = (l.take j).take i ++ (l.take j).drop i := (List.take_append_drop i _).symm
  rw [e2] at h1
  obtain ⟨c1, c2, rfl, h3, h4⟩ := RepIs.split h1
  have hl2 : c1.length = i * sz := by
    rw [RepIs.length _ _ h3, sizes_const (sz := sz) fun x hx => hsz x (List.mem_of_mem_take (List.mem_of_mem_take hx)), List.length_take, List.length_take]
    rw [Nat.min_eq_left (by omega)]
  rw [← hl1, List.take_left, ← hl2, List.drop_left]
  exact h4

theorem RepV.sliced {l : List I} {ad : Option Addr} {cap i j sz : Nat} (h : RepV G (.list l) (.slice ad l.length cap)) (hij : i ≤ j) (hj : j ≤ l.length) (hsz : l ≠ [] → ∀ x ∈ l, x.size = sz) :
    RepV G (.list ((l.take j).drop i)) (.slice (if cap = i then ad else ad.map (·.add (i * sz))) (j - i) (cap - i)) := by
  obtain ⟨a', cap', he, h1, h2, h3⟩ := RepV.list.1 h
  cases he
  have hlen : ((l.take j).drop i).length = j - i := by simp [Nat.min_eq_left hj]
  refine RepV.list.2 ⟨_, _, by rw [hlen], by rw [hlen]; omega, by omega, ?_⟩
  rcases h3 with rfl | ⟨b, off, bl, ty, fz, sz', rfl, hg, hs, hle, hr⟩
  · exact .inl (by simp)
  · by_cases hij' : i = j
    · subst hij'
      exact .inl (List.eq_nil_of_length_eq_zero (by rw [hlen]; omega))
    · have hne : l ≠ [] := by rintro rfl; simp at hj; omega
      have hszz : sz' = sz := by
        cases l with
        | nil => exact absurd rfl hne
        | cons x l => rw [← hs x (by simp), hsz hne x (by simp)]
      subst hszz
      have hci : cap ≠ i := by omega
      rw [if_neg hci]
      refine .inr ⟨b, off + i * sz', bl, ty, fz, sz', by simp [add_lit], hg, fun x hx => hs x (List.mem_of_mem_take (List.mem_of_mem_drop hx)), ?_, ?_⟩
      · rw [hlen, Nat.sub_mul]
        have h4 : i * sz' ≤ j * sz' := Nat.mul_le_mul_right _ hij
        have h5 : j * sz' ≤ l.length * sz' := Nat.mul_le_mul_right _ hj
        omega
      · have := RepIs.slice hr hs hij hj
        rw [hlen]
        have h5 : j * sz' ≤ l.length * sz' := Nat.mul_le_mul_right _ hj
        have e : (((bl.toList.drop off).take (l.length * sz')).take (j * sz')).drop (i * sz') = (bl.toList.drop (off + i * sz')).take ((j - i) * sz') := by
          rw [List.take_take, Nat.min_eq_left h5, List.drop_take, List.drop_drop, Nat.sub_mul]
        rwa [e] at this

def slcOk (P : Program) (t : TypeId) (str : Bool) (sz : Nat) : Bool := match P.underlying t with
  | some .string => str
  | some (.slice e) => !str && match P.info? e with
    | some i => i.size == sz
    | none => false
  | _ => false

theorem extract_data (s : List UInt8) (i j : Nat) : (⟨⟨s⟩⟩ : ByteArray).extract i j = ⟨⟨(s.take j).drop i⟩⟩ := by
  apply ByteArray.ext
  apply Array.ext'
  simp [List.extract_eq_take_drop, List.drop_take]

theorem VecAt.take {lab : Nat × Nat} {e : TypeId} {sz : Nat} {l : List I} {ad : Option Addr} {n cap j : Nat} (h : VecAt G σ w lab e sz l (.slice ad n cap)) (hj : j ≤ l.length) :
    VecAt G σ w lab e sz (l.take j) (.slice ad j cap) := by
  obtain ⟨xs, h1, h2, h3, h4⟩ := h
  have hl : (l.take j).length = j := by rw [List.length_take, Nat.min_eq_left hj]
  have e1 : l = l.take j ++ l.drop j := (List.take_append_drop j l).symm
  rw [e1] at h2
  obtain ⟨c, d, rfl, h5, _⟩ := RepIs.split h2
  have hc : c.length = j * sz := by rw [RepIs.length _ _ h5, sizes_const (sz := sz) fun x hx => h3 x (List.mem_of_mem_take hx), hl]
  refine ⟨c, ⟨by rw [hl, hc], ?_⟩, h5, fun x hx => h3 x (List.mem_of_mem_take hx), fun b hb => h4 b (by cases ad with | none => simp [Value.ownBlock] at hb | some _ => simpa [Value.ownBlock] using hb)⟩
  rcases h1.2 with ⟨e2, e3⟩ | ⟨g, cap', cur, e2, k1, k2, k3, k4, k5, k6⟩
  · cases e2
    exact .inl ⟨by congr 1; omega, by rw [hl]; omega⟩
  · cases e2
    refine .inr ⟨g, cap, cur, by rw [hl], k1, k2, by rw [hl]; omega, k4, k5, ?_⟩
    rw [hl, ← hc]
    have h7 : (cur.toList.take (l.length * sz)).take c.length = c := by rw [k6, List.take_left]
    rw [List.take_take, Nat.min_eq_left] at h7
    · exact h7
    · rw [hc]; exact Nat.mul_le_mul_right _ hj

theorem sound_slice {o : Oper} {t : TypeId} {x : Operand} {lo hi : Option Operand} {x' : Opd} {lo' hi' : Option Opd} {str : Bool} {sz : Nat} (ho : o.op = .slice t x lo hi none) (hx : opdOk N x x' = true)
    (hlo : oOk N lo lo' = true) (hhi : oOk N hi hi' = true) (ht : slcOk P t str sz = true) : Sound P N o (semSlice o.dst str sz x' lo' hi') := by
  intro G σ Fr w0 st a w Q next E hN hr hw hn hdst
  subst hN
  have hsl : str = false → ∃ e i, P.underlying t = some (.slice e) ∧ P.info? e = some i ∧ i.size = sz := by
    rintro rfl
    unfold slcOk at ht
    split at ht
    · cases ht
    · rename_i e h
      split at ht
      · rename_i i hi; exact ⟨e, i, h, hi, by simpa using ht⟩
      · cases ht
    · cases ht
  have hst : str = true → P.underlying t = some .string := by
    rintro rfl
    unfold slcOk at ht
    split at ht
    · assumption
    · simp at ht
    · cases ht
  cases x' with
  | c _ => exact hw.elim
  | nils _ _ => exact hw.elim
  | t n =>
    obtain ⟨rfl, hnlt⟩ := opdOk_t hx
    simp only [semSlice, M.wp] at hw
    cases hs : st[n]? with
    | none => simp [hs] at hw
    | some cur =>
      obtain ⟨ver, sv⟩ := cur
      simp only [hs] at hw
      have hrep := hr.slot hnlt hs
      split at hw
      · rename_i l
        obtain ⟨i, h1, hi1⟩ := rdB_rep hr hlo hw
        obtain ⟨j, h2, hj1⟩ := rdB_rep hr hhi h1
        obtain ⟨⟨k1, k2, k3, k4, k5⟩, h3⟩ := h2
        obtain ⟨e, i0, hu, hi0, hsz⟩ := hsl k1
        have hrep' : RepV G (.list l) (a.eval (.tmp n)) := hrep
        obtain ⟨ad, cap, hc, hlc, _⟩ := RepV.list.1 hrep'
        have hb := sliceBounds_run (P := P) (isSlice := true) (len := l.length) (cap := cap) w hi1 hj1 k2 k3 k4 hlc
        rw [hc] at hrep'
        have hv := RepV.sliced (i := i.toNat) (j := j.toNat) (sz := sz) hrep' (by omega) (by omega) fun _ => k5
        refine done_v hr hn hdst hv h3 ?_
        simp [execOp, ho, Instr.sliceAt, Instr.slice, run_underlying hu, hc, hb, sizeOf, typeInfo, hi0, hsz]
      · rename_i s
        obtain ⟨i, h1, hi1⟩ := rdB_rep hr hlo hw
        obtain ⟨j, h2, hj1⟩ := rdB_rep hr hhi h1
        obtain ⟨⟨k1, k2, k3, k4⟩, h3⟩ := h2
        have hu := hst k1
        have hrep' : RepV G (.str s) (a.eval (.tmp n)) := hrep
        obtain ⟨hc, hmax⟩ := RepV.str.1 hrep'
        have hb := sliceBounds_run (P := P) (isSlice := false) (len := s.length) (cap := s.length) w hi1 hj1 k2 k3 k4 (Nat.le_refl _)
        refine done_v hr hn hdst (v := .string ⟨⟨(s.take j.toNat).drop i.toNat⟩⟩) (RepV.str.2 ⟨rfl, by simp; omega⟩) h3 ?_
        have hsize : (⟨⟨s⟩⟩ : ByteArray).size = s.length := rfl
        simp [execOp, ho, Instr.sliceAt, Instr.slice, run_underlying hu, hc, hsize, hb, extract_data]
      · rename_i e' sz' l
        obtain ⟨i, h1, hi1⟩ := rdB_rep hr hlo hw
        obtain ⟨j, h2, hj1⟩ := rdB_rep hr hhi h1
        obtain ⟨⟨k1, rfl, rfl, k3, k4, hne⟩, h3⟩ := h2
        obtain ⟨e, i0, hu, hi0, hsz⟩ := hsl k1
        have hrep' : VecAt G σ w (n, 0) e' sz' l (a.eval (.tmp n)) := hrep
        obtain ⟨ad, cap, hc, _⟩ := hrep'.len
        have hlc : l.length ≤ cap := by
          obtain ⟨xs, q1, _⟩ := hrep'
          rcases q1.2 with ⟨q2, q3⟩ | ⟨g, cap', cur, q2, _, _, q3, _⟩
          · omega
          · rw [hc] at q2; cases q2; exact q3
        have hb := sliceBounds_run (P := P) (isSlice := true) (len := l.length) (cap := cap) w hi1 hj1 (Int.le_refl 0) k3 k4 hlc
        rw [hc] at hrep'
        have hv := hrep'.take (j := j.toNat) (by omega)
        obtain ⟨σ', st', r1, r2⟩ := hr.setD hdst (sv := .sub n 0 ver j.toNat) (c := .slice ad j.toNat cap) (fun d' hd ver' _ => by
          refine ⟨_, by rw [List.getElem?_set_ne (by rintro rfl; exact hne hd)]; exact hs, Nat.le_refl _, fun _ => ⟨e', sz', l, rfl, ?_⟩⟩
          exact hv.tr (Mem.le.refl G) fun b hb => ⟨Lab.drop_some.2 ⟨by rintro rfl; exact hne hd, hb⟩, rfl⟩) h3
        refine wp_value (w' := w) ?_ (hn G σ' st' _ w (Mem.le.refl G) r1 r2)
        have had : Option.map (fun x : Addr => x.add 0) ad = ad := by cases ad <;> simp [Addr.add]
        simp [execOp, ho, Instr.sliceAt, Instr.slice, run_underlying hu, hc, hb, sizeOf, typeInfo, hi0, hsz, had]
      · rename_i s k v
        obtain ⟨cur, g1, g2, g3⟩ := hrep
        simp only [M.wp, g1] at hw
        obtain ⟨hv, hw⟩ := hw
        obtain ⟨e', sz', l, g4, g5⟩ := g3 hv
        simp only [g4] at hw
        obtain ⟨i, h1, hi1⟩ := rdB_rep hr hlo hw
        obtain ⟨j, h2, hj1⟩ := rdB_rep hr hhi h1
        obtain ⟨⟨k1, rfl, rfl, k3, k4, hne⟩, h3⟩ := h2
        obtain ⟨e, i0, hu, hi0, hsz⟩ := hsl k1
        obtain ⟨ad, cap, hc, _⟩ := g5.len
        have hlc : l.length ≤ cap := by
          obtain ⟨xs, q1, _⟩ := g5
          rcases q1.2 with ⟨q2, q3⟩ | ⟨g, cap', cur, q2, _, _, q3, _⟩
          · omega
          · rw [hc] at q2; cases q2; exact q3
        have hb := sliceBounds_run (P := P) (isSlice := true) (len := l.length) (cap := cap) w hi1 hj1 (Int.le_refl 0) k3 k4 hlc
        rw [hc] at g5
        have hvv := g5.take (j := j.toNat) (by omega)
        obtain ⟨σ', st', r1, r2⟩ := hr.setD hdst (sv := .sub s k v j.toNat) (c := .slice ad j.toNat cap) (fun d' hd ver' _ => by
          refine ⟨cur, by rw [List.getElem?_set_ne (by rintro rfl; exact hne hd)]; exact g1, g2, fun _ => ⟨e', sz', l, g4, ?_⟩⟩
          exact hvv.tr (Mem.le.refl G) fun b hb => ⟨Lab.drop_some.2 ⟨by rintro rfl; exact hne hd, hb⟩, rfl⟩) h3
        refine wp_value (w' := w) ?_ (hn G σ' st' _ w (Mem.le.refl G) r1 r2)
        have had : Option.map (fun x : Addr => x.add 0) ad = ad := by cases ad <;> simp [Addr.add]
        simp [execOp, ho, Instr.sliceAt, Instr.slice, run_underlying hu, hc, hb, sizeOf, typeInfo, hi0, hsz, had]
      · exact hw.elim
end
end Go.Ab

namespace Go.Ab

/-- The parts of a composite literal are taken, one behind the other. -/
def takeParts : List (Nat × Opd) → List I → (List I → M) → M
  | [], zs, k => k zs
  | (i, x) :: ps, zs, k => takeV x fun u => match zs[i]? with
    | some z => .need (u.size = z.size) fun _ => takeParts ps (zs.set i u) k
    | none => .fail

def partsOk (N : Nat) : List (Nat × Operand) → List (Nat × Opd) → Bool
  | [], [] => true
  | (i, x) :: l, (j, y) :: m => i == j && opdOk N x y && partsOk N l m
  | _, _ => false

section
variable {P : Program} {N : Nat} {G : Mem} {σ : Lab} {Fr : Mem} {w0 : Base} {w : World} {st : St} {a : Act}

theorem fill_fold : ∀ (vs pre old post : List Value) (n : Nat) (cells : Array Value), cells.toList = pre ++ old ++ post → old.length = vs.length →
    ((vs.zipIdx n).foldl (fun (cs : Array Value) (p : Value × Nat) => cs.setIfInBounds (pre.length - n + p.2) p.1) cells).toList = pre ++ vs ++ post ∨ pre.length < n
  | [], pre, old, post, n, cells, h, hl => by
    left
    have : old = [] := List.eq_nil_of_length_eq_zero hl
    subst this
    simpa using h
  | v :: vs, pre, old, post, n, cells, h, hl => by
    by_cases hn : pre.length < n
    · exact .inr hn
    · left
      cases old with
      | nil => simp at hl
      | cons o old =>
        have h1 : (cells.setIfInBounds (pre.length - n + n) v).toList = (pre ++ [v]) ++ old ++ post := by
          rw [Array.toList_setIfInBounds, h, Nat.sub_add_cancel (by omega)]
          simp
        have := fill_fold vs (pre ++ [v]) old post (n + 1) _ h1 (by simpa using hl)
        rcases this with h2 | h2
        · have e : (pre ++ [v]).length - (n + 1) = pre.length - n := by simp
          rw [e] at h2
          simp only [List.zipIdx_cons, List.foldl_cons]
          simpa using h2
        · simp at h2; omega

theorem fill_one {cells : Array Value} {v : Value} {pre old post : List Value} {off : Nat} (h : cells.toList = pre ++ old ++ post) (hp : pre.length = off) (ho : old.length = v.cells.size) :
    (v.cells.zipIdx.foldl (fun (cs : Array Value) (p : Value × Nat) => cs.setIfInBounds (off + p.2) p.1) cells).toList = pre ++ v.cells.toList ++ post := by
  have := fill_fold v.cells.toList pre old post 0 cells h (by rw [ho]; simp)
  rcases this with h1 | h1
  · rw [← Array.foldl_toList, Array.toList_zipIdx]
    rw [Nat.sub_zero, hp] at h1
    exact h1
  · omega

theorem fill_parts {place : Nat → Option (Nat × Nat)} {Q : St → Prop} : ∀ {ps : List (Nat × Operand)} {ps' : List (Nat × Opd)} {zs : List I} {cells : Array Value} {k : List I → M} {G : Mem} {σ : Lab} {st : St},
    Rel G σ Fr w0 st a w → partsOk w0.n ps ps' = true → (takeParts ps' zs k).wp P Q st → RepIs G zs cells.toList →
    (∀ i z, zs[i]? = some z → place i = some (sizes (zs.take i), z.size)) →
    ∃ zs' cells' G' σ' st', G.le G' ∧ Rel G' σ' Fr w0 st' a w ∧ (k zs').wp P Q st' ∧ RepIs G' zs' cells'.toList ∧ Instr.fill place cells (ps.map fun p => (p.1, a.eval p.2)) = some cells'
  | [], [], zs, cells, k, G, σ, st, hr, _, hq, hz, _ => ⟨zs, cells, G, σ, st, Mem.le.refl G, hr, hq, hz, rfl⟩
  | (i, x) :: ps, (j, y) :: ps', zs, cells, k, G, σ, st, hr, ho, hq, hz, hpl => by
    simp only [partsOk, Bool.and_eq_true, beq_iff_eq] at ho
    obtain ⟨⟨rfl, ho⟩, hos⟩ := ho
    obtain ⟨u, G', σ', st', hG, hr', h1, hv⟩ := takeV_rep hr ho hq
    cases hzi : zs[i]? with
    | none => simp only [hzi] at h1; exact h1.elim
    | some z =>
      simp only [hzi] at h1
      obtain ⟨hsz, h1⟩ := h1
      obtain ⟨c1, c, c2, e1, e2, e3, hset⟩ := RepIs.nth i (RepIs.mono hG _ _ hz) hzi
      have hvc := hv.cells
      have hcl : c.length = (a.eval x).cells.size := by
        rw [RepI.length _ _ e3, ← hsz, ← RepI.length _ _ hvc]
        simp
      have hfold := fill_one (v := a.eval x) (off := sizes (zs.take i)) e1 e2 hcl
      have hplace := hpl i z hzi
      obtain ⟨zs', cells', G'', σ'', st'', hG', hr'', h2, h3, h4⟩ := fill_parts (place := place) hr' hos h1 (cells := (a.eval x).cells.zipIdx.foldl (fun (cs : Array Value) (p : Value × Nat) => cs.setIfInBounds (sizes (zs.take i) + p.2) p.1) cells)
        (by rw [hfold]; exact hset u _ hvc) (by
          intro i' z' hz'
          have hi : i < zs.length := (List.getElem?_eq_some_iff.1 hzi).1
          by_cases hii : i' = i
          · subst hii
            rw [List.getElem?_set_self hi] at hz'
            cases hz'
            rw [hplace, hsz, List.take_set_of_le (Nat.le_refl _)]
          · rw [List.getElem?_set_ne (Ne.symm hii)] at hz'
            rw [hpl i' z' hz']
            congr 2
            rw [List.take_set]
            by_cases hlt : i < i'
            · have : (zs.take i')[i]? = some z := by rw [List.getElem?_take, if_pos hlt]; exact hzi
              exact (sizes_set this hsz).symm
            · rw [List.set_eq_of_length_le (by rw [List.length_take]; omega)])
      refine ⟨zs', cells', G'', σ'', st'', hG.trans hG', hr'', h2, h3, ?_⟩
      simp only [List.map_cons, Instr.fill, hplace]
      have hszc : (a.eval x).cells.size = z.size := by rw [← hcl, RepI.length _ _ e3]
      have hle : ¬ (sizes (zs.take i) + (a.eval x).cells.size > cells.size) := by
        have : cells.size = cells.toList.length := by simp
        rw [this, e1, ← e2, ← hcl]
        simp
      rw [if_neg (by simp [hszc] at hle ⊢; omega)]
      exact h4
  | [], _ :: _, _, _, _, _, _, _, _, ho, _, _, _ => by cases ho
  | _ :: _, [], _, _, _, _, _, _, _, ho, _, _, _ => by simp [partsOk] at ho

/-- A struct's value out of its parts. -/
def semBuild (d : Option Nat) (zs : List I) (ps : List (Nat × Opd)) : M := takeParts ps zs fun l => setD d (.v (.agg l)) .done

def buildOk (P : Program) (t : TypeId) (zs : List I) : Bool := match P.underlying t, P.info? t with
  | some (.struct fs), some i => (match i.zero with
      | some z => match zIs zs z.cells.toList with
        | some [] => true
        | _ => false
      | none => false) &&
    fs.size == zs.length && (List.range zs.length).all fun j => match fs[j]?, zs[j]? with
      | some f, some z => f.offset == sizes (zs.take j) && match P.info? f.type with
        | some i => i.size == z.size
        | none => false
      | _, _ => false
  | _, _ => false

theorem mapM_places {fs : List Field} {sz : Field → Nat} (h : ∀ f ∈ fs, (sizeOf f.type).run P w = .ok (sz f) w) :
    (fs.mapM fun f => (do pure (f.offset, ← sizeOf f.type) : Sem (Nat × Nat))).run P w = .ok (fs.map fun f => (f.offset, sz f)) w := by
  induction fs with
  | nil => simp
  | cons f fs ih =>
    have h1 := h f (by simp)
    have h2 := ih fun g hg => h g (by simp [hg])
    simp only [List.mapM_cons, Sem.run_bind, h1, Result.andThen, Sem.run_pure, h2, List.map_cons]

theorem sound_build {o : Oper} {t : TypeId} {ps : Array (Nat × Operand)} {zs : List I} {ps' : List (Nat × Opd)} (ho : o.op = .build t ps) (hp : partsOk N ps.toList ps' = true) (ht : buildOk P t zs = true) :
    Sound P N o (semBuild o.dst zs ps') := by
  intro G σ Fr w0 st a w Q next E hN hr hw hn hdst
  subst hN
  unfold buildOk at ht
  split at ht
  · rename_i fs i hu hi
    simp only [Bool.and_eq_true, beq_iff_eq] at ht
    obtain ⟨⟨hz, hlen⟩, hall⟩ := ht
    cases hzv : i.zero with
    | none => simp [hzv] at hz
    | some z =>
      simp only [hzv] at hz
      have hz' : ∃ c, z.cells.toList = c ++ [] ∧ RepIs G zs c := by
        split at hz
        · rename_i h; exact zIs_spec G zs _ _ h
        · cases hz
      obtain ⟨c, hc, hz'⟩ := hz'
      rw [List.append_nil] at hc
      subst hc
      have hfield : ∀ j f zz, fs[j]? = some f → zs[j]? = some zz → f.offset = sizes (zs.take j) ∧ (sizeOf f.type).run P w = .ok zz.size w := by
        intro j f zz hf hzz
        have hj : j < zs.length := (List.getElem?_eq_some_iff.1 hzz).1
        have := List.all_eq_true.1 hall j (List.mem_range.2 hj)
        simp only [hf, hzz, Bool.and_eq_true, beq_iff_eq] at this
        obtain ⟨h1, h2⟩ := this
        refine ⟨h1, ?_⟩
        cases hfi : P.info? f.type with
        | none => simp [hfi] at h2
        | some jn =>
          simp only [hfi, beq_iff_eq] at h2
          simp [sizeOf, typeInfo, hfi, h2]
      let szf : Field → Nat := fun f => ((P.info? f.type).map (·.size)).getD 0
      have hszf : ∀ f ∈ fs.toList, (sizeOf f.type).run P w = .ok (szf f) w := by
        intro f hf
        obtain ⟨j, hj⟩ := List.mem_iff_getElem?.1 hf
        have hj' : j < zs.length := by
          have := (List.getElem?_eq_some_iff.1 hj).1
          simp at this; omega
        have h2 := (hfield j f zs[j] (by simpa using hj) (List.getElem?_eq_getElem hj')).2
        cases hfi : P.info? f.type with
        | none => simp [sizeOf, typeInfo, hfi] at h2
        | some jn => simp [sizeOf, typeInfo, hfi, szf]
      have hplaces : ∀ j zz, zs[j]? = some zz → (fs.toList.map fun f => (f.offset, szf f)).toArray[j]? = some (sizes (zs.take j), zz.size) := by
        intro j zz hzz
        have hj : j < zs.length := (List.getElem?_eq_some_iff.1 hzz).1
        have hjf : fs[j]? = some (fs[j]'(by omega)) := Array.getElem?_eq_getElem (by omega)
        obtain ⟨h1, h2⟩ := hfield j _ zz hjf hzz
        have h3 := hszf _ (by simp : fs[j]'(by omega) ∈ fs.toList)
        rw [h2] at h3
        have h4 : zz.size = szf (fs[j]'(by omega)) := by injection h3
        simp [hjf, h1, h4]
      obtain ⟨zs', cells', G', σ', st', hG, hr', h2, h3, h4⟩ := fill_parts (place := fun j => (fs.toList.map fun f => (f.offset, szf f)).toArray[j]?) hr hp hw hz' hplaces
      have hv : RepV G' (.agg zs') (.agg cells') := by
        unfold RepV
        rw [if_pos (show (I.agg zs').isAgg = true from rfl)]
        exact ⟨cells', rfl, h3⟩
      refine done_v hr' (fun G'' σ'' st'' a' w' hG'' => hn G'' σ'' st'' a' w' (hG.trans hG'')) hdst hv h2 ?_
      have hm := mapM_places (P := P) (w := w) hszf
      have hparts : (ps.map fun (p : Nat × Operand) => (p.1, a.eval p.2)).toList = ps.toList.map fun p => (p.1, a.eval p.2) := by simp
      have hm' : (fs.mapM fun f => (do pure (f.offset, ← sizeOf f.type) : Sem (Nat × Nat))).run P w = .ok (fs.toList.map fun f => (f.offset, szf f)).toArray w := by
        rw [Array.mapM_eq_mapM_toList, Sem.run_map, hm]
        rfl
      have hzero : (zeroValue t).run P w = .ok z w := by simp [zeroValue, typeInfo, hi, hzv]
      simp only [execOp, ho, Instr.build, Sem.run_bind, hzero, Result.andThen, run_underlying hu, hm', hparts, h4, Sem.run_pure]
  · cases ht
end
end Go.Ab
