/- One text of the proof whose last text says what is proved. -/
import Derived.Test.YtbpnhefkfamhaaaAb10
set_option linter.unusedVariables false
set_option linter.unusedSimpArgs false
namespace Go.Ab

/-- A variable is assigned. -/
def semAsg (d : Nat) (x : Opd) : M := match x with
  | .c x => setN d (.v x)
  | .nils e sz => setN d (.vec e sz [])
  | .t n => .get n fun ver sv => match sv with
    | .v x => setN d (.v x)
    | .vec e sz l => .need (n ≠ d) fun _ => .set n (ver + 1) .no (setN d (.vec e sz l))
    | .tup fs => .need (n ≠ d) fun _ => .set n (ver + 1) .no (setN d (.tup fs))
    | .st fs => .need (n ≠ d) fun _ => .set n (ver + 1) .no (setN d (.st fs))
    | .rp x => setN d (.rp x)
    | .no => setN d .no
    | .pt s k ver off r => .need (d ≠ s) fun _ => setN d (.pt s k ver off r)
    | .sub s k v m => .get s fun cur sv' => .need (v = cur) fun _ => match k, sv' with
      | 0, .vec e sz l => if s = d then .set d (cur + 1) (.vec e sz (l.take m)) .done else takeV x fun u => setN d (.v u)
      | _, _ => takeV x fun u => setN d (.v u)
    | .suf _ _ _ _ => .fail
    | .bor _ _ _ => takeV x fun u => setN d (.v u)
    | .box _ => .need (n ≠ d) fun _ => setN d (.pt n 0 ver 0 [])
    | .par h => .get h fun ver sv => .need (d ≠ h) fun _ => match sv with
      | .box _ => setN d (.pt h 0 ver 0 [])
      | .vec _ _ _ => takeV (.t n) fun u => setN d (.v u)
      | _ => .fail

section
variable {P : Program} {N : Nat} {G : Mem} {σ : Lab} {Fr : Mem} {w0 : Base} {w : World} {st : St} {a : Act}

theorem setN_eq (d : Nat) (sv : SV) : setN d sv = setD (some d) sv .done := rfl
theorem Rel.setNV {Q : St → Prop} {d : Nat} {x : I} {c : Value} (h : Rel G σ Fr w0 st a w) (hdn : d < w0.n) (hc : RepV G x c) (hq : (setN d (.v x)).wp P Q st) :
    ∃ σ' st', Rel G σ' Fr w0 st' (a.put (some d) c) w ∧ Q st' := h.setV (by rintro _ ⟨⟩; exact hdn) hc (by rw [setN_eq] at hq; exact hq)

/-- What a slot owns goes over, as M has it. -/
theorem Rel.moveM {Q : St → Prop} {n d ver : Nat} {sv : SV} {c : Value} (h : Rel G σ Fr w0 st a w) (hdn : d < w0.n) (hs : st[n]? = some (ver, sv)) (hne : n ≠ d) (hr : sv.root = none) (hc : RepOwn G σ w n sv c) (hnp : ∀ h, sv ≠ .par h)
    (hq : (M.set n (ver + 1) .no (setN d sv)).wp P Q st) : ∃ σ' st', Rel G σ' Fr w0 st' (a.put (some d) c) w ∧ Q st' := by
  simp only [M.wp, setN] at hq
  cases hd : st[d]? with
  | none =>
    have : (st.set n (ver + 1, SV.no))[d]? = none := by rw [List.getElem?_set_ne hne]; exact hd
    simp [this] at hq
  | some cur =>
    have : (st.set n (ver + 1, SV.no))[d]? = some cur := by rw [List.getElem?_set_ne hne]; exact hd
    simp only [this] at hq
    exact ⟨_, _, h.move hdn hs hd (Ne.symm hne) (Nat.lt_succ_self _) (Nat.lt_succ_self _) hr hc hnp, hq⟩

theorem exec_move {o : Oper} {x : Operand} (ho : o.op = .move x ∨ o.op = .assign x) : (execOp a.eval o).run P w = .ok (.value (a.eval x)) w := by
  rcases ho with ho | ho <;> simp [execOp, ho]

theorem sound_asg {o : Oper} {d : Nat} {x : Operand} {x' : Opd} (hd : o.dst = some d) (ho : o.op = .move x ∨ o.op = .assign x) (hx : opdOk N x x' = true) : Sound P N o (semAsg d x') := by
  intro G σ Fr w0 st a w Q next E hN hr hw hn hdst
  subst hN
  have hdd : ∀ d', some d = some d' → d' < w0.n := by rintro _ ⟨⟩; exact hdst d hd
  have fin : ∀ {G' σ' st'}, G.le G' → Rel G' σ' Fr w0 st' (a.put (some d) (a.eval x)) w → Q st' → o.wp P a w next E := fun hG h1 h2 =>
    wp_value (exec_move ho) (by rw [hd]; exact hn _ _ _ _ _ hG h1 h2)
  have viaTake : ∀ {n : Nat}, x' = .t n → (takeV (.t n) fun u => setN d (.v u)).wp P Q st → o.wp P a w next E := by
    intro n hx' hq
    subst hx'
    obtain ⟨u, G', σ', st', hG, hr', h1, hv⟩ := takeV_rep hr hx hq
    obtain ⟨σ'', st'', r1, r2⟩ := hr'.setNV (hdst d hd) hv h1
    exact fin hG r1 r2
  cases x' with
  | c i =>
    obtain ⟨σ', st', r1, r2⟩ := hr.setNV (hdst d hd) (opdOk_c hx G) hw
    exact fin (Mem.le.refl G) r1 r2
  | nils e sz =>
    obtain ⟨σ', st', r1, r2⟩ := hr.setD hdd (d := some d) (sv := .vec e sz []) (c := a.eval x) (fun _ _ _ _ => by
      rw [opdOk_nils hx]
      exact ⟨[], OwnsR.nil w e sz, rfl, by simp, by simp [Value.ownBlock]⟩) hw
    exact fin (Mem.le.refl G) r1 r2
  | t n =>
    obtain ⟨rfl, hnlt⟩ := opdOk_t hx
    have hw0 := hw
    simp only [semAsg, M.wp] at hw
    cases hs : st[n]? with
    | none => simp [hs] at hw
    | some cur =>
      obtain ⟨ver, sv⟩ := cur
      simp only [hs] at hw
      have hrep := hr.slot hnlt hs
      cases sv with
      | v y =>
        obtain ⟨σ', st', r1, r2⟩ := hr.setNV (hdst d hd) hrep hw
        exact fin (Mem.le.refl G) r1 r2
      | no =>
        obtain ⟨σ', st', r1, r2⟩ := hr.setD hdd (d := some d) (sv := .no) (c := a.eval (.tmp n)) (fun _ _ _ _ => trivial) hw
        exact fin (Mem.le.refl G) r1 r2
      | rp y =>
        obtain ⟨σ', st', r1, r2⟩ := hr.setD hdd (d := some d) (sv := .rp y) (c := a.eval (.tmp n)) (fun _ _ _ _ => hrep) hw
        exact fin (Mem.le.refl G) r1 r2
      | vec e sz l =>
        obtain ⟨hne, hw⟩ := hw
        obtain ⟨σ', st', r1, r2⟩ := hr.moveM (hdst d hd) hs hne rfl hrep (by intro _ e; cases e) hw
        exact fin (Mem.le.refl G) r1 r2
      | tup fs =>
        obtain ⟨hne, hw⟩ := hw
        obtain ⟨σ', st', r1, r2⟩ := hr.moveM (hdst d hd) hs hne rfl hrep (by intro _ e; cases e) hw
        exact fin (Mem.le.refl G) r1 r2
      | st fs =>
        obtain ⟨hne, hw⟩ := hw
        obtain ⟨σ', st', r1, r2⟩ := hr.moveM (hdst d hd) hs hne rfl hrep (by intro _ e; cases e) hw
        exact fin (Mem.le.refl G) r1 r2
      | box t =>
        obtain ⟨hne, hw⟩ := hw
        obtain ⟨b, cells, ty, h1, h2, _⟩ := hrep
        rw [setN_eq] at hw
        obtain ⟨σ', st', r1, r2⟩ := hr.setPt (d := some d) hdd hs (by simpa using Ne.symm hne) rfl h2 hw
        rw [← h1] at r1
        exact fin (Mem.le.refl G) r1 r2
      | pt s k ver' off r =>
        obtain ⟨hne, hw⟩ := hw
        obtain ⟨cur, h1, h2, h3⟩ := hrep
        obtain ⟨σ', st', r1, r2⟩ := hr.setD hdd (d := some d) (sv := .pt s k ver' off r) (c := a.eval (.tmp n)) (fun d' hd' ver _ => by
          refine ⟨cur, ?_, h2, fun e => ?_⟩
          · rw [List.getElem?_set_ne (by rintro rfl; cases hd'; exact hne rfl)]; exact h1
          · obtain ⟨b, h4, h5⟩ := h3 e
            exact ⟨b, Lab.drop_some.2 ⟨by rintro rfl; cases hd'; exact hne rfl, h4⟩, h5⟩) hw
        exact fin (Mem.le.refl G) r1 r2
      | bor s k v => exact viaTake rfl hw
      | par h =>
        obtain ⟨hv, hle⟩ := hr.pars n ver h hs
        rw [val_tmp (by rw [hr.n]; exact hnlt)] at hv
        simp only [M.wp] at hw
        cases hh : st[h]? with
        | none => simp [hh] at hw
        | some cur =>
          obtain ⟨ver', sv'⟩ := cur
          simp only [hh] at hw
          obtain ⟨hne, hw⟩ := hw
          have hrep' := hr.slots h ver' sv' hh
          rw [← hv] at hrep'
          split at hw
          · obtain ⟨b, cells, ty, h1, h2, _⟩ := hrep'
            rw [setN_eq] at hw
            obtain ⟨σ', st', r1, r2⟩ := hr.setPt (d := some d) hdd hh (by simpa using hne) rfl h2 hw
            rw [← h1] at r1
            exact fin (Mem.le.refl G) r1 r2
          · exact viaTake rfl hw
          · exact hw.elim
      | suf s k v m => exact hw.elim
      | sub s k v m =>
        obtain ⟨cur, h1, h2, h3⟩ := hrep
        simp only [M.wp, h1] at hw
        obtain ⟨hv, hw⟩ := hw
        split at hw
        · rename_i e sz l hsv
          split at hw
          · rename_i hsd
            subst hsd
            obtain ⟨e', sz', l', h4, h5⟩ := h3 hv
            obtain ⟨cv, csv⟩ := cur
            simp only at hsv
            subst hsv
            cases h4
            have hr' := hr.put (d := s) (ver := cv + 1) (hdst s hd) (new := .vec e sz (l.take m)) (c := a.eval (.tmp n)) hr.wok (Mem.le.refl G) h1 (Nat.lt_succ_self _) (fun s' _ => Kept.refl σ w s') h5
            exact fin (Mem.le.refl G) hr' hw
          · exact viaTake rfl hw
        · exact viaTake rfl hw

/-- A variable is assigned what nobody needs any more where it was: the slice goes over. -/
def semMov (d : Nat) (e : TypeId) (sz : Nat) (x : Opd) : M := match x with
  | .t n => .get n fun _ sv => match sv with
    | .bor _ _ _ => takeOwn e sz (.t n) fun l => setN d (.vec e sz l)
    | .sub _ _ _ _ => takeOwn e sz (.t n) fun l => setN d (.vec e sz l)
    | _ => semAsg d (.t n)
  | x => semAsg d x
theorem sound_mov {o : Oper} {d : Nat} {e : TypeId} {sz : Nat} {x : Operand} {x' : Opd} (hd : o.dst = some d) (ho : o.op = .move x ∨ o.op = .assign x) (hx : opdOk N x x' = true) : Sound P N o (semMov d e sz x') := by
  intro G σ Fr w0 st a w Q next E hN hr hw hn hdst
  subst hN
  have asg : (semAsg d x').wp P Q st → o.wp P a w next E := fun hq => sound_asg hd ho hx G σ Fr w0 st a w Q next E rfl hr hq hn hdst
  cases x' with
  | c y => exact asg hw
  | nils e sz => exact asg hw
  | t n =>
    simp only [semMov, M.wp] at hw
    cases hs : st[n]? with
    | none => simp [hs] at hw
    | some cur =>
      simp only [hs] at hw
      split at hw
      · obtain ⟨l, σ1, st1, hr1, h1, hfree⟩ := takeOwn_rep hr hx hw
        obtain ⟨σ', st', r1, r2⟩ := hr1.putOwned (w' := w) (row := none) (hdst d hd) ⟨rfl, rfl, rfl, Nat.le_refl _, fun _ _ _ => rfl⟩ (fun b hb => by cases hb) hfree h1
        exact wp_value (exec_move ho) (by rw [hd]; exact hn _ _ _ _ _ (Mem.le.refl G) r1 r2)
      · obtain ⟨l, σ1, st1, hr1, h1, hfree⟩ := takeOwn_rep hr hx hw
        obtain ⟨σ', st', r1, r2⟩ := hr1.putOwned (w' := w) (row := none) (hdst d hd) ⟨rfl, rfl, rfl, Nat.le_refl _, fun _ _ _ => rfl⟩ (fun b hb => by cases hb) hfree h1
        exact wp_value (exec_move ho) (by rw [hd]; exact hn _ _ _ _ _ (Mem.le.refl G) r1 r2)
      · exact asg hw

/-- The length. -/
def semLen (d : Option Nat) (str : Bool) (x : Opd) : M := match x with
  | .t n => .get n fun _ sv => match sv with
    | .v (.list l) => .need (str = false) fun _ => .fact (l.length ≤ maxLen) (setD d (.v (.int .i64 l.length)) .done)
    | .v (.str s) => .need (str = true) fun _ => .fact (s.length ≤ maxLen) (setD d (.v (.int .i64 s.length)) .done)
    | .vec _ _ l => .need (str = false) fun _ => .fact (l.length ≤ maxLen) (setD d (.v (.int .i64 l.length)) .done)
    | .bor s k v => .get s fun cur sv' => .need (v = cur ∧ str = false) fun _ => match sv'.vecAt k with
      | some (_, _, l) => .fact (l.length ≤ maxLen) (setD d (.v (.int .i64 l.length)) .done)
      | none => .fail
    | .sub s k v m => .get s fun cur sv' => .need (v = cur ∧ str = false) fun _ => match sv'.vecAt k with
      | some (_, _, l) => .fact ((l.take m).length ≤ maxLen) (setD d (.v (.int .i64 (l.take m).length)) .done)
      | none => .fail
    | _ => .fail
  | .c (.str s) => .need (str = true) fun _ => setD d (.v (.int .i64 s.length)) .done
  | _ => .fail
def lenOk (P : Program) (t : TypeId) (str : Bool) : Bool := match P.underlying t with
  | some .string => str
  | some (.slice _) => !str
  | _ => false

theorem VecAt.len {lab : Nat × Nat} {e : TypeId} {sz : Nat} {l : List I} {c : Value} (h : VecAt G σ w lab e sz l c) : ∃ ad cap, c = .slice ad l.length cap ∧ l.length ≤ maxLen := by
  obtain ⟨xs, h1, _⟩ := h
  rcases h1.2 with ⟨rfl, h0⟩ | ⟨g, cap, cur, rfl, _, _, h3, h4, _⟩
  · exact ⟨none, 0, by rw [h0], by rw [h0]; exact Nat.zero_le _⟩
  · exact ⟨_, cap, rfl, Nat.le_trans h3 h4⟩

theorem sound_len {o : Oper} {t : TypeId} {x : Operand} {x' : Opd} {str : Bool} (ho : o.op = .call { callee := .builtin .len, args := #[x], argTypes := #[t] }) (hx : opdOk N x x' = true) (ht : lenOk P t str = true) :
    Sound P N o (semLen o.dst str x') := by
  intro G σ Fr w0 st a w Q next E hN hr hw hn hdst
  subst hN
  have hsl : str = false → ∃ e, P.underlying t = some (.slice e) := by
    rintro rfl
    unfold lenOk at ht
    split at ht
    · cases ht
    · rename_i e h; exact ⟨e, h⟩
    · cases ht
  have hst : str = true → P.underlying t = some .string := by
    rintro rfl
    unfold lenOk at ht
    split at ht
    · assumption
    · cases ht
    · cases ht
  have sl : ∀ {ad : Option Addr} {n cap : Nat}, str = false → a.eval x = .slice ad n cap → (execOp a.eval o).run P w = .ok (.value (.int .i64 n)) w := by
    intro ad n cap hs he
    obtain ⟨e, hu⟩ := hsl hs
    simp [execOp, ho, resolve, invoke, builtin, Builtin.len_, run_underlying hu, he, goInt]
  have ss : ∀ {s : List UInt8}, str = true → a.eval x = .string ⟨⟨s⟩⟩ → (execOp a.eval o).run P w = .ok (.value (.int .i64 s.length)) w := by
    intro s hs he
    have hu := hst hs
    simp [execOp, ho, resolve, invoke, builtin, Builtin.len_, run_underlying hu, he, goInt]
    rfl
  cases x' with
  | c i =>
    cases i with
    | str s =>
      obtain ⟨h1, h2⟩ := hw
      have := RepV.str.1 (opdOk_c (a := a) hx G)
      exact done_v hr hn hdst (RepV.int.2 rfl) h2 (ss h1 this.1)
    | _ => exact hw.elim
  | nils e sz => exact hw.elim
  | t n =>
    obtain ⟨rfl, hnlt⟩ := opdOk_t hx
    simp only [semLen, M.wp] at hw
    cases hs : st[n]? with
    | none => simp [hs] at hw
    | some cur =>
      obtain ⟨ver, sv⟩ := cur
      simp only [hs] at hw
      have hrep := hr.slot hnlt hs
      split at hw
      · rename_i l
        obtain ⟨h1, h2⟩ := hw
        have hrep' : RepV G (.list l) (a.eval (.tmp n)) := hrep
        obtain ⟨ad, cap, hc, hl, hm, _⟩ := RepV.list.1 hrep'
        exact done_v hr hn hdst (RepV.int.2 rfl) (h2 (Nat.le_trans hl hm)) (sl h1 hc)
      · rename_i s
        obtain ⟨h1, h2⟩ := hw
        have hrep' : RepV G (.str s) (a.eval (.tmp n)) := hrep
        exact done_v hr hn hdst (RepV.int.2 rfl) (h2 (RepV.str.1 hrep').2) (ss h1 (RepV.str.1 hrep').1)
      · obtain ⟨h1, h2⟩ := hw
        obtain ⟨ad, cap, hc, hm⟩ := VecAt.len hrep
        exact done_v hr hn hdst (RepV.int.2 rfl) (h2 hm) (sl h1 hc)
      · rename_i s k v
        obtain ⟨cur, g1, g2, g3⟩ := hrep
        simp only [M.wp, g1] at hw
        obtain ⟨⟨hv, h1⟩, h2⟩ := hw
        obtain ⟨e, sz, l, g4, g5⟩ := g3 hv
        simp only [g4] at h2
        obtain ⟨ad, cap, hc, hm⟩ := VecAt.len g5
        exact done_v hr hn hdst (RepV.int.2 rfl) (h2 hm) (sl h1 hc)
      · rename_i s k v m
        obtain ⟨cur, g1, g2, g3⟩ := hrep
        simp only [M.wp, g1] at hw
        obtain ⟨⟨hv, h1⟩, h2⟩ := hw
        obtain ⟨e, sz, l, g4, g5⟩ := g3 hv
        simp only [g4] at h2
        obtain ⟨ad, cap, hc, hm⟩ := VecAt.len g5
        exact done_v hr hn hdst (RepV.int.2 rfl) (h2 hm) (sl h1 hc)
      · exact hw.elim
end
end Go.Ab
