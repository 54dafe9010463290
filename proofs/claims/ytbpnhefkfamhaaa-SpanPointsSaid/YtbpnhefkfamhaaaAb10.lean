/- One text of the proof whose last text says what is proved. -/
import Derived.Test.YtbpnhefkfamhaaaAb9
set_option linter.unusedVariables false
set_option linter.unusedSimpArgs false
namespace Go.Ab

/-- The slice at place k of a slot is given up. -/
def SV.dropAt : SV → Nat → SV
  | .vec _ _ _, 0 => .no
  | .box (.one (.vec _ _ _)), 1 => .box (.one (.i .und))
  | .box (.st fs), j + 1 => match fs[j]? with
    | some (.vec _ _ _) => .box (.st (fs.set j (.i .und)))
    | _ => .box (.st fs)
  | sv, _ => sv

section
variable {P : Program} {N : Nat} {G : Mem} {σ : Lab} {Fr : Mem} {w0 : Base} {w : World} {st : St} {a : Act}

theorem WOk.lose (h : WOk G σ Fr w0 w) (lab : Nat × Nat) : WOk G (σ.lose lab) Fr w0 w :=
  ⟨h.fixed, fun b l hb => h.own b l (Lab.lose_some.1 hb).2, fun b b' l hb hb' => h.inj b b' l (Lab.lose_some.1 hb).2 (Lab.lose_some.1 hb').2, h.frame, h.os, h.tape, h.output, h.size, h.apart⟩

theorem VecAt.one {lab : Nat × Nat} {e : TypeId} {sz : Nat} {l : List I} {c : Value} (h : VecAt G σ w lab e sz l c) : c.oneCell' = true := by
  obtain ⟨xs, h1, _⟩ := h
  rcases h1.2 with ⟨rfl, _⟩ | ⟨g, cap, cur, rfl, _⟩ <;> rfl

theorem Rel.dropAt {s k ver ver' : Nat} {sv : SV} {e : TypeId} {sz : Nat} {l : List I} (h : Rel G σ Fr w0 st a w) (hs : st[s]? = some (ver, sv)) (hv : sv.vecAt k = some (e, sz, l)) (hlt : ver < ver') :
    Rel G (σ.lose (s, k)) Fr w0 (st.set s (ver', sv.dropAt k)) a w := by
  refine Rel.self (new := sv.dropAt k) (ver := ver') h (h.wok.lose (s, k)) (Mem.le.refl G) hs hlt
    (fun s' hs' b k' hb => ⟨Lab.lose_some.2 ⟨fun e => hs' (by cases e; rfl), hb⟩, rfl⟩) ?_ (by
      intro h e
      unfold SV.dropAt at e
      repeat' split at e
      all_goals first | (subst e; rw [vecAt_par] at hv; cases hv) | cases e)
  · have hold := h.slots s ver sv hs
    generalize val a w0 s = c at hold ⊢
    unfold SV.vecAt at hv
    split at hv
    · trivial
    · cases hv
      obtain ⟨b, cells, ty, h1, h2, h3, h4⟩ := hold
      refine ⟨b, cells, ty, h1, Lab.lose_some.2 ⟨by simp, h2⟩, h3, ?_⟩
      obtain ⟨c', hc', h4⟩ := h4
      exact ⟨c', hc', h4.one⟩
    · rename_i fs j
      split at hv
      · rename_i e' sz' l' hf
        cases hv
        obtain ⟨b, cells, ty, h1, h2, h3, h4⟩ := hold
        simp only [SV.dropAt, hf]
        refine ⟨b, cells, ty, h1, Lab.lose_some.2 ⟨by simp, h2⟩, h3, ?_⟩
        refine RepFs.setF (Mem.le.refl G) h4 hf (fun b k hne hb => ⟨Lab.lose_some.2 ⟨fun e => hne (by cases e; omega), hb⟩, rfl⟩) fun c hc => ?_
        obtain ⟨c', rfl, hc⟩ := hc
        exact ⟨c', rfl, hc.one⟩
      · cases hv
    · cases hv

/-- An owned slice is taken over: whoever held it holds it no more. -/
def takeOwn (e : TypeId) (sz : Nat) (x : Opd) (k : List I → M) : M := match x with
  | .nils _ _ => k []
  | .c _ => .fail
  | .t n => .get n fun ver sv => match sv with
    | .vec e' sz' l => .need (e' = e ∧ sz' = sz) fun _ => .set n (ver + 1) .no (k l)
    | .bor s kk v => .get s fun cur sv' => .need (v = cur) fun _ => match sv'.vecAt kk with
      | some (e', sz', l) => .need (e' = e ∧ sz' = sz) fun _ => .set s (cur + 1) (sv'.dropAt kk) (k l)
      | none => .fail
    | .sub s kk v m => .get s fun cur sv' => .need (v = cur) fun _ => match sv'.vecAt kk with
      | some (e', sz', l) => .need (e' = e ∧ sz' = sz) fun _ => .set s (cur + 1) (sv'.dropAt kk) (k (l.take m))
      | none => .fail
    | _ => .fail

/-- A slice that nobody holds: its row is free. -/
def Free (G : Mem) (σ : Lab) (Fr : Mem) (w : World) (e : TypeId) (sz : Nat) (l : List I) (c : Value) : Prop :=
  ∃ xs, OwnsR w e sz c l.length xs ∧ RepIs G l xs ∧ (∀ x ∈ l, x.size = sz) ∧ ∀ b, c.ownBlock = some b → G b = none ∧ Fr b = none ∧ σ b = none

theorem VecAt.free {lab : Nat × Nat} {e : TypeId} {sz : Nat} {l : List I} {c : Value} (h : VecAt G σ w lab e sz l c) (hok : WOk G σ Fr w0 w) {σ' : Lab} (hσ : ∀ b, σ b = some lab → σ' b = none) : Free G σ' Fr w e sz l c := by
  obtain ⟨xs, h1, h2, h3, h4⟩ := h
  refine ⟨xs, h1, h2, h3, fun b hb => ?_⟩
  obtain ⟨k1, k2, _⟩ := hok.own b _ (h4 b hb)
  exact ⟨k1, k2, hσ b (h4 b hb)⟩

theorem takeOwn_rep {e : TypeId} {sz : Nat} {x : Operand} {y : Opd} {k : List I → M} {Q : St → Prop} (h : Rel G σ Fr w0 st a w) (ho : opdOk w0.n x y = true) (hq : (takeOwn e sz y k).wp P Q st) :
    ∃ l σ' st', Rel G σ' Fr w0 st' a w ∧ (k l).wp P Q st' ∧ Free G σ' Fr w e sz l (a.eval x) := by
  cases y with
  | c i => exact hq.elim
  | nils e' sz' =>
    refine ⟨[], σ, st, h, hq, [], ?_, rfl, by simp, ?_⟩
    · rw [opdOk_nils ho]; exact OwnsR.nil w e sz
    · rw [opdOk_nils ho]; simp [Value.ownBlock]
  | t n =>
    obtain ⟨rfl, hnlt⟩ := opdOk_t ho
    simp only [takeOwn, M.wp] at hq
    cases hs : st[n]? with
    | none => simp [hs] at hq
    | some cur =>
      obtain ⟨ver, sv⟩ := cur
      simp only [hs] at hq
      have hrep := h.slot hnlt hs
      cases sv with
      | vec e' sz' l =>
        obtain ⟨⟨rfl, rfl⟩, hq⟩ := hq
        refine ⟨l, σ.drop n, _, h.drop hs (Nat.lt_succ_self ver), hq, VecAt.free hrep h.wok fun b hb => ?_⟩
        cases hd : σ.drop n b with
        | none => rfl
        | some lab =>
          obtain ⟨s, k'⟩ := lab
          obtain ⟨h1, h2⟩ := Lab.drop_some.1 hd
          rw [hb] at h2; cases h2; exact absurd rfl h1
      | bor s kk v =>
        obtain ⟨cur, h1, h2, h3⟩ := hrep
        simp only [M.wp, h1] at hq
        obtain ⟨hv, hq⟩ := hq
        obtain ⟨e', sz', l, h4, h5⟩ := h3 hv
        simp only [h4, M.wp] at hq
        obtain ⟨⟨rfl, rfl⟩, hq⟩ := hq
        exact ⟨l, _, _, h.dropAt (k := kk) h1 h4 (Nat.lt_succ_self cur.1), hq, h5.free h.wok fun b hb => by simp [Lab.lose, hb]⟩
      | sub s kk v m =>
        obtain ⟨cur, h1, h2, h3⟩ := hrep
        simp only [M.wp, h1] at hq
        obtain ⟨hv, hq⟩ := hq
        obtain ⟨e', sz', l, h4, h5⟩ := h3 hv
        simp only [h4, M.wp] at hq
        obtain ⟨⟨rfl, rfl⟩, hq⟩ := hq
        exact ⟨l.take m, _, _, h.dropAt (k := kk) h1 h4 (Nat.lt_succ_self cur.1), hq, h5.free h.wok fun b hb => by simp [Lab.lose, hb]⟩
      | _ => exact hq.elim

/-- An owned slice is laid into a slot; at most a free row has turned. -/
theorem Rel.putOwned {Q : St → Prop} {d : Nat} {e : TypeId} {sz : Nat} {l : List I} {c' : Value} {w' : World} {row : Option Nat} (h : Rel G σ Fr w0 st a w) (hdn : d < w0.n) (hg : w.grownBy w' row)
    (hrow : ∀ b, row = some b → G b = none ∧ Fr b = none ∧ σ b = none) (hown : Free G σ Fr w' e sz l c') (hq : (setN d (.vec e sz l)).wp P Q st) :
    ∃ σ' st', Rel G σ' Fr w0 st' (a.put (some d) c') w' ∧ Q st' := by
  simp only [setN, M.wp] at hq
  cases hd : st[d]? with
  | none => simp [hd] at hq
  | some cur =>
    simp only [hd] at hq
    have lt : ∀ {b : Nat} {o : Obj}, w.heap[b]? = some o → b < w.heap.size := fun h => (Array.getElem?_eq_some_iff.1 h).1
    have keep : ∀ b lab, σ b = some lab → w'.heap[b]? = w.heap[b]? := fun b lab hb =>
      hg.block b (h.wok.own b lab hb).2.2 (by intro e; obtain ⟨_, _, k⟩ := hrow b e.symm; rw [k] at hb; cases hb)
    have hok : WOk G σ Fr w0 w' := by
      refine ⟨?_, ?_, h.wok.inj, ?_, hg.os.trans h.wok.os, hg.tape.trans h.wok.tape, hg.output.trans h.wok.output, Nat.le_trans h.wok.size hg.size, h.wok.apart⟩
      · intro b o hb
        have := h.wok.fixed b o hb
        rw [hg.block b (lt this) (by intro e; obtain ⟨k, _, _⟩ := hrow b e.symm; rw [k] at hb; cases hb)]
        exact this
      · intro b lab hb
        obtain ⟨h1, h2, h3⟩ := h.wok.own b lab hb
        exact ⟨h1, h2, Nat.lt_of_lt_of_le h3 hg.size⟩
      · intro b o hb
        have := h.wok.frame b o hb
        rw [hg.block b (lt this) (by intro e; obtain ⟨_, k, _⟩ := hrow b e.symm; rw [k] at hb; cases hb)]
        exact this
    obtain ⟨xs, k1, k2, k3, k4⟩ := hown
    cases hb : c'.ownBlock with
    | none =>
      refine ⟨_, _, h.put hdn (hok.drop d) (Mem.le.refl G) hd (Nat.lt_succ_self _) ?_ ?_, hq⟩
      · intro s' hs' b k hb'
        exact ⟨Lab.drop_some.2 ⟨hs', hb'⟩, keep b _ hb'⟩
      · exact ⟨xs, k1, k2, k3, fun b hb' => by rw [hb] at hb'; cases hb'⟩
    | some b =>
      obtain ⟨f1, f2, f3⟩ := k4 b hb
      have hlt := k1.lt b hb
      have hok' : WOk G ((σ.drop d).new b (d, 0)) Fr w0 w' := (hok.drop d).new f1 f2 hlt fun b' hb' => (Lab.drop_some.1 hb').1 rfl
      refine ⟨_, _, h.put hdn hok' (Mem.le.refl G) hd (Nat.lt_succ_self _) ?_ ?_, hq⟩
      · intro s' hs' b' k hb'
        exact ⟨Lab.new_old (by rintro rfl; rw [f3] at hb'; cases hb') (Lab.drop_some.2 ⟨hs', hb'⟩), keep b' _ hb'⟩
      · exact ⟨xs, k1, k2, k3, fun b' hb' => by rw [hb] at hb'; cases hb'; exact Lab.new_here⟩

/-- What append asks of the types. -/
def appOk (P : Program) (t e : TypeId) (sz bytes : Nat) : Bool := match P.underlying t with
  | some (.slice e') => e' == e && match P.info? e with
    | some i => i.size == sz && i.bytes == bytes && sz != 0 && match i.zero with
      | some z => z.cells.size == sz
      | none => false
    | none => false
  | _ => false

def semApp (d : Nat) (e : TypeId) (sz bytes : Nat) (x y : Opd) : M := takeV y fun u => match u with
  | .list ys => takeOwn e sz x fun l => .need ((l.length + ys.length) * bytes ≤ 140737488355328 ∧ l.length + ys.length ≤ maxLen ∧ (∀ u ∈ ys, u.size = sz) ∧ e < 1000000) fun _ => setN d (.vec e sz (l ++ ys))
  | _ => .fail

theorem run_append_of_nil' (t ty e : TypeId) (sz : Nat) {i : TypeInfo} (ht : P.underlying t = some (.slice e)) (hi : P.info? e = some i) (v : Value) (n : Nat) (xs : List Value) (hown : w.ownsRow 0 e sz v n xs) (c : Nat) :
    (Builtin.append_ #[t, t] ty #[v, .slice none 0 c]).run P w = .ok v w := by
  rcases hown.2 with ⟨rfl, rfl⟩ | ⟨g, cap, cur, rfl, _, _, hnc, _⟩
  · simp [Builtin.append_, run_underlying ht, sizeOf, typeInfo, hi, Builtin.lenOf, Builtin.firstCells]
  · simp [Builtin.append_, run_underlying ht, sizeOf, typeInfo, hi, Builtin.lenOf, Builtin.firstCells, hnc, storeCells]

theorem sound_app {o : Oper} {d : Nat} {t e : TypeId} {x y : Operand} {x' y' : Opd} {sz bytes : Nat} (hd : o.dst = some d)
    (ho : o.op = .call { callee := .builtin .append, args := #[x, y], argTypes := #[t, t] }) (hx : opdOk N x x' = true) (hy : opdOk N y y' = true) (ht : appOk P t e sz bytes = true) :
    Sound P N o (semApp d e sz bytes x' y') := by
  intro G0 σ0 Fr w0 st0 a w Q next E hN hr hw hn hdst
  subst hN
  obtain ⟨u, G, σ1, st1, hG, hr1, h1, hv⟩ := takeV_rep hr hy hw
  clear hw
  split at h1
  · rename_i ys
    obtain ⟨l, σ, st, hr2, h2, xs, k1, k2, k3, k4⟩ := takeOwn_rep hr1 hx h1
    obtain ⟨⟨hby, hmax, hsz, hbig⟩, h2⟩ := h2
    unfold appOk at ht
    split at ht
    · rename_i e' hu
      simp only [Bool.and_eq_true, beq_iff_eq] at ht
      obtain ⟨rfl, ht⟩ := ht
      split at ht
      · rename_i i hi
        simp only [Bool.and_eq_true, beq_iff_eq, bne_iff_ne, ne_eq] at ht
        obtain ⟨⟨⟨rfl, rfl⟩, h0⟩, ht⟩ := ht
        split at ht
        · rename_i z hz
          simp only [beq_iff_eq] at ht
          have exec : ∀ {v' w'}, (Builtin.append_ #[t, t] o.type #[a.eval x, a.eval y]).run P w = .ok v' w' → (execOp a.eval o).run P w = .ok (.value v') w' := by
            intro v' w' hrun
            simp [execOp, ho, resolve, invoke, builtin, hrun]
          have fin : ∀ {v' : Value} {w' : World} {row : Option Nat}, (Builtin.append_ #[t, t] o.type #[a.eval x, a.eval y]).run P w = .ok v' w' → w.grownBy w' row →
              (∀ b, row = some b → G b = none ∧ Fr b = none ∧ σ b = none) → Free G σ Fr w' e' i.size (l ++ ys) v' → o.wp P a w next E := by
            intro v' w' row hrun hgr hrow hfree
            obtain ⟨σ', st', r1, r2⟩ := hr2.putOwned (hdst d hd) hgr hrow hfree h2
            exact wp_value (exec hrun) (by rw [hd]; exact hn G σ' st' _ w' hG r1 r2)
          obtain ⟨ad, cap, hc, hlc, hcm, hcase⟩ := RepV.list.1 hv
          have hgrow0 : w.grownBy w none := ⟨rfl, rfl, rfl, Nat.le_refl _, fun _ _ _ => rfl⟩
          have own : ∀ (A : Addr) (news : List Value), ad = some A → news.length = ys.length * i.size → RepIs G ys news → (∀ j u, news[j]? = some u → w.cell? (A.add j) = some u) → o.wp P a w next E := by
            intro A news hA hl hrep hcells
            subst hA
            obtain ⟨v', w', hrun, q1, q2, _, q3⟩ := run_append_own_at (P := P) w 0 t o.type e' i z i.size i.bytes hu hi hz rfl rfl ht (by omega) (a.eval x) l.length xs (k1.to hbig) A ys.length cap news hl hcells (RepIs.one _ _ hrep) hmax hby (Nat.zero_le _)
            rw [← hc] at hrun
            refine fin hrun q2 (fun b hb => k4 b hb) ⟨xs ++ news, by rw [List.length_append]; exact .of q1, RepIs.append k2 hrep, ?_, ?_⟩
            · intro z hz
              rcases List.mem_append.1 hz with hz | hz
              · exact k3 z hz
              · exact hsz z hz
            · intro b hb
              rcases q3 with q3 | q3
              · rw [q3] at hb; exact k4 b hb
              · rw [q3] at hb; cases hb; exact hr2.wok.fresh (Nat.le_refl _)
          rcases hcase with rfl | ⟨b, off, bl, ty, fz, sz', rfl, hg, hsz', hle, hrep⟩
          · cases ad with
            | none =>
              have hrun := run_append_of_nil' (P := P) t o.type e' i.size hu hi (a.eval x) l.length xs (k1.to hbig) cap
              have hc0 : a.eval y = .slice none 0 cap := hc
              rw [← hc0] at hrun
              exact fin hrun hgrow0 (fun b hb => by cases hb) (by rw [List.append_nil]; exact ⟨xs, k1, k2, k3, k4⟩)
            | some A => exact own A [] rfl (by simp) rfl (by simp)
          · cases ys with
            | nil => exact own _ [] rfl (by simp) rfl (by simp)
            | cons y0 ys' =>
              have hszz : sz' = i.size := by rw [← hsz' y0 (by simp), hsz y0 (by simp)]
              subst hszz
              refine own _ _ rfl ?_ hrep ?_
              · rw [List.length_take, List.length_drop, Nat.min_eq_left]
                have : bl.toList.length = bl.size := by simp
                omega
              · intro j u hj
                have hh := hr2.wok.fixed b _ hg
                rw [add_lit, cell_of_row w b (off + j) bl ty fz hh]
                have : bl[off + j]? = bl.toList[off + j]? := by simp
                rw [this]
                rw [List.getElem?_take] at hj
                split at hj
                · rwa [List.getElem?_drop] at hj
                · cases hj
        · cases ht
      · cases ht
    · cases ht
  · exact h1.elim
end
end Go.Ab
