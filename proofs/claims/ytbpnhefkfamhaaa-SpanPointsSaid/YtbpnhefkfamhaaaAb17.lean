/- One text of the proof whose last text says what is proved. -/
import Derived.Test.YtbpnhefkfamhaaaAb16
set_option linter.unusedVariables false
set_option linter.unusedSimpArgs false
namespace Go.Ab
def callOk (P : Program) (f : FuncId) : Bool := match P.funcs[f]? with
  | some fn => fn.body.isSome && !(fn.name == "runtime.NumGoroutine")
  | none => false
section
variable {P : Program} {N : Nat} {G : Mem} {σ : Lab} {Fr : Mem} {w0 : Base} {w : World} {st : St} {a : Act}

theorem call_run {o : Oper} {f : FuncId} {args : Array Operand} {ts : Array TypeId} (ho : o.op = .call { callee := .value (.func f), args, argTypes := ts }) (hf : callOk P f = true) :
    (execOp a.eval o).run P w = .ok (.enter f (args.map a.eval)) w := by
  unfold callOk at hf
  split at hf
  · rename_i fn hfn
    simp only [Bool.and_eq_true, Bool.not_eq_true', beq_eq_false_iff_ne, ne_eq] at hf
    obtain ⟨h1, h2⟩ := hf
    have h4 : fn.body ≠ none := by rintro e; rw [e] at h1; cases h1
    simp [execOp, ho, resolve, Deferred.ofValue, Act.eval, invoke, callFunc, hfn, h2, h4]
  · cases hf

theorem wok_base {B : Base} {w1 : World} (h : WOk G σ Fr ⟨w1, 0, #[]⟩ w) (hb : w1.os = B.w.os ∧ w1.tape = B.w.tape ∧ w1.output = B.w.output ∧ B.w.heap.size ≤ w1.heap.size) : WOk G σ Fr B w :=
  ⟨h.fixed, h.own, h.inj, h.frame, h.os.trans hb.1, h.tape.trans hb.2.1, h.output.trans hb.2.2.1, Nat.le_trans hb.2.2.2 h.size, h.apart⟩

/-- What a call does. -/
theorem call_rel {f : FuncId} {svs : List SV} {rs : List (Option Nat)} {xs : List Operand} {Post : SV → List SV → Prop} (hr : Rel G σ Fr w0 st a w) (hn : (somes rs).Nodup)
    (hl1 : svs.length = xs.length) (hl2 : rs.length = xs.length)
    (hargs : ∀ (i : Nat) (sv : SV) (x : Operand), svs[i]? = some sv → xs[i]? = some x → (rs[i]? = some none ∧ ((∃ u, sv = .v u ∧ RepV G u (a.eval x)) ∨ ∃ e sz, sv = .vec e sz [] ∧ a.eval x = .slice none 0 0)) ∨ (∃ s ver, rs[i]? = some (some s) ∧ st[s]? = some (ver, sv) ∧ sv.lends = true ∧ RepOwn G σ w s sv (a.eval x) ∧ a.eval x = val a w0 s))
    (hfn : Fn P f svs Post) :
    Calls P f (xs.map a.eval).toArray w fun e w' => ∃ r outs c G' σ', e = .returned c ∧ Post r outs ∧ G.le G' ∧ WOk G' (σ.outer σ' rs) Fr w0 w' ∧ r.root = none ∧ RepOwn G' σ' w' svs.length r c ∧ outs.length = rs.length ∧
      (∀ s, s ∉ somes rs → Kept σ (σ.outer σ' rs) w w' s) ∧
      (∀ (i : Nat) s sv, rs[i]? = some (some s) → outs[i]? = some sv → sv.root = none ∧ RepOwn G' (σ.outer σ' rs) w' s sv (a.eval (xs.getD i (.tmp 0)))) ∧
      (∀ b k, σ' b = some (svs.length, k) → σ.outer σ' rs b = none ∧ G' b = none ∧ Fr b = none ∧ b < w'.heap.size) ∧ (∀ b b' k, σ' b = some (svs.length, k) → σ' b' = some (svs.length, k) → b = b') := by
  have hw := hr.wok
  have innerSome : ∀ {b i k}, σ.inner rs b = some (i, k) → ∃ s, σ b = some (s, k) ∧ rs[i]? = some (some s) := by
    intro b i k h
    unfold Lab.inner at h
    split at h
    · rename_i s k' hb
      split at h
      · rename_i j hj
        cases h
        exact ⟨s, hb, idxOf_inv hj⟩
      · cases h
    · cases h
  have hok : WOk G (σ.inner rs) (Fr.inner σ w rs) ⟨w, 0, #[]⟩ w := by
    refine ⟨hw.fixed, ?_, ?_, ?_, rfl, rfl, rfl, Nat.le_refl _, ?_⟩
    · rintro b ⟨i, k⟩ hb
      obtain ⟨s, h1, h2⟩ := innerSome hb
      obtain ⟨h3, h4, h5⟩ := hw.own b _ h1
      refine ⟨h3, ?_, h5⟩
      unfold Mem.inner
      simp [h1, List.mem_of_getElem? h2]
    · rintro b b' ⟨i, k⟩ hb hb'
      obtain ⟨s, h1, h2⟩ := innerSome hb
      obtain ⟨s', h3, h4⟩ := innerSome hb'
      rw [h2] at h4
      cases h4
      exact hw.inj b b' _ h1 h3
    · intro b o hb
      unfold Mem.inner at hb
      split at hb
      · split at hb
        · cases hb
        · exact hb
      · exact hw.frame b o hb
    · intro b o hb
      unfold Mem.inner at hb
      split at hb
      · rename_i h; exact (hw.own b _ h).1
      · exact hw.apart b o hb
  have hin : ∀ i sv, svs[i]? = some sv → sv.root = none ∧ RepOwn G (σ.inner rs) w i sv (((xs.map a.eval).toArray).getD i undef) := by
    intro i sv hi
    have hlt : i < xs.length := by rw [← hl1]; exact (List.getElem?_eq_some_iff.1 hi).1
    have hx : xs[i]? = some xs[i] := List.getElem?_eq_getElem hlt
    have hc : ((xs.map a.eval).toArray).getD i undef = a.eval xs[i] := by simp [hlt]
    rw [hc]
    rcases hargs i sv _ hi hx with ⟨h1, ⟨u, rfl, h2⟩ | ⟨e, sz, rfl, h2⟩⟩ | ⟨s, ver, h1, h2, h3, h4, h4'⟩
    · exact ⟨rfl, h2⟩
    · refine ⟨rfl, [], ?_, rfl, by simp, ?_⟩
      · rw [h2]; exact OwnsR.nil w e sz
      · rw [h2]; simp [Value.ownBlock]
    · refine ⟨SV.lends_root h3, RepOwn.tr h4 (Mem.le.refl G) fun b k hb => ⟨?_, rfl⟩⟩
      simp [Lab.inner, hb, idxOf_some hn h1]
  have hcall := hfn G (σ.inner rs) (Fr.inner σ w rs) w (xs.map a.eval).toArray hok (by simp [hl1]) hin
  refine hcall.mono ?_
  rintro e w' ⟨r, outs, c, G', σ', he, hp, hG, hok', hroot, hrep, hlen, houts⟩
  have far : ∀ {b s k}, σ b = some (s, k) → s ∉ somes rs → Fr.inner σ w rs b = w.heap[b]? ∧ σ' b = none ∧ ∃ o, w.heap[b]? = some o := by
    intro b s k hb hs
    have h1 : Fr.inner σ w rs b = w.heap[b]? := by
      unfold Mem.inner
      simp [hb, mem_of_some, hs]
    have h2 : ∃ o, w.heap[b]? = some o := ⟨_, Array.getElem?_eq_getElem (hw.own b _ hb).2.2⟩
    refine ⟨h1, ?_, h2⟩
    cases h3 : σ' b with
    | none => rfl
    | some lab =>
      have := (hok'.own b lab h3).2.1
      rw [h1] at this
      obtain ⟨o, ho⟩ := h2
      rw [ho] at this
      cases this
  have farOuter : ∀ {b s k}, σ b = some (s, k) → s ∉ somes rs → σ.outer σ' rs b = some (s, k) := by
    intro b s k hb hs
    unfold Lab.outer
    simp [hb, mem_of_some, hs]
  have outerInv : ∀ {b s k}, σ.outer σ' rs b = some (s, k) → (s ∉ somes rs ∧ σ b = some (s, k)) ∨ ∃ i, σ' b = some (i, k) ∧ rs[i]? = some (some s) := by
    intro b s k h
    unfold Lab.outer at h
    split at h
    · rename_i s' k' hb
      split at h
      · split at h
        · rename_i i k'' hi
          split at h
          · rename_i s'' hs''
            cases h
            exact .inr ⟨i, hi, hs''⟩
          · cases h
        · cases h
      · rename_i hs'
        cases h
        exact .inl ⟨by rwa [mem_of_some] at hs', hb⟩
    · split at h
      · rename_i i k'' hi
        split at h
        · rename_i s'' hs''
          cases h
          exact .inr ⟨i, hi, hs''⟩
        · cases h
      · cases h
  have innerOuter : ∀ {b i s k}, σ' b = some (i, k) → rs[i]? = some (some s) → σ.outer σ' rs b = some (s, k) := by
    intro b i s k h1 h2
    unfold Lab.outer
    split
    · rename_i s' k' hb
      split
      · simp [h1, h2]
      · rename_i hs'
        obtain ⟨_, h3, _⟩ := far hb (by rwa [mem_of_some] at hs')
        rw [h1] at h3
        cases h3
    · simp [h1, h2]
  refine ⟨r, outs, c, G', σ', he, hp, hG, ?_, hroot, hrep, by rw [hlen, hl1, hl2], ?_, ?_, ?_, ?_⟩
  · refine ⟨hok'.fixed, ?_, ?_, ?_, hok'.os.trans hw.os, hok'.tape.trans hw.tape, hok'.output.trans hw.output, Nat.le_trans hw.size hok'.size, ?_⟩
    · rintro b ⟨s, k⟩ hb
      rcases outerInv hb with ⟨h1, h2⟩ | ⟨i, h1, h2⟩
      · obtain ⟨h3, h4, o, h5⟩ := far h2 h1
        obtain ⟨h6, h7, h8⟩ := hw.own b _ h2
        rw [h5] at h3
        have h9 := hok'.frame b o h3
        exact ⟨hok'.apart b o h3, h7, (Array.getElem?_eq_some_iff.1 h9).1⟩
      · obtain ⟨h3, h4, h5⟩ := hok'.own b _ h1
        refine ⟨h3, ?_, h5⟩
        cases hf : Fr b with
        | none => rfl
        | some o =>
          have hσ : σ b = none := by
            cases hh : σ b with
            | none => rfl
            | some lab => have := (hw.own b _ hh).2.1; rw [hf] at this; cases this
          have : Fr.inner σ w rs b = some o := by unfold Mem.inner; simp [hσ, hf]
          rw [this] at h4
          cases h4
    · rintro b b' ⟨s, k⟩ hb hb'
      rcases outerInv hb with ⟨h1, h2⟩ | ⟨i, h1, h2⟩ <;> rcases outerInv hb' with ⟨h3, h4⟩ | ⟨j, h3, h4⟩
      · exact hw.inj b b' _ h2 h4
      · exact absurd (mem_of_some.1 (List.mem_of_getElem? h4)) h1
      · exact absurd (mem_of_some.1 (List.mem_of_getElem? h2)) h3
      · have e1 := idxOf_some hn h2
        have e2 := idxOf_some hn h4
        rw [e1] at e2
        cases e2
        exact hok'.inj b b' _ h1 h3
    · intro b o hb
      have hσ : σ b = none := by
        cases hh : σ b with
        | none => rfl
        | some lab => have := (hw.own b _ hh).2.1; rw [hb] at this; cases this
      exact hok'.frame b o (by unfold Mem.inner; simp [hσ, hb])
    · intro b o hb
      have hσ : σ b = none := by
        cases hh : σ b with
        | none => rfl
        | some lab => have := (hw.own b _ hh).2.1; rw [hb] at this; cases this
      exact hok'.apart b o (by unfold Mem.inner; simp [hσ, hb])
  · intro s hs b k hb
    obtain ⟨h3, h4, o, h5⟩ := far hb hs
    refine ⟨farOuter hb hs, ?_⟩
    rw [h5] at h3 ⊢
    exact hok'.frame b o h3
  · intro i s sv h1 h2
    obtain ⟨h3, h4⟩ := houts i sv h2
    refine ⟨h3, ?_⟩
    have hlt : i < xs.length := by rw [← hl2]; exact (List.getElem?_eq_some_iff.1 h1).1
    have hc : ((xs.map a.eval).toArray).getD i undef = a.eval (xs.getD i (.tmp 0)) := by simp [hlt]
    rw [← hc]
    exact RepOwn.tr h4 (Mem.le.refl G') fun b k hb => ⟨innerOuter hb h1, rfl⟩
  · intro b k hb
    have hnone : rs[svs.length]? = none := by rw [List.getElem?_eq_none]; omega
    obtain ⟨h3, h4, h5⟩ := hok'.own b _ hb
    have hout : σ.outer σ' rs b = none := by
      cases hh : σ.outer σ' rs b with
      | none => rfl
      | some lab =>
        obtain ⟨s, k'⟩ := lab
        rcases outerInv hh with ⟨h1, h2⟩ | ⟨i, h1, h2⟩
        · obtain ⟨_, h6, _⟩ := far h2 h1; rw [hb] at h6; cases h6
        · rw [hb] at h1; cases h1; rw [hnone] at h2; cases h2
    refine ⟨hout, h3, ?_, h5⟩
    cases hf : Fr b with
    | none => rfl
    | some o =>
      have hσ : σ b = none := by
        cases hh : σ b with
        | none => rfl
        | some lab => have := (hw.own b _ hh).2.1; rw [hf] at this; cases this
      have : Fr.inner σ w rs b = some o := by unfold Mem.inner; simp [hσ, hf]
      rw [this] at h4
      cases h4
  · intro b b' k h1 h2
    exact hok'.inj b b' _ h1 h2

/-- A call's step: whatever names the function. -/
theorem call_core {o : Oper} {f : FuncId} {args : Array Operand} {as : List (Bool × Opd)} {Q : St → Prop} {next : Act → World → Prop} {E : Exit → Act → World → Prop} (hrun : (execOp a.eval o).run P w = .ok (.enter f (args.map a.eval)) w)
    (ha : argsOk w0.n args.toList as = true) (hr : Rel G σ Fr w0 st a w) (hw : (semCall o.dst f as).wp P Q st) (hn : ∀ G' σ' st' a' w', G.le G' → Rel G' σ' Fr w0 st' a' w' → Q st' → next a' w') (hdst : ∀ d, o.dst = some d → d < w0.n) : o.wp P a w next E := by
  obtain ⟨us, G1, σ1, st1, hG1, hr1, h1, hul, hu⟩ := takeImm_rep hr ha hw
  obtain ⟨svs, rs, h2, hl1, hl2, hargs⟩ := lendAll_rep hr1 ha hul hu h1
  obtain ⟨⟨hnd, hdn⟩, ⟨Post, hfn, h2⟩⟩ := h2
  have hc := call_rel (xs := args.toList) hr1 hnd hl1 hl2 hargs hfn
  unfold Oper.wp
  rw [hrun, Oper.upon_enter]
  have he : (args.toList.map a.eval).toArray = args.map a.eval := by
    apply Array.ext'
    simp only [Array.toList_map]
  rw [he] at hc
  refine hc.mono ?_
  rintro e w' ⟨r, outs, c, G', σ', rfl, hp, hG', hok, hroot, hrep, hol, hkept, hback, hnew, hinj⟩
  have h3 := h2 r outs hp
  obtain ⟨hrp, hop, h3⟩ := h3
  obtain ⟨st2, h4, hlen2, hsame, hset⟩ := putBack_spec hol.symm hnd h3
  have hr2 : Rel G' (σ1.outer σ' rs) Fr w0 st2 a w' := by
    refine hr1.many hok hG' hlen2 fun s => ?_
    by_cases hs : s ∈ somes rs
    · right
      obtain ⟨i, hi⟩ := List.mem_iff_getElem?.1 (mem_of_some.2 hs)
      have hio : i < outs.length := by rw [hol]; exact (List.getElem?_eq_some_iff.1 hi).1
      have hoi : outs[i]? = some outs[i] := List.getElem?_eq_getElem hio
      obtain ⟨ver, old, k1, k2⟩ := hset i s _ hi hoi
      obtain ⟨k3, k4⟩ := hback i s _ hi hoi
      refine ⟨ver, old, ver + 1, _, k1, k2, Nat.lt_succ_self _, k3, hop _ (List.getElem_mem hio), ?_⟩
      have hxi : i < args.toList.length := by rw [← hl2]; exact (List.getElem?_eq_some_iff.1 hi).1
      have hsi : i < svs.length := by rw [hl1]; exact hxi
      rcases hargs i svs[i] args.toList[i] (List.getElem?_eq_getElem hsi) (List.getElem?_eq_getElem hxi) with ⟨q1, _⟩ | ⟨s', ver', q1, q2, q3, q4, q5⟩
      · rw [hi] at q1; cases q1
      · rw [hi] at q1
        cases q1
        have : args.toList.getD i (.tmp 0) = args.toList[i] := by rw [List.getD, List.getElem?_eq_getElem hxi]; rfl
        rw [this, q5] at k4
        exact k4
    · exact .inl ⟨hsame s hs, hkept s hs⟩
  have hfin : ∃ σ3 st3, Rel G' σ3 Fr w0 st3 (a.put o.dst c) w' ∧ Q st3 := by
    cases hd : o.dst with
    | none => rw [hd] at h4; exact ⟨_, st2, hr2, h4⟩
    | some d =>
      rw [hd] at h4
      simp only [Ab.setD, M.wp] at h4
      cases hdd : st2[d]? with
      | none => simp [hdd] at h4
      | some cur =>
        simp only [hdd] at h4
        let σ3 : Lab := fun b => match σ' b with
          | some (i, k) => if i = svs.length then some (d, k) else (σ1.outer σ' rs).drop d b
          | none => (σ1.outer σ' rs).drop d b
        have inv3 : ∀ {b lab}, σ3 b = some lab → (∃ k, σ' b = some (svs.length, k) ∧ lab = (d, k)) ∨ ((σ1.outer σ' rs).drop d b = some lab ∧ ∀ k, σ' b ≠ some (svs.length, k)) := by
          intro b lab hb
          simp only [σ3] at hb
          split at hb
          · rename_i i k hi
            split at hb
            · rename_i e
              cases hb
              exact .inl ⟨k, by rw [hi, e], rfl⟩
            · rename_i e
              exact .inr ⟨hb, fun k' hk' => by rw [hi] at hk'; cases hk'; exact e rfl⟩
          · rename_i hi
            exact .inr ⟨hb, fun k' hk' => by rw [hi] at hk'; cases hk'⟩
        have here3 : ∀ {b k}, σ' b = some (svs.length, k) → σ3 b = some (d, k) := by
          intro b k hb
          simp only [σ3, hb, if_true]
        have far3 : ∀ {b lab}, (σ1.outer σ' rs).drop d b = some lab → σ3 b = some lab := by
          intro b lab hb
          have hout := Lab.drop_le hb
          simp only [σ3]
          split
          · rename_i i k hi
            split
            · rename_i e
              subst e
              rw [(hnew b k hi).1] at hout
              cases hout
            · exact hb
          · exact hb
        have hok3 : WOk G' σ3 Fr w0 w' := by
          refine ⟨hok.fixed, ?_, ?_, hok.frame, hok.os, hok.tape, hok.output, hok.size, hok.apart⟩
          · intro b lab hb
            rcases inv3 hb with ⟨k, h5, rfl⟩ | ⟨h5, _⟩
            · exact (hnew b k h5).2
            · exact hok.own b lab (Lab.drop_le h5)
          · intro b b' lab hb hb'
            rcases inv3 hb with ⟨k, h5, rfl⟩ | ⟨h5, h6⟩ <;> rcases inv3 hb' with ⟨k', h7, h8⟩ | ⟨h7, h8⟩
            · cases h8; exact hinj b b' k h5 h7
            · exact absurd rfl (Lab.drop_some.1 h7).1
            · subst h8; exact absurd rfl (Lab.drop_some.1 h5).1
            · exact hok.inj b b' lab (Lab.drop_le h5) (Lab.drop_le h7)
        refine ⟨σ3, _, hr2.put (hdst d hd) hok3 (Mem.le.refl G') hdd (Nat.lt_succ_self _) ?_ ?_ (fun h e => absurd e (hrp h)), h4⟩
        · intro s' hs' b k hb
          exact ⟨far3 (Lab.drop_some.2 ⟨hs', hb⟩), rfl⟩
        · rw [RepSV.own hroot]
          exact RepOwn.tr hrep (Mem.le.refl G') fun b k hb => ⟨here3 hb, rfl⟩
  obtain ⟨σ3, st3, q1, q2⟩ := hfin
  exact hn G' σ3 st3 _ w' (hG1.trans hG') q1 q2
theorem sound_call {o : Oper} {f : FuncId} {args : Array Operand} {ts : Array TypeId} {as : List (Bool × Opd)} (ho : o.op = .call { callee := .value (.func f), args, argTypes := ts }) (hf : callOk P f = true)
    (ha : argsOk N args.toList as = true) : Sound P N o (semCall o.dst f as) := by
  intro G σ Fr w0 st a w Q next E hN hr hw hn hdst
  subst hN
  exact call_core (call_run ho hf) ha hr hw hn hdst

theorem RepV.fn {f : FuncId} {c : Value} : RepV G (.fn f) c ↔ c = .func (.func f) #[] #[] := by
  unfold RepV
  rw [if_neg (by simp [I.isAgg])]
  simp only [RepI, List.cons.injEq, and_true]
/-! ### A call that is only shown what is handed over: all that was there lies fixed meanwhile; what comes back leads nowhere. -/
def plain : I → Bool
  | .int _ _ | .bool _ | .str _ | .fn _ => true
  | _ => false
def peekA (x : Opd) (k : I → M) : M := match x with
  | .c x => k x
  | .nils _ _ => k (.list [])
  | .t n => .get n fun _ sv => match sv with
    | .v x => k x
    | .vec _ _ l => k (.list l)
    | .bor s kk v => .get s fun cur sv' => .need (v = cur) fun _ => match sv'.vecAt kk with
      | some (_, _, l) => k (.list l)
      | none => .fail
    | _ => .fail
def peekAll : List (Bool × Opd) → (List I → M) → M
  | [], k => k []
  | (_, x) :: as, k => peekA x fun u => peekAll as fun us => k (u :: us)
def semPeek (d : Option Nat) (f : FuncId) (as : List (Bool × Opd)) : M := peekAll as fun us => .call f (us.map .v) fun r _ => match r with
  | .v u => .need (plain u = true) fun _ => setD d (.v u) .done
  | _ => .fail
def wholeMem (w : World) : Mem := fun b => w.heap[b]?
theorem plain_rep {G G' : Mem} {u : I} {c : Value} (h : plain u = true) (hr : RepV G u c) : RepV G' u c := by
  cases u with
  | int k n => rw [RepV.int] at hr ⊢; exact hr
  | bool b => rw [RepV.bool] at hr ⊢; exact hr
  | str s => rw [RepV.str] at hr ⊢; exact hr
  | fn f => rw [RepV.fn] at hr ⊢; exact hr
  | _ => cases h
theorem peekA_rep {x : Operand} {y : Opd} {k : I → M} {Q : St → Prop} (h : Rel G σ Fr w0 st a w) (ho : opdOk w0.n x y = true) (hq : (peekA y k).wp P Q st) : ∃ u, (k u).wp P Q st ∧ RepV (wholeMem w) u (a.eval x) := by
  have hle : G.le (wholeMem w) := fun b o hb => h.wok.fixed b o hb
  have vec : ∀ {lab : Nat × Nat} {e : TypeId} {sz : Nat} {l : List I} {c : Value}, VecAt G σ w lab e sz l c → RepV (wholeMem w) (.list l) c := fun hv => hv.list hle fun b _ => rfl
  cases y with
  | c i => exact ⟨i, hq, opdOk_c ho (wholeMem w)⟩
  | nils e sz =>
    refine ⟨.list [], hq, ?_⟩
    rw [opdOk_nils ho]
    exact RepV.list.2 ⟨none, 0, rfl, Nat.le_refl _, Nat.zero_le _, .inl rfl⟩
  | t n =>
    obtain ⟨rfl, hnlt⟩ := opdOk_t ho
    simp only [peekA, M.wp] at hq
    cases hs : st[n]? with
    | none => simp [hs] at hq
    | some cur =>
      obtain ⟨ver, sv⟩ := cur
      simp only [hs] at hq
      have hrep := h.slot hnlt hs
      cases sv with
      | v x => exact ⟨x, hq, RepV.mono hle hrep⟩
      | vec e sz l => exact ⟨_, hq, vec hrep⟩
      | bor s kk v =>
        obtain ⟨cur, g1, g2, g3⟩ := hrep
        simp only [M.wp, g1] at hq
        obtain ⟨hv, hq⟩ := hq
        obtain ⟨e, sz, l, g4, g5⟩ := g3 hv
        simp only [g4] at hq
        exact ⟨_, hq, vec g5⟩
      | _ => exact hq.elim
theorem peekAll_rep {Q : St → Prop} (h : Rel G σ Fr w0 st a w) : ∀ {xs : List Operand} {as : List (Bool × Opd)} {k : List I → M}, argsOk w0.n xs as = true → (peekAll as k).wp P Q st →
    ∃ us, (k us).wp P Q st ∧ us.length = xs.length ∧ ∀ (i : Nat) (u : I) (x : Operand), us[i]? = some u → xs[i]? = some x → RepV (wholeMem w) u (a.eval x)
  | [], [], k, _, hq => ⟨[], hq, rfl, by simp⟩
  | x :: xs, (_, y) :: as, k, ho, hq => by
    simp only [argsOk, Bool.and_eq_true] at ho
    obtain ⟨u, h1, h2⟩ := peekA_rep h ho.1 hq
    obtain ⟨us, h3, h4, h5⟩ := peekAll_rep h ho.2 h1
    refine ⟨u :: us, h3, by simp [h4], ?_⟩
    intro i u' x' h6 h7
    cases i with
    | zero => cases h6; cases h7; exact h2
    | succ i => exact h5 i u' x' h6 h7
  | [], _ :: _, _, ho, _ => by cases ho
  | _ :: _, [], _, ho, _ => by simp [argsOk] at ho
theorem sound_peek {o : Oper} {f : FuncId} {args : Array Operand} {ts : Array TypeId} {as : List (Bool × Opd)} (ho : o.op = .call { callee := .value (.func f), args, argTypes := ts }) (hf : callOk P f = true)
    (ha : argsOk N args.toList as = true) : Sound P N o (semPeek o.dst f as) := by
  intro G σ Fr w0 st a w Q next E hN hr hw hn hdst
  subst hN
  obtain ⟨us, ⟨Post, hfn, h1⟩, h2, h3⟩ := peekAll_rep hr ha hw
  have hw0 : WOk (wholeMem w) (fun _ => none) (fun _ => none) ⟨w, 0, #[]⟩ w :=
    ⟨fun _ _ h => h, fun b lab h => by (cases h), fun b b' lab h => by (cases h), fun b o h => by (cases h), rfl, rfl, rfl, Nat.le_refl _, fun b o h => by (cases h)⟩
  have hc := hfn (wholeMem w) (fun _ => none) (fun _ => none) w (args.map a.eval) hw0 (by simp [h2]) (fun i sv hi => by
    rw [List.getElem?_map] at hi
    cases hu : us[i]? with
    | none => simp [hu] at hi
    | some u =>
      simp only [hu, Option.map_some, Option.some.injEq] at hi
      subst hi
      have hil : i < args.size := by
        have := (List.getElem?_eq_some_iff.1 hu).1
        rw [h2] at this
        simpa using this
      refine ⟨rfl, ?_⟩
      have := h3 i u args[i] hu (by simp [hil])
      show RepV _ _ _
      simpa [Array.getD, hil] using this)
  unfold Oper.wp
  rw [call_run ho hf, Oper.upon_enter]
  refine hc.mono ?_
  rintro e w' ⟨r, outs, c, G', σ', rfl, hp, hG', hok, hroot, hrep, _⟩
  have h4 := h1 r outs hp
  have hr' : Rel G σ Fr w0 st a w' := hr.grow hok.os hok.tape hok.output hok.size fun b hb => by
    have hbw : w.heap[b]? = some w.heap[b] := Array.getElem?_eq_getElem hb
    rw [hbw]
    exact hok.fixed b _ (hG' b _ hbw)
  cases r with
  | v u =>
    obtain ⟨hpl, h4⟩ := h4
    obtain ⟨σ3, st3, q1, q2⟩ := hr'.setD hdst (sv := .v u) (c := c) (fun _ _ _ _ => plain_rep hpl hrep) h4
    exact hn G σ3 st3 _ w' (Mem.le.refl G) q1 q2
  | _ => exact h4.elim
/-- A call of a function's value. -/
def semDyn (d : Option Nat) (fs : List FuncId) (x : Opd) (as : List (Bool × Opd)) : M := rdI x fun u => match u with
  | .fn f => .need (f ∈ fs) fun _ => semCall d f as
  | .clo f caps => .need (f ∈ fs) fun _ => peekAll as fun us => .call f (us.map .v ++ caps.map .rp) fun r _ => match r with
    | .v u => .need (plain u = true) fun _ => setD d (.v u) .done
    | _ => .fail
  | _ => .fail
theorem dyn_run {o : Oper} {f : FuncId} {x : Operand} {args : Array Operand} {ts : Array TypeId} (ho : o.op = .call { callee := .value x, args, argTypes := ts }) (hx : a.eval x = .func (.func f) #[] #[]) (hf : callOk P f = true) :
    (execOp a.eval o).run P w = .ok (.enter f (args.map a.eval)) w := by
  unfold callOk at hf
  split at hf
  · rename_i fn hfn
    simp only [Bool.and_eq_true, Bool.not_eq_true', beq_eq_false_iff_ne, ne_eq] at hf
    obtain ⟨h1, h2⟩ := hf
    have h4 : fn.body ≠ none := by rintro e; rw [e] at h1; cases h1
    simp [execOp, ho, resolve, Deferred.ofValue, hx, invoke, callFunc, hfn, h2, h4]
  · cases hf
theorem clo_run {o : Oper} {f : FuncId} {x : Operand} {ps : List Value} {args : Array Operand} {ts : Array TypeId} (ho : o.op = .call { callee := .value x, args, argTypes := ts }) (hx : a.eval x = .func (.func f) #[] ps.toArray) (hf : callOk P f = true) :
    (execOp a.eval o).run P w = .ok (.enter f (args.map a.eval ++ ps.toArray)) w := by
  unfold callOk at hf
  split at hf
  · rename_i fn hfn
    simp only [Bool.and_eq_true, Bool.not_eq_true', beq_eq_false_iff_ne, ne_eq] at hf
    obtain ⟨h1, h2⟩ := hf
    have h4 : fn.body ≠ none := by rintro e; rw [e] at h1; cases h1
    simp [execOp, ho, resolve, Deferred.ofValue, hx, invoke, callFunc, hfn, h2, h4]
  · cases hf
theorem RepPs.length {G : Mem} : ∀ {l : List I} {ps : List Value}, RepPs G l ps → ps.length = l.length
  | [], _, h => by simp only [RepPs] at h; simp [h]
  | x :: l, ps, h => by
    simp only [RepPs] at h
    obtain ⟨p, r, b, off, bl, ty, fz, pre, cs, post, rfl, _, _, _, _, _, h7⟩ := h
    simp [RepPs.length h7]
theorem RepPs.get {G : Mem} : ∀ {l : List I} {ps : List Value} {i : Nat} {u : I}, RepPs G l ps → l[i]? = some u → ∃ p, ps[i]? = some p ∧ RepRp G u p
  | [], _, i, u, _, h => by simp at h
  | x :: l, ps, i, u, hp, h => by
    simp only [RepPs] at hp
    obtain ⟨p, r, b, off, bl, ty, fz, pre, cs, post, rfl, h2, h3, h4, h5, h6, h7⟩ := hp
    cases i with
    | zero => cases h; exact ⟨p, rfl, b, off, bl, ty, fz, pre, cs, post, h2, h3, h4, h5, h6⟩
    | succ i =>
      have h8 : l[i]? = some u := by simpa using h
      obtain ⟨p', h9, h10⟩ := RepPs.get h7 h8
      exact ⟨p', by simpa using h9, h10⟩
theorem sound_dyn {o : Oper} {fs : List FuncId} {x : Operand} {x' : Opd} {args : Array Operand} {ts : Array TypeId} {as : List (Bool × Opd)} (ho : o.op = .call { callee := .value x, args, argTypes := ts }) (hx : opdOk N x x' = true)
    (hf : fs.all (callOk P) = true) (ha : argsOk N args.toList as = true) : Sound P N o (semDyn o.dst fs x' as) := by
  intro G σ Fr w0 st a w Q next E hN hr hw hn hdst
  subst hN
  obtain ⟨u, h1, hv⟩ := rdI_rep hr hx hw
  clear hw
  split at h1
  · rename_i f
    obtain ⟨hmem, h1⟩ := h1
    exact call_core (dyn_run ho (RepV.fn.1 hv) (List.all_eq_true.1 hf f hmem)) ha hr h1 hn hdst
  · rename_i f caps
    obtain ⟨hmem, h1⟩ := h1
    unfold RepV at hv
    rw [if_neg (by simp [I.isAgg])] at hv
    simp only [RepI, List.cons.injEq, and_true] at hv
    obtain ⟨ps, hx', hps⟩ := hv
    obtain ⟨us, ⟨Post, hfn, h1⟩, h2, h3⟩ := peekAll_rep hr ha h1
    have hle : G.le (wholeMem w) := fun b o hb => hr.wok.fixed b o hb
    have hps' := RepPs.mono hle caps ps hps
    have hcallok := List.all_eq_true.1 hf f hmem
    have hw0 : WOk (wholeMem w) (fun _ => none) (fun _ => none) ⟨w, 0, #[]⟩ w :=
      ⟨fun _ _ h => h, fun b lab h => by (cases h), fun b b' lab h => by (cases h), fun b o h => by (cases h), rfl, rfl, rfl, Nat.le_refl _, fun b o h => by (cases h)⟩
    have hpl := RepPs.length hps'
    have hc := hfn (wholeMem w) (fun _ => none) (fun _ => none) w (args.map a.eval ++ ps.toArray) hw0 (by simp [h2, hpl]) (fun i sv hi => by
      by_cases hil : i < us.length
      · rw [List.getElem?_append_left (by simpa using hil), List.getElem?_map] at hi
        cases hu : us[i]? with
        | none => simp [hu] at hi
        | some u =>
          simp only [hu, Option.map_some, Option.some.injEq] at hi
          subst hi
          have hil' : i < args.size := by
            rw [h2] at hil
            simpa using hil
          refine ⟨rfl, ?_⟩
          have := h3 i u args[i] hu (by simp [hil'])
          show RepV _ _ _
          have hget : (args.map a.eval ++ ps.toArray).getD i undef = a.eval args[i] := by
            rw [Array.getD_eq_getD_getElem?, Array.getElem?_append_left (by simpa using hil')]
            simp [hil']
          rw [hget]
          exact this
      · rw [List.getElem?_append_right (by simpa using hil), List.length_map, List.getElem?_map] at hi
        have hus : us.length = args.size := by rw [h2]; simp
        cases hu : caps[i - us.length]? with
        | none => simp [hu] at hi
        | some u =>
          simp only [hu, Option.map_some, Option.some.injEq] at hi
          subst hi
          refine ⟨rfl, ?_⟩
          obtain ⟨p, hp, hrp⟩ := RepPs.get hps' hu
          show RepRp _ _ _
          have hget : (args.map a.eval ++ ps.toArray).getD i undef = p := by
            rw [Array.getD_eq_getD_getElem?, Array.getElem?_append_right (by simp; omega)]
            simp only [Array.size_map, ← hus]
            rw [List.getElem?_toArray, hp]
            rfl
          rw [hget]
          exact hrp)
    unfold Oper.wp
    rw [clo_run ho hx' hcallok, Oper.upon_enter]
    refine hc.mono ?_
    rintro e w' ⟨r, outs, c, G', σ', rfl, hp, hG', hok, hroot, hrep, _⟩
    have h4 := h1 r outs hp
    have hr' : Rel G σ Fr w0 st a w' := hr.grow hok.os hok.tape hok.output hok.size fun b hb => by
      have hbw : w.heap[b]? = some w.heap[b] := Array.getElem?_eq_getElem hb
      rw [hbw]
      exact hok.fixed b _ (hG' b _ hbw)
    cases r with
    | v u =>
      obtain ⟨hpl, h4⟩ := h4
      obtain ⟨σ3, st3, q1, q2⟩ := hr'.setD hdst (sv := .v u) (c := c) (fun _ _ _ _ => plain_rep hpl hrep) h4
      exact hn G σ3 st3 _ w' (Mem.le.refl G) q1 q2
    | _ => exact h4.elim
  · exact h1.elim
end
end Go.Ab
