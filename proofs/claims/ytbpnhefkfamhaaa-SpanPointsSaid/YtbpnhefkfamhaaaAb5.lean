/- One text of the proof whose last text says what is proved. -/
import Derived.Test.YtbpnhefkfamhaaaAb4
set_option linter.unusedVariables false
set_option linter.unusedSimpArgs false
namespace Go.Ab
section
variable {P : Program} {N : Nat} {G : Mem} {σ : Lab} {Fr : Mem} {w0 : Base} {w : World} {st : St} {a : Act}

/-- The labels of slot n go over to slot d. -/
def Lab.move (σ : Lab) (n d : Nat) : Lab := fun b => match σ b with
  | some (s, k) => if s = n then some (d, k) else if s = d then none else some (s, k)
  | none => none
theorem Lab.move_here {n d b k : Nat} (h : σ b = some (n, k)) : σ.move n d b = some (d, k) := by simp [Lab.move, h]
theorem Lab.move_far {n d b s k : Nat} (h : σ b = some (s, k)) (h1 : s ≠ n) (h2 : s ≠ d) : σ.move n d b = some (s, k) := by simp [Lab.move, h, h1, h2]
theorem Lab.move_inv {n d b s k : Nat} (h : σ.move n d b = some (s, k)) : (s = d ∧ σ b = some (n, k)) ∨ (s ≠ n ∧ s ≠ d ∧ σ b = some (s, k)) := by
  unfold Lab.move at h
  split at h
  · rename_i s' k' hb
    split at h
    · rename_i e
      simp only [Option.some.injEq, Prod.mk.injEq] at h
      obtain ⟨rfl, rfl⟩ := h
      exact .inl ⟨rfl, by rw [hb, e]⟩
    · rename_i e
      split at h
      · cases h
      · rename_i e'
        simp only [Option.some.injEq, Prod.mk.injEq] at h
        obtain ⟨rfl, rfl⟩ := h
        exact .inr ⟨e, e', hb⟩
  · cases h
theorem WOk.move (h : WOk G σ Fr w0 w) (n d : Nat) : WOk G (σ.move n d) Fr w0 w := by
  refine ⟨h.fixed, ?_, ?_, h.frame, h.os, h.tape, h.output, h.size, h.apart⟩
  · rintro b ⟨s, k⟩ hb
    rcases Lab.move_inv hb with ⟨_, hb⟩ | ⟨_, _, hb⟩ <;> exact h.own b _ hb
  · rintro b b' ⟨s, k⟩ hb hb'
    rcases Lab.move_inv hb with ⟨h1, hb⟩ | ⟨h1, h2, hb⟩ <;> rcases Lab.move_inv hb' with ⟨h3, hb'⟩ | ⟨h3, h4, hb'⟩
    · exact h.inj b b' _ hb hb'
    · exact absurd h1 h4
    · exact absurd h3 h2
    · exact h.inj b b' _ hb hb'

/-- What slot n owns goes over to slot d. -/
theorem Rel.move {n d ver ver' : Nat} {sv : SV} {old : Nat × SV} {v1 : Nat} {c : Value} (h : Rel G σ Fr w0 st a w) (hdn : d < w0.n) (hn : st[n]? = some (v1, sv)) (hd : st[d]? = some old) (hne : d ≠ n)
    (hv : v1 < ver) (hv' : old.1 < ver') (hr : sv.root = none) (hc : RepOwn G σ w n sv c) (hnp : ∀ h, sv ≠ .par h := by intro _ e; cases e) :
    Rel G (σ.move n d) Fr w0 ((st.set n (ver, .no)).set d (ver', sv)) (a.put (some d) c) w := by
  have h1 := h.drop hn hv
  refine h1.put hdn (h.wok.move n d) (Mem.le.refl G) (old := old) (by rw [List.getElem?_set_ne (Ne.symm hne)]; exact hd) hv' ?_ ?_ (fun h e => absurd e (hnp h))
  · intro s' hs' b k hb
    obtain ⟨h2, h3⟩ := Lab.drop_some.1 hb
    exact ⟨Lab.move_far h3 h2 hs', rfl⟩
  · rw [RepSV.own hr]
    exact RepOwn.tr hc (Mem.le.refl G) fun b k hb => ⟨Lab.move_here hb, rfl⟩

/-- The slice at place k of a slot is owned no more: it lies fixed. -/
def SV.frzAt : SV → Nat → SV
  | .vec _ _ l, 0 => .v (.list l)
  | .box (.one (.vec _ _ l)), 1 => .box (.one (.i (.list l)))
  | .box (.st fs), j + 1 => match fs[j]? with
    | some (.vec _ _ l) => .box (.st (fs.set j (.i (.list l))))
    | _ => .box (.st fs)
  | sv, _ => sv

theorem VecAt.list {G' : Mem} {lab : Nat × Nat} {e : TypeId} {sz : Nat} {l : List I} {c : Value} (h : VecAt G σ w lab e sz l c) (hG : G.le G')
    (hb : ∀ b, σ b = some lab → G' b = w.heap[b]?) : RepV G' (.list l) c := by
  obtain ⟨xs, h1, h2, h3, h4⟩ := h
  unfold RepV
  rw [if_neg (by simp [I.isAgg])]
  rcases h1.2 with ⟨rfl, h0⟩ | ⟨g, cap, cur, rfl, _, hg, hn, hm, hs, ht⟩
  · refine ⟨none, 0, by rw [h0], by omega, by simp [maxLen], .inl (List.eq_nil_of_length_eq_zero h0)⟩
  · obtain ⟨ty, fz, hg, _⟩ := hg
    refine ⟨_, cap, rfl, hn, hm, .inr ⟨g, 0, cur, ty, fz, sz, rfl, ?_, h3, ?_, ?_⟩⟩
    · rw [hb g (h4 g (by simp [Value.ownBlock]))]; exact hg
    · rw [hs, Nat.zero_add]; exact Nat.mul_le_mul_right _ hn
    · rw [List.drop_zero, ht]
      exact RepIs.mono hG l xs h2

theorem RepI_of_RepV_list {l : List I} {c : Value} (h : RepV G (.list l) c) : RepI G (.list l) [c] := by
  unfold RepV at h
  rwa [if_neg (by simp [I.isAgg])] at h

theorem RepFs.setF {G' : Mem} {σ' : Lab} {w' : World} {s : Nat} {f' : F} (hG : G.le G') : ∀ {fs : List F} {j i : Nat} {cs : List Value} {f : F}, RepFs G σ w s j fs cs → fs[i]? = some f →
    (∀ b k, k ≠ j + i + 1 → σ b = some (s, k) → σ' b = some (s, k) ∧ w'.heap[b]? = w.heap[b]?) → (∀ c, RepF G σ w (s, j + i + 1) f c → RepF G' σ' w' (s, j + i + 1) f' c) →
    RepFs G' σ' w' s j (fs.set i f') cs
  | [], _, i, _, _, _, h, _, _ => by simp at h
  | f :: fs, j, 0, cs, f0, h, hi, hk, hv => by
    simp only [List.getElem?_cons_zero, Option.some.injEq] at hi
    subst hi
    obtain ⟨c, d, ecs, h1, h2⟩ := h
    simp only [List.set_cons_zero, RepFs]
    exact ⟨c, d, ecs, hv c h1, RepFs.tr hG h2 fun b k hjk hb => hk b k (by omega) hb⟩
  | f :: fs, j, i + 1, cs, f0, h, hi, hk, hv => by
    simp only [List.getElem?_cons_succ] at hi
    obtain ⟨c, d, ecs, h1, h2⟩ := h
    simp only [List.set_cons_succ, RepFs]
    refine ⟨c, d, ecs, RepF.tr h1 hG fun b hb => hk b (j + 1) (by omega) hb, ?_⟩
    have e : j + (i + 1) + 1 = j + 1 + i + 1 := by omega
    rw [e] at hv
    exact RepFs.setF hG h2 hi (fun b k hne hb => hk b k (by omega) hb) hv

def Lab.lose (σ : Lab) (lab : Nat × Nat) : Lab := fun b => if σ b = some lab then none else σ b
theorem Lab.lose_some {lab lab' : Nat × Nat} {b : Nat} : σ.lose lab b = some lab' ↔ lab' ≠ lab ∧ σ b = some lab' := by
  unfold Lab.lose
  split
  · rename_i h
    constructor
    · intro x; cases x
    · rintro ⟨h1, h2⟩; rw [h] at h2; cases h2; exact absurd rfl h1
  · rename_i h
    constructor
    · intro x; exact ⟨fun e => h (by rw [x, e]), x⟩
    · exact fun x => x.2

/-- The memory with the blocks of a label fixed. -/
def Mem.fix (G : Mem) (σ : Lab) (w : World) (lab : Nat × Nat) : Mem := fun b => if σ b = some lab then w.heap[b]? else G b
theorem Mem.fix_le (hok : WOk G σ Fr w0 w) (lab : Nat × Nat) : G.le (G.fix σ w lab) := by
  intro b o hb
  unfold Mem.fix
  split
  · rename_i h; rw [(hok.own b lab h).1] at hb; cases hb
  · exact hb
theorem Mem.fix_here {lab : Nat × Nat} {b : Nat} (h : σ b = some lab) : G.fix σ w lab b = w.heap[b]? := by simp [Mem.fix, h]

theorem Rel.freeze {s k ver ver' : Nat} {sv : SV} {e : TypeId} {sz : Nat} {l : List I} (h : Rel G σ Fr w0 st a w) (hs : st[s]? = some (ver, sv)) (hv : sv.vecAt k = some (e, sz, l)) (hlt : ver < ver') :
    ∃ G' σ', G.le G' ∧ Rel G' σ' Fr w0 (st.set s (ver', sv.frzAt k)) a w ∧
      (∀ m c, VecAt G σ w (s, k) e sz m c → RepV G' (.list m) c) := by
  have hG := Mem.fix_le h.wok (s, k)
  have hlist : ∀ m c, VecAt G σ w (s, k) e sz m c → RepV (G.fix σ w (s, k)) (.list m) c := fun m c hc => hc.list hG fun b hb => Mem.fix_here hb
  refine ⟨G.fix σ w (s, k), σ.lose (s, k), hG, ?_, hlist⟩
  have hok : WOk (G.fix σ w (s, k)) (σ.lose (s, k)) Fr w0 w := by
    refine ⟨?_, ?_, ?_, h.wok.frame, h.wok.os, h.wok.tape, h.wok.output, h.wok.size, ?_⟩
    rotate_right
    · intro b o hb
      unfold Mem.fix
      rw [if_neg (by intro e; have := (h.wok.own b _ e).2.1; rw [hb] at this; cases this)]
      exact h.wok.apart b o hb
    · intro b o hb
      unfold Mem.fix at hb
      split at hb
      · exact hb
      · exact h.wok.fixed b o hb
    · intro b lab hb
      obtain ⟨h1, h2⟩ := Lab.lose_some.1 hb
      obtain ⟨h3, h4, h5⟩ := h.wok.own b lab h2
      refine ⟨?_, h4, h5⟩
      unfold Mem.fix
      rw [if_neg (by rw [h2]; intro e; cases e; exact h1 rfl)]
      exact h3
    · intro b b' lab hb hb'
      exact h.wok.inj b b' lab (Lab.lose_some.1 hb).2 (Lab.lose_some.1 hb').2
  refine Rel.self (new := sv.frzAt k) (ver := ver') h hok hG hs hlt
    (fun s' hs' b k' hb => ⟨Lab.lose_some.2 ⟨fun e => hs' (by cases e; rfl), hb⟩, rfl⟩) ?_ (by
      intro h e
      unfold SV.frzAt at e
      repeat' split at e
      all_goals first | (subst e; rw [vecAt_par] at hv; cases hv) | cases e)
  · have hold := h.slots s ver sv hs
    generalize val a w0 s = c at hold ⊢
    unfold SV.vecAt at hv
    split at hv
    · cases hv
      exact hlist _ _ hold
    · cases hv
      obtain ⟨b, cells, ty, h1, h2, h3, h4⟩ := hold
      refine ⟨b, cells, ty, h1, Lab.lose_some.2 ⟨by simp, h2⟩, h3, ?_⟩
      obtain ⟨c', hc', h4⟩ := h4
      show RepI _ _ _
      rw [hc']
      exact RepI_of_RepV_list (hlist _ _ h4)
    · rename_i fs j
      split at hv
      · rename_i e' sz' l' hf
        cases hv
        obtain ⟨b, cells, ty, h1, h2, h3, h4⟩ := hold
        simp only [SV.frzAt, hf]
        refine ⟨b, cells, ty, h1, Lab.lose_some.2 ⟨by simp, h2⟩, h3, ?_⟩
        refine RepFs.setF hG h4 hf (fun b k hne hb => ⟨Lab.lose_some.2 ⟨fun e => hne (by cases e; omega), hb⟩, rfl⟩) fun c hc => ?_
        obtain ⟨c', rfl, hc⟩ := hc
        exact RepI_of_RepV_list (hlist _ _ (by rw [Nat.zero_add] at hc; exact hc))
      · cases hv
    · cases hv
end
end Go.Ab
