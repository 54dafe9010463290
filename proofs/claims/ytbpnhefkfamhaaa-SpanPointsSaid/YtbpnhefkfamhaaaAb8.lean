/- One text of the proof whose last text says what is proved. -/
import Derived.Test.YtbpnhefkfamhaaaAb7
set_option linter.unusedVariables false
set_option linter.unusedSimpArgs false
namespace Go.Ab

theorem hit_par (h k : Nat) (r : List Nat) : (SV.par h).hit k r = none := by cases k <;> simp [SV.hit, vecAt_par]
/-- What an item does to the place where it is stored. -/
def putItem (s k ver off : Nat) (r : List Nat) (sz : Nat) (u : I) : M := .get s fun cur sv => .need (ver = cur) fun _ => match sv.hit k r with
  | some (off', .item u0) => .need (off' = off ∧ u.size = u0.size ∧ u.size = sz) fun _ => match k, sv with
    | 0, .box _ => .set s cur (sv.putAt 0 r u) .done
    | k, sv => .set s (cur + 1) (sv.putAt k r u) .done
  | some (off', .vec _) => match k, sv, r with
    | 0, .box (.st fs), [j] => .need (off' = off ∧ u.size = 1 ∧ sz = 1) fun _ => .set s (cur + 1) (.box (.st (fs.set j (.i u)))) .done
    | _, _, _ => .fail
  | none => .fail
/-- An owned slice goes over into a field. -/
def putVec (s k ver off : Nat) (r : List Nat) (e : TypeId) (sz : Nat) (l : List I) : M := .get s fun cur sv => .need (ver = cur) fun _ => match k, sv, r with
  | 0, .box (.st fs), [j] => match fs[j]? with
    | some f => .need (fsizes (fs.take j) = off ∧ f.size = 1) fun _ => .set s (cur + 1) (.box (.st (fs.set j (.vec e sz l)))) .done
    | none => .fail
  | 0, .box (.one (.i (.agg is))), [j] => match is[j]? with
    | some u => .need (sizes (is.take j) = off ∧ u.size = 1) fun _ => .set s (cur + 1) (.box (.st ((is.map F.i).set j (.vec e sz l)))) .done
    | none => .fail
  | 0, .box (.one f), [] => .need (off = 0 ∧ f.size = 1) fun _ => .set s (cur + 1) (.box (.one (.vec e sz l))) .done
  | _, _, _ => .fail

def semStore (sz : Nat) (ax vx : Opd) : M := takeV vx fun u => rdP ax (fun s k ver off r => putItem s k ver off r sz u) (fun _ => .fail)
def semStoreVec (ax vx : Opd) : M := match vx with
  | .t n => .get n fun ver sv => match sv with
    | .vec e sz l => .set n (ver + 1) .no (rdP ax (fun s k ver off r => .need (s ≠ n) fun _ => putVec s k ver off r e sz l) (fun _ => .fail))
    | _ => .fail
  | .nils e sz => rdP ax (fun s k ver off r => putVec s k ver off r e sz []) (fun _ => .fail)
  | .c _ => .fail

section
variable {P : Program} {N : Nat} {G : Mem} {σ : Lab} {Fr : Mem} {w0 : Base} {w : World} {st : St} {a : Act}

theorem WOk.setRow (h : WOk G σ Fr w0 w) {b : Nat} {lab : Nat × Nat} (hb : σ b = some lab) (row : Array Value) : WOk G σ Fr w0 (w.setRow b row) := by
  obtain ⟨h1, h2, h3⟩ := h.own b lab hb
  refine ⟨?_, ?_, h.inj, ?_, h.os, h.tape, h.output, ?_, h.apart⟩
  · intro b' o hb'
    rw [setRow_other w b b' row (by rintro rfl; rw [h1] at hb'; cases hb')]
    exact h.fixed b' o hb'
  · intro b' lab' hb'
    obtain ⟨k1, k2, k3⟩ := h.own b' lab' hb'
    exact ⟨k1, k2, by simpa [World.setRow] using k3⟩
  · intro b' o hb'
    rw [setRow_other w b b' row (by rintro rfl; rw [h2] at hb'; cases hb')]
    exact h.frame b' o hb'
  · simpa [World.setRow] using h.size

theorem run_storeCells_tail (P : Program) (g o : Nat) (t : TypeId) (fz : Nat × Nat) : ∀ (vs : List Value) (i : Nat) (cur : Array Value) (w : World), w.heap[g]? = some (.cells cur t fz) → cur.size ≤ fz.1 → o + i + vs.length ≤ cur.size → (∀ v ∈ vs, v.oneCell' = true) →
    (storeCells ⟨g, o, none⟩ vs i).run P w = .ok () (w.setRow g (cur.toList.take (o + i) ++ vs ++ cur.toList.drop (o + i + vs.length)).toArray)
  | [], i, cur, w, hg, _, _, _ => by
    simp only [storeCells, List.append_nil, List.length_nil, Nat.add_zero, List.take_append_drop, Array.toArray_toList]
    rw [setRow_self w g cur t fz hg]
    rfl
  | v :: rest, i, cur, w, hg, hf, hl, h1 => by
    have hi : o + i < cur.size := by simp at hl; omega
    have hadd : (⟨g, o, none⟩ : Addr).add i = ⟨g, o + i, none⟩ := by unfold Addr.add; split <;> simp_all
    have hcell : w.cell? ⟨g, o + i, none⟩ = some cur[o + i] := by simp [World.cell?, hg, hi]
    have hfro : w.frozen? ⟨g, o + i, none⟩ = false := by
      simp [World.frozen?, hg]
      omega
    have hst : (store ((⟨g, o, none⟩ : Addr).add i) v).run P w = .ok () (w.setRow g (cur.setIfInBounds (o + i) v)) := by
      rw [hadd, run_store P w _ v _ (h1 v (by simp)), hcell]
      simp [hfro, setCell_eq_setRow w g (o + i) cur t fz v hg]
    have ih := run_storeCells_tail P g o t fz rest (i + 1) (cur.setIfInBounds (o + i) v) (w.setRow g (cur.setIfInBounds (o + i) v)) (setRow_heap w g cur _ t _ hg) (by simpa using hf) (by simp at hl ⊢; omega) (fun x hx => h1 x (by simp [hx]))
    simp only [storeCells, Sem.run_bind, hst, Result.andThen_ok, ih, setRow_setRow]
    congr 3
    have e := list_seg_step cur.toList (o + i) v rest (by simp at hl ⊢; omega)
    simpa [Array.toList_setIfInBounds, Nat.add_assoc] using e
theorem run_storeCells_any (P : Program) (g o : Nat) (t : TypeId) (fz : Nat × Nat) (vs : List Value) (i : Nat) (cur : Array Value) (w : World) (hg : w.heap[g]? = some (.cells cur t fz)) (hf : fz = (0, 0) ∨ cur.size ≤ fz.1) (hl : o + i + vs.length ≤ cur.size) (h1 : ∀ v ∈ vs, v.oneCell' = true) :
    (storeCells ⟨g, o, none⟩ vs i).run P w = .ok () (w.setRow g (cur.toList.take (o + i) ++ vs ++ cur.toList.drop (o + i + vs.length)).toArray) := by
  rcases hf with rfl | hf
  · exact run_storeCells_at P g o t vs i cur w hg hl h1
  · exact run_storeCells_tail P g o t fz vs i cur w hg hf hl h1

theorem run_storeVar_at {fz : Nat × Nat} {t : TypeId} {agg : Bool} {b off : Nat} {bl : Array Value} {ty : TypeId} {pre cs post : List Value} {v : Value} {u : I} (h : tyOk P t agg cs.length = true)
    (hh : w.heap[b]? = some (.cells bl ty fz)) (hfz : fz = (0, 0) ∨ bl.size ≤ fz.1) (hs : bl.toList = pre ++ cs ++ post) (hp : pre.length = off) (hv : RepV G u v) (hu : u.size = cs.length) :
    (storeVar t ⟨b, off, none⟩ v).run P w = .ok () (w.setRow b (pre ++ v.cells.toList ++ post).toArray) := by
  obtain ⟨_, h2⟩ := isAgg_run h w
  have hc := hv.cells
  have hl := RepI.length _ _ hc
  have hlen : v.cells.toList.length = cs.length := by rw [hl, hu]
  have hblen : bl.size = pre.length + cs.length + post.length := by
    have : bl.size = bl.toList.length := by simp
    rw [this, hs]
    simp
    omega
  have hst := run_storeCells_any P b off ty fz v.cells.toList 0 bl w hh hfz (by rw [hlen, hblen, hp]; omega) (RepI.one _ _ hc)
  have e1 : bl.toList.take (off + 0) = pre := by rw [hs, List.append_assoc, Nat.add_zero, ← hp, List.take_left]
  have e2 : bl.toList.drop (off + 0 + v.cells.toList.length) = post := by
    rw [hs, hlen, Nat.add_zero, ← hp, ← List.length_append, List.drop_left]
  rw [e1, e2] at hst
  have hsz : v.cells.size = cs.length := by rw [← hlen]; simp
  simp [storeVar, h2, hsz, hst]

theorem Kept.setRow {b : Nat} {lab : Nat × Nat} {s' : Nat} (hb : σ b = some lab) (hs : s' ≠ lab.1) (row : Array Value) : Kept σ σ w (w.setRow b row) s' := by
  intro b' k hb'
  refine ⟨hb', setRow_other w b b' row ?_⟩
  rintro rfl
  rw [hb] at hb'
  cases hb'
  exact hs rfl

theorem vecAt_putAt0 {t : T} {r : List Nat} {u : I} {off : Nat} {u0 : I} (h : (SV.box t).hit 0 r = some (off, .item u0)) (k : Nat) : ((SV.box t).putAt 0 r u).vecAt k = (SV.box t).vecAt k := by
  cases t with
  | one f =>
    cases f with
    | i x => cases k <;> simp [SV.putAt, SV.vecAt]
    | vec e sz l => cases r <;> simp [SV.hit] at h
  | st fs =>
    cases r with
    | nil =>
      simp only [SV.hit] at h
      split at h
      · rename_i l hl
        have : ∀ (fs : List F) (l : List I) (j : Nat) (e : TypeId) (sz : Nat) (m : List I), allI fs = some l → fs[j]? ≠ some (.vec e sz m) := by
          intro fs
          induction fs with
          | nil => intro l j e sz m _ h; simp at h
          | cons f fs ih =>
            intro l j e sz m hl h
            cases f with
            | vec _ _ _ => simp [allI] at hl
            | i x =>
              simp only [allI] at hl
              split at hl
              · rename_i l' hl'
                cases j with
                | zero => simp at h
                | succ j => exact ih l' j e sz m hl' (by simpa using h)
              · cases hl
        cases k with
        | zero => simp [SV.putAt, SV.vecAt]
        | succ j =>
          simp only [SV.putAt, SV.vecAt]
          cases hf : fs[j]? with
          | none => rfl
          | some f =>
            cases f with
            | i x => rfl
            | vec e sz m => exact absurd hf (this fs l j e sz m hl)
      · cases h
    | cons j r =>
      simp only [SV.hit] at h
      split at h
      · rename_i y hy
        simp only [SV.putAt, hy]
        cases k with
        | zero => simp [SV.vecAt]
        | succ i =>
          simp only [SV.vecAt]
          by_cases hij : i = j
          · subst hij
            have : i < fs.length := (List.getElem?_eq_some_iff.1 hy).1
            rw [hy, List.getElem?_set_self this]
          · rw [List.getElem?_set_ne (Ne.symm hij)]
      · split at h <;> cases h
      · cases h

theorem putItem_spec {s k ver off : Nat} {r : List Nat} {sz : Nat} {u : I} {v : Value} {t : TypeId} {agg : Bool} {b : Nat} {cur : Nat × SV} {Q : St → Prop} (h : Rel G σ Fr w0 st a w) (hs : st[s]? = some cur)
    (hp : ver = cur.1 → σ b = some (s, k)) (ht : tyOk P t agg sz = true) (hv : RepV G u v) (hq : (putItem s k ver off r sz u).wp P Q st) :
    ver = cur.1 ∧ ∃ w' σ' st', (storeVar t ⟨b, off, none⟩ v).run P w = .ok () w' ∧ Rel G σ' Fr w0 st' a w' ∧ Q st' := by
  simp only [putItem, M.wp, hs] at hq
  obtain ⟨hver, hq⟩ := hq
  refine ⟨hver, ?_⟩
  have hb := hp hver
  obtain ⟨cv, sv⟩ := cur
  simp only at hq hver
  split at hq
  · rename_i off' u0 hh
    obtain ⟨⟨rfl, hsz, rfl⟩, hq⟩ := hq
    have hroot : sv.root = none := by
      cases sv <;> first | rfl | (cases k <;> simp [SV.hit, SV.vecAt] at hh)
    have hrep := h.slots s cv sv hs
    rw [RepSV.own hroot] at hrep
    obtain ⟨bl, ty, fz, pre, cs, post, g1, g1', g2, g3, g4, g5⟩ := hit_item h.wok hrep hh hb
    clear g5
    have hl := RepI.length _ _ g4
    have hrun := run_storeVar_at (P := P) (cs := cs) (agg := agg) (by rw [hl, ← hsz]; exact ht) g1 g1' g2 g3 hv (by rw [hl]; exact hsz)
    refine ⟨w.setRow b (pre ++ v.cells.toList ++ post).toArray, ?_⟩
    split at hq
    · rename_i t'
      refine ⟨σ, _, hrun, ?_, hq⟩
      refine h.poke (h.wok.setRow hb _) hs (fun s' hs' => Kept.setRow hb hs' _) rfl ?_ ?_ ?_ ?_
      · have : ∃ t'', (SV.box t').putAt 0 r u = .box t'' := by
          unfold SV.putAt
          repeat' split
          all_goals first | exact ⟨_, rfl⟩ | simp_all
        obtain ⟨t'', e⟩ := this
        rw [e]; rfl
      · intro h e
        unfold SV.putAt at e
        repeat' split at e
        all_goals first | cases e | simp_all
      · intro c hc
        obtain ⟨bl', ty', fz', pre', cs', post', k1, _, k2, k3, k4, k5⟩ := hit_item h.wok hc hh hb
        rw [g1] at k1
        cases k1
        have hpre : pre' = pre ∧ cs' ++ post' = cs ++ post := by
          have : pre' ++ (cs' ++ post') = pre ++ (cs ++ post) := by rw [← List.append_assoc, ← k2, g2, List.append_assoc]
          exact List.append_inj this (by rw [k3, g3])
        have hpost : post' = post := (List.append_inj hpre.2 (by rw [RepI.length _ _ k4, RepI.length _ _ g4])).2
        have := k5 u _ hsz hv.cells
        rwa [hpre.1, hpost] at this
      · intro k' e sz' l c hvec
        refine ⟨l, by rw [vecAt_putAt0 hh]; exact hvec, ?_, ?_⟩
        all_goals
          have hk : ∀ b', σ b' = some (s, k') → σ b' = some (s, k') ∧ (w.setRow b (pre ++ v.cells.toList ++ post).toArray).heap[b']? = w.heap[b']? := fun b' hb' =>
            ⟨hb', setRow_other w b b' _ (by
              rintro rfl
              rw [hb] at hb'
              cases hb'
              cases t' with
              | one f => cases f <;> simp [SV.vecAt] at hvec
              | st fs => simp [SV.vecAt] at hvec)⟩
        · exact fun hc => hc.tr (Mem.le.refl G) hk
        · exact fun n hc => hc.tr (Mem.le.refl G) hk
    · refine ⟨σ, _, hrun, ?_, hq⟩
      refine Rel.self (new := sv.putAt k r u) (ver := cv + 1) h (h.wok.setRow hb _) (Mem.le.refl G) hs (Nat.lt_succ_self _) (fun s' hs' => Kept.setRow hb hs' _) (w' := w.setRow b (pre ++ v.cells.toList ++ post).toArray) ?_ (by
        intro h e
        unfold SV.putAt at e
        repeat' split at e
        all_goals first | (subst e; rw [hit_par] at hh; cases hh) | cases e)
      · obtain ⟨bl', ty', fz', pre', cs', post', k1, _, k2, k3, k4, k5⟩ := hit_item h.wok hrep hh hb
        rw [g1] at k1
        cases k1
        have hpre : pre' = pre ∧ cs' ++ post' = cs ++ post := by
          have : pre' ++ (cs' ++ post') = pre ++ (cs ++ post) := by rw [← List.append_assoc, ← k2, g2, List.append_assoc]
          exact List.append_inj this (by rw [k3, g3])
        have hpost : post' = post := (List.append_inj hpre.2 (by rw [RepI.length _ _ k4, RepI.length _ _ g4])).2
        have := k5 u _ hsz hv.cells
        rw [hpre.1, hpost] at this
        rw [RepSV.own]
        · exact this
        · have : (sv.putAt k r u).root = none := by
            unfold SV.putAt
            repeat' split
            all_goals first | rfl | exact hroot
          exact this
  · rename_i off' k' hh
    split at hq
    · rename_i fs j
      obtain ⟨⟨rfl, hu, rfl⟩, hq⟩ := hq
      have hrep := h.slots s cv _ hs
      rw [RepSV.own rfl] at hrep
      obtain ⟨b', cells, ty, h1, h2, h3, h4⟩ := hrep
      obtain rfl := h.wok.inj b b' _ hb h2
      simp only [SV.hit] at hh
      split at hh
      · obtain ⟨_, _, _, _, hh⟩ := hitI_some hh; cases hh
      · rename_i e sz l hy
        cases hh
        obtain ⟨c1, cc, c2, e1, e2, e3, hset⟩ := RepFs.nth h4 hy
        have hcc : cc.length = 1 := by obtain ⟨c', rfl, _⟩ := e3; rfl
        have hrun := run_storeVar_at (P := P) (cs := cc) (agg := agg) (by rw [hcc]; exact ht) h3 (.inl rfl) e1 e2 hv (by rw [hcc, hu])
        refine ⟨_, σ, _, hrun, ?_, hq⟩
        refine Rel.self (new := .box (.st (fs.set j (.i u)))) (ver := cv + 1) h (h.wok.setRow hb _) (Mem.le.refl G) hs (Nat.lt_succ_self _) (fun s' hs' => Kept.setRow hb hs' _) (w' := w.setRow b (c1 ++ v.cells.toList ++ c2).toArray) ?_
        · refine ⟨b, _, ty, h1, h2, setRow_heap w b cells _ ty (0, 0) h3, ?_⟩
          show RepFs _ _ _ _ _ _ _
          have := hset (.i u) v.cells.toList hv.cells
          exact RepFs.far (b := b) this (fun k hk e => by rw [h2] at e; cases e; omega) _
      · cases hh
    · exact hq.elim
  · exact hq.elim
end
end Go.Ab
