/- One text of the proof whose last text says what is proved. -/
import Derived.Test.YtbpnhefkfamhaaaAb5
set_option linter.unusedVariables false
set_option linter.unusedSimpArgs false
namespace Go.Ab

def F.size : F → Nat
  | .i x => x.size
  | .vec _ _ _ => 1
def fsizes : List F → Nat
  | [] => 0
  | f :: fs => f.size + fsizes fs
def allI : List F → Option (List I)
  | [] => some []
  | .i x :: fs => match allI fs with
    | some l => some (x :: l)
    | none => none
  | .vec _ _ _ :: _ => none

inductive Hit where
  | item (u : I)
  | vec (k : Nat)
  deriving Inhabited

def hitI (o : Nat) : Option (Nat × I) → Option (Nat × Hit)
  | some (p, u) => some (o + p, .item u)
  | none => none
def hitV (sz : Nat) (l : List I) : List Nat → Option (Nat × Hit)
  | i :: r => match l[i]? with
    | some y => hitI (i * sz) (y.sub r)
    | none => none
  | [] => none
/-- What lies in the block of place k of a slot, along a path: how far in, and what. -/
def SV.hit (sv : SV) (k : Nat) (r : List Nat) : Option (Nat × Hit) := match k with
  | 0 => match sv with
    | .box (.one (.i x)) => hitI 0 (x.sub r)
    | .box (.one (.vec _ _ _)) => match r with
      | [] => some (0, .vec 1)
      | _ :: _ => none
    | .box (.st fs) => match r with
      | [] => match allI fs with
        | some l => some (0, .item (.agg l))
        | none => none
      | j :: r => match fs[j]? with
        | some (.i y) => hitI (fsizes (fs.take j)) (y.sub r)
        | some (.vec _ _ _) => match r with
          | [] => some (fsizes (fs.take j), .vec (j + 1))
          | _ :: _ => none
        | none => none
    | .vec _ sz l => hitV sz l r
    | _ => none
  | j + 1 => match sv.vecAt (j + 1) with
    | some (_, sz, l) => hitV sz l r
    | none => none

def putV (l : List I) (r : List Nat) (u : I) : List I := match r with
  | i :: r => match l[i]? with
    | some y => l.set i (y.put r u)
    | none => l
  | [] => l
/-- The same with another item there. -/
def SV.putAt (sv : SV) (k : Nat) (r : List Nat) (u : I) : SV := match k with
  | 0 => match sv with
    | .box (.one (.i x)) => .box (.one (.i (x.put r u)))
    | .box (.st fs) => match r with
      | j :: r => match fs[j]? with
        | some (.i y) => .box (.st (fs.set j (.i (y.put r u))))
        | _ => sv
      | [] => .box (.one (.i u))
    | .vec e sz l => .vec e sz (putV l r u)
    | sv => sv
  | j + 1 => match sv with
    | .box (.one (.vec e sz l)) => .box (.one (.vec e sz (putV l r u)))
    | .box (.st fs) => match fs[j]? with
      | some (.vec e sz l) => .box (.st (fs.set j (.vec e sz (putV l r u))))
      | _ => sv
    | sv => sv

section
variable {P : Program} {N : Nat} {G : Mem} {σ : Lab} {Fr : Mem} {w0 : Base} {w : World} {st : St} {a : Act}

theorem hitI_some {o off : Nat} {q : Option (Nat × I)} {u : Hit} (h : hitI o q = some (off, u)) : ∃ p v, q = some (p, v) ∧ off = o + p ∧ u = .item v := by
  cases q with
  | none => cases h
  | some q =>
    obtain ⟨p, v⟩ := q
    simp only [hitI, Option.some.injEq, Prod.mk.injEq] at h
    exact ⟨p, v, rfl, h.1.symm, h.2.symm⟩

theorem RepF.length {lab : Nat × Nat} {f : F} {cs : List Value} (h : RepF G σ w lab f cs) : cs.length = f.size := by
  cases f with
  | i x => exact RepI.length x cs h
  | vec e sz l => obtain ⟨c, rfl, _⟩ := h; rfl

theorem RepFs.nth {s : Nat} : ∀ {fs : List F} {j i : Nat} {cs : List Value} {f : F}, RepFs G σ w s j fs cs → fs[i]? = some f →
    ∃ c1 c c2, cs = c1 ++ c ++ c2 ∧ c1.length = fsizes (fs.take i) ∧ RepF G σ w (s, j + i + 1) f c ∧
      (∀ f' c', RepF G σ w (s, j + i + 1) f' c' → RepFs G σ w s j (fs.set i f') (c1 ++ c' ++ c2))
  | [], _, i, _, _, _, h => by simp at h
  | f :: fs, j, 0, cs, f', h, hi => by
    simp only [List.getElem?_cons_zero, Option.some.injEq] at hi
    subst hi
    obtain ⟨c, d, e, h1, h2⟩ := h
    refine ⟨[], c, d, by simpa using e, by simp [fsizes], h1, ?_⟩
    intro g c' hg
    exact ⟨c', d, by simp, hg, h2⟩
  | f :: fs, j, i + 1, cs, f', h, hi => by
    simp only [List.getElem?_cons_succ] at hi
    obtain ⟨c, d, e, h1, h2⟩ := h
    obtain ⟨c1, cc, c2, e2, hl, hr, hset⟩ := RepFs.nth h2 hi
    have hlc := RepF.length h1
    refine ⟨c ++ c1, cc, c2, by simp [e, e2], by simp [fsizes, hlc, hl], by rw [show j + (i + 1) + 1 = j + 1 + i + 1 by omega]; exact hr, ?_⟩
    intro g c' hg
    refine ⟨c, c1 ++ c' ++ c2, by simp, h1, hset g c' (by rw [show j + (i + 1) + 1 = j + 1 + i + 1 by omega] at hg; exact hg)⟩

theorem RepFs.allI {s : Nat} : ∀ {fs : List F} {j : Nat} {cs : List Value} {l : List I}, RepFs G σ w s j fs cs → allI fs = some l → RepIs G l cs
  | [], _, _, _, h, hl => by
    simp only [Ab.allI, Option.some.injEq] at hl
    subst hl
    simpa only [RepIs, RepFs] using h
  | .i x :: fs, j, cs, l, h, hl => by
    simp only [Ab.allI] at hl
    split at hl
    · rename_i m hm
      simp only [Option.some.injEq] at hl
      subst hl
      obtain ⟨c, d, e, h1, h2⟩ := h
      simp only [RepIs]
      exact ⟨c, d, e, h1, RepFs.allI h2 hm⟩
    · cases hl
  | .vec _ _ _ :: fs, j, cs, l, h, hl => by simp [Ab.allI] at hl

/-- The row of an owned slice. -/
theorem VecAt.row {lab : Nat × Nat} {e : TypeId} {sz : Nat} {l : List I} {c : Value} {b : Nat} (h : VecAt G σ w lab e sz l c) (hok : WOk G σ Fr w0 w) (hb : σ b = some lab) (hne : l ≠ []) :
    ∃ bl xs post cap, c = .slice (some ⟨b, 0, none⟩) l.length cap ∧ l.length ≤ cap ∧ cap ≤ maxLen ∧ bl.size = cap * sz ∧ Row w b e bl ∧ bl.toList = xs ++ post ∧ RepIs G l xs ∧ (∀ x ∈ l, x.size = sz) := by
  obtain ⟨xs, h1, h2, h3, h4⟩ := h
  rcases h1.2 with ⟨rfl, h0⟩ | ⟨g, cap, cur, rfl, _, hg, hn, hm, hs, ht⟩
  · exact absurd (List.eq_nil_of_length_eq_zero h0) hne
  · obtain rfl := hok.inj b g lab hb (h4 g (by simp [Value.ownBlock]))
    exact ⟨cur, xs, cur.toList.drop (l.length * sz), cap, rfl, hn, hm, hs, hg, by rw [← ht, List.take_append_drop], h2, h3⟩

theorem hitV_spec {lab : Nat × Nat} {e : TypeId} {sz : Nat} {l : List I} {c : Value} {b off : Nat} {r : List Nat} {q : Hit} (h : VecAt G σ w lab e sz l c) (hok : WOk G σ Fr w0 w) (hb : σ b = some lab)
    (hh : hitV sz l r = some (off, q)) : ∃ u, q = .item u ∧ ∃ bl pre cs post, Row w b e bl ∧ bl.toList = pre ++ cs ++ post ∧ pre.length = off ∧ RepI G u cs ∧
      (∀ u' cs', u'.size = u.size → RepI G u' cs' → VecAt G σ (w.setRow b (pre ++ cs' ++ post).toArray) lab e sz (putV l r u') c) := by
  cases r with
  | nil => cases hh
  | cons i r =>
    simp only [hitV] at hh
    cases hy : l[i]? with
    | none => simp [hy] at hh
    | some y =>
      simp only [hy] at hh
      obtain ⟨p, v, h1, rfl, rfl⟩ := hitI_some hh
      have hi : i < l.length := (List.getElem?_eq_some_iff.1 hy).1
      obtain ⟨bl, xs, post, cap, hc, hn, hm, hs, hg, hbl, hr, hsz⟩ := h.row hok hb (by intro e; subst e; simp at hi)
      obtain ⟨c1, cc, c2, e1, e2, e3, hset⟩ := RepIs.nth i hr hy
      obtain ⟨d1, d, d2, e4, e5, e6, hput⟩ := RepI.put r e3 h1
      have htake : sizes (l.take i) = i * sz := by
        rw [sizes_const (sz := sz) fun z hz => hsz z (List.mem_of_mem_take hz), List.length_take, Nat.min_eq_left (Nat.le_of_lt hi)]
      refine ⟨v, rfl, bl, c1 ++ d1, d, d2 ++ c2 ++ post, hg, by simp [hbl, e1, e4], by simp [e2, e5, htake], e6, ?_⟩
      intro u' cs' hu hcs
      have hnew := hset _ _ (hput u' cs' hu hcs)
      have hl1 := RepI.length _ _ e6
      have hl2 := RepI.length _ _ hcs
      have hxl : xs.length = l.length * sz := by rw [RepIs.length _ _ hr, sizes_const hsz]
      have hnl : (c1 ++ (d1 ++ cs' ++ d2) ++ c2).length = l.length * sz := by
        rw [← hxl, e1, e4]
        simp [hl1, hl2, hu]
      have hsz' : ∀ x ∈ putV l (i :: r) u', x.size = sz := by
        intro x hx
        simp only [putV, hy] at hx
        rcases List.mem_or_eq_of_mem_set hx with hx | hx
        · exact hsz x hx
        · subst hx
          rw [I.put_size r h1 hu]
          exact hsz y (List.mem_of_getElem? hy)
      have hlen : (putV l (i :: r) u').length = l.length := by simp [putV, hy]
      have hbsz : (c1 ++ d1 ++ cs' ++ (d2 ++ c2 ++ post)).toArray.size = bl.size := by
        have : bl.size = bl.toList.length := by simp
        rw [this, hbl, e1, e4]
        simp [hl1, hl2, hu]
      refine ⟨c1 ++ (d1 ++ cs' ++ d2) ++ c2, ⟨by rw [hlen]; exact hnl, .inr ⟨b, cap, _, by rw [hlen]; exact hc, Nat.zero_le _, hg.set hbsz, by rw [hlen]; exact hn, hm, ?_, ?_⟩⟩, ?_, hsz', ?_⟩
      · have : bl.size = bl.toList.length := by simp
        rw [← hs, this, hbl, e1, e4]
        simp [hl1, hl2, hu]
      · rw [hlen, show (c1 ++ d1 ++ cs' ++ (d2 ++ c2 ++ post)).toArray.toList = (c1 ++ (d1 ++ cs' ++ d2) ++ c2) ++ post by simp, ← hnl]
        exact List.take_left
      · simpa only [putV, hy] using hnew
      · intro b' hb'
        rw [hc] at hb'
        simp only [Value.ownBlock, Option.some.injEq] at hb'
        subst hb'
        exact hb

theorem RepF.far {lab : Nat × Nat} {f : F} {cs : List Value} {b : Nat} (h : RepF G σ w lab f cs) (hb : σ b ≠ some lab) (row : Array Value) : RepF G σ (w.setRow b row) lab f cs :=
  h.tr (Mem.le.refl G) fun b' hb' => ⟨hb', setRow_other w b b' row (by rintro rfl; exact hb hb')⟩
theorem RepFs.far {s j : Nat} {fs : List F} {cs : List Value} {b : Nat} (h : RepFs G σ w s j fs cs) (hb : ∀ k, j < k → σ b ≠ some (s, k)) (row : Array Value) : RepFs G σ (w.setRow b row) s j fs cs :=
  RepFs.tr (Mem.le.refl G) h fun b' k hj hb' => ⟨hb', setRow_other w b b' row (by rintro rfl; exact hb k hj hb')⟩

theorem hit_item {s k off b : Nat} {sv : SV} {r : List Nat} {u : I} {c : Value} (hok : WOk G σ Fr w0 w) (ho : RepOwn G σ w s sv c) (hh : sv.hit k r = some (off, .item u)) (hb : σ b = some (s, k)) :
    ∃ bl ty fz pre cs post, w.heap[b]? = some (.cells bl ty fz) ∧ (fz = (0, 0) ∨ bl.size ≤ fz.1) ∧ bl.toList = pre ++ cs ++ post ∧ pre.length = off ∧ RepI G u cs ∧
      ∀ u' cs', u'.size = u.size → RepI G u' cs' → RepOwn G σ (w.setRow b (pre ++ cs' ++ post).toArray) s (sv.putAt k r u') c := by
  cases k with
  | zero =>
    simp only [SV.hit] at hh
    cases sv with
    | vec e sz l =>
      obtain ⟨u', hu, bl, pre, cs, post, h1, h2, h3, h4, h5⟩ := hitV_spec ho hok hb hh
      cases hu
      obtain ⟨ty, fz, h1, h1', _⟩ := h1
      exact ⟨bl, ty, fz, pre, cs, post, h1, h1', h2, h3, h4, h5⟩
    | box t =>
      obtain ⟨b', cells, ty, h1, h2, h3, h4⟩ := ho
      obtain rfl := hok.inj b b' _ hb h2
      cases t with
      | one f =>
        cases f with
        | i x =>
          obtain ⟨p, v, h5, rfl, h6⟩ := hitI_some hh
          cases h6
          obtain ⟨c1, cc, c2, e1, e2, e3, hput⟩ := RepI.put r h4 h5
          refine ⟨cells, ty, (0, 0), c1, cc, c2, h3, .inl rfl, e1, by simpa using e2, e3, ?_⟩
          intro u' cs' hu hcs
          refine ⟨b, _, ty, h1, h2, setRow_heap w b cells _ ty (0, 0) h3, ?_⟩
          exact hput u' cs' hu hcs
        | vec e sz l => cases r <;> simp at hh
      | st fs =>
        cases r with
        | nil =>
          simp only at hh
          split at hh
          · rename_i l hl
            cases hh
            refine ⟨cells, ty, (0, 0), [], cells.toList, [], h3, .inl rfl, by simp, rfl, RepFs.allI h4 hl, ?_⟩
            intro u' cs' _ hcs
            refine ⟨b, _, ty, h1, h2, setRow_heap w b cells _ ty (0, 0) h3, ?_⟩
            show RepI _ _ _
            simpa [SV.putAt] using hcs
          · cases hh
        | cons j r =>
          simp only at hh
          split at hh
          · rename_i y hy
            obtain ⟨p, v, h5, rfl, h6⟩ := hitI_some hh
            cases h6
            obtain ⟨c1, cc, c2, e1, e2, e3, hset⟩ := RepFs.nth h4 hy
            obtain ⟨d1, d, d2, e4, e5, e6, hput⟩ := RepI.put r e3 h5
            refine ⟨cells, ty, (0, 0), c1 ++ d1, d, d2 ++ c2, h3, .inl rfl, by simp [e1, e4], by simp [e2, e5], e6, ?_⟩
            intro u' cs' hu hcs
            simp only [SV.putAt, hy]
            refine ⟨b, _, ty, h1, h2, setRow_heap w b cells _ ty (0, 0) h3, ?_⟩
            have := hset (.i (y.put r u')) _ (hput u' cs' hu hcs)
            have := RepFs.far (b := b) this (fun k hk e => by rw [h2] at e; cases e; omega) (c1 ++ d1 ++ cs' ++ (d2 ++ c2)).toArray
            show RepFs _ _ _ _ _ _ _
            simpa using this
          · split at hh <;> cases hh
          · cases hh
    | _ => cases hh
  | succ j =>
    simp only [SV.hit] at hh
    cases sv with
    | box t =>
      obtain ⟨b', cells, ty, h1, h2, h3, h4⟩ := ho
      have hbb : b' ≠ b := by rintro rfl; rw [h2] at hb; cases hb
      cases t with
      | one f =>
        cases f with
        | i x => simp [SV.vecAt] at hh
        | vec e sz l =>
          obtain ⟨c', hc', h4⟩ := h4
          by_cases hj : j = 0
          · subst hj
            simp only [SV.vecAt] at hh
            obtain ⟨u', hu, bl, pre, cs, post, g1, g2, g3, g4, g5⟩ := hitV_spec h4 hok hb hh
            cases hu
            obtain ⟨ty1, fz1, g1, g1', g1''⟩ := g1
            refine ⟨bl, ty1, fz1, pre, cs, post, g1, g1', g2, g3, g4, ?_⟩
            intro u' cs' hu hcs
            refine ⟨b', cells, ty, h1, h2, by rw [setRow_other w b b' _ hbb]; exact h3, ?_⟩
            exact ⟨c', hc', g5 u' cs' hu hcs⟩
          · have : (SV.box (.one (.vec e sz l))).vecAt (j + 1) = none := by
              unfold SV.vecAt
              split <;> simp_all
            simp [this] at hh
      | st fs =>
        simp only [SV.vecAt] at hh
        cases hf : fs[j]? with
        | none => simp [hf] at hh
        | some f =>
          cases f with
          | i x => simp [hf] at hh
          | vec e sz l =>
            simp only [hf] at hh
            obtain ⟨c1, cc, c2, e1, e2, e3, hset⟩ := RepFs.nth h4 hf
            rw [Nat.zero_add] at e3 hset
            obtain ⟨c', hc', e3⟩ := e3
            obtain ⟨u', hu, bl, pre, cs, post, g1, g2, g3, g4, g5⟩ := hitV_spec e3 hok hb hh
            cases hu
            obtain ⟨ty1, fz1, g1, g1', g1''⟩ := g1
            refine ⟨bl, ty1, fz1, pre, cs, post, g1, g1', g2, g3, g4, ?_⟩
            intro u' cs' hu hcs
            simp only [SV.putAt, hf]
            refine ⟨b', cells, ty, h1, h2, by rw [setRow_other w b b' _ hbb]; exact h3, ?_⟩
            show RepFs _ _ _ _ _ _ _
            refine RepFs.setF (Mem.le.refl G) h4 hf (fun b'' k hne hb'' => ⟨hb'', setRow_other w b b'' _ ?_⟩) fun cc hcc => ?_
            · rintro rfl
              rw [hb] at hb''
              cases hb''
              omega
            · rw [Nat.zero_add] at hcc ⊢
              obtain ⟨c'', hc'', hcc⟩ := hcc
              obtain ⟨u'', hu2, bl2, pre2, cs2, post2, k1, k2, k3, k4, k5⟩ := hitV_spec hcc hok hb hh
              cases hu2
              obtain ⟨ty2, fz2, k1, _⟩ := k1
              rw [g1] at k1
              cases k1
              refine ⟨c'', hc'', ?_⟩
              have hpre : pre2 = pre ∧ cs2 ++ post2 = cs ++ post := by
                have : pre2 ++ (cs2 ++ post2) = pre ++ (cs ++ post) := by rw [← List.append_assoc, ← k2, g2, List.append_assoc]
                exact List.append_inj this (by rw [k3, g3])
              have hpost : post2 = post := (List.append_inj hpre.2 (by rw [RepI.length _ _ k4, RepI.length _ _ g4])).2
              have := k5 u' cs' hu hcs
              rwa [hpre.1, hpost] at this
    | _ => simp [SV.vecAt] at hh
end
end Go.Ab
