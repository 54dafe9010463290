/- One text of the proof whose last text says what is proved. -/
import Derived.Test.YtoombangidlpjaaAb14v
set_option linter.unusedVariables false
set_option linter.unusedSimpArgs false
namespace Go.Ab
section
variable {P : Program} {N : Nat} {G : Mem} {σ : Lab} {Fr : Mem} {w0 : Base} {w : World} {st : St} {a : Act}


/-- Free labels of a slot. -/
theorem WOk.room (h : WOk G σ Fr w0 w) (s : Nat) : ∃ K, ∀ b k, σ b = some (s, k) → k < K := by
  have aux : ∀ n, ∃ K, ∀ b, b < n → ∀ k, σ b = some (s, k) → k < K := by
    intro n
    induction n with
    | zero => exact ⟨0, fun b hb => by omega⟩
    | succ n ih =>
      obtain ⟨K, hK⟩ := ih
      cases hn : σ n with
      | none => exact ⟨K, fun b hb k hk => by
          rcases Nat.lt_succ_iff_lt_or_eq.1 hb with h | rfl
          · exact hK b h k hk
          · rw [hn] at hk; cases hk⟩
      | some p => exact ⟨max K (p.2 + 1), fun b hb k hk => by
          rcases Nat.lt_succ_iff_lt_or_eq.1 hb with h | rfl
          · have := hK b h k hk; omega
          · rw [hn] at hk; cases hk; simp only; omega⟩
  obtain ⟨K, hK⟩ := aux w.heap.size
  exact ⟨K, fun b k hb => hK b (h.own b _ hb).2.2 k hb⟩
/-- Free blocks go over to a slot. -/
def Lab.adopt (σ : Lab) (s K : Nat) (bs : List Nat) : Lab := fun b => if b ∈ bs then some (s, K + bs.idxOf b) else σ b
theorem Lab.adopt_new {s K : Nat} {bs : List Nat} {b : Nat} (h : b ∈ bs) : σ.adopt s K bs b = some (s, K + bs.idxOf b) := by simp [Lab.adopt, h]
theorem Lab.adopt_old {s K : Nat} {bs : List Nat} {b : Nat} (h : b ∉ bs) : σ.adopt s K bs b = σ b := by simp [Lab.adopt, h]
theorem idxOf_inj {bs : List Nat} {b b' : Nat} (h : b ∈ bs) (h' : b' ∈ bs) (e : bs.idxOf b = bs.idxOf b') : b = b' := by
  have h1 := List.getElem_idxOf (List.idxOf_lt_length_of_mem h)
  have h2 := List.getElem_idxOf (List.idxOf_lt_length_of_mem h')
  rw [← h1, ← h2]
  simp only [e]
theorem WOk.adopt {s K : Nat} {bs : List Nat} (h : WOk G σ Fr w0 w) (hK : ∀ b k, σ b = some (s, k) → k < K) (hf : ∀ b ∈ bs, G b = none ∧ Fr b = none ∧ b < w.heap.size) : WOk G (σ.adopt s K bs) Fr w0 w := by
  refine ⟨h.fixed, ?_, ?_, h.frame, h.os, h.tape, h.output, h.size, h.apart⟩
  · intro b lab hb
    by_cases hm : b ∈ bs
    · exact hf b hm
    · rw [Lab.adopt_old hm] at hb
      exact h.own b lab hb
  · intro b b' lab hb hb'
    by_cases hm : b ∈ bs <;> by_cases hm' : b' ∈ bs
    · rw [Lab.adopt_new hm] at hb
      rw [Lab.adopt_new hm'] at hb'
      rw [← hb'] at hb
      simp only [Option.some.injEq, Prod.mk.injEq, true_and] at hb
      exact idxOf_inj hm hm' (by omega)
    · rw [Lab.adopt_new hm] at hb
      rw [Lab.adopt_old hm', ← hb] at hb'
      have := hK _ _ hb'
      omega
    · rw [Lab.adopt_old hm] at hb
      rw [Lab.adopt_new hm'] at hb'
      obtain rfl := Option.some.inj hb'
      have := hK _ _ hb
      omega
    · rw [Lab.adopt_old hm] at hb
      rw [Lab.adopt_old hm'] at hb'
      exact h.inj b b' lab hb hb'
/-- A tree that nobody holds. -/
def FreeD (G : Mem) (σ : Lab) (Fr : Mem) (w : World) (u : D) (c : Value) : Prop :=
  ∃ bs, RepD G w u c.cells.toList bs ∧ valOf u.isAgg c = true ∧ bs.Nodup ∧ ∀ b ∈ bs, G b = none ∧ Fr b = none ∧ σ b = none ∧ b < w.heap.size
theorem FreeD.item {u : I} {c : Value} (h : RepV G u c) : FreeD G σ Fr w (.it u) c := by
  refine ⟨[], ?_, ?_, List.nodup_nil, by simp⟩
  · simp only [RepD, and_true]
    exact h.cells
  · unfold RepV at h
    simp only [D.isAgg]
    split at h
    · rename_i hx
      obtain ⟨cs, rfl, _⟩ := h
      rw [hx]; rfl
    · rename_i hx
      rw [show u.isAgg = false by simpa using hx]
      have := RepI.one _ _ h c (by simp)
      cases c <;> first | rfl | (simp [Value.oneCell'] at this)
end
end Go.Ab

namespace Go.Ab
section
variable {P : Program} {N : Nat} {G : Mem} {σ : Lab} {Fr : Mem} {w0 : Base} {w : World} {st : St} {a : Act}

theorem run_storeVar_cells {fz : Nat × Nat} {t : TypeId} {agg : Bool} {b off : Nat} {bl : Array Value} {ty : TypeId} {pre cs post : List Value} {v : Value} (h : tyOk P t agg cs.length = true)
    (hh : w.heap[b]? = some (.cells bl ty fz)) (hfz : fz = (0, 0) ∨ bl.size ≤ fz.1) (hs : bl.toList = pre ++ cs ++ post) (hp : pre.length = off) (h1 : ∀ c ∈ v.cells.toList, c.oneCell' = true) (hlen : v.cells.toList.length = cs.length) :
    (storeVar t ⟨b, off, none⟩ v).run P w = .ok () (w.setRow b (pre ++ v.cells.toList ++ post).toArray) := by
  obtain ⟨_, h2⟩ := isAgg_run h w
  have hblen : bl.size = pre.length + cs.length + post.length := by
    have : bl.size = bl.toList.length := by simp
    rw [this, hs]
    simp
    omega
  have hst := run_storeCells_any P b off ty fz v.cells.toList 0 bl w hh hfz (by rw [hlen, hblen, hp]; omega) h1
  have e1 : bl.toList.take (off + 0) = pre := by rw [hs, List.append_assoc, Nat.add_zero, ← hp, List.take_left]
  have e2 : bl.toList.drop (off + 0 + v.cells.toList.length) = post := by
    rw [hs, hlen, Nat.add_zero, ← hp, ← List.length_append, List.drop_left]
  rw [e1, e2] at hst
  have hsz : v.cells.size = cs.length := by rw [← hlen]; simp
  simp [storeVar, h2, hsz, hst]

/-- Another tree is laid at a place. -/
theorem Rel.setPlace {s cur : Nat} {inv p : List Nat} {t t' u u' : D} {tt : TypeId} {agg : Bool} {c cv : Value} (h : Rel G σ Fr w0 st a w) (hs : st[s]? = some (cur, .own inv t)) (hat : t.at p = some u) (hput : t.put p u' = some t')
    (hfree : FreeD G σ Fr w u' cv) (hag : u'.isAgg = u.isAgg) (hsz : u'.size = u.size) (hpt : PtD w t (val a w0 s) p c) (ht : tyOk P tt agg u.size = true) :
    ∃ b o w' σ', c = .pointer (some ⟨b, o, none⟩) ∧ (storeVar tt ⟨b, o, none⟩ cv).run P w = .ok () w' ∧
      Rel G σ' Fr w0 (st.set s (if u.leaf then cur else cur + 1, .own (if u.leaf then inv else bump inv p.length (cur + 1)) t')) a w' := by
  obtain ⟨bs, hrep, hva, hnd, hlab⟩ := show OwnD G σ w s t (val a w0 s) from h.slots s cur _ hs
  obtain ⟨m, s', ubs, f1, f2, f3, f4, f5, f6⟩ := focus (here := none) hrep hnd hat
  obtain ⟨u0, b, o, cs, p1, p2, rfl⟩ := hpt
  rw [f1] at p2
  obtain rfl := Option.some.inj p2
  have hp0 : p ≠ [] := by
    rintro rfl
    simp only [spot, Option.some.injEq, Prod.mk.injEq] at f1
    cases f1.1
  obtain ⟨ubs', g1, g2, g3, g4⟩ := hfree
  have hcl : cs.length = u.size := RepD.length f2
  have hvl : cv.cells.toList.length = cs.length := by rw [RepD.length g1, hsz, hcl]
  cases m with
  | inl pre post => obtain ⟨_, e⟩ := f5; cases e
  | val => cases f5
  | blk g pre post ty fz =>
    obtain ⟨q1, q2, ⟨row, q3, q4, q5⟩, q6⟩ := f5
    simp only [Option.some.injEq, Prod.mk.injEq] at q6
    obtain ⟨rfl, rfl⟩ := q6
    simp only at q5
    have hrun := run_storeVar_cells (P := P) (cs := cs) (v := cv) (t := tt) (agg := agg) (by rw [hcl]; exact ht) q3 q4 q5 rfl (RepD.one g1) hvl
    obtain ⟨kb, hkb⟩ := hlab b q1
    have hbu : b ∉ ubs' := fun hb => by
      have := (g4 b hb).2.2.1
      rw [hkb] at this
      cases this
    have hub : ∀ x ∈ ubs', x ∉ bs := fun x hx hb => by
      obtain ⟨k, hk⟩ := hlab x hb
      have := (g4 x hx).2.2.1
      rw [hk] at this
      cases this
    have hset : (w.setRow b (pre ++ cv.cells.toList ++ post).toArray).heap[b]? = some (.cells (pre ++ cv.cells.toList ++ post).toArray ty fz) := setRow_heap w b row _ ty fz q3
    have hoth : ∀ x, x ≠ b → (w.setRow b (pre ++ cv.cells.toList ++ post).toArray).heap[x]? = w.heap[x]? := fun x hx => setRow_other w b x _ hx
    obtain ⟨bs', r1, r2, r3, r4, r5⟩ := f6 G (w.setRow b (pre ++ cv.cells.toList ++ post).toArray) u' cv.cells.toList ubs' t' (Mem.le.refl G) hvl hag
      (g1.tr (Mem.le.refl G) fun x hx => hoth x fun e => hbu (e ▸ hx)) g3 (fun x hx => .inr (hub x hx)) ⟨hset, fun x _ _ hxb => hoth x hxb⟩ hput
    rw [if_neg hp0] at r4
    obtain ⟨K, hK⟩ := h.wok.room s
    have hold : ∀ x k, σ x = some k → σ.adopt s K ubs' x = some k := fun x k hx => by
      rw [Lab.adopt_old]
      · exact hx
      · intro hm
        have := (g4 x hm).2.2.1
        rw [hx] at this
        cases this
    refine ⟨b, pre.length, _, σ.adopt s K ubs', rfl, hrun, ?_⟩
    have hwok := (h.wok.setRow hkb (pre ++ cv.cells.toList ++ post).toArray).adopt (s := s) (K := K) (bs := ubs') hK fun x hx => by
      obtain ⟨k1, k2, _, k4⟩ := g4 x hx
      exact ⟨k1, k2, by simpa [World.setRow] using k4⟩
    obtain ⟨hpd, hbd⟩ := Focus.refs (G := G) (inv := inv) (cur := cur) r5
    refine h.tree hwok (Mem.le.refl G) hs (by split <;> omega) ?_ (fun _ x k hx => hold x _ hx) ?_ hpd hbd
    · intro s1 hs1 x k hx
      exact ⟨hold x _ hx, hoth x fun e => by rw [e, hkb] at hx; cases hx; exact hs1 rfl⟩
    · refine ⟨bs', r1, by rw [r4]; exact hva, r2, fun x hx => ?_⟩
      rcases (r3 x).1 hx with ⟨h1, _⟩ | h1
      · obtain ⟨k, hk⟩ := hlab x h1
        exact ⟨k, hold x _ hk⟩
      · exact ⟨_, Lab.adopt_new h1⟩

end
end Go.Ab

namespace Go.Ab
/-- A pointer operand that leads into a tree. -/
def rdD (x : Opd) (k : (s cur : Nat) → (inv : List Nat) → D → List Nat → M) : M := match x with
  | .t n => .get n fun ver sv => match sv with
    | .own inv t => match t with
      | .ptr t => k n ver inv (.ptr t) [0]
      | _ => .fail
    | .pd s v p => .get s fun cur sv' => match sv' with
      | .own inv t => .need (p ≠ [] ∧ alive v inv p.length = true) fun _ => k s cur inv t p
      | _ => .fail
    | .par h => .get h fun cur sv' => match sv' with
      | .own inv t => match t with
        | .ptr t => k h cur inv (.ptr t) [0]
        | _ => .fail
      | _ => .fail
    | _ => .fail
  | _ => .fail
/-- A slice or a map that lies in a tree. -/
def rdH (x : Opd) (k : (s cur : Nat) → (inv : List Nat) → D → List Nat → M) : M := match x with
  | .t n => .get n fun ver sv => match sv with
    | .own inv t => .need (t.head = true) fun _ => k n ver inv t []
    | .bd s v p => .get s fun cur sv' => match sv' with
      | .own inv t => .need (alive v inv (p.length + 1) = true) fun _ => k s cur inv t p
      | _ => .fail
    | .par h => .get h fun cur sv' => match sv' with
      | .own inv t => .need (t.head = true) fun _ => k h cur inv t []
      | _ => .fail
    | _ => .fail
  | _ => .fail
section
variable {P : Program} {N : Nat} {G : Mem} {σ : Lab} {Fr : Mem} {w0 : Base} {w : World} {st : St} {a : Act}

theorem rdD_rep {x : Operand} {y : Opd} {k : (s cur : Nat) → (inv : List Nat) → D → List Nat → M} {Q : St → Prop} (h : Rel G σ Fr w0 st a w) (ho : opdOk w0.n x y = true) (hq : (rdD y k).wp P Q st) :
    ∃ s cur inv t p, (k s cur inv t p).wp P Q st ∧ st[s]? = some (cur, .own inv t) ∧ p ≠ [] ∧ PtD w t (val a w0 s) p (a.eval x) := by
  cases y with
  | c _ => exact hq.elim
  | nils _ _ => exact hq.elim
  | t n =>
    obtain ⟨rfl, hnlt⟩ := opdOk_t ho
    simp only [rdD, M.wp] at hq
    cases hs : st[n]? with
    | none => simp [hs] at hq
    | some cur =>
      obtain ⟨ver, sv⟩ := cur
      simp only [hs] at hq
      have hrep := h.slot hnlt hs
      have hv : val a w0 n = a.eval (.tmp n) := val_tmp (by rw [h.n]; exact hnlt)
      cases sv with
      | own inv t =>
        cases t with
        | ptr t => exact ⟨n, ver, inv, _, [0], hq, hs, by simp, by rw [hv]; exact OwnD.pt hrep⟩
        | _ => exact hq.elim
      | pd s v p =>
        obtain ⟨cur, h1, h2, h3⟩ := hrep
        simp only [M.wp, h1] at hq
        obtain ⟨cv, csv⟩ := cur
        cases csv with
        | own inv t =>
          obtain ⟨⟨hp, ha⟩, hq⟩ := hq
          exact ⟨s, cv, inv, t, p, hq, h1, hp, h3 inv t rfl hp ha⟩
        | _ => exact hq.elim
      | par hh =>
        obtain ⟨hv', hle⟩ := h.pars n ver hh hs
        rw [hv] at hv'
        simp only [M.wp] at hq
        cases h1 : st[hh]? with
        | none => simp [h1] at hq
        | some cur =>
          obtain ⟨cv, csv⟩ := cur
          simp only [h1] at hq
          have hrep' := h.slots hh cv csv h1
          cases csv with
          | own inv t =>
            cases t with
            | ptr t => exact ⟨hh, cv, inv, _, [0], hq, h1, by simp, by rw [hv']; exact OwnD.pt hrep'⟩
            | _ => exact hq.elim
          | _ => exact hq.elim
      | _ => exact hq.elim

theorem rdH_rep {x : Operand} {y : Opd} {k : (s cur : Nat) → (inv : List Nat) → D → List Nat → M} {Q : St → Prop} (h : Rel G σ Fr w0 st a w) (ho : opdOk w0.n x y = true) (hq : (rdH y k).wp P Q st) :
    ∃ s cur inv t p, (k s cur inv t p).wp P Q st ∧ st[s]? = some (cur, .own inv t) ∧ HdD w t (val a w0 s) p (a.eval x) := by
  cases y with
  | c _ => exact hq.elim
  | nils _ _ => exact hq.elim
  | t n =>
    obtain ⟨rfl, hnlt⟩ := opdOk_t ho
    simp only [rdH, M.wp] at hq
    cases hs : st[n]? with
    | none => simp [hs] at hq
    | some cur =>
      obtain ⟨ver, sv⟩ := cur
      simp only [hs] at hq
      have hrep := h.slot hnlt hs
      have hv : val a w0 n = a.eval (.tmp n) := val_tmp (by rw [h.n]; exact hnlt)
      cases sv with
      | own inv t =>
        obtain ⟨hh, hq⟩ := hq
        exact ⟨n, ver, inv, _, [], hq, hs, by rw [hv]; exact OwnD.hd hrep hh⟩
      | bd s v p =>
        obtain ⟨cur, h1, h2, h3⟩ := hrep
        simp only [M.wp, h1] at hq
        obtain ⟨cv, csv⟩ := cur
        cases csv with
        | own inv t =>
          obtain ⟨ha, hq⟩ := hq
          exact ⟨s, cv, inv, t, p, hq, h1, h3 inv t rfl ha⟩
        | _ => exact hq.elim
      | par hh =>
        obtain ⟨hv', hle⟩ := h.pars n ver hh hs
        rw [hv] at hv'
        simp only [M.wp] at hq
        cases h1 : st[hh]? with
        | none => simp [h1] at hq
        | some cur =>
          obtain ⟨cv, csv⟩ := cur
          simp only [h1] at hq
          have hrep' := h.slots hh cv csv h1
          cases csv with
          | own inv t =>
            obtain ⟨hh', hq⟩ := hq
            exact ⟨hh, cv, inv, _, [], hq, h1, by rw [hv']; exact OwnD.hd hrep' hh'⟩
          | _ => exact hq.elim
      | _ => exact hq.elim

/-- A place's block. -/
theorem PtD.block {s : Nat} {t u : D} {cr c : Value} {p : List Nat} (ho : OwnD G σ w s t cr) (hat : t.at p = some u) (h : PtD w t cr p c) :
    ∃ b off bl ty fz pre cs post ubs, c = .pointer (some ⟨b, off, none⟩) ∧ w.heap[b]? = some (.cells bl ty fz) ∧ bl.toList = pre ++ cs ++ post ∧ pre.length = off ∧ RepD G w u cs ubs ∧ ubs.Nodup ∧
      spot w p t (none, cr.cells.toList) = some (some (b, off), cs) := by
  obtain ⟨bs, hrep, hva, hnd, hlab⟩ := ho
  obtain ⟨m, s', ubs, f1, f2, f3, f4, f5, f6⟩ := focus (here := none) hrep hnd hat
  obtain ⟨u0, b, o, cs, p1, p2, rfl⟩ := h
  have p2' := p2
  rw [f1] at p2
  obtain rfl := Option.some.inj p2
  cases m with
  | inl pre post => obtain ⟨_, e⟩ := f5; cases e
  | val => cases f5
  | blk g pre post ty fz =>
    obtain ⟨q1, q2, ⟨row, q3, q4, q5⟩, q6⟩ := f5
    simp only [Option.some.injEq, Prod.mk.injEq] at q6
    obtain ⟨rfl, rfl⟩ := q6
    exact ⟨b, _, row, ty, fz, pre, cs, post, ubs, rfl, q3, q5, rfl, f2, f3, p2'⟩
/-- A head's reading. -/
theorem HdD.read {s : Nat} {t u : D} {cr c : Value} {p : List Nat} (ho : OwnD G σ w s t cr) (hat : t.at p = some u) (h : HdD w t cr p c) : ∃ hh ubs, RepD G w u [c] ubs ∧ ubs.Nodup ∧ spot w p t (none, cr.cells.toList) = some (hh, [c]) := by
  obtain ⟨bs, hrep, hva, hnd, hlab⟩ := ho
  obtain ⟨m, s', ubs, f1, f2, f3, f4, f5, f6⟩ := focus (here := none) hrep hnd hat
  obtain ⟨u0, hh, p1, p0, p2⟩ := h
  have p2' := p2
  rw [f1] at p2
  obtain rfl := Option.some.inj p2
  exact ⟨hh, ubs, f2, f3, p2'⟩
theorem at_snoc : ∀ {p : List Nat} {t u : D} {i : Nat}, t.at p = some u → t.at (p ++ [i]) = u.kid i
  | [], t, u, i, h => by
    simp only [D.at, Option.some.injEq] at h
    subst h
    simp only [List.nil_append, D.at]
    cases t.kid i <;> rfl
  | j :: p, t, u, i, h => by
    simp only [D.at] at h
    simp only [List.cons_append, D.at]
    cases hk : t.kid j with
    | none => simp [hk] at h
    | some y => simp only [hk] at h; exact at_snoc h
theorem spot_snoc : ∀ {p : List Nat} {t u y : D} {i : Nat} {z z' : Spot}, t.at p = some u → spot w p t z = some z' → u.kid i = some y → spot w (p ++ [i]) t z = kidSpot w u z' i
  | [], t, u, y, i, z, z', h, hz, hy => by
    simp only [D.at, Option.some.injEq] at h
    simp only [spot, Option.some.injEq] at hz
    subst h hz
    simp only [List.nil_append, spot, hy]
    cases kidSpot w t z i <;> rfl
  | j :: p, t, u, y, i, z, z', h, hz, hy => by
    simp only [D.at] at h
    simp only [spot] at hz
    simp only [List.cons_append, spot]
    cases hk : t.kid j with
    | none => simp [hk] at h
    | some y0 =>
      simp only [hk] at h hz ⊢
      cases hks : kidSpot w t z j with
      | none => simp [hks] at hz
      | some z0 =>
        simp only [hks] at hz ⊢
        exact spot_snoc h hz hy
end
end Go.Ab

namespace Go.Ab
open Go.Op
/-- What is left where a tree was taken out. -/
def D.husk : D → D
  | .st l => .it (.agg (List.replicate (dsizes l) .und))
  | _ => .it .und
theorem sizes_und : ∀ n, sizes (List.replicate n I.und) = n
  | 0 => rfl
  | n + 1 => by simp [List.replicate_succ, sizes, I.size, sizes_und n]; omega
theorem und_rep {G : Mem} : ∀ {cs : List Value} {n : Nat}, cs.length = n → (∀ c ∈ cs, c.oneCell' = true) → RepIs G (List.replicate n .und) cs
  | [], n, h, _ => by subst h; simp [RepIs]
  | c :: cs, n, h, h1 => by
    subst h
    simp only [List.length_cons, List.replicate_succ, RepIs]
    exact ⟨[c], cs, rfl, by simp only [RepI]; exact ⟨c, rfl, h1 c (by simp)⟩, und_rep rfl fun x hx => h1 x (by simp [hx])⟩
/-- Whether a tree must be taken out as a whole. -/
def D.whole : D → Bool
  | .it _ => false
  | _ => true
theorem husk_shape {u : D} (h : u.whole = true) : u.husk.isAgg = u.isAgg ∧ u.husk.size = u.size ∧ u.leaf = false := by
  cases u with
  | it x => cases h
  | st l => exact ⟨rfl, sizes_und _, rfl⟩
  | _ => exact ⟨rfl, rfl, rfl⟩
theorem husk_rep {G : Mem} {w : World} {u : D} {cs : List Value} {bs : List Nat} (hw : u.whole = true) (h : RepD G w u cs bs) (G' : Mem) (w' : World) : RepD G' w' u.husk cs [] := by
  have hl := RepD.length h
  have h1 := RepD.one h
  cases u with
  | it x => cases hw
  | st l => simp only [D.husk, RepD, RepI, and_true]; exact und_rep hl h1
  | _ =>
    simp only [D.husk, RepD, RepI, and_true]
    simp only [D.size] at hl
    obtain ⟨c, rfl⟩ := List.length_eq_one_iff.1 hl
    exact ⟨c, rfl, h1 c (by simp)⟩
/-- Whether an operand leads into a tree. -/
def isDeep (x : Opd) (yes no : M) : M := match x with
  | .t n => .get n fun _ sv => match sv with
    | .own _ _ => yes
    | .pd _ _ _ => yes
    | .bd _ _ _ => yes
    | .par h => .get h fun _ sv' => match sv' with
      | .own _ _ => yes
      | _ => no
    | _ => no
  | _ => no
/-- Where a field lies in its struct. -/
def fldOff : D → Nat → Option Nat
  | .it x, i => match x with
    | .agg l => match l[i]? with
      | some _ => some (sizes (l.take i))
      | none => none
    | _ => none
  | .st l, i => match l[i]? with
    | some _ => some (dsizes (l.take i))
    | none => none
  | _, _ => none
def semMoveOut (d : Option Nat) (s cur : Nat) (inv : List Nat) (t : D) (p : List Nat) (u : D) : M := match D.put p t u.husk with
  | some t' => .set s (cur + 1) (.own (bump inv p.length (cur + 1)) t') (match d with
    | some d => .need (d ≠ s) fun _ => setN d (.own [] u)
    | none => .done)
  | none => .fail
def semLoadD (d : Option Nat) (agg : Bool) (sz : Nat) (x : Opd) : M := rdD x fun s cur inv t p => match D.at p t with
  | some u => match u with
    | .it y => .need (y.isAgg = agg ∧ y.size = sz) fun _ => setD d (.v y) .done
    | .vec _ _ _ => .need (agg = false ∧ sz = 1 ∧ d ≠ some s) fun _ => setD d (.bd s cur p) .done
    | .map _ _ => .need (agg = false ∧ sz = 1 ∧ d ≠ some s) fun _ => setD d (.bd s cur p) .done
    | .ptr _ => .need (agg = false ∧ sz = 1 ∧ d ≠ some s) fun _ => setD d (.pd s cur (p ++ [0])) .done
    | .st l => .need (agg = true ∧ dsizes l = sz) fun _ => semMoveOut d s cur inv t p (.st l)
  | none => .fail
/-- The same where what is loaded is only read from then on: it lies fixed. -/
def semLoadF (d : Option Nat) (agg : Bool) (sz : Nat) (x : Opd) : M := rdD x fun s cur inv t p => match D.at p t with
  | some u => match u.toI with
    | some y => match D.put p t (.it y) with
      | some t' => .need (u.leaf = false ∧ y.isAgg = agg ∧ y.size = sz ∧ d ≠ some s) fun _ => .set s (cur + 1) (.own (bump inv p.length (cur + 1)) t') (setD d (.v y) .done)
      | none => .fail
    | none => .fail
  | none => .fail
def semFaddrD (d : Option Nat) (x : Opd) (i off : Nat) : M := rdD x fun s cur inv t p => match D.at p t with
  | some u => match fldOff u i with
    | some o => .need (o = off ∧ d ≠ some s) fun _ => setD d (.pd s cur (p ++ [i])) .done
    | none => .fail
  | none => .fail
def semAaddrD (d : Option Nat) (sz len : Nat) (x i : Opd) : M := rdI i fun n => match n with
  | .int _ n => rdD x fun s cur inv t p => match D.at p t with
    | some u => match u with
      | .it y => match y with
        | .arr sz' l => .need (0 ≤ n ∧ n.toNat < len ∧ n.toNat < l.length ∧ sz' = sz ∧ d ≠ some s) fun _ => setD d (.pd s cur (p ++ [n.toNat])) .done
        | _ => .fail
      | _ => .fail
    | none => .fail
  | _ => .fail
def semIaddrD (d : Option Nat) (sz : Nat) (x i : Opd) : M := rdI i fun n => match n with
  | .int _ n => rdH x fun s cur inv t p => match D.at p t with
    | some u => match u with
      | .vec _ sz' l => .need (0 ≤ n ∧ n.toNat < l.length ∧ sz' = sz ∧ d ≠ some s) fun _ => setD d (.pd s cur (p ++ [n.toNat])) .done
      | _ => .fail
    | none => .fail
  | _ => .fail
def semLenD (d : Option Nat) (str : Bool) (x : Opd) : M := rdH x fun s cur inv t p => match D.at p t with
  | some u => match u with
    | .vec _ _ l => .need (str = false) fun _ => .fact (l.length ≤ maxLen) (setD d (.v (.int .i64 l.length)) .done)
    | _ => .fail
  | none => .fail
/-- A tree is taken over: whoever held it holds it no more. -/
def takeD (x : Opd) (k : D → M) : M := match x with
  | .c x => k (.it x)
  | .nils e sz => k (.vec e sz [])
  | .t n => .get n fun ver sv => match sv with
    | .vec e sz l => .set n (ver + 1) .no (k (.vec e sz (l.map D.it)))
    | .own _ t => .set n (ver + 1) .no (k t)
    | .bd s v p => .get s fun cur sv' => match sv' with
      | .own inv t => .need (alive v inv (p.length + 1) = true) fun _ => match D.at p t with
        | some u => match D.put p t u.husk with
          | some t' => .need (u.whole = true) fun _ => .set s (cur + 1) (.own (bump inv p.length (cur + 1)) t') (k u)
          | none => .fail
        | none => .fail
      | _ => .fail
    | .par h => .get h fun cur sv' => match sv' with
      | .own _ t => .set h (cur + 1) .no (k t)
      | _ => .fail
    | _ => takeV (.t n) fun u => k (.it u)
def semStoreD (sz : Nat) (ax vx : Opd) : M := takeD vx fun u => rdD ax fun s cur inv t p => match D.at p t with
  | some u0 => match D.put p t u with
    | some t' => .need (u.isAgg = u0.isAgg ∧ u.size = u0.size ∧ u.size = sz) fun _ => match u0.leaf with
      | true => .set s cur (.own inv t') .done
      | false => .set s (cur + 1) (.own (bump inv p.length (cur + 1)) t') .done
    | none => .fail
  | none => .fail
section
variable {P : Program} {N : Nat} {G : Mem} {σ : Lab} {Fr : Mem} {w0 : Base} {w : World} {st : St} {a : Act}

theorem sound_deep {o : Oper} {x : Opd} {yes no : M} (h1 : Sound P N o yes) (h2 : Sound P N o no) : Sound P N o (isDeep x yes no) := by
  intro G σ Fr w0 st a w Q next E hN hr hw hn hdst
  have : yes.wp P Q st ∨ no.wp P Q st := by
    cases x with
    | c _ => exact .inr hw
    | nils _ _ => exact .inr hw
    | t n =>
      simp only [isDeep, M.wp] at hw
      cases hs : st[n]? with
      | none => simp [hs] at hw
      | some cur =>
        simp only [hs] at hw
        split at hw
        · exact .inl hw
        · exact .inl hw
        · exact .inl hw
        · rename_i h _
          simp only [M.wp] at hw
          cases hh : st[h]? with
          | none => simp [hh] at hw
          | some cur' =>
            simp only [hh] at hw
            split at hw
            · exact .inl hw
            · exact .inr hw
        · exact .inr hw
  rcases this with h | h
  · exact h1 G σ Fr w0 st a w Q next E hN hr h hn hdst
  · exact h2 G σ Fr w0 st a w Q next E hN hr h hn hdst

/-- What lies at a place is taken out, whatever it is. -/
theorem Rel.moveOut {s cur : Nat} {inv p : List Nat} {t t' u : D} {cs : List Value} {hh : Option (Nat × Nat)} (h : Rel G σ Fr w0 st a w) (hs : st[s]? = some (cur, .own inv t)) (hat : t.at p = some u) (hw : u.whole = true) (hput : t.put p u.husk = some t')
    (hsp : spot w p t (none, (val a w0 s).cells.toList) = some (hh, cs)) :
    ∃ σ' ubs, Rel G σ' Fr w0 (st.set s (cur + 1, .own (bump inv p.length (cur + 1)) t')) a w ∧ RepD G w u cs ubs ∧ ubs.Nodup ∧ (∀ b ∈ ubs, G b = none ∧ Fr b = none ∧ σ' b = none ∧ b < w.heap.size) ∧ (∀ b ∈ ubs, σ b ≠ none) ∧ ∀ b, σ b = none → σ' b = none := by
  obtain ⟨bs, hrep, hva, hnd, hlab⟩ := show OwnD G σ w s t (val a w0 s) from h.slots s cur _ hs
  obtain ⟨m, s', ubs, f1, f2, f3, f4, f5, f6⟩ := focus (here := none) hrep hnd hat
  rw [f1] at hsp
  obtain rfl := Option.some.inj hsp
  obtain ⟨hag, hsz, hul⟩ := husk_shape hw
  obtain ⟨hnew, hcell⟩ := Lie.same f5
  obtain ⟨bs', r1, r2, r3, r4, r5⟩ := f6 G w u.husk cs [] t' (Mem.le.refl G) rfl hag (husk_rep hw f2 G w) List.nodup_nil (by simp) hnew hput
  simp only at hcell r1 r5
  rw [hcell] at r1 r5
  refine ⟨σ.shed ubs, ubs, ?_, f2, f3, fun b hb => ?_, fun b hb hn => ?_, fun b hb => by unfold Lab.shed; split <;> first | rfl | exact hb⟩
  rotate_left 2
  · obtain ⟨k, hk⟩ := hlab b (f4 b hb)
    rw [hn] at hk; cases hk
  · obtain ⟨hpd, hbd⟩ := Focus.refs (G := G) (inv := inv) (cur := cur) r5
    rw [hul] at hpd hbd
    refine h.tree h.wok.shed (Mem.le.refl G) hs (Nat.le_succ _) ?_ (fun e => by omega) ?_ hpd hbd
    · intro s1 hs1 x k hx
      refine ⟨Lab.shed_some.2 ⟨fun hm => ?_, hx⟩, rfl⟩
      obtain ⟨k', hk'⟩ := hlab x (f4 x hm)
      rw [hx] at hk'
      cases hk'
      exact hs1 rfl
    · refine ⟨bs', r1, ?_, r2, fun x hx => ?_⟩
      · rw [r4]
        split
        · rename_i hp
          subst hp
          simp only [D.at, Option.some.injEq] at hat
          subst hat
          rw [hag]
          exact hva
        · exact hva
      · rcases (r3 x).1 hx with ⟨h1, h2⟩ | h1
        · obtain ⟨k, hk⟩ := hlab x h1
          exact ⟨k, Lab.shed_some.2 ⟨h2, hk⟩⟩
        · cases h1
  · obtain ⟨k, hk⟩ := hlab b (f4 b hb)
    obtain ⟨k1, k2, k3⟩ := h.wok.own b _ hk
    exact ⟨k1, k2, by simp [Lab.shed, hb], k3⟩
/-- A free tree goes into a slot. -/
theorem Rel.adopt {Q : St → Prop} {d : Nat} {u : D} {c : Value} (h : Rel G σ Fr w0 st a w) (hdn : d < w0.n) (hf : FreeD G σ Fr w u c) (hq : (setN d (.own [] u)).wp P Q st) :
    ∃ σ' st', Rel G σ' Fr w0 st' (a.put (some d) c) w ∧ Q st' := by
  obtain ⟨bs, g1, g2, g3, g4⟩ := hf
  simp only [setN, M.wp] at hq
  cases hd : st[d]? with
  | none => simp [hd] at hq
  | some cur =>
    simp only [hd] at hq
    have hK : ∀ b k, σ.drop d b = some (d, k) → k < 0 := fun b k hb => absurd rfl (Lab.drop_some.1 hb).1
    have hok : WOk G ((σ.drop d).adopt d 0 bs) Fr w0 w := (h.wok.drop d).adopt hK fun b hb => ⟨(g4 b hb).1, (g4 b hb).2.1, (g4 b hb).2.2.2⟩
    refine ⟨_, _, h.put hdn hok (Mem.le.refl G) hd (Nat.lt_succ_self _) ?_ ?_ (fun h e => by cases e) fresh_dead, hq⟩
    · intro s' hs' b k hb
      refine ⟨?_, rfl⟩
      rw [Lab.adopt_old]
      · exact Lab.drop_some.2 ⟨hs', hb⟩
      · intro hm
        rw [(g4 b hm).2.2.1] at hb
        cases hb
    · exact ⟨bs, g1, g2, g3, fun b hb => ⟨_, Lab.adopt_new hb⟩⟩
theorem VecAt.freeD {lab : Nat × Nat} {e : TypeId} {sz : Nat} {l : List I} {c : Value} (h : VecAt G σ w lab e sz l c) (hok : WOk G σ Fr w0 w) {σ' : Lab} (hσ : ∀ b, σ b = some lab → σ' b = none) : FreeD G σ' Fr w (.vec e sz (l.map D.it)) c := by
  obtain ⟨xs, ⟨hl, h1⟩, h2, h3, h4⟩ := h
  rcases h1 with ⟨rfl, h0⟩ | ⟨g, cap, cur, rfl, _, hg, hn, hm, hs, ht⟩
  · obtain rfl := List.eq_nil_of_length_eq_zero h0
    exact ⟨[], by simp [RepD, Value.cells], rfl, List.nodup_nil, by simp⟩
  · refine ⟨[g], ?_, rfl, by simp, ?_⟩
    · simp only [RepD, Value.cells]
      refine .inr ⟨g, cap, cur, xs, [], by simp, hg, by simpa using hn, hm, hs, by simpa using ht, RepDs.its.2 ⟨h2, rfl⟩, ?_, rfl⟩
      intro x hx
      obtain ⟨y, hy, rfl⟩ := List.mem_map.1 hx
      exact h3 y hy
    · intro b hb
      obtain rfl := List.mem_singleton.1 hb
      have hlab := h4 b rfl
      obtain ⟨k1, k2, k3⟩ := hok.own b _ hlab
      exact ⟨k1, k2, hσ b hlab, k3⟩
/-- A tree that nobody holds, with its blocks. -/
def FreeB (G : Mem) (σ : Lab) (Fr : Mem) (w : World) (u : D) (c : Value) (bs : List Nat) : Prop :=
  RepD G w u c.cells.toList bs ∧ valOf u.isAgg c = true ∧ bs.Nodup ∧ ∀ b ∈ bs, G b = none ∧ Fr b = none ∧ σ b = none ∧ b < w.heap.size
theorem FreeB.free {u : D} {c : Value} {bs : List Nat} (h : FreeB G σ Fr w u c bs) : FreeD G σ Fr w u c := ⟨bs, h⟩
theorem FreeB.item {u : I} {c : Value} (h : RepV G u c) : FreeB G σ Fr w (.it u) c [] := by
  obtain ⟨bs, h1, h2, h3, h4⟩ := FreeD.item (σ := σ) (Fr := Fr) (w := w) h
  have : bs = [] := by simp only [RepD] at h1; exact h1.2
  subst this
  exact ⟨h1, h2, h3, h4⟩
theorem FreeB.later {G' : Mem} {σ' : Lab} {u : D} {c : Value} {bs : List Nat} (h : FreeB G σ Fr w u c bs) (hG : G.le G') (hk : ∀ b, σ b = none → G b = none → σ' b = none ∧ G' b = none) : FreeB G' σ' Fr w u c bs := by
  obtain ⟨h1, h2, h3, h4⟩ := h
  refine ⟨h1.tr hG fun _ _ => rfl, h2, h3, fun b hb => ?_⟩
  obtain ⟨k1, k2, k3, k4⟩ := h4 b hb
  obtain ⟨q1, q2⟩ := hk b k3 k1
  exact ⟨q2, k2, q1, k4⟩
theorem takeD_rep2 {x : Operand} {y : Opd} {k : D → M} {Q : St → Prop} (h : Rel G σ Fr w0 st a w) (ho : opdOk w0.n x y = true) (hq : (takeD y k).wp P Q st) :
    ∃ u bs G' σ' st', G.le G' ∧ Rel G' σ' Fr w0 st' a w ∧ (k u).wp P Q st' ∧ FreeB G' σ' Fr w u (a.eval x) bs ∧ (∀ b ∈ bs, σ b ≠ none) ∧ ∀ b, σ b = none → G b = none → σ' b = none ∧ G' b = none := by
  cases y with
  | c i => exact ⟨_, [], G, σ, st, Mem.le.refl G, h, hq, FreeB.item (opdOk_c ho G), by simp, fun _ h1 h2 => ⟨h1, h2⟩⟩
  | nils e sz =>
    refine ⟨_, [], G, σ, st, Mem.le.refl G, h, hq, ?_, by simp, fun _ h1 h2 => ⟨h1, h2⟩⟩
    rw [opdOk_nils ho]
    exact ⟨by simp [RepD, Value.cells], rfl, List.nodup_nil, by simp⟩
  | t n =>
    obtain ⟨rfl, hnlt⟩ := opdOk_t ho
    have hv : val a w0 n = a.eval (.tmp n) := val_tmp (by rw [h.n]; exact hnlt)
    simp only [takeD, M.wp] at hq
    cases hs : st[n]? with
    | none => simp [hs] at hq
    | some cur =>
      obtain ⟨ver, sv⟩ := cur
      simp only [hs] at hq
      have hrep := h.slot hnlt hs
      have viaV : (takeV (.t n) fun u => k (.it u)).wp P Q st → ∃ u bs G' σ' st', G.le G' ∧ Rel G' σ' Fr w0 st' a w ∧ (k u).wp P Q st' ∧ FreeB G' σ' Fr w u (a.eval (.tmp n)) bs ∧ (∀ b ∈ bs, σ b ≠ none) ∧ ∀ b, σ b = none → G b = none → σ' b = none ∧ G' b = none := by
        intro hq
        obtain ⟨i, G', σ', st', h1, h2, h3, h4, h5⟩ := takeV_rep2 h ho hq
        exact ⟨_, [], G', σ', st', h1, h2, h3, FreeB.item h4, by simp, h5⟩
      cases sv with
      | vec e sz l =>
        have hdrop : ∀ b, σ b = some (n, 0) → σ.drop n b = none := fun b hb => by simp [Lab.drop, hb]
        obtain ⟨bs, hf⟩ := VecAt.freeD hrep h.wok hdrop
        refine ⟨_, bs, G, σ.drop n, _, Mem.le.refl G, h.drop hs (Nat.lt_succ_self _), hq, hf, fun b hb hn => ?_, fun b h1 h2 => ⟨by simp [Lab.drop, h1], h2⟩⟩
        obtain ⟨xs, h1, _, _, h4⟩ := hrep
        have hrd := hf.1
        simp only [RepD] at hrd
        rcases hrd with ⟨_, _, rfl⟩ | ⟨g, cap, cur, xs', bs', e1, _, _, _, _, _, e2, _, rfl⟩
        · cases hb
        · obtain ⟨_, rfl⟩ := RepDs.its.1 e2
          obtain rfl := List.mem_singleton.1 hb
          rcases h1.2 with ⟨h0, _⟩ | ⟨g', cap', cur', h0, _⟩
          · rw [h0] at e1; simp [Value.cells] at e1
          · have := h4 g' (by rw [h0]; rfl)
            rw [h0] at e1
            simp [Value.cells] at e1
            rw [e1.1] at this
            rw [hn] at this
            cases this
      | own inv t =>
        obtain ⟨bs, g1, g2, g3, g4⟩ := hrep
        refine ⟨_, bs, G, σ.drop n, _, Mem.le.refl G, h.drop hs (Nat.lt_succ_self _), hq, ⟨g1, g2, g3, fun b hb => ?_⟩, fun b hb hn => ?_, fun b h1 h2 => ⟨by simp [Lab.drop, h1], h2⟩⟩
        rotate_left 1
        · obtain ⟨kk, hk⟩ := g4 b hb
          rw [hn] at hk; cases hk
        obtain ⟨kk, hk⟩ := g4 b hb
        obtain ⟨k1, k2, k3⟩ := h.wok.own b _ hk
        refine ⟨k1, k2, ?_, k3⟩
        simp [Lab.drop, hk]
      | bd s v p =>
        obtain ⟨cur, h1, h2, h3⟩ := hrep
        simp only [M.wp, h1] at hq
        obtain ⟨cv, csv⟩ := cur
        cases csv with
        | own inv t =>
          obtain ⟨ha, hq⟩ := hq
          split at hq
          · rename_i u hat
            split at hq
            · rename_i t' hput
              obtain ⟨hw, hq⟩ := hq
              have hhd := h3 inv t rfl ha
              obtain ⟨hh, ubs0, _, _, hsp⟩ := HdD.read (h.slots s cv _ h1) hat hhd
              obtain ⟨u1, _, e1, e0, _⟩ := hhd
              rw [hat] at e1
              obtain rfl := Option.some.inj e1
              obtain ⟨σ', ubs, r1, r2, r3, r4, r5, r6⟩ := h.moveOut h1 hat hw hput hsp
              refine ⟨u, ubs, G, σ', _, Mem.le.refl G, r1, hq, ⟨?_, ?_, r3, r4⟩, r5, fun b h1 h2 => ⟨r6 b h1, h2⟩⟩
              · have hc1 := RepD.one r2 (a.eval (.tmp n)) (by simp)
                have : (a.eval (.tmp n)).cells.toList = [a.eval (.tmp n)] := by
                  generalize a.eval (.tmp n) = c at hc1 ⊢
                  cases c <;> first | rfl | (simp [Value.oneCell'] at hc1)
                rw [this]
                exact r2
              · have : u.isAgg = false := by cases u <;> first | rfl | cases e0
                rw [this]
                have hc1 := RepD.one r2 (a.eval (.tmp n)) (by simp)
                generalize a.eval (.tmp n) = c at hc1 ⊢
                cases c <;> first | rfl | (simp [Value.oneCell'] at hc1)
            · exact hq.elim
          · exact hq.elim
        | _ => exact hq.elim
      | par hh =>
        obtain ⟨hv', hle⟩ := h.pars n ver hh hs
        rw [hv] at hv'
        simp only [M.wp] at hq
        cases h1 : st[hh]? with
        | none => simp [h1] at hq
        | some cur =>
          obtain ⟨cv, csv⟩ := cur
          simp only [h1] at hq
          cases csv with
          | own inv t =>
            obtain ⟨bs, g1, g2, g3, g4⟩ := show OwnD G σ w hh t (val a w0 hh) from h.slots hh cv _ h1
            rw [← hv'] at g1 g2
            refine ⟨_, bs, G, σ.drop hh, _, Mem.le.refl G, h.drop h1 (Nat.lt_succ_self _), hq, ⟨g1, g2, g3, fun b hb => ?_⟩, fun b hb hn => ?_, fun b h1 h2 => ⟨by simp [Lab.drop, h1], h2⟩⟩
            rotate_left 1
            · obtain ⟨kk, hk⟩ := g4 b hb
              rw [hn] at hk; cases hk
            obtain ⟨kk, hk⟩ := g4 b hb
            obtain ⟨k1, k2, k3⟩ := h.wok.own b _ hk
            refine ⟨k1, k2, ?_, k3⟩
            simp [Lab.drop, hk]
          | _ => exact hq.elim
      | _ => exact viaV hq

theorem takeD_rep {x : Operand} {y : Opd} {k : D → M} {Q : St → Prop} (h : Rel G σ Fr w0 st a w) (ho : opdOk w0.n x y = true) (hq : (takeD y k).wp P Q st) :
    ∃ u G' σ' st', G.le G' ∧ Rel G' σ' Fr w0 st' a w ∧ (k u).wp P Q st' ∧ FreeD G' σ' Fr w u (a.eval x) := by
  obtain ⟨u, bs, G', σ', st', h1, h2, h3, h4, _⟩ := takeD_rep2 h ho hq
  exact ⟨u, G', σ', st', h1, h2, h3, h4.free⟩

theorem setD_pd {o : Oper} {Q : St → Prop} {next : Act → World → Prop} {E : Exit → Act → World → Prop} {s cur : Nat} {inv : List Nat} {t : D} {q : List Nat} {c : Value} (hr : Rel G σ Fr w0 st a w) (hdst : ∀ d, o.dst = some d → d < w0.n) (hs : st[s]? = some (cur, .own inv t))
    (hn : ∀ G' σ' st' a' w', G.le G' → Rel G' σ' Fr w0 st' a' w' → Q st' → next a' w') (hne : o.dst ≠ some s) (hp : PtD w t (val a w0 s) q c) (hrun : (execOp a.eval o).run P w = .ok (.value c) w)
    (hq : (setD o.dst (.pd s cur q) .done).wp P Q st) : o.wp P a w next E := by
  obtain ⟨σ', st', r1, r2⟩ := hr.setD hdst (sv := .pd s cur q) (c := c) (fun d' hd ver _ => by
    refine ⟨_, by rw [List.getElem?_set_ne (by rintro rfl; exact hne hd)]; exact hs, Nat.le_refl _, fun inv' t' e _ _ => ?_⟩
    cases e
    rw [val_put_other (by rintro rfl; exact hne hd)]
    exact hp) hq
  exact wp_value hrun (hn G σ' st' _ w (Mem.le.refl G) r1 r2)
theorem setD_bd {o : Oper} {Q : St → Prop} {next : Act → World → Prop} {E : Exit → Act → World → Prop} {s cur : Nat} {inv : List Nat} {t : D} {q : List Nat} {c : Value} (hr : Rel G σ Fr w0 st a w) (hdst : ∀ d, o.dst = some d → d < w0.n) (hs : st[s]? = some (cur, .own inv t))
    (hn : ∀ G' σ' st' a' w', G.le G' → Rel G' σ' Fr w0 st' a' w' → Q st' → next a' w') (hne : o.dst ≠ some s) (hp : HdD w t (val a w0 s) q c) (hrun : (execOp a.eval o).run P w = .ok (.value c) w)
    (hq : (setD o.dst (.bd s cur q) .done).wp P Q st) : o.wp P a w next E := by
  obtain ⟨σ', st', r1, r2⟩ := hr.setD hdst (sv := .bd s cur q) (c := c) (fun d' hd ver _ => by
    refine ⟨_, by rw [List.getElem?_set_ne (by rintro rfl; exact hne hd)]; exact hs, Nat.le_refl _, fun inv' t' e _ => ?_⟩
    cases e
    rw [val_put_other (by rintro rfl; exact hne hd)]
    exact hp) hq
  exact wp_value hrun (hn G σ' st' _ w (Mem.le.refl G) r1 r2)

/-- A part of the whole is loaded. -/
theorem load_cells {t : TypeId} {agg : Bool} {b off : Nat} {bl : Array Value} {ty : TypeId} {fz : Nat × Nat} {pre cs post : List Value} (h : tyOk P t agg cs.length = true) (hc : agg = false → cs.length = 1)
    (hh : w.heap[b]? = some (.cells bl ty fz)) (hs : bl.toList = pre ++ cs ++ post) (hp : pre.length = off) (h1 : ∀ c ∈ cs, c.oneCell' = true) :
    ∃ v, (loadVar t ⟨b, off, none⟩).run P w = .ok v w ∧ v.cells.toList = cs ∧ valOf agg v = true := by
  obtain ⟨k1, k2⟩ := run_loadVar_at (P := P) h hh hs hp
  cases agg with
  | true => exact ⟨_, k1 rfl, rfl, rfl⟩
  | false =>
    obtain ⟨c, rfl⟩ := List.length_eq_one_iff.1 (hc rfl)
    refine ⟨c, k2 c rfl rfl, ?_, ?_⟩
    all_goals
      have := h1 c (by simp)
      cases c <;> first | rfl | (simp [Value.oneCell'] at this)

theorem sound_loadD {o : Oper} {t : TypeId} {x : Operand} {x' : Opd} {agg : Bool} {sz : Nat} (ho : o.op = .load t x) (hx : opdOk N x x' = true) (ht : tyOk P t agg sz = true) : Sound P N o (semLoadD o.dst agg sz x') := by
  intro G σ Fr w0 st a w Q next E hN hr hw hn hdst
  subst hN
  have run : ∀ {b off : Nat} {v : Value}, a.eval x = .pointer (some ⟨b, off, none⟩) → (loadVar t ⟨b, off, none⟩).run P w = .ok v w → (execOp a.eval o).run P w = .ok (.value v) w := by
    intro b off v hp hl
    simp [execOp, ho, hp, Instr.loadAt, Instr.sureAddr, hl]
  obtain ⟨s, cur, inv, tr, p, h1, hs, hp0, hpt⟩ := rdD_rep hr hx hw
  have hown := hr.slots s cur _ hs
  split at h1
  · rename_i u hat
    obtain ⟨b, off, bl, ty, fz, pre, cs, post, ubs, e1, e2, e3, e4, e5, e6, e7⟩ := PtD.block hown hat hpt
    have hone := RepD.one e5
    have hlen := RepD.length e5
    cases u with
    | it y =>
      obtain ⟨⟨rfl, rfl⟩, h1⟩ := h1
      simp only [RepD] at e5
      obtain ⟨v, hl, hv⟩ := load_item (P := P) ht e2 e3 e4 e5.1
      exact done_v hr hn hdst hv h1 (run e1 hl)
    | vec e sz' l =>
      obtain ⟨⟨rfl, rfl, hne⟩, h1⟩ := h1
      obtain ⟨c, rfl⟩ := List.length_eq_one_iff.1 hlen
      have hl := (run_loadVar_at (P := P) (cs := [c]) ht e2 e3 e4).2 c rfl rfl
      exact setD_bd hr hdst hs hn hne ⟨_, _, hat, rfl, e7⟩ (run e1 hl) h1
    | map ks vs =>
      obtain ⟨⟨rfl, rfl, hne⟩, h1⟩ := h1
      obtain ⟨c, rfl⟩ := List.length_eq_one_iff.1 hlen
      have hl := (run_loadVar_at (P := P) (cs := [c]) ht e2 e3 e4).2 c rfl rfl
      exact setD_bd hr hdst hs hn hne ⟨_, _, hat, rfl, e7⟩ (run e1 hl) h1
    | ptr d =>
      obtain ⟨⟨rfl, rfl, hne⟩, h1⟩ := h1
      obtain ⟨c, rfl⟩ := List.length_eq_one_iff.1 hlen
      have hl := (run_loadVar_at (P := P) (cs := [c]) ht e2 e3 e4).2 c rfl rfl
      simp only [RepD] at e5
      obtain ⟨g, cells, ty', bs', q1, q2, _⟩ := e5
      injection q1 with q1
      subst q1
      refine setD_pd hr hdst hs hn hne ⟨d, g, 0, cells.toList, by rw [at_snoc hat]; rfl, ?_, rfl⟩ (run e1 hl) h1
      rw [spot_snoc hat e7 (y := d) rfl]
      simp [kidSpot, q2]
    | st l =>
      obtain ⟨⟨rfl, hsz⟩, h1⟩ := h1
      unfold semMoveOut at h1
      split at h1
      · rename_i t' hput
        obtain ⟨v, hl, hvc, hva⟩ := load_cells (P := P) (cs := cs) (agg := true) (by rw [hlen]; show tyOk P t true (dsizes l) = true; rw [hsz]; exact ht) (by intro e; cases e) e2 e3 e4 hone
        obtain ⟨σ', ubs', r1, r2, r3, r4, _⟩ := hr.moveOut hs hat rfl hput e7
        simp only [M.wp] at h1
        cases hd : o.dst with
        | none =>
          rw [hd] at h1
          exact wp_value (run e1 hl) (by rw [hd]; exact hn G σ' _ _ w (Mem.le.refl G) r1 h1)
        | some d =>
          rw [hd] at h1
          obtain ⟨hne, h1⟩ := h1
          obtain ⟨σ2, st2, k1, k2⟩ := r1.adopt (hdst d hd) (u := .st l) (c := v) ⟨ubs', by rw [hvc]; exact r2, hva, r3, r4⟩ h1
          exact wp_value (run e1 hl) (by rw [hd]; exact hn G σ2 st2 _ w (Mem.le.refl G) k1 k2)
      · exact h1.elim
  · exact h1.elim
theorem sound_loadF {o : Oper} {t : TypeId} {x : Operand} {x' : Opd} {agg : Bool} {sz : Nat} (ho : o.op = .load t x) (hx : opdOk N x x' = true) (ht : tyOk P t agg sz = true) : Sound P N o (semLoadF o.dst agg sz x') := by
  intro G σ Fr w0 st a w Q next E hN hr hw hn hdst
  subst hN
  obtain ⟨s, cur, inv, tr, p, h1, hs, hp0, hpt⟩ := rdD_rep hr hx hw
  have hown := hr.slots s cur _ hs
  split at h1
  · rename_i u hat
    split at h1
    · rename_i y hy
      split at h1
      · rename_i t' hput
        obtain ⟨⟨hul, rfl, rfl, hne⟩, h1⟩ := h1
        obtain ⟨b, off, bl, ty, fz, pre, cs, post, ubs, e1, e2, e3, e4, e5, e6, e7⟩ := PtD.block hown hat hpt
        obtain ⟨G', σ', hG, r1, r2, _⟩ := hr.frzPlace hs hat hul hy hput
        have hI := r2 _ _ e7
        obtain ⟨v, hl, hv⟩ := load_item (P := P) (w := w) ht e2 e3 e4 hI
        obtain ⟨σ2, st2, k1, k2⟩ := r1.setV hdst hv h1
        refine wp_value (w' := w) ?_ (hn G' σ2 st2 _ w hG k1 k2)
        simp [execOp, ho, e1, Instr.loadAt, Instr.sureAddr, hl]
      · exact h1.elim
    · exact h1.elim
  · exact h1.elim
theorem fldOff_spec {u : D} {i off : Nat} {b o : Nat} {cs : List Value} (h : fldOff u i = some off) : ∃ y cs', u.kid i = some y ∧ kidSpot w u (some (b, o), cs) i = some (some (b, o + off), cs') := by
  cases u with
  | it x =>
    cases x with
    | agg l =>
      simp only [fldOff] at h
      split at h
      · rename_i y hy
        cases h
        exact ⟨_, _, by simp only [D.kid, hy]; rfl, by simp only [kidSpot, hy, hop]; rfl⟩
      · cases h
    | _ => cases h
  | st l =>
    simp only [fldOff] at h
    split at h
    · rename_i y hy
      cases h
      exact ⟨_, _, hy, by simp only [kidSpot, hy, hop]; rfl⟩
    · cases h
  | _ => cases h
theorem sound_faddrD {o : Oper} {t : TypeId} {x : Operand} {x' : Opd} {i off : Nat} (ho : o.op = .fieldAddr t x i) (hx : opdOk N x x' = true) (ht : fieldOk P t i off = true) :
    Sound P N o (semFaddrD o.dst x' i off) := by
  intro G σ Fr w0 st a w Q next E hN hr hw hn hdst
  subst hN
  obtain ⟨s, cur, inv, tr, p, h1, hs, hp0, hpt⟩ := rdD_rep hr hx hw
  have hown := hr.slots s cur _ hs
  split at h1
  · rename_i u hat
    split at h1
    · rename_i off' hof
      obtain ⟨⟨rfl, hne⟩, h1⟩ := h1
      obtain ⟨b, off, bl, ty, fz, pre, cs, post, ubs, e1, e2, e3, e4, e5, e6, e7⟩ := PtD.block hown hat hpt
      obtain ⟨y, cs', k1, k2⟩ := fldOff_spec (w := w) (b := b) (o := off) (cs := cs) hof
      refine setD_pd hr hdst hs hn hne ⟨y, b, off + off', cs', by rw [at_snoc hat]; exact k1, by rw [spot_snoc hat e7 k1]; exact k2, rfl⟩ ?_ h1
      simp [execOp, ho, e1, fieldAt_run ht]
    · exact h1.elim
  · exact h1.elim
theorem sound_aaddrD {o : Oper} {t : TypeId} {x i : Operand} {x' i' : Opd} {sz len : Nat} (ho : o.op = .indexAddr t x i) (hx : opdOk N x x' = true) (hi : opdOk N i i' = true) (ht : arrOk P t sz len = true) :
    Sound P N o (semAaddrD o.dst sz len x' i') := by
  intro G σ Fr w0 st a w Q next E hN hr hw hn hdst
  subst hN
  obtain ⟨n, h1, hnv⟩ := rdI_rep hr hi hw
  clear hw
  split at h1
  · rename_i k n
    rw [RepV.int] at hnv
    obtain ⟨s, cur, inv, tr, p, h1, hs, hp0, hpt⟩ := rdD_rep hr hx h1
    have hown := hr.slots s cur _ hs
    split at h1
    · rename_i u hat
      split at h1
      · rename_i y
        split at h1
        · rename_i sz' l
          obtain ⟨⟨h0, hlt, hl2, rfl, hne⟩, h1⟩ := h1
          obtain ⟨b, off, bl, ty, fz, pre, cs, post, ubs, e1, e2, e3, e4, e5, e6, e7⟩ := PtD.block hown hat hpt
          have hk : (D.it (.arr sz' l)).kid n.toNat = some (.it l[n.toNat]) := by simp [D.kid, List.getElem?_eq_getElem hl2]
          refine setD_pd hr hdst hs hn hne ⟨_, b, off + n.toNat * sz', _, by rw [at_snoc hat]; exact hk, by rw [spot_snoc hat e7 hk]; simp only [kidSpot, List.getElem?_eq_getElem hl2, hop]; rfl, rfl⟩ ?_ h1
          simp [execOp, ho, e1, hnv, arrayAt_run ht w h0 hlt]
        · exact h1.elim
      · exact h1.elim
    · exact h1.elim
  · exact h1.elim
theorem sound_iaddrD {o : Oper} {t : TypeId} {x i : Operand} {x' i' : Opd} {sz : Nat} (ho : o.op = .indexAddr t x i) (hx : opdOk N x x' = true) (hi : opdOk N i i' = true) (ht : sliceOk P t sz = true) :
    Sound P N o (semIaddrD o.dst sz x' i') := by
  intro G σ Fr w0 st a w Q next E hN hr hw hn hdst
  subst hN
  obtain ⟨n, h1, hnv⟩ := rdI_rep hr hi hw
  clear hw
  split at h1
  · rename_i k n
    rw [RepV.int] at hnv
    obtain ⟨s, cur, inv, tr, p, h1, hs, hhd⟩ := rdH_rep hr hx h1
    have hown := hr.slots s cur _ hs
    split at h1
    · rename_i u hat
      split at h1
      · rename_i e sz' l
        obtain ⟨⟨h0, hlt, rfl, hne⟩, h1⟩ := h1
        obtain ⟨hh, ubs, e5, e6, e7⟩ := HdD.read hown hat hhd
        simp only [RepD] at e5
        rcases e5 with ⟨_, rfl, _⟩ | ⟨g, cap, cu, xs, bs', q1, ⟨ty, fz, q2, _⟩, _⟩
        · simp at hlt
        · injection q1 with q1
          have hk : (D.vec e sz' l).kid n.toNat = some l[n.toNat] := by simp [D.kid, List.getElem?_eq_getElem hlt]
          refine setD_pd hr hdst hs hn hne (c := .pointer (some ⟨g, 0 + n.toNat * sz', none⟩)) ⟨_, g, 0 + n.toNat * sz', (cu.toList.drop (n.toNat * sz')).take sz', by rw [at_snoc hat]; exact hk, ?_, rfl⟩ ?_ h1
          · rw [spot_snoc hat e7 hk, q1]
            simp only [kidSpot, List.getElem?_eq_getElem hlt, q2, Nat.zero_add]
          · simp [execOp, ho, q1, hnv, indexAt_run ht w h0 hlt]
      · exact h1.elim
    · exact h1.elim
  · exact h1.elim
theorem sound_lenD {o : Oper} {t : TypeId} {x : Operand} {x' : Opd} {str : Bool} (ho : o.op = .call { callee := .builtin .len, args := #[x], argTypes := #[t] }) (hx : opdOk N x x' = true) (ht : lenOk P t str = true) :
    Sound P N o (semLenD o.dst str x') := by
  intro G σ Fr w0 st a w Q next E hN hr hw hn hdst
  subst hN
  obtain ⟨s, cur, inv, tr, p, h1, hs, hhd⟩ := rdH_rep hr hx hw
  have hown := hr.slots s cur _ hs
  split at h1
  · rename_i u hat
    split at h1
    · rename_i e sz' l
      obtain ⟨rfl, h1⟩ := h1
      obtain ⟨hh, ubs, e5, e6, e7⟩ := HdD.read hown hat hhd
      simp only [RepD] at e5
      have hsl : ∃ e, P.underlying t = some (.slice e) := by
        unfold lenOk at ht
        split at ht
        · cases ht
        · rename_i e h; exact ⟨e, h⟩
        · cases ht
      obtain ⟨e', hu⟩ := hsl
      have fin : ∀ {ad : Option Addr} {cap : Nat}, a.eval x = .slice ad l.length cap → l.length ≤ maxLen → o.wp P a w next E := by
        intro ad cap he hm
        exact done_v hr hn hdst (RepV.int.2 rfl) (h1 hm) (by simp [execOp, ho, resolve, invoke, builtin, Builtin.len_, run_underlying hu, he, goInt])
      rcases e5 with ⟨q1, rfl, _⟩ | ⟨g, cap, cu, xs, bs', q1, _, q2, q3, _⟩
      · injection q1 with q1
        exact fin q1 (Nat.zero_le _)
      · injection q1 with q1
        exact fin q1 (Nat.le_trans q2 q3)
    · exact h1.elim
  · exact h1.elim
theorem sound_storeD {o : Oper} {t : TypeId} {x y : Operand} {x' y' : Opd} {agg : Bool} {sz : Nat} (hd : o.dst = none) (ho : o.op = .store t x y) (hx : opdOk N x x' = true) (hy : opdOk N y y' = true) (ht : tyOk P t agg sz = true) :
    Sound P N o (semStoreD sz x' y') := by
  intro G σ Fr w0 st a w Q next E hN hr hw hn hdst
  subst hN
  obtain ⟨u, G', σ', st', hG, hr', h1, hf⟩ := takeD_rep hr hy hw
  obtain ⟨s, cur, inv, tr, p, h1, hs, hp0, hpt⟩ := rdD_rep hr' hx h1
  split at h1
  · rename_i u0 hat
    split at h1
    · rename_i t' hput
      obtain ⟨⟨hag, hsz, hsz2⟩, h1⟩ := h1
      obtain ⟨b, of, w', σ2, e1, e2, e3⟩ := hr'.setPlace (P := P) (tt := t) (agg := agg) hs hat hput hf hag hsz hpt (by rw [← hsz, hsz2]; exact ht)
      refine wp_skipped (w' := w') ?_ ?_
      · simp [execOp, ho, e1, Instr.storeAt, Instr.sureAddr, e2]
      · rw [hd]
        refine hn G' σ2 _ _ w' hG e3 ?_
        cases hl : u0.leaf <;> rw [hl] at h1 <;> simp only [M.wp] at h1 <;> simpa using h1
    · exact h1.elim
  · exact h1.elim
end
end Go.Ab
