/- One text of the proof whose last text says what is proved. -/
import Derived.Test.YtbpnhefkfamhaaaAb6
set_option linter.unusedVariables false
set_option linter.unusedSimpArgs false
namespace Go.Ab

/-- A pointer operand: into what a slot owns, or into what lies fixed. -/
def rdP (x : Opd) (k : (s k ver off : Nat) → List Nat → M) (kr : I → M) : M := match x with
  | .t n => .get n fun ver sv => match sv with
    | .box _ => k n 0 ver 0 []
    | .pt s kk v off r => k s kk v off r
    | .rp y => kr y
    | _ => .fail
  | _ => .fail

def tyOk (P : Program) (t : TypeId) (agg : Bool) (sz : Nat) : Bool :=
  (match P.underlying t with
    | some (.struct _) | some (.array _ _) => agg
    | some _ => !agg
    | none => false) &&
  (match P.info? t with
    | some i => i.size == sz
    | none => false)

section
variable {P : Program} {N : Nat} {G : Mem} {σ : Lab} {Fr : Mem} {w0 : Base} {w : World} {st : St} {a : Act}

theorem rdP_spec {x : Operand} {y : Opd} {k : (s k ver off : Nat) → List Nat → M} {kr : I → M} {Q : St → Prop} (h : Rel G σ Fr w0 st a w) (ho : opdOk w0.n x y = true) (hq : (rdP y k kr).wp P Q st) :
    (∃ s kk ver off r cur, (k s kk ver off r).wp P Q st ∧ st[s]? = some cur ∧ (ver = cur.1 → ∃ b, σ b = some (s, kk) ∧ a.eval x = .pointer (some ⟨b, off, none⟩))) ∨
    (∃ u, (kr u).wp P Q st ∧ RepRp G u (a.eval x)) := by
  cases y with
  | t n =>
    obtain ⟨rfl, hnlt⟩ := opdOk_t ho
    simp only [rdP, M.wp] at hq
    cases hs : st[n]? with
    | none => simp [hs] at hq
    | some cur =>
      obtain ⟨ver, sv⟩ := cur
      simp only [hs] at hq
      have hrep := h.slot hnlt hs
      cases sv with
      | box t =>
        obtain ⟨b, cells, ty, h1, h2, _⟩ := hrep
        exact .inl ⟨n, 0, ver, 0, [], _, hq, hs, fun _ => ⟨b, h2, h1⟩⟩
      | pt s kk v off r =>
        obtain ⟨cur, h1, h2, h3⟩ := hrep
        exact .inl ⟨s, kk, v, off, r, cur, hq, h1, h3⟩
      | rp u => exact .inr ⟨u, hq, hrep⟩
      | _ => exact hq.elim
  | _ => exact hq.elim

theorem isAgg_run {t : TypeId} {agg : Bool} {sz : Nat} (h : tyOk P t agg sz = true) (w : World) : (isAgg t).run P w = .ok agg w ∧ (sizeOf t).run P w = .ok sz w := by
  unfold tyOk at h
  simp only [Bool.and_eq_true] at h
  obtain ⟨h1, h2⟩ := h
  constructor
  · cases hu : P.underlying t with
    | none => simp [hu] at h1
    | some d =>
      unfold isAgg
      rw [Sem.run_bind, run_underlying hu w]
      cases d <;> simp_all
  · cases hi : P.info? t with
    | none => simp [hi] at h2
    | some i =>
      simp only [hi, beq_iff_eq] at h2
      simp [sizeOf, typeInfo, hi, h2]

theorem add_lit (b o j : Nat) : (⟨b, o, none⟩ : Addr).add j = ⟨b, o + j, none⟩ := by unfold Addr.add; split <;> simp_all

theorem run_loadVar_at {t : TypeId} {agg : Bool} {b off : Nat} {bl : Array Value} {ty : TypeId} {fz : Nat × Nat} {pre cs post : List Value} (h : tyOk P t agg cs.length = true)
    (hh : w.heap[b]? = some (.cells bl ty fz)) (hs : bl.toList = pre ++ cs ++ post) (hp : pre.length = off) :
    (agg = true → (loadVar t ⟨b, off, none⟩).run P w = .ok (.agg cs.toArray) w) ∧ (∀ c, agg = false → cs = [c] → (loadVar t ⟨b, off, none⟩).run P w = .ok c w) := by
  obtain ⟨h1, h2⟩ := isAgg_run h w
  have hcell : ∀ j v, cs[j]? = some v → w.cell? ((⟨b, off, none⟩ : Addr).add j) = some v := by
    intro j v hv
    rw [add_lit, cell_of_row w b (off + j) bl ty fz hh]
    have : bl[off + j]? = bl.toList[off + j]? := by simp
    rw [this, hs, List.append_assoc, List.getElem?_append_right (by omega), ← hp, Nat.add_sub_cancel_left, List.getElem?_append_left (by exact (List.getElem?_eq_some_iff.1 hv).1)]
    exact hv
  constructor
  · rintro rfl
    have hl := run_loadCells_list (P := P) w ⟨b, off, none⟩ cs hcell
    simp [loadVar, Sem.run_bind, h1, h2, hl]
  · rintro c rfl rfl
    have hc := hcell 0 c rfl
    rw [add_lit, Nat.add_zero] at hc
    simp [loadVar, Sem.run_bind, h1, run_load, hc]

/-- A part is loaded: its value. -/
theorem load_item {t : TypeId} {u : I} {b off : Nat} {bl : Array Value} {ty : TypeId} {fz : Nat × Nat} {pre cs post : List Value} (h : tyOk P t u.isAgg u.size = true)
    (hh : w.heap[b]? = some (.cells bl ty fz)) (hs : bl.toList = pre ++ cs ++ post) (hp : pre.length = off) (hr : RepI G u cs) :
    ∃ v, (loadVar t ⟨b, off, none⟩).run P w = .ok v w ∧ RepV G u v := by
  have hl := RepI.length u cs hr
  obtain ⟨h1, h2⟩ := run_loadVar_at (P := P) (w := w) (cs := cs) (by rw [hl]; exact h) hh hs hp
  cases hu : u.isAgg with
  | true => exact ⟨_, h1 hu, by unfold RepV; rw [if_pos hu]; exact ⟨_, rfl, by simpa using hr⟩⟩
  | false =>
    have hone : u.size = 1 := by cases u <;> simp_all [I.isAgg, I.size]
    rw [hone] at hl
    match cs, hl with
    | [c], _ => exact ⟨c, h2 c hu rfl, by unfold RepV; rw [if_neg (by simp [hu])]; exact hr⟩

def semLoad (d : Option Nat) (agg : Bool) (sz : Nat) (x : Opd) : M := rdP x
  (fun s k ver off r => .get s fun cur sv => .need (ver = cur) fun _ => match sv.hit k r with
    | some (off', .item u) => .need (off' = off ∧ u.isAgg = agg ∧ u.size = sz) fun _ => setD d (.v u) .done
    | some (off', .vec k') => .need (off' = off ∧ agg = false ∧ sz = 1 ∧ d ≠ some s) fun _ => setD d (.bor s k' ver) .done
    | none => .fail)
  (fun y => .need (y.isAgg = agg ∧ y.size = sz) fun _ => setD d (.v y) .done)

theorem hit_vec {s k off b k' : Nat} {sv : SV} {r : List Nat} {c : Value} (hok : WOk G σ Fr w0 w) (ho : RepOwn G σ w s sv c) (hh : sv.hit k r = some (off, .vec k')) (hb : σ b = some (s, k)) :
    ∃ bl ty pre v post e sz l, w.heap[b]? = some (.cells bl ty (0, 0)) ∧ bl.toList = pre ++ [v] ++ post ∧ pre.length = off ∧ sv.vecAt k' = some (e, sz, l) ∧ VecAt G σ w (s, k') e sz l v := by
  have nov : ∀ {o : Nat} {q : Option (Nat × I)}, hitI o q = some (off, .vec k') → False := by
    intro o q h
    obtain ⟨_, _, _, _, h⟩ := hitI_some h
    cases h
  have novv : ∀ {sz : Nat} {l : List I} {r : List Nat}, hitV sz l r = some (off, .vec k') → False := by
    intro sz l r h
    cases r with
    | nil => cases h
    | cons i r =>
      simp only [hitV] at h
      split at h
      · exact nov h
      · cases h
  cases k with
  | zero =>
    simp only [SV.hit] at hh
    cases sv with
    | vec e sz l => exact (novv hh).elim
    | box t =>
      obtain ⟨b', cells, ty, h1, h2, h3, h4⟩ := ho
      obtain rfl := hok.inj b b' _ hb h2
      cases t with
      | one f =>
        cases f with
        | i x => exact (nov hh).elim
        | vec e sz l =>
          cases r with
          | nil =>
            cases hh
            obtain ⟨v, hv, h4⟩ := h4
            exact ⟨cells, ty, [], v, [], e, sz, l, h3, by simp [hv], rfl, rfl, h4⟩
          | cons _ _ => cases hh
      | st fs =>
        cases r with
        | nil => simp only at hh; split at hh <;> cases hh
        | cons j r =>
          simp only at hh
          split at hh
          · exact (nov hh).elim
          · rename_i e sz l hy
            split at hh
            · cases hh
              obtain ⟨c1, cc, c2, e1, e2, e3, _⟩ := RepFs.nth h4 hy
              rw [Nat.zero_add] at e3
              obtain ⟨v, rfl, e3⟩ := e3
              exact ⟨cells, ty, c1, v, c2, e, sz, l, h3, e1, e2, by simp [SV.vecAt, hy], e3⟩
            · cases hh
          · cases hh
    | _ => cases hh
  | succ j =>
    simp only [SV.hit] at hh
    split at hh
    · exact (novv hh).elim
    · cases hh

theorem sound_load {o : Oper} {t : TypeId} {x : Operand} {x' : Opd} {agg : Bool} {sz : Nat} (ho : o.op = .load t x) (hx : opdOk N x x' = true) (ht : tyOk P t agg sz = true) : Sound P N o (semLoad o.dst agg sz x') := by
  intro G σ Fr w0 st a w Q next E hN hr hw hn hdst
  subst hN
  have run : ∀ {b off : Nat} {v : Value}, a.eval x = .pointer (some ⟨b, off, none⟩) → (loadVar t ⟨b, off, none⟩).run P w = .ok v w → (execOp a.eval o).run P w = .ok (.value v) w := by
    intro b off v hp hl
    simp [execOp, ho, hp, Instr.loadAt, Instr.sureAddr, hl]
  rcases rdP_spec hr hx hw with ⟨s, k, ver, off, r, cur, h1, hs, hp⟩ | ⟨u, h1, hp⟩
  · simp only [M.wp, hs] at h1
    obtain ⟨hv, h1⟩ := h1
    obtain ⟨b, hb, hp⟩ := hp hv
    split at h1
    · rename_i off' u hh
      obtain ⟨⟨rfl, rfl, rfl⟩, h1⟩ := h1
      have hroot : cur.2.root = none := by
        generalize cur.2 = sv at hh
        cases sv <;> first | rfl | (cases k <;> simp [SV.hit, SV.vecAt] at hh)
      have hrep := hr.slots s cur.1 cur.2 hs
      rw [RepSV.own hroot] at hrep
      obtain ⟨bl, ty, fz, pre, cs, post, g1, _, g2, g3, g4, _⟩ := hit_item hr.wok hrep hh hb
      obtain ⟨v, hl, hv⟩ := load_item (P := P) ht g1 g2 g3 g4
      exact done_v hr hn hdst hv h1 (run hp hl)
    · rename_i off' k' hh
      obtain ⟨⟨rfl, rfl, rfl, hne⟩, h1⟩ := h1
      have hroot : cur.2.root = none := by
        generalize cur.2 = sv at hh
        cases sv <;> first | rfl | (cases k <;> simp [SV.hit, SV.vecAt] at hh)
      have hrep := hr.slots s cur.1 cur.2 hs
      rw [RepSV.own hroot] at hrep
      obtain ⟨bl, ty, pre, v, post, e, sz, l, g1, g2, g3, g4, g5⟩ := hit_vec hr.wok hrep hh hb
      have hl := (run_loadVar_at (P := P) (cs := [v]) ht g1 g2 g3).2 v rfl rfl
      obtain ⟨σ', st', r1, r2⟩ := hr.setD hdst (sv := .bor s k' ver) (c := v) (fun d' hd ver' _ => by
        refine ⟨cur, ?_, by omega, fun _ => ⟨e, sz, l, g4, ?_⟩⟩
        · rw [List.getElem?_set_ne (by rintro rfl; exact hne hd)]; exact hs
        · exact g5.tr (Mem.le.refl G) fun b hb => ⟨Lab.drop_some.2 ⟨by rintro rfl; exact hne hd, hb⟩, rfl⟩) h1
      exact wp_value (run hp hl) (hn G σ' st' _ w (Mem.le.refl G) r1 r2)
    · exact h1.elim
  · obtain ⟨⟨rfl, rfl⟩, h1⟩ := h1
    obtain ⟨b, off, bl, ty, fz, pre, cs, post, p1, p2, p3, p4, p5⟩ := hp
    obtain ⟨v, hl, hv⟩ := load_item (P := P) ht (hr.wok.fixed _ _ p2) p3 p4 p5
    exact done_v hr hn hdst hv h1 (run p1 hl)

/-- What is stored: an item (a slice that is borrowed lies fixed from now on), or an owned slice that goes over. -/
def takeV (x : Opd) (k : I → M) : M := match x with
  | .c x => k x
  | .nils _ _ => k (.list [])
  | .t n => .get n fun ver sv => match sv with
    | .v x => k x
    | .vec _ _ l => .set n (ver + 1) (.v (.list l)) (k (.list l))
    | .bor s kk v => .get s fun cur sv' => .need (v = cur) fun _ => match sv'.vecAt kk with
      | some (_, _, l) => .set s (cur + 1) (sv'.frzAt kk) (k (.list l))
      | none => .fail
    | .sub s kk v m => .get s fun cur sv' => .need (v = cur) fun _ => match sv'.vecAt kk with
      | some (_, _, l) => .set s (cur + 1) (sv'.frzAt kk) (k (.list (l.take m)))
      | none => .fail
    | _ => .fail

theorem takeV_rep {x : Operand} {y : Opd} {k : I → M} {Q : St → Prop} (h : Rel G σ Fr w0 st a w) (ho : opdOk w0.n x y = true) (hq : (takeV y k).wp P Q st) :
    ∃ i G' σ' st', G.le G' ∧ Rel G' σ' Fr w0 st' a w ∧ (k i).wp P Q st' ∧ RepV G' i (a.eval x) := by
  cases y with
  | c i => exact ⟨i, G, σ, st, Mem.le.refl G, h, hq, opdOk_c ho G⟩
  | nils e sz =>
    refine ⟨_, G, σ, st, Mem.le.refl G, h, hq, ?_⟩
    rw [opdOk_nils ho]
    unfold RepV
    rw [if_neg (by simp [I.isAgg])]
    exact ⟨none, 0, rfl, Nat.le_refl _, by simp [maxLen], .inl rfl⟩
  | t n =>
    obtain ⟨rfl, hnlt⟩ := opdOk_t ho
    simp only [takeV, M.wp] at hq
    cases hs : st[n]? with
    | none => simp [hs] at hq
    | some cur =>
      obtain ⟨ver, sv⟩ := cur
      simp only [hs] at hq
      have hrep := h.slot hnlt hs
      cases sv with
      | v y => exact ⟨y, G, σ, st, Mem.le.refl G, h, hq, hrep⟩
      | vec e sz l =>
        obtain ⟨G', σ', h1, h2, h3⟩ := h.freeze (k := 0) hs rfl (Nat.lt_succ_self ver)
        exact ⟨_, G', σ', _, h1, h2, hq, h3 l _ hrep⟩
      | bor s kk v =>
        obtain ⟨cur, h1, h2, h3⟩ := hrep
        simp only [M.wp, h1] at hq
        obtain ⟨hv, hq⟩ := hq
        obtain ⟨e, sz, l, h4, h5⟩ := h3 hv
        simp only [h4, M.wp] at hq
        obtain ⟨G', σ', g1, g2, g3⟩ := h.freeze (k := kk) h1 h4 (Nat.lt_succ_self cur.1)
        exact ⟨_, G', σ', _, g1, g2, hq, g3 l _ h5⟩
      | sub s kk v m =>
        obtain ⟨cur, h1, h2, h3⟩ := hrep
        simp only [M.wp, h1] at hq
        obtain ⟨hv, hq⟩ := hq
        obtain ⟨e, sz, l, h4, h5⟩ := h3 hv
        simp only [h4, M.wp] at hq
        obtain ⟨G', σ', g1, g2, g3⟩ := h.freeze (k := kk) h1 h4 (Nat.lt_succ_self cur.1)
        exact ⟨_, G', σ', _, g1, g2, hq, g3 _ _ h5⟩
      | _ => exact hq.elim
end
end Go.Ab
