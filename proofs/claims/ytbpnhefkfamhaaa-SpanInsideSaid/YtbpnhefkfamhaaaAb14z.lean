/- One text of the proof whose last text says what is proved. -/
import Derived.Test.YtbpnhefkfamhaaaAb14y
set_option linter.unusedVariables false
set_option linter.unusedSimpArgs false
namespace Go.Ab

/-- The end of an owned slice, from a place on. -/
def semSfx (d : Option Nat) (sz : Nat) (x lo : Opd) : M := match x with
  | .t n => .get n fun _ sv => match sv with
    | .bor s k v => .get s fun cur sv' => .need (v = cur) fun _ => match sv'.vecAt k with
      | some (_, sz', l) => rdI lo fun i => match i with
        | .int _ i => .need (sz' = sz ∧ 0 ≤ i ∧ i.toNat ≤ l.length ∧ d ≠ some s) fun _ => setD d (.suf s k v i.toNat) .done
        | _ => .fail
      | none => .fail
    | _ => .fail
  | _ => .fail

/-- clear -/
def semClr (d : Option Nat) (sz : Nat) (z : I) (x : Opd) : M := match x with
  | .t n => .get n fun _ sv => match sv with
    | .suf s 0 v m => .get s fun cur sv' => .need (v = cur) fun _ => match sv' with
      | .vec e sz' l => .need (sz' = sz) fun _ => .set s (cur + 1) (.vec e sz' (l.take m ++ List.replicate (l.length - m) z)) (setD d (.tup []) .done)
      | _ => .fail
    | _ => .fail
  | _ => .fail
def clrOk (P : Program) (t : TypeId) (sz : Nat) (z : I) : Bool := match P.underlying t with
  | some (.slice e) => match P.info? e with
    | some i => i.size == sz && z.size == sz && match i.zero with
      | some v => v.cells.size == sz && match zI z v.cells.toList with
        | some [] => true
        | _ => false
      | none => false
    | none => false
  | _ => false

section
variable {P : Program} {N : Nat} {G : Mem} {σ : Lab} {Fr : Mem} {w0 : Base} {w : World} {st : St} {a : Act}

theorem sound_sfx {o : Oper} {t : TypeId} {x lo : Operand} {x' lo' : Opd} {sz : Nat} (ho : o.op = .slice t x (some lo) none none) (hx : opdOk N x x' = true) (hl : opdOk N lo lo' = true) (ht : sliceOk P t sz = true) :
    Sound P N o (semSfx o.dst sz x' lo') := by
  intro G σ Fr w0 st a w Q next E hN hr hw hn hdst
  subst hN
  cases x' with
  | t n =>
    obtain ⟨rfl, hnlt⟩ := opdOk_t hx
    simp only [semSfx, M.wp] at hw
    cases hs : st[n]? with
    | none => simp [hs] at hw
    | some cur0 =>
      obtain ⟨ver, sv⟩ := cur0
      simp only [hs] at hw
      have hrep := hr.slot hnlt hs
      split at hw
      · rename_i s k v
        obtain ⟨cur, g1, g2, g3⟩ := hrep
        simp only [M.wp, g1] at hw
        obtain ⟨hv, hw⟩ := hw
        obtain ⟨e', sz', l, g4, g5⟩ := g3 hv
        simp only [g4] at hw
        obtain ⟨i, h1, hi⟩ := rdI_rep hr hl hw
        split at h1
        · rename_i kd i
          rw [RepV.int] at hi
          obtain ⟨⟨rfl, h0, hle, hne⟩, h1⟩ := h1
          obtain ⟨ad, cap, hc, hlm⟩ := g5.len
          have hlc : l.length ≤ cap := by
            obtain ⟨xs, q1, _⟩ := g5
            rcases q1.2 with ⟨q2, q3⟩ | ⟨g, cap', cur, q2, _, _, q3, _⟩
            · omega
            · rw [hc] at q2; cases q2; exact q3
          have hb := sliceBounds_run (P := P) (a := a) (isSlice := true) (len := l.length) (cap := cap) (lo := some lo) (hi := none) (i := i) (j := (l.length : Int)) w (.inr ⟨lo, kd, rfl, hi⟩) (.inl ⟨rfl, rfl⟩) h0 (by omega) (Int.le_refl _) hlc
          have hsl : ∃ e i0, P.underlying t = some (.slice e) ∧ P.info? e = some i0 ∧ i0.size = sz' := by
            unfold sliceOk at ht
            split at ht
            · rename_i e hu
              split at ht
              · rename_i i0 hi0
                simp only [Bool.and_eq_true, beq_iff_eq] at ht
                exact ⟨e, i0, hu, hi0, ht.1⟩
              · cases ht
            · cases ht
          obtain ⟨e, i0, hu, hi0, hsz⟩ := hsl
          obtain ⟨σ', st', r1, r2⟩ := hr.setD hdst (sv := .suf s k v i.toNat) (c := .slice (if cap = i.toNat then ad else ad.map (·.add (i.toNat * sz'))) (l.length - i.toNat) (cap - i.toNat)) (fun d' hd ver' _ => by
            refine ⟨cur, by rw [List.getElem?_set_ne (by rintro rfl; exact hne hd)]; exact g1, g2, fun _ => ⟨e', sz', l, a.eval (.tmp n), g4, ?_, ⟨ad, cap, hc, hle, hlc, rfl⟩⟩⟩
            exact g5.tr (Mem.le.refl G) fun b hb => ⟨Lab.drop_some.2 ⟨by rintro rfl; exact hne hd, hb⟩, rfl⟩) h1
          refine wp_value (w' := w) ?_ (hn G σ' st' _ w (Mem.le.refl G) r1 r2)
          simp only [Option.map_some, Option.map_none] at hb
          simp [execOp, ho, Instr.sliceAt, Instr.slice, run_underlying hu, hc, hb, sizeOf, typeInfo, hi0, hsz]
        · exact h1.elim
      · exact hw.elim
  | _ => exact hw.elim

theorem zeroCells_toList (z : Array Value) (n : Nat) : (Builtin.zeroCells z n).toList = (List.replicate n z.toList).flatten := zeros_list rfl n

theorem sound_clr {o : Oper} {t : TypeId} {x : Operand} {x' : Opd} {sz : Nat} {z : I} (ho : o.op = .call { callee := .builtin .clear, args := #[x], argTypes := #[t] }) (hx : opdOk N x x' = true) (ht : clrOk P t sz z = true) :
    Sound P N o (semClr o.dst sz z x') := by
  intro G σ Fr w0 st a w Q next E hN hr hw hn hdst
  subst hN
  unfold clrOk at ht
  split at ht
  case h_2 => cases ht
  rename_i e hu
  split at ht
  case h_2 => cases ht
  rename_i i hi
  simp only [Bool.and_eq_true, beq_iff_eq] at ht
  obtain ⟨⟨hisz, hzsz⟩, ht⟩ := ht
  split at ht
  case h_2 => cases ht
  rename_i v hv
  simp only [Bool.and_eq_true, beq_iff_eq] at ht
  obtain ⟨hvs, hz⟩ := ht
  have hz' : ∃ c, v.cells.toList = c ++ [] ∧ RepI G z c := by
    split at hz
    · rename_i h; exact zI_spec G z _ _ h
    · cases hz
  obtain ⟨c, hc, hz'⟩ := hz'
  rw [List.append_nil] at hc
  subst hc
  cases x' with
  | t n =>
    obtain ⟨rfl, hnlt⟩ := opdOk_t hx
    simp only [semClr, M.wp] at hw
    cases hs : st[n]? with
    | none => simp [hs] at hw
    | some cur0 =>
      obtain ⟨ver, sv⟩ := cur0
      simp only [hs] at hw
      have hrep := hr.slot hnlt hs
      split at hw
      · rename_i s vv m
        obtain ⟨cur, g1, g2, g3⟩ := hrep
        simp only [M.wp, g1] at hw
        obtain ⟨hver, hw⟩ := hw
        obtain ⟨cv, csv⟩ := cur
        cases csv with
        | vec e' sz' l =>
          obtain ⟨rfl, hw⟩ := hw
          obtain ⟨e1, sz1, l1, c0, g4, g5, ad, cap, g6, g7, g8, g9⟩ := g3 hver
          cases g4
          have hown : VecAt G σ w (s, 0) e' sz' l (val a w0 s) := hr.slots s cv _ g1
          have key : ∃ w', (Builtin.clear_ #[t] o.type #[a.eval (.tmp n)]).run P w = .ok (.tuple #[]) w' ∧ WOk G σ Fr w0 w' ∧ (∀ s', s' ≠ s → Kept σ σ w w' s') ∧ VecAt G σ w' (s, 0) e' sz' (l.take m ++ List.replicate (l.length - m) z) (val a w0 s) := by
            rw [g9]
            by_cases h0 : l.length - m = 0
            · refine ⟨w, ?_, hr.wok, fun s' _ => Kept.refl σ w s', ?_⟩
              · rw [h0]
                simp only [Builtin.clear_]
                simp [run_underlying hu]
                split <;> simp_all
              · rw [h0, List.take_of_length_le (by omega)]
                simpa using hown
            · have hne : l ≠ [] := by rintro rfl; simp at h0
              obtain ⟨b, hb0⟩ : ∃ b, ad = some ⟨b, 0, none⟩ := by
                obtain ⟨xs, q1, _⟩ := g5
                rcases q1.2 with ⟨_, q3⟩ | ⟨g, cap', cur, q2, _⟩
                · exact absurd (List.eq_nil_of_length_eq_zero q3) hne
                · rw [g6] at q2; cases q2; exact ⟨g, rfl⟩
              subst hb0
              have hb : σ b = some (s, 0) := by
                obtain ⟨xs, _, _, _, q4⟩ := g5
                exact q4 b (by rw [g6]; rfl)
              obtain ⟨bl, xs, post, cap2, k1, k2, k3, k4, k5, k6, k7, k8⟩ := hown.row hr.wok hb hne
              have hxl : xs.length = l.length * sz' := by rw [RepIs.length _ _ k7, sizes_const k8]
              have hzl : (Builtin.zeroCells v.cells (l.length - m)).toList.length = (l.length - m) * sz' := by
                simp [Builtin.zeroCells, hvs]
              have hzr : RepIs G (List.replicate (l.length - m) z) (Builtin.zeroCells v.cells (l.length - m)).toList := by
                rw [zeroCells_toList]
                exact replicate_rep hz' _
              have hmul : m * sz' + (l.length - m) * sz' = l.length * sz' := by
                rw [← Nat.add_mul]
                congr 1
                omega
              have hbl : bl.size = bl.toList.length := by simp
              have k5r := k5
              obtain ⟨ty5, fz5, k5', k5'', _⟩ := k5
              have hst := run_storeCells_any P b (m * sz') ty5 fz5 (Builtin.zeroCells v.cells (l.length - m)).toList 0 bl w k5' k5'' (by rw [hzl, hbl, k6, List.length_append, hxl]; omega) (RepIs.one _ _ hzr)
              have hcm : ¬ cap = m := by omega
              obtain ⟨c1, c2, p1, p2, p3⟩ := RepIs.split (l := l.take m) (m := l.drop m) (by rw [List.take_append_drop]; exact k7)
              have hc1 : c1.length = m * sz' := by
                rw [RepIs.length _ _ p2, sizes_const fun x hx => k8 x (List.mem_of_mem_take hx), List.length_take, Nat.min_eq_left (by omega)]
              have hc2 : c2.length = (l.length - m) * sz' := by
                rw [RepIs.length _ _ p3, sizes_const fun x hx => k8 x (List.mem_of_mem_drop hx), List.length_drop]
              have t1 : bl.toList.take (m * sz' + 0) = c1 := by rw [k6, p1, Nat.add_zero, ← hc1, List.append_assoc, List.take_left]
              have t2 : bl.toList.drop (m * sz' + 0 + (Builtin.zeroCells v.cells (l.length - m)).toList.length) = post := by
                rw [hzl, k6, p1, Nat.add_zero, ← hc1, ← hc2, ← List.length_append, List.drop_left]
              rw [t1, t2] at hst
              have hrs : (c1 ++ (Builtin.zeroCells v.cells (l.length - m)).toList ++ post).toArray.size = bl.size := by
                rw [hbl, k6, p1]
                simp only [List.size_toArray, List.length_append, hc2, hzl]
              refine ⟨w.setRow b (c1 ++ (Builtin.zeroCells v.cells (l.length - m)).toList ++ post).toArray, ?_, hr.wok.setRow hb _, fun s' hs' => Kept.setRow hb hs' _, ?_⟩
              · rw [if_neg hcm]
                have hadd : Option.map (fun x : Addr => x.add (m * sz')) (some ⟨b, 0, none⟩) = some ⟨b, m * sz', none⟩ := by
                  simp [add_lit]
                rw [hadd]
                obtain ⟨q, hq⟩ : ∃ q, l.length - m = q + 1 := ⟨l.length - m - 1, by omega⟩
                rw [hq] at hst ⊢
                have hzv : (zeroValue e).run P w = .ok v w := by simp [zeroValue, typeInfo, hi, hv]
                simp [Builtin.clear_, run_underlying hu, hzv, hst]
              · refine ⟨c1 ++ (Builtin.zeroCells v.cells (l.length - m)).toList, ⟨?_, .inr ⟨b, cap2, _, ?_, Nat.zero_le _, k5r.set hrs, ?_, k3, ?_, ?_⟩⟩, RepIs.append p2 hzr, ?_, ?_⟩
                · rw [List.length_append, hc1, hzl, hmul, List.length_append, List.length_take, List.length_replicate, Nat.min_eq_left (by omega)]
                  congr 1
                  omega
                · rw [k1, List.length_append, List.length_take, List.length_replicate, Nat.min_eq_left (by omega), show m + (l.length - m) = l.length from by omega]
                · rw [List.length_append, List.length_take, List.length_replicate, Nat.min_eq_left (by omega)]
                  omega
                · rw [← k4, hbl, k6, p1]
                  simp only [List.size_toArray, List.length_append, hc2, hzl]
                · have : (l.take m ++ List.replicate (l.length - m) z).length * sz' = (c1 ++ (Builtin.zeroCells v.cells (l.length - m)).toList).length := by
                    simp only [List.length_append, List.length_take, List.length_replicate, hc1, hzl, hmul, Nat.min_eq_left g7]
                    congr 1
                    omega
                  rw [this]
                  exact List.take_left
                · intro x hx
                  rcases List.mem_append.1 hx with hx | hx
                  · exact k8 x (List.mem_of_mem_take hx)
                  · rw [List.eq_of_mem_replicate hx, hzsz]
                · intro b' hb'
                  rw [k1] at hb'
                  simp only [Value.ownBlock, Option.some.injEq] at hb'
                  subst hb'
                  exact hb
          obtain ⟨w', hrun, hok', hk', hv'⟩ := key
          have hr1 := Rel.self (new := .vec e' sz' (l.take m ++ List.replicate (l.length - m) z)) (ver := cv + 1) hr hok' (Mem.le.refl G) g1 (Nat.lt_succ_self _) hk' hv'
          obtain ⟨σ', st', r1, r2⟩ := hr1.setD hdst (sv := .tup []) (c := .tuple #[]) (fun _ _ _ _ => ⟨#[], rfl, rfl⟩) hw
          refine wp_value (w' := w') ?_ (hn G σ' st' _ w' (Mem.le.refl G) r1 r2)
          have hinv : (execOp a.eval o).run P w = .ok (.value (.tuple #[])) w' := by
            simp [execOp, ho, resolve, invoke, builtin, hrun]
          exact hinv
        | _ => exact hw.elim
      · exact hw.elim
  | _ => exact hw.elim
end
end Go.Ab
