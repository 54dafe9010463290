/- One text of the proof whose last text says what is proved. -/
import Derived.Test.YtbpnhefkfamhaaaAb14x
set_option linter.unusedVariables false
set_option linter.unusedSimpArgs false
namespace Go.Ab

/-- An address within an array. -/
def semAaddr (d : Option Nat) (sz len : Nat) (x i : Opd) : M := rdI i fun n => match n with
  | .int _ n => rdP x (fun s k ver o r => .need (0 ≤ n ∧ n.toNat < len ∧ d ≠ some s) fun _ => .get s fun cur _ => .need (ver = cur) fun _ => setD d (.pt s k ver (o + n.toNat * sz) (r ++ [n.toNat])) .done)
    (fun y => match y with
      | .arr sz' l => match l[n.toNat]? with
        | some u => .need (0 ≤ n ∧ n.toNat < len ∧ sz' = sz) fun _ => setD d (.rp u) .done
        | none => .fail
      | _ => .fail)
  | _ => .fail
def arrOk (P : Program) (t : TypeId) (sz len : Nat) : Bool := match P.underlying t with
  | some (.array n e) => match P.info? e with
    | some i => i.size == sz && n == len
    | none => false
  | _ => false

section
variable {P : Program} {N : Nat} {G : Mem} {σ : Lab} {Fr : Mem} {w0 : Base} {w : World} {st : St} {a : Act}
theorem arrayAt_run {t : TypeId} {sz len b o : Nat} {k : IntKind} {n : Int} (h : arrOk P t sz len = true) (w : World) (h0 : 0 ≤ n) (h1 : n.toNat < len) :
    (Instr.indexAt t (.pointer (some ⟨b, o, none⟩)) (.int k n)).run P w = .ok (.pointer (some ⟨b, o + n.toNat * sz, none⟩)) w := by
  unfold arrOk at h
  split at h
  · rename_i m e hu
    split at h
    · rename_i i hi
      simp only [Bool.and_eq_true, beq_iff_eq] at h
      obtain ⟨h2, rfl⟩ := h
      have hn : 0 ≤ n ∧ n < (m : Int) := ⟨h0, by omega⟩
      simp [Instr.indexAt, asIntOf, run_underlying hu, hn, sizeOf, typeInfo, hi, h2, add_lit, Instr.sureAddr]
    · cases h
  · cases h

theorem sound_aaddr {o : Oper} {t : TypeId} {x i : Operand} {x' i' : Opd} {sz len : Nat} (ho : o.op = .indexAddr t x i) (hx : opdOk N x x' = true) (hi : opdOk N i i' = true) (ht : arrOk P t sz len = true) :
    Sound P N o (semAaddr o.dst sz len x' i') := by
  intro G σ Fr w0 st a w Q next E hN hr hw hn hdst
  subst hN
  obtain ⟨n, h1, hnv⟩ := rdI_rep hr hi hw
  clear hw
  split at h1
  · rename_i k n
    rw [RepV.int] at hnv
    rcases rdP_spec hr hx h1 with ⟨s, kk, ver, of, r, cur, h1, hs, hp⟩ | ⟨u, h1, hp⟩
    · simp only [M.wp, hs] at h1
      obtain ⟨⟨h0, hlt, hne⟩, hver, h1⟩ := h1
      obtain ⟨b, hb, hpp⟩ := hp hver
      obtain ⟨σ', st', r1, r2⟩ := hr.setPt hdst hs hne hver hb h1
      refine wp_value (w' := w) ?_ (hn G σ' st' _ w (Mem.le.refl G) r1 r2)
      simp [execOp, ho, hpp, hnv, arrayAt_run ht w h0 hlt]
    · split at h1
      · rename_i sz' l
        split at h1
        · rename_i u hu
          obtain ⟨⟨h0, hlt, rfl⟩, h1⟩ := h1
          obtain ⟨b, of, bl, ty, fz, pre, cs, post, p1, p2, p3, p4, p5⟩ := hp
          obtain ⟨p5, p6⟩ := p5
          obtain ⟨c1, c, c2, e1, e2, e3, _⟩ := RepIs.nth n.toNat p5 hu
          have htake : sizes (l.take n.toNat) = n.toNat * sz' := by
            have hlt' : n.toNat < l.length := (List.getElem?_eq_some_iff.1 hu).1
            rw [sizes_const (sz := sz') fun z hz => p6 z (List.mem_of_mem_take hz), List.length_take, Nat.min_eq_left (Nat.le_of_lt hlt')]
          obtain ⟨σ', st', r1, r2⟩ := hr.setD hdst (sv := .rp u) (c := .pointer (some ⟨b, of + n.toNat * sz', none⟩))
            (fun _ _ _ _ => ⟨b, _, bl, ty, fz, pre ++ c1, c, c2 ++ post, rfl, p2, by simp [p3, e1], by simp [p4, e2, htake], e3⟩) h1
          refine wp_value (w' := w) ?_ (hn G σ' st' _ w (Mem.le.refl G) r1 r2)
          simp [execOp, ho, p1, hnv, arrayAt_run ht w h0 hlt]
        · exact h1.elim
      · exact h1.elim
  · exact h1.elim
end
end Go.Ab
