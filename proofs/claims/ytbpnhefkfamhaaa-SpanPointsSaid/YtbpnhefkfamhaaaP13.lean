/- One text of the proof whose last text says what is proved. -/
import Derived.Test.YtbpnhefkfamhaaaP12b
set_option linter.unusedVariables false
set_option linter.unusedSimpArgs false
set_option maxRecDepth 100000
set_option maxHeartbeats 4000000
namespace Go.Ab
open Go.Proofs

def estep (E : List Str) (s : Sp) : List Str := if SpR s then ins s.t (ins s.f E) else E
def endsM (l : List Sp) : List Str := l.foldl estep [[]]
theorem estep_length (E : List Str) (s : Sp) : (estep E s).length ≤ E.length + 2 := by
  unfold estep
  split
  · exact Nat.le_trans (ins_length _ _) (Nat.add_le_add_right (ins_length _ _) 1)
  · omega
theorem endsM_take {l : List Sp} {k : Nat} {e : Sp} (he : l[k]? = some e) : endsM (l.take (k + 1)) = estep (endsM (l.take k)) e := by
  unfold endsM
  rw [List.take_add_one, he, List.foldl_append]
  rfl
theorem endsM_length (l : List Sp) : (endsM l).length ≤ 1 + 2 * l.length := by
  have : ∀ (l : List Sp) (E : List Str), (l.foldl estep E).length ≤ E.length + 2 * l.length := by
    intro l
    induction l with
    | nil => intro E; simp
    | cons s r ih =>
      intro E
      have h1 := ih (estep E s)
      have h2 := estep_length E s
      simp only [List.foldl_cons, List.length_cons]
      omega
  exact this l [[]]
theorem spec_sends (l : List Sp) (hl : l.length ≤ 1000) : Fn Try.prog F_exchequerref05_Ends [.v (.list (sps l))] (Is (.v (.list (strs (endsM l)))) [.no]) := by
  refine of_exchequerref05_Ends ?_ (by simp)
  have hm : l.length ≤ maxLen := by simp only [maxLen]; omega
  repeat' ((conv => whnf); first
    | (refine And.intro (fun hb => ?_) (fun hb => ?_) <;> first | (exact absurd hb (by first | assumption | decide)) | (rw [hb]) | skip)
    | (refine Exists.intro ?_ ?_; focus (and_intros <;> first | omega | exact rfl | assumption | (intro _ hh; cases hh; done) | exact all_size (by rfl) | (simp; done) | decide))
    | (intro hfact)
    | (refine Drawn.mk (by kernel_rfl) (fun hfact => ?_)))
  all_goals (try (conv => whnf))
  refine LoopWq.by (X := Nat) (fun x => [(3, .vec 9 1 (strs (endsM (l.take x)))), (4, .v (.int .i64 x))]) (fun x => x ≤ l.length) (fun x => l.length - x)
    0 (by rw [List.take_zero]; kernel_rfl) (Nat.zero_le _) ?_
  intro k h1
  have hEl : (endsM (l.take k)).length ≤ 3000 := by have := endsM_length (l.take k); rw [List.length_take] at this; omega
  by_cases hk : k < l.length
  case neg =>
    have hlt : ¬ decide ((k : Int) < ((sps l).length : Int)) = true := by simp; omega
    rw [show l.take k = l from List.take_of_length_le (by omega)]
    repeat' ((conv => whnf); first
      | (refine And.intro (fun hb => ?_) (fun hb => ?_) <;> first | (exact absurd hb (by first | assumption | decide)) | (rw [hb]) | skip)
      | (refine Exists.intro ?_ ?_; focus (and_intros <;> first | omega | exact rfl | assumption | (intro _ hh; cases hh; done) | exact all_size (by rfl) | (simp; done) | decide))
      | (intro hfact)
      | (refine Drawn.mk (by kernel_rfl) (fun hfact => ?_)))
    all_goals (try (conv => whnf))
    exact Done.mk ⟨rfl, by kernel_rfl⟩ (by kernel_rfl)
  obtain ⟨e, he⟩ : ∃ e, l[k]? = some e := ⟨_, List.getElem?_eq_getElem hk⟩
  have hg : (sps l)[Int.toNat (k : Int)]? = some e.toI := sps_get he
  have hlt : ¬ decide ((k : Int) < ((sps l).length : Int)) = false := by simp [hk]
  have hround : l.length - (k + 1) < l.length - k := by omega
  have hs := endsM_take he
  obtain ⟨E, hE⟩ : ∃ E, E = endsM (l.take k) := ⟨_, rfl⟩
  rw [← hE] at hs hEl ⊢
  have hp1 := spec_sput E e.f (by omega)
  have hp2 := spec_sput (ins e.f E) e.t (by have := ins_length e.f E; omega)
  by_cases hr : SpR e
  · have n1 : ¬ decide (SpR e) = false := by simp [hr]
    rw [estep, if_pos hr] at hs
    repeat' ((conv => whnf); first
      | (refine And.intro (fun hb => ?_) (fun hb => ?_) <;> first | (exact absurd hb (by first | assumption | decide)) | (rw [hb]) | skip)
      | (refine Exists.intro ?_ ?_; focus (and_intros <;> first | omega | exact rfl | assumption | (intro _ hh; cases hh; done) | exact all_size (by rfl) | (simp; done) | decide))
      | (intro hfact)
      | (refine Drawn.mk (by kernel_rfl) (fun hfact => ?_))
      | ((try dsimp only); rw [hg])
      | (refine CallWp.mk ⟨_, spec_srright _, ?_⟩; rintro _ _ ⟨rfl, rfl⟩)
      | (refine CallIs.mk ⟨_, _, hp1, ?_⟩)
      | (refine CallIs.mk ⟨_, _, hp2, ?_⟩))
    all_goals (try (conv => whnf))
    refine Round.by (k + 1) ?_ hk hround
    rw [wrap_succ hk hm, hs]
    show norm _ _ = upd _ _
    kernel_rfl
  · have n1 : ¬ decide (SpR e) = true := by simp [hr]
    rw [estep, if_neg hr] at hs
    repeat' ((conv => whnf); first
      | (refine And.intro (fun hb => ?_) (fun hb => ?_) <;> first | (exact absurd hb (by first | assumption | decide)) | (rw [hb]) | skip)
      | (refine Exists.intro ?_ ?_; focus (and_intros <;> first | omega | exact rfl | assumption | (intro _ hh; cases hh; done) | exact all_size (by rfl) | (simp; done) | decide))
      | (intro hfact)
      | (refine Drawn.mk (by kernel_rfl) (fun hfact => ?_))
      | ((try dsimp only); rw [hg])
      | (refine CallWp.mk ⟨_, spec_srright _, ?_⟩; rintro _ _ ⟨rfl, rfl⟩)
      | (refine CallIs.mk ⟨_, _, hp1, ?_⟩)
      | (refine CallIs.mk ⟨_, _, hp2, ?_⟩))
    all_goals (try (conv => whnf))
    refine Round.by (k + 1) ?_ hk hround
    rw [wrap_succ hk hm, hs]
    show norm _ _ = upd _ _
    kernel_rfl

/-- Made, step by step. -/
def mstep (o : List Sp × Bool) (p : Str × Bool) : List Sp × Bool :=
  if p.2 = true then (if o.2 = true then (o.1, true) else (o.1 ++ [⟨p.1, []⟩], true))
  else (if o.2 = true then (match o.1.getLast? with
    | some s => o.1.set (o.1.length - 1) ⟨s.f, p.1⟩
    | none => o.1, false) else (o.1, false))
def madeM (E : List Str) (H : List Bool) : List Sp := ((E.zip H).foldl mstep ([], false)).1
abbrev bools (H : List Bool) : List I := H.map I.bool
theorem bools_get {H : List Bool} {k : Nat} {e : Bool} (h : H[k]? = some e) : (bools H)[k]? = some (.bool e) := by simp [h]
theorem spec_made (E : List Str) (H : List Bool) (hEH : H.length = E.length) (hl : E.length ≤ 5000) : Fn Try.prog F_exchequerref05_Made [.v (.list (strs E)), .v (.list (bools H))] (Is (.v (.list (sps (madeM E H)))) [.no, .no]) := by
  refine of_exchequerref05_Made ?_ (by simp)
  have hm : E.length ≤ maxLen := by simp only [maxLen]; omega
  have hzl : (E.zip H).length = E.length := by rw [List.length_zip]; omega
  repeat' ((conv => whnf); first
    | (refine And.intro (fun hb => ?_) (fun hb => ?_) <;> first | (exact absurd hb (by first | assumption | decide)) | (rw [hb]) | skip)
    | (refine Exists.intro ?_ ?_; focus (and_intros <;> first | omega | exact rfl | assumption | (intro _ hh; cases hh; done) | exact all_size (by rfl) | (simp; done) | decide))
    | (intro hfact)
    | (refine Drawn.mk (by kernel_rfl) (fun hfact => ?_)))
  all_goals (try (conv => whnf))
  refine LoopWq.by (X := Nat × List Sp × Bool) (fun x => [(5, .vec 29 2 (sps x.2.1)), (6, .v (.bool x.2.2)), (7, .v (.int .i64 x.1))])
    (fun x => x.1 ≤ E.length ∧ x.2 = ((E.zip H).take x.1).foldl mstep ([], false) ∧ x.2.1.length ≤ x.1 ∧ (x.2.2 = true → x.2.1 ≠ [])) (fun x => E.length - x.1)
    (0, [], false) (by kernel_rfl) ⟨Nat.zero_le _, rfl, Nat.le_refl _, by simp⟩ ?_
  rintro ⟨k, out, op⟩ ⟨h1, h2, h3, h4⟩
  dsimp only at h1 h2 h3 h4 ⊢
  by_cases hk : k < E.length
  case neg =>
    have hlt : ¬ decide ((k : Int) < ((strs E).length : Int)) = true := by simp; omega
    rw [List.take_of_length_le (by omega)] at h2
    have hout : madeM E H = out := by unfold madeM; rw [← h2]
    rw [hout]
    repeat' ((conv => whnf); first
      | (refine And.intro (fun hb => ?_) (fun hb => ?_) <;> first | (exact absurd hb (by first | assumption | decide)) | (rw [hb]) | skip)
      | (refine Exists.intro ?_ ?_; focus (and_intros <;> first | omega | exact rfl | assumption | (intro _ hh; cases hh; done) | exact all_size (by rfl) | (simp; done) | decide))
      | (intro hfact)
      | (refine Drawn.mk (by kernel_rfl) (fun hfact => ?_)))
    all_goals (try (conv => whnf))
    exact Done.mk ⟨rfl, by kernel_rfl⟩ (by kernel_rfl)
  obtain ⟨e, he⟩ : ∃ e, E[k]? = some e := ⟨_, List.getElem?_eq_getElem hk⟩
  obtain ⟨b, hb0⟩ : ∃ b, H[k]? = some b := ⟨_, List.getElem?_eq_getElem (by omega)⟩
  have hg : (strs E)[Int.toNat (k : Int)]? = some (.str e) := strs_get he
  have hgb : (bools H)[Int.toNat (k : Int)]? = some (.bool b) := bools_get hb0
  have hlt : ¬ decide ((k : Int) < ((strs E).length : Int)) = false := by simp [hk]
  have hround : E.length - (k + 1) < E.length - k := by omega
  have hsucc : ((E.zip H).take (k + 1)).foldl mstep ([], false) = mstep (out, op) (e, b) := by
    have hz : (E.zip H)[k]? = some (e, b) := by simp [List.getElem?_zip_eq_some, he, hb0]
    rw [List.take_add_one, hz, List.foldl_append, ← h2]
    rfl
  have e1 : ((sps out).length + [(⟨e, []⟩ : Sp).toI].length) * 32 ≤ 140737488355328 := by
    rw [List.length_map]
    show (out.length + 1) * 32 ≤ 140737488355328
    omega
  have e2 : (sps out).length + [(⟨e, []⟩ : Sp).toI].length ≤ maxLen := by
    rw [List.length_map]
    show out.length + 1 ≤ 9223372036854775807
    omega
  have e3 : ∀ u ∈ [(⟨e, []⟩ : Sp).toI], u.size = 2 := sps_size [⟨e, []⟩]
  have hap : sps out ++ [(⟨e, []⟩ : Sp).toI] = sps (out ++ [⟨e, []⟩]) := by simp
  cases b with
  | true =>
    cases op with
    | true =>
      rw [show mstep (out, true) (e, true) = (out, true) from rfl] at hsucc
      repeat' ((conv => whnf); first
        | (refine And.intro (fun hb => ?_) (fun hb => ?_) <;> first | (exact absurd hb (by first | assumption | decide)) | (rw [hb]) | skip)
        | (refine Exists.intro ?_ ?_; focus (and_intros <;> first | omega | exact rfl | assumption | (intro _ hh; cases hh; done) | exact all_size (by rfl) | (simp; done) | decide))
        | (intro hfact)
        | (refine Drawn.mk (by kernel_rfl) (fun hfact => ?_))
        | ((try dsimp only); rw [hg])
        | ((try dsimp only); rw [hgb]))
      all_goals (try (conv => whnf))
      refine Round.by (k + 1, out, true) ?_ ⟨hk, hsucc.symm, by dsimp only; omega, h4⟩ hround
      dsimp only
      rw [wrap_succ hk hm]
      show norm _ _ = upd _ _
      kernel_rfl
    | false =>
      rw [show mstep (out, false) (e, true) = (out ++ [⟨e, []⟩], true) from rfl] at hsucc
      repeat' ((conv => whnf); first
        | (refine And.intro (fun hb => ?_) (fun hb => ?_) <;> first | (exact absurd hb (by first | assumption | decide)) | (rw [hb]) | skip)
        | (refine Exists.intro ?_ ?_; focus (and_intros <;> first | omega | exact rfl | assumption | (intro _ hh; cases hh; done) | exact all_size (by rfl) | (simp; done) | decide))
        | (intro hfact)
        | (refine Drawn.mk (by kernel_rfl) (fun hfact => ?_))
        | ((try dsimp only); rw [hg])
        | ((try dsimp only); rw [hgb]))
      all_goals (try (conv => whnf))
      refine Round.by (k + 1, out ++ [⟨e, []⟩], true) ?_ ⟨hk, hsucc.symm, by simp; omega, by simp⟩ hround
      dsimp only
      rw [wrap_succ hk hm, ← hap]
      show norm _ _ = upd _ _
      kernel_rfl
  | false =>
    cases op with
    | false =>
      rw [show mstep (out, false) (e, false) = (out, false) from rfl] at hsucc
      repeat' ((conv => whnf); first
        | (refine And.intro (fun hb => ?_) (fun hb => ?_) <;> first | (exact absurd hb (by first | assumption | decide)) | (rw [hb]) | skip)
        | (refine Exists.intro ?_ ?_; focus (and_intros <;> first | omega | exact rfl | assumption | (intro _ hh; cases hh; done) | exact all_size (by rfl) | (simp; done) | decide))
        | (intro hfact)
        | (refine Drawn.mk (by kernel_rfl) (fun hfact => ?_))
        | ((try dsimp only); rw [hg])
        | ((try dsimp only); rw [hgb]))
      all_goals (try (conv => whnf))
      refine Round.by (k + 1, out, false) ?_ ⟨hk, hsucc.symm, by dsimp only; omega, by simp⟩ hround
      dsimp only
      rw [wrap_succ hk hm]
      show norm _ _ = upd _ _
      kernel_rfl
    | true =>
      rcases List.eq_nil_or_concat out with rfl | ⟨o, lst, ho⟩
      · exact absurd rfl (h4 rfl)
      rw [List.concat_eq_append] at ho
      subst ho
      have hol : (sps (o ++ [lst])).length = o.length + 1 := by simp
      rw [show mstep (o ++ [lst], true) (e, false) = (o ++ [⟨lst.f, e⟩], false) from by simp [mstep]] at hsucc
      have hw : IntKind.i64.wrap (((sps (o ++ [lst])).length : Int) - 1) = (o.length : Int) := by
        rw [hol]
        exact (wrap_id (by simp at h3; omega)).trans (by omega)
      have h0 : 0 ≤ IntKind.i64.wrap (((sps (o ++ [lst])).length : Int) - 1) := by rw [hw]; omega
      have hlt2 : Int.toNat (IntKind.i64.wrap (((sps (o ++ [lst])).length : Int) - 1)) < (sps (o ++ [lst])).length := by rw [hw, hol]; omega
      have hgl : (sps (o ++ [lst]))[Int.toNat (IntKind.i64.wrap (((sps (o ++ [lst])).length : Int) - 1))]? = some lst.toI := by
        rw [hw]
        simp
      have hhl := hit_t (e := 29) hgl
      have hput : putV (sps (o ++ [lst])) ([Int.toNat (IntKind.i64.wrap (((sps (o ++ [lst])).length : Int) - 1))] ++ [1]) (.str e) = sps (o ++ [⟨lst.f, e⟩]) := by
        rw [put_t hgl, hw]
        simp
      repeat' ((conv => whnf); first
        | (refine And.intro (fun hb => ?_) (fun hb => ?_) <;> first | (exact absurd hb (by first | assumption | decide)) | (rw [hb]) | skip)
        | (refine Exists.intro ?_ ?_; focus (and_intros <;> first | omega | exact rfl | assumption | (intro _ hh; cases hh; done) | exact all_size (by rfl) | (simp; done) | decide))
        | (intro hfact)
        | (refine Drawn.mk (by kernel_rfl) (fun hfact => ?_))
        | ((try dsimp only); rw [hg])
        | ((try dsimp only); rw [hgb])
        | ((try dsimp only); rw [hhl]))
      all_goals (try (conv => whnf))
      refine Round.by (k + 1, o ++ [⟨lst.f, e⟩], false) ?_ ⟨hk, hsucc.symm, by simp at h3 ⊢; omega, by simp⟩ hround
      dsimp only
      rw [wrap_succ hk hm, ← hput]
      show norm _ _ = upd _ _
      kernel_rfl
end Go.Ab

