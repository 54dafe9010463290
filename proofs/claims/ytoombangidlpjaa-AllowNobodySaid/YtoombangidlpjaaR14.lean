/- One text of the proof whose last text says what is proved. -/
import Derived.Test.YtoombangidlpjaaR5
set_option linter.unusedVariables false
set_option linter.unusedSimpArgs false
set_option maxRecDepth 100000
set_option maxHeartbeats 1000000
namespace Go.Ab
open Go.Proofs


theorem Sp.ext_iff' {a b : Sp} : a = b ↔ a.f = b.f ∧ a.t = b.t := by
  cases a; cases b; simp
theorem spec_ssame (a b : List Sp) : Fn Try.prog F_exchequerref05_Same [.v (.list (sps a)), .v (.list (sps b))] (Is (.v (.bool (decide (a = b)))) [.no, .no]) := by
  refine of_exchequerref05_Same ?_ (by simp)
  by_cases hlen : a.length = b.length
  · have n1 : ¬ (!decide (((sps a).length : Int) = ((sps b).length : Int))) = true := by simp [hlen]
    repeat' ((conv => whnf); first
      | (refine And.intro (fun hb => ?_) (fun hb => ?_) <;> first | (exact absurd hb (by first | assumption | decide)) | (rw [hb]) | skip)
      | (refine Exists.intro ?_ ?_; focus (and_intros <;> first | omega | exact rfl | assumption | (intro _ hh; cases hh; done) | exact all_size (by rfl) | (simp; done) | decide))
      | (intro hfact)
      | ((with_reducible apply Drawn.by0); (focus kernel_rfl); intro hfact))
    all_goals (try (conv => whnf))
    have hmax : a.length ≤ maxLen := by rw [hlen]; simpa using hfact
    refine LoopWq.by (X := Nat) (fun x => [(5, .v (.int .i64 x))]) (fun x => x ≤ a.length ∧ decide (a.drop x = b.drop x) = decide (a = b)) (fun x => a.length - x)
      0 (by kernel_rfl) ⟨Nat.zero_le _, rfl⟩ ?_
    rintro k ⟨h1, h2⟩
    by_cases hk : k < a.length
    · have hk' : k < b.length := by omega
      obtain ⟨e, he⟩ : ∃ e, a[k]? = some e := ⟨a[k], List.getElem?_eq_getElem hk⟩
      obtain ⟨f, hf⟩ : ∃ f, b[k]? = some f := ⟨b[k], List.getElem?_eq_getElem hk'⟩
      have hg : (sps a)[Int.toNat (k : Int)]? = some e.toI := sps_get he
      have hg' : (sps b)[Int.toNat (k : Int)]? = some f.toI := sps_get hf
      have hlt : ¬ decide ((k : Int) < ((sps a).length : Int)) = false := by simp [hk]
      have hke : a[k] = e := by rw [List.getElem?_eq_getElem hk] at he; simpa using he
      have hkf : b[k] = f := by rw [List.getElem?_eq_getElem hk'] at hf; simpa using hf
      rw [List.drop_eq_getElem_cons hk, List.drop_eq_getElem_cons hk', hke, hkf] at h2
      repeat' ((conv => whnf); first
        | (refine And.intro (fun hb => ?_) (fun hb => ?_) <;> first | (exact absurd hb (by first | assumption | decide)) | (rw [hb]) | skip)
        | (refine Exists.intro ?_ ?_; focus (and_intros <;> first | omega | exact rfl | assumption | (intro _ hh; cases hh; done) | exact all_size (by rfl) | (simp; done) | decide))
        | (intro hfact)
        | ((with_reducible apply Drawn.by0); (focus kernel_rfl); intro hfact)
        | ((try dsimp only); rw [hg])
        | ((try dsimp only); rw [hg']))
      all_goals (try (conv => whnf))
      · refine Done.mk ⟨SV.bool_congr ?_, by kernel_rfl⟩ (by kernel_rfl)
        have hne : ¬ e = f := by
          intro he'
          subst he'
          simp at hb
        rw [← h2]; simp [hne]
      · refine Round.by (k + 1) ?_ ?_ ?_
        · rw [wrap_succ hk hmax]
          show norm _ _ = upd _ _
          kernel_rfl
        · refine ⟨hk, ?_⟩
          have heq : e = f := by rw [Sp.ext_iff']; simpa using hb
          rw [← h2]; simp [heq]
        · show a.length - (k + 1) < a.length - k
          omega
    · have hlt : ¬ decide ((k : Int) < ((sps a).length : Int)) = true := by simp; omega
      rw [List.drop_eq_nil_of_le (by omega), List.drop_eq_nil_of_le (by omega)] at h2
      repeat' ((conv => whnf); first
        | (refine And.intro (fun hb => ?_) (fun hb => ?_) <;> first | (exact absurd hb (by first | assumption | decide)) | (rw [hb]) | skip)
        | (refine Exists.intro ?_ ?_; focus (and_intros <;> first | omega | exact rfl | assumption | (intro _ hh; cases hh; done) | exact all_size (by rfl) | (simp; done) | decide))
        | (intro hfact)
        | ((with_reducible apply Drawn.by0); (focus kernel_rfl); intro hfact))
      all_goals (try (conv => whnf))
      refine Done.mk ⟨SV.bool_congr ?_, by kernel_rfl⟩ (by kernel_rfl)
      rw [← h2]; simp
  · have n1 : ¬ (!decide (((sps a).length : Int) = ((sps b).length : Int))) = false := by simp; omega
    repeat' ((conv => whnf); first
      | (refine And.intro (fun hb => ?_) (fun hb => ?_) <;> first | (exact absurd hb (by first | assumption | decide)) | (rw [hb]) | skip)
      | (refine Exists.intro ?_ ?_; focus (and_intros <;> first | omega | exact rfl | assumption | (intro _ hh; cases hh; done) | exact all_size (by rfl) | (simp; done) | decide))
      | (intro hfact)
      | ((with_reducible apply Drawn.by0); (focus kernel_rfl); intro hfact))
    all_goals (try (conv => whnf))
    refine Done.mk ⟨SV.bool_congr ?_, by kernel_rfl⟩ (by kernel_rfl)
    symm
    rw [decide_eq_false_iff_not]
    intro h
    exact hlen (by rw [h])
theorem spec_ssame_yes {a b : List Sp} (h : a = b) : Fn Try.prog F_exchequerref05_Same [.v (.list (sps a)), .v (.list (sps b))] (Is (.v (.bool true)) [.no, .no]) := by
  have := spec_ssame a b
  rwa [decide_eq_true h] at this

instance (l : List Sp) (k : Str) : Decidable (AnyH l k) := by unfold AnyH; infer_instance
theorem anyH_nil (k : Str) : ¬ AnyH [] k := by simp [AnyH]
theorem anyH_cons (s : Sp) (r : List Sp) (k : Str) : AnyH (s :: r) k ↔ (SpR s ∧ SpH s k) ∨ AnyH r k := by simp [AnyH]
theorem spec_any (l : List Sp) (k : Str) : Fn Try.prog F_exchequerref05_any [.v (.list (sps l)), .v (.str k)] (Is (.v (.bool (decide (AnyH l k)))) [.no, .no]) := by
  refine of_exchequerref05_any ?_ (by simp)
  by_cases hm : l.length ≤ maxLen
  case neg =>
    repeat' ((conv => whnf); first
      | (refine And.intro (fun hb => ?_) (fun hb => ?_) <;> first | (exact absurd hb (by first | assumption | decide)) | (rw [hb]) | skip)
      | (refine Exists.intro ?_ ?_; focus (and_intros <;> first | omega | exact rfl | assumption | (intro _ hh; cases hh; done) | exact all_size (by rfl) | (simp; done) | decide))
      | (intro hfact)
      | ((with_reducible apply Drawn.by0); (focus kernel_rfl); intro hfact))
    all_goals (try (conv => whnf))
    refine LoopWq.by (X := Unit) (fun _ => [(5, .v (.int .i64 0))]) (fun _ => True) (fun _ => 0) () (by kernel_rfl) trivial ?_
    rintro _ _
    repeat' ((conv => whnf); first
      | (refine And.intro (fun hb => ?_) (fun hb => ?_) <;> first | (exact absurd hb (by first | assumption | decide)) | (rw [hb]) | skip)
      | (refine Exists.intro ?_ ?_; focus (and_intros <;> first | omega | exact rfl | assumption | (intro _ hh; cases hh; done) | exact all_size (by rfl) | (simp; done) | decide))
      | (intro hfact)
      | ((with_reducible apply Drawn.by0); (focus kernel_rfl); intro hfact))
    all_goals (try (conv => whnf))
    all_goals exact absurd (by simpa using (by assumption : (sps l).length ≤ maxLen)) hm
  repeat' ((conv => whnf); first
    | (refine And.intro (fun hb => ?_) (fun hb => ?_) <;> first | (exact absurd hb (by first | assumption | decide)) | (rw [hb]) | skip)
    | (refine Exists.intro ?_ ?_; focus (and_intros <;> first | omega | exact rfl | assumption | (intro _ hh; cases hh; done) | exact all_size (by rfl) | (simp; done) | decide))
    | (intro hfact)
    | ((with_reducible apply Drawn.by0); (focus kernel_rfl); intro hfact))
  all_goals (try (conv => whnf))
  refine LoopWq.by (X := Nat) (fun x => [(5, .v (.int .i64 x))]) (fun x => x ≤ l.length ∧ (AnyH (l.drop x) k ↔ AnyH l k)) (fun x => l.length - x)
    0 (by kernel_rfl) ⟨Nat.zero_le _, Iff.rfl⟩ ?_
  rintro j ⟨h1, h2⟩
  by_cases hj : j < l.length
  · obtain ⟨e, he⟩ : ∃ e, l[j]? = some e := ⟨_, List.getElem?_eq_getElem hj⟩
    have hg : (sps l)[Int.toNat (j : Int)]? = some e.toI := sps_get he
    have hlt : ¬ decide ((j : Int) < ((sps l).length : Int)) = false := by simp [hj]
    have hke : l[j] = e := by rw [List.getElem?_eq_getElem hj] at he; simpa using he
    rw [List.drop_eq_getElem_cons hj, hke, anyH_cons] at h2
    have hround : l.length - (j + 1) < l.length - j := by omega
    by_cases hr : SpR e
    · have n1 : ¬ decide (SpR e) = false := by simp [hr]
      by_cases hh : SpH e k
      · have n2 : ¬ decide (SpH e k) = false := by simp [hh]
        repeat' ((conv => whnf); first
          | (refine And.intro (fun hb => ?_) (fun hb => ?_) <;> first | (exact absurd hb (by first | assumption | decide)) | (rw [hb]) | skip)
          | (refine Exists.intro ?_ ?_; focus (and_intros <;> first | omega | exact rfl | assumption | (intro _ hh; cases hh; done) | exact all_size (by rfl) | (simp; done) | decide))
          | (intro hfact)
          | ((with_reducible apply Drawn.by0); (focus kernel_rfl); intro hfact)
          | ((try dsimp only); rw [hg])
          | (refine CallWp.mk ⟨_, spec_srright _, ?_⟩; rintro _ _ ⟨rfl, rfl⟩)
          | (refine CallWp.mk ⟨_, spec_srhas _ _, ?_⟩; rintro _ _ ⟨rfl, rfl⟩))
        all_goals (try (conv => whnf))
        refine Done.mk ⟨SV.bool_congr ?_, by kernel_rfl⟩ (by kernel_rfl)
        symm
        simpa using h2.1 (.inl ⟨hr, hh⟩)
      · have n2 : ¬ decide (SpH e k) = true := by simp [hh]
        repeat' ((conv => whnf); first
          | (refine And.intro (fun hb => ?_) (fun hb => ?_) <;> first | (exact absurd hb (by first | assumption | decide)) | (rw [hb]) | skip)
          | (refine Exists.intro ?_ ?_; focus (and_intros <;> first | omega | exact rfl | assumption | (intro _ hh; cases hh; done) | exact all_size (by rfl) | (simp; done) | decide))
          | (intro hfact)
          | ((with_reducible apply Drawn.by0); (focus kernel_rfl); intro hfact)
          | ((try dsimp only); rw [hg])
          | (refine CallWp.mk ⟨_, spec_srright _, ?_⟩; rintro _ _ ⟨rfl, rfl⟩)
          | (refine CallWp.mk ⟨_, spec_srhas _ _, ?_⟩; rintro _ _ ⟨rfl, rfl⟩))
        all_goals (try (conv => whnf))
        refine Round.by (j + 1) ?_ ⟨hj, by rw [← h2]; simp [hh]⟩ hround
        rw [wrap_succ hj hm]
        show norm _ _ = upd _ _
        kernel_rfl
    · have n1 : ¬ decide (SpR e) = true := by simp [hr]
      repeat' ((conv => whnf); first
        | (refine And.intro (fun hb => ?_) (fun hb => ?_) <;> first | (exact absurd hb (by first | assumption | decide)) | (rw [hb]) | skip)
        | (refine Exists.intro ?_ ?_; focus (and_intros <;> first | omega | exact rfl | assumption | (intro _ hh; cases hh; done) | exact all_size (by rfl) | (simp; done) | decide))
        | (intro hfact)
        | ((with_reducible apply Drawn.by0); (focus kernel_rfl); intro hfact)
        | ((try dsimp only); rw [hg])
        | (refine CallWp.mk ⟨_, spec_srright _, ?_⟩; rintro _ _ ⟨rfl, rfl⟩)
        | (refine CallWp.mk ⟨_, spec_srhas _ _, ?_⟩; rintro _ _ ⟨rfl, rfl⟩))
      all_goals (try (conv => whnf))
      refine Round.by (j + 1) ?_ ⟨hj, by rw [← h2]; simp [hr]⟩ hround
      rw [wrap_succ hj hm]
      show norm _ _ = upd _ _
      kernel_rfl
  · have hlt : ¬ decide ((j : Int) < ((sps l).length : Int)) = true := by simp; omega
    rw [List.drop_eq_nil_of_le (by omega)] at h2
    repeat' ((conv => whnf); first
      | (refine And.intro (fun hb => ?_) (fun hb => ?_) <;> first | (exact absurd hb (by first | assumption | decide)) | (rw [hb]) | skip)
      | (refine Exists.intro ?_ ?_; focus (and_intros <;> first | omega | exact rfl | assumption | (intro _ hh; cases hh; done) | exact all_size (by rfl) | (simp; done) | decide))
      | (intro hfact)
      | ((with_reducible apply Drawn.by0); (focus kernel_rfl); intro hfact))
    all_goals (try (conv => whnf))
    refine Done.mk ⟨SV.bool_congr ?_, by kernel_rfl⟩ (by kernel_rfl)
    symm
    rw [decide_eq_false_iff_not, ← h2]
    exact anyH_nil k

end Go.Ab


set_option maxRecDepth 100000
set_option maxHeartbeats 8000000
namespace Go.Ab
open Go.Proofs

def ins (s : Str) : List Str → List Str
  | [] => [s]
  | x :: r => if s < x then s :: x :: r else if x = s then x :: r else x :: ins s r
def pstep (s : Str) (o : List Str × Bool) (x : Str) : List Str × Bool :=
  if o.2 = false ∧ s < x then (o.1 ++ [s] ++ [x], true) else if x = s then (o.1 ++ [x], true) else (o.1 ++ [x], o.2)
theorem pstep_done (s : Str) : ∀ (l out : List Str), l.foldl (pstep s) (out, true) = (out ++ l, true)
  | [], out => by simp
  | x :: r, out => by
    rw [List.foldl_cons]
    have : pstep s (out, true) x = (out ++ [x], true) := by simp [pstep]
    rw [this, pstep_done s r]
    simp
def pend (s : Str) (o : List Str × Bool) : List Str := if o.2 = true then o.1 else o.1 ++ [s]
theorem pstep_ins (s : Str) : ∀ (l out : List Str), pend s (l.foldl (pstep s) (out, false)) = out ++ ins s l
  | [], out => by simp [pend, ins]
  | x :: r, out => by
    rw [List.foldl_cons, ins]
    by_cases h1 : s < x
    · have : pstep s (out, false) x = (out ++ [s] ++ [x], true) := by simp [pstep, h1]
      rw [this, pstep_done, if_pos h1]
      simp [pend]
    · by_cases h2 : x = s
      · have : pstep s (out, false) x = (out ++ [x], true) := by simp [pstep, h1, h2]
        rw [this, pstep_done, if_neg h1, if_pos h2]
        simp [pend]
      · have : pstep s (out, false) x = (out ++ [x], false) := by simp [pstep, h1, h2]
        rw [this, pstep_ins s r, if_neg h1, if_neg h2]
        simp
theorem ins_length (s : Str) : ∀ l : List Str, (ins s l).length ≤ l.length + 1
  | [] => by simp [ins]
  | x :: r => by
    unfold ins
    have := ins_length s r
    split
    · simp
    · split
      · simp
      · simp; omega
theorem spec_sput (l : List Str) (s : Str) (hl : l.length ≤ 10000) : Fn Try.prog F_exchequerref05_put [.v (.list (strs l)), .v (.str s)] (Is (.vec 9 1 (strs (ins s l))) [.no, .no]) := by
  refine ofv_exchequerref05_put ?_ (by simp)
  have hm : l.length ≤ maxLen := by simp only [maxLen]; omega
  have hins := pstep_ins s l []
  rw [List.nil_append] at hins
  repeat' ((conv => whnf); first
    | (refine And.intro (fun hb => ?_) (fun hb => ?_) <;> first | (exact absurd hb (by first | assumption | decide)) | (rw [hb]) | skip)
    | (refine Exists.intro ?_ ?_; focus (and_intros <;> first | omega | exact rfl | assumption | (intro _ hh; cases hh; done) | exact all_size (by rfl) | (simp; done) | decide))
    | (intro hfact)
    | ((with_reducible apply Drawn.by0); (focus kernel_rfl); intro hfact))
  all_goals (try (conv => whnf))
  refine LoopWq.by (X := Nat × List Str × Bool) (fun x => [(5, .vec 9 1 (strs x.2.1)), (6, .v (.bool x.2.2)), (7, .v (.int .i64 x.1))]) (fun x => x.1 ≤ l.length ∧ x.2 = (l.take x.1).foldl (pstep s) ([], false) ∧ x.2.1.length ≤ 2 * x.1) (fun x => l.length - x.1)
    (0, [], false) (by kernel_rfl) ⟨Nat.zero_le _, rfl, Nat.le_refl _⟩ ?_
  rintro ⟨k, out, dn⟩ ⟨h1, h2, h3⟩
  dsimp only at h1 h2 h3 ⊢
  by_cases hk : k < l.length
  case neg =>
    have hlt : ¬ decide ((k : Int) < ((strs l).length : Int)) = true := by simp; omega
    rw [show l.take k = l from List.take_of_length_le (by omega)] at h2
    rw [← h2] at hins
    have hb1 : ((strs out).length + [I.str s].length) * 16 ≤ 140737488355328 := by simp; omega
    have hb2 : (strs out).length + [I.str s].length ≤ maxLen := by simp [maxLen]; omega
    have hb3 : ∀ u ∈ [I.str s], u.size = 1 := by simp [I.size]
    cases dn with
    | true =>
      have hi : ins s l = out := by rw [← hins]; rfl
      rw [hi]
      repeat' ((conv => whnf); first
        | (refine And.intro (fun hb => ?_) (fun hb => ?_) <;> first | (exact absurd hb (by first | assumption | decide)) | (rw [hb]) | skip)
        | (refine Exists.intro ?_ ?_; focus (and_intros <;> first | omega | exact rfl | assumption | (intro _ hh; cases hh; done) | exact all_size (by rfl) | (simp; done) | decide))
        | (intro hfact)
        | ((with_reducible apply Drawn.by0); (focus kernel_rfl); intro hfact))
      all_goals (try (conv => whnf))
      exact Done.mk ⟨rfl, by kernel_rfl⟩ (by kernel_rfl)
    | false =>
      have hi : ins s l = out ++ [s] := by rw [← hins]; rfl
      rw [hi]
      repeat' ((conv => whnf); first
        | (refine And.intro (fun hb => ?_) (fun hb => ?_) <;> first | (exact absurd hb (by first | assumption | decide)) | (rw [hb]) | skip)
        | (refine Exists.intro ?_ ?_; focus (and_intros <;> first | omega | exact rfl | assumption | (intro _ hh; cases hh; done) | exact all_size (by rfl) | (simp; done) | decide))
        | (intro hfact)
        | ((with_reducible apply Drawn.by0); (focus kernel_rfl); intro hfact))
      all_goals (try (conv => whnf))
      refine Done.mk ⟨congrArg (fun l => SV.vec 9 1 l) ?_, by kernel_rfl⟩ (by kernel_rfl)
      simp [strs]
  obtain ⟨e, he⟩ : ∃ e, l[k]? = some e := ⟨_, List.getElem?_eq_getElem hk⟩
  have hg : (strs l)[Int.toNat (k : Int)]? = some (.str e) := strs_get he
  have hlt : ¬ decide ((k : Int) < ((strs l).length : Int)) = false := by simp [hk]
  have hround : l.length - (k + 1) < l.length - k := by omega
  have hsucc : (l.take (k + 1)).foldl (pstep s) ([], false) = pstep s (out, dn) e := by
    rw [List.take_add_one, he, List.foldl_append, ← h2]
    rfl
  have hb1 : ∀ u : I, ((strs out).length + [u].length) * 16 ≤ 140737488355328 := fun u => by simp; omega
  have hb2 : ∀ u : I, (strs out).length + [u].length ≤ maxLen := fun u => by simp [maxLen]; omega
  have hb3 : ∀ t : Str, ∀ u ∈ [I.str t], u.size = 1 := by simp [I.size]
  have hso : (strs out ++ [I.str s]).length = out.length + 1 := by rw [List.length_append, List.length_map]; rfl
  have f1 : ((strs out ++ [I.str s]).length + [I.str e].length) * 16 ≤ 140737488355328 := by
    rw [hso]
    show (out.length + 1 + 1) * 16 ≤ 140737488355328
    omega
  have f2 : (strs out ++ [I.str s]).length + [I.str e].length ≤ maxLen := by
    rw [hso]
    show out.length + 1 + 1 ≤ 9223372036854775807
    omega
  have e1 := hb1 (.str e)
  have e2 := hb2 (.str e)
  have e3 := hb3 e
  have s1 := hb1 (.str s)
  have s2 := hb2 (.str s)
  have s3 := hb3 s
  have hap1 : strs out ++ [I.str e] = strs (out ++ [e]) := by simp
  have hap2 : strs out ++ [I.str s] ++ [I.str e] = strs (out ++ [s] ++ [e]) := by simp
  by_cases c1 : dn = false ∧ s < e
  · obtain ⟨rfl, c1⟩ := c1
    have n1 : ¬ Op.bytesLess s e = false := by simp [bless_eq, c1]
    have n2 : ¬ decide (e = s) = true := by simp; grind
    rw [show pstep s (out, false) e = (out ++ [s] ++ [e], true) from by simp [pstep, c1]] at hsucc
    repeat' ((conv => whnf); first
      | (refine And.intro (fun hb => ?_) (fun hb => ?_) <;> first | (exact absurd hb (by first | assumption | decide)) | (rw [hb]) | skip)
      | (refine Exists.intro ?_ ?_; focus (and_intros <;> first | omega | exact rfl | assumption | (intro _ hh; cases hh; done) | exact all_size (by rfl) | (simp; done) | decide))
      | (intro hfact)
      | ((with_reducible apply Drawn.by0); (focus kernel_rfl); intro hfact)
      | ((try dsimp only); rw [hg]))
    all_goals (try (conv => whnf))
    refine Round.by (k + 1, out ++ [s] ++ [e], true) ?_ ⟨hk, hsucc.symm, by simp; omega⟩ hround
    dsimp only
    rw [wrap_succ hk hm, ← hap2]
    show norm _ _ = upd _ _
    kernel_rfl
  by_cases c2 : e = s
  · have n2 : ¬ decide (e = s) = false := by simp [c2]
    rw [show pstep s (out, dn) e = (out ++ [e], true) from by unfold pstep; rw [if_neg c1, if_pos c2]] at hsucc
    have n1 : ¬ Op.bytesLess s e = true := by simp [bless_eq, c2]
    cases dn with
    | true =>
      repeat' ((conv => whnf); first
        | (refine And.intro (fun hb => ?_) (fun hb => ?_) <;> first | (exact absurd hb (by first | assumption | decide)) | (rw [hb]) | skip)
        | (refine Exists.intro ?_ ?_; focus (and_intros <;> first | omega | exact rfl | assumption | (intro _ hh; cases hh; done) | exact all_size (by rfl) | (simp; done) | decide))
        | (intro hfact)
        | ((with_reducible apply Drawn.by0); (focus kernel_rfl); intro hfact)
        | ((try dsimp only); rw [hg]))
      all_goals (try (conv => whnf))
      refine Round.by (k + 1, out ++ [e], true) ?_ ⟨hk, hsucc.symm, by simp; omega⟩ hround
      dsimp only
      rw [wrap_succ hk hm, ← hap1]
      show norm _ _ = upd _ _
      kernel_rfl
    | false =>
      repeat' ((conv => whnf); first
        | (refine And.intro (fun hb => ?_) (fun hb => ?_) <;> first | (exact absurd hb (by first | assumption | decide)) | (rw [hb]) | skip)
        | (refine Exists.intro ?_ ?_; focus (and_intros <;> first | omega | exact rfl | assumption | (intro _ hh; cases hh; done) | exact all_size (by rfl) | (simp; done) | decide))
        | (intro hfact)
        | ((with_reducible apply Drawn.by0); (focus kernel_rfl); intro hfact)
        | ((try dsimp only); rw [hg]))
      all_goals (try (conv => whnf))
      refine Round.by (k + 1, out ++ [e], true) ?_ ⟨hk, hsucc.symm, by simp; omega⟩ hround
      dsimp only
      rw [wrap_succ hk hm, ← hap1]
      show norm _ _ = upd _ _
      kernel_rfl
  · have n2 : ¬ decide (e = s) = true := by simp [c2]
    rw [show pstep s (out, dn) e = (out ++ [e], dn) from by unfold pstep; rw [if_neg c1, if_neg c2]] at hsucc
    cases dn with
    | true =>
      repeat' ((conv => whnf); first
        | (refine And.intro (fun hb => ?_) (fun hb => ?_) <;> first | (exact absurd hb (by first | assumption | decide)) | (rw [hb]) | skip)
        | (refine Exists.intro ?_ ?_; focus (and_intros <;> first | omega | exact rfl | assumption | (intro _ hh; cases hh; done) | exact all_size (by rfl) | (simp; done) | decide))
        | (intro hfact)
        | ((with_reducible apply Drawn.by0); (focus kernel_rfl); intro hfact)
        | ((try dsimp only); rw [hg]))
      all_goals (try (conv => whnf))
      refine Round.by (k + 1, out ++ [e], true) ?_ ⟨hk, hsucc.symm, by simp; omega⟩ hround
      dsimp only
      rw [wrap_succ hk hm, ← hap1]
      show norm _ _ = upd _ _
      kernel_rfl
    | false =>
      have n1 : ¬ Op.bytesLess s e = true := by simp [bless_eq]; exact fun h => c1 ⟨rfl, h⟩
      repeat' ((conv => whnf); first
        | (refine And.intro (fun hb => ?_) (fun hb => ?_) <;> first | (exact absurd hb (by first | assumption | decide)) | (rw [hb]) | skip)
        | (refine Exists.intro ?_ ?_; focus (and_intros <;> first | omega | exact rfl | assumption | (intro _ hh; cases hh; done) | exact all_size (by rfl) | (simp; done) | decide))
        | (intro hfact)
        | ((with_reducible apply Drawn.by0); (focus kernel_rfl); intro hfact)
        | ((try dsimp only); rw [hg]))
      all_goals (try (conv => whnf))
      refine Round.by (k + 1, out ++ [e], false) ?_ ⟨hk, hsucc.symm, by simp; omega⟩ hround
      dsimp only
      rw [wrap_succ hk hm, ← hap1]
      show norm _ _ = upd _ _
      kernel_rfl
end Go.Ab


set_option maxRecDepth 100000
set_option maxHeartbeats 4000000
namespace Go.Ab
open Go.Proofs

def estep (E : List Str) (s : Sp) : List Str := if SpR s then ins s.t (ins s.f E) else E
def endsM (l : List Sp) : List Str := l.foldl estep [[]]
theorem estep_length (E : List Str) (s : Sp) : (estep E s).length ≤ E.length + 2 := by
  unfold estep
  split
  · exact Nat.le_trans (ins_length _ _) (Nat.add_le_add_right (ins_length _ _) 1)
  · omega
theorem endsM_take {l : List Sp} {k : Nat} {e : Sp} (he : l[k]? = some e) : endsM (l.take (k + 1)) = estep (endsM (l.take k)) e := by
  unfold endsM
  rw [List.take_add_one, he, List.foldl_append]
  rfl
theorem endsM_length (l : List Sp) : (endsM l).length ≤ 1 + 2 * l.length := by
  have : ∀ (l : List Sp) (E : List Str), (l.foldl estep E).length ≤ E.length + 2 * l.length := by
    intro l
    induction l with
    | nil => intro E; simp
    | cons s r ih =>
      intro E
      have h1 := ih (estep E s)
      have h2 := estep_length E s
      simp only [List.foldl_cons, List.length_cons]
      omega
  exact this l [[]]
theorem spec_sends (l : List Sp) (hl : l.length ≤ 1000) : Fn Try.prog F_exchequerref05_Ends [.v (.list (sps l))] (Is (.v (.list (strs (endsM l)))) [.no]) := by
  refine of_exchequerref05_Ends ?_ (by simp)
  have hm : l.length ≤ maxLen := by simp only [maxLen]; omega
  repeat' ((conv => whnf); first
    | (refine And.intro (fun hb => ?_) (fun hb => ?_) <;> first | (exact absurd hb (by first | assumption | decide)) | (rw [hb]) | skip)
    | (refine Exists.intro ?_ ?_; focus (and_intros <;> first | omega | exact rfl | assumption | (intro _ hh; cases hh; done) | exact all_size (by rfl) | (simp; done) | decide))
    | (intro hfact)
    | ((with_reducible apply Drawn.by0); (focus kernel_rfl); intro hfact))
  all_goals (try (conv => whnf))
  refine LoopWq.by (X := Nat) (fun x => [(3, .vec 9 1 (strs (endsM (l.take x)))), (4, .v (.int .i64 x))]) (fun x => x ≤ l.length) (fun x => l.length - x)
    0 (by rw [List.take_zero]; kernel_rfl) (Nat.zero_le _) ?_
  intro k h1
  have hEl : (endsM (l.take k)).length ≤ 3000 := by have := endsM_length (l.take k); rw [List.length_take] at this; omega
  by_cases hk : k < l.length
  case neg =>
    have hlt : ¬ decide ((k : Int) < ((sps l).length : Int)) = true := by simp; omega
    rw [show l.take k = l from List.take_of_length_le (by omega)]
    repeat' ((conv => whnf); first
      | (refine And.intro (fun hb => ?_) (fun hb => ?_) <;> first | (exact absurd hb (by first | assumption | decide)) | (rw [hb]) | skip)
      | (refine Exists.intro ?_ ?_; focus (and_intros <;> first | omega | exact rfl | assumption | (intro _ hh; cases hh; done) | exact all_size (by rfl) | (simp; done) | decide))
      | (intro hfact)
      | ((with_reducible apply Drawn.by0); (focus kernel_rfl); intro hfact))
    all_goals (try (conv => whnf))
    exact Done.mk ⟨rfl, by kernel_rfl⟩ (by kernel_rfl)
  obtain ⟨e, he⟩ : ∃ e, l[k]? = some e := ⟨_, List.getElem?_eq_getElem hk⟩
  have hg : (sps l)[Int.toNat (k : Int)]? = some e.toI := sps_get he
  have hlt : ¬ decide ((k : Int) < ((sps l).length : Int)) = false := by simp [hk]
  have hround : l.length - (k + 1) < l.length - k := by omega
  have hs := endsM_take he
  obtain ⟨E, hE⟩ : ∃ E, E = endsM (l.take k) := ⟨_, rfl⟩
  rw [← hE] at hs hEl ⊢
  have hp1 := spec_sput E e.f (by omega)
  have hp2 := spec_sput (ins e.f E) e.t (by have := ins_length e.f E; omega)
  by_cases hr : SpR e
  · have n1 : ¬ decide (SpR e) = false := by simp [hr]
    rw [estep, if_pos hr] at hs
    repeat' ((conv => whnf); first
      | (refine And.intro (fun hb => ?_) (fun hb => ?_) <;> first | (exact absurd hb (by first | assumption | decide)) | (rw [hb]) | skip)
      | (refine Exists.intro ?_ ?_; focus (and_intros <;> first | omega | exact rfl | assumption | (intro _ hh; cases hh; done) | exact all_size (by rfl) | (simp; done) | decide))
      | (intro hfact)
      | ((with_reducible apply Drawn.by0); (focus kernel_rfl); intro hfact)
      | ((try dsimp only); rw [hg])
      | (refine CallWp.mk ⟨_, spec_srright _, ?_⟩; rintro _ _ ⟨rfl, rfl⟩)
      | (refine CallIs.mk ⟨_, _, hp1, ?_⟩)
      | (refine CallIs.mk ⟨_, _, hp2, ?_⟩))
    all_goals (try (conv => whnf))
    refine Round.by (k + 1) ?_ hk hround
    rw [wrap_succ hk hm, hs]
    show norm _ _ = upd _ _
    kernel_rfl
  · have n1 : ¬ decide (SpR e) = true := by simp [hr]
    rw [estep, if_neg hr] at hs
    repeat' ((conv => whnf); first
      | (refine And.intro (fun hb => ?_) (fun hb => ?_) <;> first | (exact absurd hb (by first | assumption | decide)) | (rw [hb]) | skip)
      | (refine Exists.intro ?_ ?_; focus (and_intros <;> first | omega | exact rfl | assumption | (intro _ hh; cases hh; done) | exact all_size (by rfl) | (simp; done) | decide))
      | (intro hfact)
      | ((with_reducible apply Drawn.by0); (focus kernel_rfl); intro hfact)
      | ((try dsimp only); rw [hg])
      | (refine CallWp.mk ⟨_, spec_srright _, ?_⟩; rintro _ _ ⟨rfl, rfl⟩)
      | (refine CallIs.mk ⟨_, _, hp1, ?_⟩)
      | (refine CallIs.mk ⟨_, _, hp2, ?_⟩))
    all_goals (try (conv => whnf))
    refine Round.by (k + 1) ?_ hk hround
    rw [wrap_succ hk hm, hs]
    show norm _ _ = upd _ _
    kernel_rfl

/-- Made, step by step. -/
def mstep (o : List Sp × Bool) (p : Str × Bool) : List Sp × Bool :=
  if p.2 = true then (if o.2 = true then (o.1, true) else (o.1 ++ [⟨p.1, []⟩], true))
  else (if o.2 = true then (match o.1.getLast? with
    | some s => o.1.set (o.1.length - 1) ⟨s.f, p.1⟩
    | none => o.1, false) else (o.1, false))
def madeM (E : List Str) (H : List Bool) : List Sp := ((E.zip H).foldl mstep ([], false)).1
abbrev bools (H : List Bool) : List I := H.map I.bool
theorem bools_get {H : List Bool} {k : Nat} {e : Bool} (h : H[k]? = some e) : (bools H)[k]? = some (.bool e) := by simp [h]
theorem spec_made (E : List Str) (H : List Bool) (hEH : H.length = E.length) (hl : E.length ≤ 5000) : Fn Try.prog F_exchequerref05_Made [.v (.list (strs E)), .v (.list (bools H))] (Is (.v (.list (sps (madeM E H)))) [.no, .no]) := by
  refine of_exchequerref05_Made ?_ (by simp)
  have hm : E.length ≤ maxLen := by simp only [maxLen]; omega
  have hzl : (E.zip H).length = E.length := by rw [List.length_zip]; omega
  repeat' ((conv => whnf); first
    | (refine And.intro (fun hb => ?_) (fun hb => ?_) <;> first | (exact absurd hb (by first | assumption | decide)) | (rw [hb]) | skip)
    | (refine Exists.intro ?_ ?_; focus (and_intros <;> first | omega | exact rfl | assumption | (intro _ hh; cases hh; done) | exact all_size (by rfl) | (simp; done) | decide))
    | (intro hfact)
    | ((with_reducible apply Drawn.by0); (focus kernel_rfl); intro hfact))
  all_goals (try (conv => whnf))
  refine LoopWq.by (X := Nat × List Sp × Bool) (fun x => [(5, .vec 41 2 (sps x.2.1)), (6, .v (.bool x.2.2)), (7, .v (.int .i64 x.1))])
    (fun x => x.1 ≤ E.length ∧ x.2 = ((E.zip H).take x.1).foldl mstep ([], false) ∧ x.2.1.length ≤ x.1 ∧ (x.2.2 = true → x.2.1 ≠ [])) (fun x => E.length - x.1)
    (0, [], false) (by kernel_rfl) ⟨Nat.zero_le _, rfl, Nat.le_refl _, by simp⟩ ?_
  rintro ⟨k, out, op⟩ ⟨h1, h2, h3, h4⟩
  dsimp only at h1 h2 h3 h4 ⊢
  by_cases hk : k < E.length
  case neg =>
    have hlt : ¬ decide ((k : Int) < ((strs E).length : Int)) = true := by simp; omega
    rw [List.take_of_length_le (by omega)] at h2
    have hout : madeM E H = out := by unfold madeM; rw [← h2]
    rw [hout]
    repeat' ((conv => whnf); first
      | (refine And.intro (fun hb => ?_) (fun hb => ?_) <;> first | (exact absurd hb (by first | assumption | decide)) | (rw [hb]) | skip)
      | (refine Exists.intro ?_ ?_; focus (and_intros <;> first | omega | exact rfl | assumption | (intro _ hh; cases hh; done) | exact all_size (by rfl) | (simp; done) | decide))
      | (intro hfact)
      | ((with_reducible apply Drawn.by0); (focus kernel_rfl); intro hfact))
    all_goals (try (conv => whnf))
    exact Done.mk ⟨rfl, by kernel_rfl⟩ (by kernel_rfl)
  obtain ⟨e, he⟩ : ∃ e, E[k]? = some e := ⟨_, List.getElem?_eq_getElem hk⟩
  obtain ⟨b, hb0⟩ : ∃ b, H[k]? = some b := ⟨_, List.getElem?_eq_getElem (by omega)⟩
  have hg : (strs E)[Int.toNat (k : Int)]? = some (.str e) := strs_get he
  have hgb : (bools H)[Int.toNat (k : Int)]? = some (.bool b) := bools_get hb0
  have hlt : ¬ decide ((k : Int) < ((strs E).length : Int)) = false := by simp [hk]
  have hround : E.length - (k + 1) < E.length - k := by omega
  have hsucc : ((E.zip H).take (k + 1)).foldl mstep ([], false) = mstep (out, op) (e, b) := by
    have hz : (E.zip H)[k]? = some (e, b) := by simp [List.getElem?_zip_eq_some, he, hb0]
    rw [List.take_add_one, hz, List.foldl_append, ← h2]
    rfl
  have e1 : ((sps out).length + [(⟨e, []⟩ : Sp).toI].length) * 32 ≤ 140737488355328 := by
    rw [List.length_map]
    show (out.length + 1) * 32 ≤ 140737488355328
    omega
  have e2 : (sps out).length + [(⟨e, []⟩ : Sp).toI].length ≤ maxLen := by
    rw [List.length_map]
    show out.length + 1 ≤ 9223372036854775807
    omega
  have e3 : ∀ u ∈ [(⟨e, []⟩ : Sp).toI], u.size = 2 := sps_size [⟨e, []⟩]
  have hap : sps out ++ [(⟨e, []⟩ : Sp).toI] = sps (out ++ [⟨e, []⟩]) := by simp
  cases b with
  | true =>
    cases op with
    | true =>
      rw [show mstep (out, true) (e, true) = (out, true) from rfl] at hsucc
      repeat' ((conv => whnf); first
        | (refine And.intro (fun hb => ?_) (fun hb => ?_) <;> first | (exact absurd hb (by first | assumption | decide)) | (rw [hb]) | skip)
        | (refine Exists.intro ?_ ?_; focus (and_intros <;> first | omega | exact rfl | assumption | (intro _ hh; cases hh; done) | exact all_size (by rfl) | (simp; done) | decide))
        | (intro hfact)
        | ((with_reducible apply Drawn.by0); (focus kernel_rfl); intro hfact)
        | ((try dsimp only); rw [hg])
        | ((try dsimp only); rw [hgb]))
      all_goals (try (conv => whnf))
      refine Round.by (k + 1, out, true) ?_ ⟨hk, hsucc.symm, by dsimp only; omega, h4⟩ hround
      dsimp only
      rw [wrap_succ hk hm]
      show norm _ _ = upd _ _
      kernel_rfl
    | false =>
      rw [show mstep (out, false) (e, true) = (out ++ [⟨e, []⟩], true) from rfl] at hsucc
      repeat' ((conv => whnf); first
        | (refine And.intro (fun hb => ?_) (fun hb => ?_) <;> first | (exact absurd hb (by first | assumption | decide)) | (rw [hb]) | skip)
        | (refine Exists.intro ?_ ?_; focus (and_intros <;> first | omega | exact rfl | assumption | (intro _ hh; cases hh; done) | exact all_size (by rfl) | (simp; done) | decide))
        | (intro hfact)
        | ((with_reducible apply Drawn.by0); (focus kernel_rfl); intro hfact)
        | ((try dsimp only); rw [hg])
        | ((try dsimp only); rw [hgb]))
      all_goals (try (conv => whnf))
      refine Round.by (k + 1, out ++ [⟨e, []⟩], true) ?_ ⟨hk, hsucc.symm, by simp; omega, by simp⟩ hround
      dsimp only
      rw [wrap_succ hk hm, ← hap]
      show norm _ _ = upd _ _
      kernel_rfl
  | false =>
    cases op with
    | false =>
      rw [show mstep (out, false) (e, false) = (out, false) from rfl] at hsucc
      repeat' ((conv => whnf); first
        | (refine And.intro (fun hb => ?_) (fun hb => ?_) <;> first | (exact absurd hb (by first | assumption | decide)) | (rw [hb]) | skip)
        | (refine Exists.intro ?_ ?_; focus (and_intros <;> first | omega | exact rfl | assumption | (intro _ hh; cases hh; done) | exact all_size (by rfl) | (simp; done) | decide))
        | (intro hfact)
        | ((with_reducible apply Drawn.by0); (focus kernel_rfl); intro hfact)
        | ((try dsimp only); rw [hg])
        | ((try dsimp only); rw [hgb]))
      all_goals (try (conv => whnf))
      refine Round.by (k + 1, out, false) ?_ ⟨hk, hsucc.symm, by dsimp only; omega, by simp⟩ hround
      dsimp only
      rw [wrap_succ hk hm]
      show norm _ _ = upd _ _
      kernel_rfl
    | true =>
      rcases List.eq_nil_or_concat out with rfl | ⟨o, lst, ho⟩
      · exact absurd rfl (h4 rfl)
      rw [List.concat_eq_append] at ho
      subst ho
      have hol : (sps (o ++ [lst])).length = o.length + 1 := by simp
      rw [show mstep (o ++ [lst], true) (e, false) = (o ++ [⟨lst.f, e⟩], false) from by simp [mstep]] at hsucc
      have hw : IntKind.i64.wrap (((sps (o ++ [lst])).length : Int) - 1) = (o.length : Int) := by
        rw [hol]
        exact (wrap_id (by simp at h3; omega)).trans (by omega)
      have h0 : 0 ≤ IntKind.i64.wrap (((sps (o ++ [lst])).length : Int) - 1) := by rw [hw]; omega
      have hlt2 : Int.toNat (IntKind.i64.wrap (((sps (o ++ [lst])).length : Int) - 1)) < (sps (o ++ [lst])).length := by rw [hw, hol]; omega
      have hgl : (sps (o ++ [lst]))[Int.toNat (IntKind.i64.wrap (((sps (o ++ [lst])).length : Int) - 1))]? = some lst.toI := by
        rw [hw]
        simp
      have hhl := hit_t (e := 41) hgl
      have hput : putV (sps (o ++ [lst])) ([Int.toNat (IntKind.i64.wrap (((sps (o ++ [lst])).length : Int) - 1))] ++ [1]) (.str e) = sps (o ++ [⟨lst.f, e⟩]) := by
        rw [put_t hgl, hw]
        simp
      repeat' ((conv => whnf); first
        | (refine And.intro (fun hb => ?_) (fun hb => ?_) <;> first | (exact absurd hb (by first | assumption | decide)) | (rw [hb]) | skip)
        | (refine Exists.intro ?_ ?_; focus (and_intros <;> first | omega | exact rfl | assumption | (intro _ hh; cases hh; done) | exact all_size (by rfl) | (simp; done) | decide))
        | (intro hfact)
        | ((with_reducible apply Drawn.by0); (focus kernel_rfl); intro hfact)
        | ((try dsimp only); rw [hg])
        | ((try dsimp only); rw [hgb])
        | ((try dsimp only); rw [hhl]))
      all_goals (try (conv => whnf))
      refine Round.by (k + 1, o ++ [⟨lst.f, e⟩], false) ?_ ⟨hk, hsucc.symm, by simp at h3 ⊢; omega, by simp⟩ hround
      dsimp only
      rw [wrap_succ hk hm, ← hput]
      show norm _ _ = upd _ _
      kernel_rfl
end Go.Ab


set_option maxRecDepth 100000
set_option maxHeartbeats 4000000
namespace Go.Ab
open Go.Proofs

def hasM (l : List Sp) (E : List Str) : List Bool := E.map fun e => decide (AnyH l e)
def rUnion (l : List Sp) : List Sp := madeM (endsM l) (hasM l (endsM l))
theorem spec_srunion (l : List Sp) (hl : l.length ≤ 1000) : Fn Try.prog F_exchequerref05_Union [.v (.list (sps l))] (Is (.v (.list (sps (rUnion l)))) [.no]) := by
  refine of_exchequerref05_Union ?_ (by simp)
  have hE := spec_sends l hl
  have hEl := endsM_length l
  unfold rUnion
  obtain ⟨E, hEe⟩ : ∃ E, E = endsM l := ⟨_, rfl⟩
  rw [← hEe] at hE hEl ⊢
  have hm : E.length ≤ maxLen := by simp only [maxLen]; omega
  have hmade := spec_made E (hasM l E) (by simp [hasM]) (by omega)
  repeat' ((conv => whnf); first
    | (refine And.intro (fun hb => ?_) (fun hb => ?_) <;> first | (exact absurd hb (by first | assumption | decide)) | (rw [hb]) | skip)
    | (refine Exists.intro ?_ ?_; focus (and_intros <;> first | omega | exact rfl | assumption | (intro _ hh; cases hh; done) | exact all_size (by rfl) | (simp; done) | decide))
    | (intro hfact)
    | ((with_reducible apply Drawn.by0); (focus kernel_rfl); intro hfact)
    | (refine CallWp.mk ⟨_, hE, ?_⟩; rintro _ _ ⟨rfl, rfl⟩))
  all_goals (try (conv => whnf))
  refine LoopWq.by (X := Nat) (fun x => [(4, .vec 4 1 (bools (hasM l (E.take x)))), (5, .v (.int .i64 x))]) (fun x => x ≤ E.length) (fun x => E.length - x)
    0 (by rw [List.take_zero]; kernel_rfl) (Nat.zero_le _) ?_
  intro k h1
  by_cases hk : k < E.length
  case neg =>
    have hlt : ¬ decide ((k : Int) < ((strs E).length : Int)) = true := by simp; omega
    rw [show E.take k = E from List.take_of_length_le (by omega)]
    repeat' ((conv => whnf); first
      | (refine And.intro (fun hb => ?_) (fun hb => ?_) <;> first | (exact absurd hb (by first | assumption | decide)) | (rw [hb]) | skip)
      | (refine Exists.intro ?_ ?_; focus (and_intros <;> first | omega | exact rfl | assumption | (intro _ hh; cases hh; done) | exact all_size (by rfl) | (simp; done) | decide))
      | (intro hfact)
      | ((with_reducible apply Drawn.by0); (focus kernel_rfl); intro hfact)
      | (refine CallWp.mk ⟨_, hmade, ?_⟩; rintro _ _ ⟨rfl, rfl⟩))
    all_goals (try (conv => whnf))
    exact Done.mk ⟨rfl, by kernel_rfl⟩ (by kernel_rfl)
  obtain ⟨e, he⟩ : ∃ e, E[k]? = some e := ⟨_, List.getElem?_eq_getElem hk⟩
  have hg : (strs E)[Int.toNat (k : Int)]? = some (.str e) := strs_get he
  have hlt : ¬ decide ((k : Int) < ((strs E).length : Int)) = false := by simp [hk]
  have hround : E.length - (k + 1) < E.length - k := by omega
  have hbl : (bools (hasM l (E.take k))).length = k := by simp [hasM]; omega
  have e1 : ((bools (hasM l (E.take k))).length + [I.bool (decide (AnyH l e))].length) * 1 ≤ 140737488355328 := by
    rw [hbl]
    show (k + 1) * 1 ≤ 140737488355328
    omega
  have e2 : (bools (hasM l (E.take k))).length + [I.bool (decide (AnyH l e))].length ≤ maxLen := by
    rw [hbl]
    show k + 1 ≤ 9223372036854775807
    omega
  have e3 : ∀ u ∈ [I.bool (decide (AnyH l e))], u.size = 1 := by simp [I.size]
  have hap : bools (hasM l (E.take k)) ++ [I.bool (decide (AnyH l e))] = bools (hasM l (E.take (k + 1))) := by
    rw [List.take_add_one, he]
    simp [hasM]
  repeat' ((conv => whnf); first
    | (refine And.intro (fun hb => ?_) (fun hb => ?_) <;> first | (exact absurd hb (by first | assumption | decide)) | (rw [hb]) | skip)
    | (refine Exists.intro ?_ ?_; focus (and_intros <;> first | omega | exact rfl | assumption | (intro _ hh; cases hh; done) | exact all_size (by rfl) | (simp; done) | decide))
    | (intro hfact)
    | ((with_reducible apply Drawn.by0); (focus kernel_rfl); intro hfact)
    | ((try dsimp only); rw [hg])
    | (refine CallWp.mk ⟨_, spec_any _ _, ?_⟩; rintro _ _ ⟨rfl, rfl⟩))
  all_goals (try (conv => whnf))
  refine Round.by (k + 1) ?_ hk hround
  rw [wrap_succ hk hm, ← hap]
  show norm _ _ = upd _ _
  kernel_rfl

def RCov (l : List Sp) (s : Sp) : Prop := SpR s ∧ ∀ e ∈ endsM (l ++ [s]), SpH s e → AnyH l e
instance (l : List Sp) (s : Sp) : Decidable (RCov l s) := by unfold RCov; infer_instance
theorem spec_srcovers (l : List Sp) (s : Sp) (hl : l.length ≤ 900) : Fn Try.prog F_exchequerref05_Covers [.v (.list (sps l)), .v s.toI] (Is (.v (.bool (decide (RCov l s)))) [.no, .no]) := by
  refine of_exchequerref05_Covers ?_ (by simp)
  by_cases hr : SpR s
  case neg =>
    have n1 : ¬ (!decide (SpR s)) = false := by simp [hr]
    repeat' ((conv => whnf); first
      | (refine And.intro (fun hb => ?_) (fun hb => ?_) <;> first | (exact absurd hb (by first | assumption | decide)) | (rw [hb]) | skip)
      | (refine Exists.intro ?_ ?_; focus (and_intros <;> first | omega | exact rfl | assumption | (intro _ hh; cases hh; done) | exact all_size (by rfl) | (simp; done) | decide))
      | (intro hfact)
      | ((with_reducible apply Drawn.by0); (focus kernel_rfl); intro hfact)
      | (refine CallWp.mk ⟨_, spec_srright _, ?_⟩; rintro _ _ ⟨rfl, rfl⟩))
    all_goals (try (conv => whnf))
    refine Done.mk ⟨SV.bool_congr ?_, by kernel_rfl⟩ (by kernel_rfl)
    symm
    simp [RCov, hr]
  have n1 : ¬ (!decide (SpR s)) = true := by simp [hr]
  have hap : [] ++ sps l ++ [s.toI] = sps (l ++ [s]) := by simp
  have b1 : (([] : List I).length + (sps l).length) * 32 ≤ 140737488355328 := by rw [List.length_map]; show (0 + l.length) * 32 ≤ _; omega
  have b2 : ([] : List I).length + (sps l).length ≤ maxLen := by rw [List.length_map]; show 0 + l.length ≤ 9223372036854775807; omega
  have b3 := sps_size l
  have hll : ([] ++ sps l).length = l.length := by simp
  have d1 : (([] ++ sps l).length + [s.toI].length) * 32 ≤ 140737488355328 := by rw [hll]; show (l.length + 1) * 32 ≤ _; omega
  have d2 : ([] ++ sps l).length + [s.toI].length ≤ maxLen := by rw [hll]; show l.length + 1 ≤ 9223372036854775807; omega
  have d3 : ∀ u ∈ [s.toI], u.size = 2 := sps_size [s]
  have hE := spec_sends (l ++ [s]) (by simp; omega)
  have hEl := endsM_length (l ++ [s])
  have hE' : Fn Try.prog F_exchequerref05_Ends [.v (.list ([] ++ sps l ++ [s.toI]))] (Is (.v (.list (strs (endsM (l ++ [s]))))) [.no]) := by rw [hap]; exact hE
  have hiff : RCov l s ↔ ∀ e ∈ endsM (l ++ [s]), SpH s e → AnyH l e := by unfold RCov; simp [hr]
  obtain ⟨E, hEe⟩ : ∃ E, E = endsM (l ++ [s]) := ⟨_, rfl⟩
  rw [← hEe] at hE' hEl hiff
  have hm : E.length ≤ maxLen := by
    have : (l ++ [s]).length = l.length + 1 := by simp
    rw [this] at hEl
    show E.length ≤ 9223372036854775807
    omega
  clear hE
  repeat' ((conv => whnf); first
    | (refine And.intro (fun hb => ?_) (fun hb => ?_) <;> first | (exact absurd hb (by first | assumption | decide)) | (rw [hb]) | skip)
    | (refine Exists.intro ?_ ?_; focus (and_intros <;> first | omega | exact rfl | assumption | (intro _ hh; cases hh; done) | exact all_size (by rfl) | (simp; done) | decide))
    | (intro hfact)
    | ((with_reducible apply Drawn.by0); (focus kernel_rfl); intro hfact)
    | (refine CallWp.mk ⟨_, spec_srright _, ?_⟩; rintro _ _ ⟨rfl, rfl⟩)
    | (refine CallIs.mk ⟨_, _, hE', ?_⟩))
  all_goals (try (conv => whnf))
  refine LoopWq.by (X := Nat) (fun x => [(6, .v (.int .i64 x))]) (fun x => x ≤ E.length ∧ ∀ (j : Nat) (e : Str), j < x → E[j]? = some e → SpH s e → AnyH l e) (fun x => E.length - x)
    0 (by kernel_rfl) ⟨Nat.zero_le _, fun j e h => by omega⟩ ?_
  rintro k ⟨h1, h2⟩
  by_cases hk : k < E.length
  case neg =>
    have hlt : ¬ decide ((k : Int) < ((strs E).length : Int)) = true := by simp; omega
    repeat' ((conv => whnf); first
      | (refine And.intro (fun hb => ?_) (fun hb => ?_) <;> first | (exact absurd hb (by first | assumption | decide)) | (rw [hb]) | skip)
      | (refine Exists.intro ?_ ?_; focus (and_intros <;> first | omega | exact rfl | assumption | (intro _ hh; cases hh; done) | exact all_size (by rfl) | (simp; done) | decide))
      | (intro hfact)
      | ((with_reducible apply Drawn.by0); (focus kernel_rfl); intro hfact))
    all_goals (try (conv => whnf))
    refine Done.mk ⟨SV.bool_congr ?_, by kernel_rfl⟩ (by kernel_rfl)
    symm
    rw [decide_eq_true_eq, hiff]
    intro e he
    obtain ⟨j, hj, rfl⟩ := List.mem_iff_getElem.1 he
    exact h2 j _ (by omega) (List.getElem?_eq_getElem hj)
  obtain ⟨e, he⟩ : ∃ e, E[k]? = some e := ⟨_, List.getElem?_eq_getElem hk⟩
  have hg : (strs E)[Int.toNat (k : Int)]? = some (.str e) := strs_get he
  have hlt : ¬ decide ((k : Int) < ((strs E).length : Int)) = false := by simp [hk]
  have hround : E.length - (k + 1) < E.length - k := by omega
  have hnext : (SpH s e → AnyH l e) → ∀ (j : Nat) (x : Str), j < k + 1 → E[j]? = some x → SpH s x → AnyH l x := by
    intro h j x hj hx
    by_cases hjk : j = k
    · subst hjk
      rw [he] at hx
      cases hx
      exact h
    · exact h2 j x (by omega) hx
  by_cases hh : SpH s e
  · have n2 : ¬ decide (SpH s e) = false := by simp [hh]
    by_cases ha : AnyH l e
    · have n3 : ¬ (!decide (AnyH l e)) = true := by simp [ha]
      repeat' ((conv => whnf); first
        | (refine And.intro (fun hb => ?_) (fun hb => ?_) <;> first | (exact absurd hb (by first | assumption | decide)) | (rw [hb]) | skip)
        | (refine Exists.intro ?_ ?_; focus (and_intros <;> first | omega | exact rfl | assumption | (intro _ hh; cases hh; done) | exact all_size (by rfl) | (simp; done) | decide))
        | (intro hfact)
        | ((with_reducible apply Drawn.by0); (focus kernel_rfl); intro hfact)
        | ((try dsimp only); rw [hg])
        | (refine CallIs.mk ⟨_, _, spec_srhas _ _, ?_⟩)
        | (refine CallIs.mk ⟨_, _, spec_any _ _, ?_⟩))
      all_goals (try (conv => whnf))
      refine Round.by (k + 1) ?_ ⟨hk, hnext fun _ => ha⟩ hround
      rw [wrap_succ hk hm]
      show norm _ _ = upd _ _
      kernel_rfl
    · have n3 : ¬ (!decide (AnyH l e)) = false := by simp [ha]
      repeat' ((conv => whnf); first
        | (refine And.intro (fun hb => ?_) (fun hb => ?_) <;> first | (exact absurd hb (by first | assumption | decide)) | (rw [hb]) | skip)
        | (refine Exists.intro ?_ ?_; focus (and_intros <;> first | omega | exact rfl | assumption | (intro _ hh; cases hh; done) | exact all_size (by rfl) | (simp; done) | decide))
        | (intro hfact)
        | ((with_reducible apply Drawn.by0); (focus kernel_rfl); intro hfact)
        | ((try dsimp only); rw [hg])
        | (refine CallIs.mk ⟨_, _, spec_srhas _ _, ?_⟩)
        | (refine CallIs.mk ⟨_, _, spec_any _ _, ?_⟩))
      all_goals (try (conv => whnf))
      refine Done.mk ⟨SV.bool_congr ?_, by kernel_rfl⟩ (by kernel_rfl)
      symm
      rw [decide_eq_false_iff_not, hiff]
      intro h
      exact ha (h e (List.mem_of_getElem? he) hh)
  · have n2 : ¬ decide (SpH s e) = true := by simp [hh]
    repeat' ((conv => whnf); first
      | (refine And.intro (fun hb => ?_) (fun hb => ?_) <;> first | (exact absurd hb (by first | assumption | decide)) | (rw [hb]) | skip)
      | (refine Exists.intro ?_ ?_; focus (and_intros <;> first | omega | exact rfl | assumption | (intro _ hh; cases hh; done) | exact all_size (by rfl) | (simp; done) | decide))
      | (intro hfact)
      | ((with_reducible apply Drawn.by0); (focus kernel_rfl); intro hfact)
      | ((try dsimp only); rw [hg])
      | (refine CallIs.mk ⟨_, _, spec_srhas _ _, ?_⟩)
      | (refine CallIs.mk ⟨_, _, spec_any _ _, ?_⟩))
    all_goals (try (conv => whnf))
    refine Round.by (k + 1) ?_ ⟨hk, hnext fun h => absurd h hh⟩ hround
    rw [wrap_succ hk hm]
    show norm _ _ = upd _ _
    kernel_rfl
end Go.Ab

