/- One text of the proof whose last text says what is proved. -/
import Derived.Test.YtoombangidlpjaaA0
import Derived.Test.YtoombangidlpjaaR2
import Derived.Test.YtoombangidlpjaaAb21c
set_option linter.unusedVariables false
set_option linter.unusedSimpArgs false
set_option maxRecDepth 100000
set_option maxHeartbeats 8000000
namespace Go.Ab
open Go.Proofs

structure Ten where
  (name : Str) (mb ks : Int)
  deriving DecidableEq
structure Gra where
  (sp : Sp) (r w : Bool)
  deriving DecidableEq
structure Usr where
  (name ten salt hash : Str) (roles : List Str)
  deriving DecidableEq
structure Rol where
  (name ten : Str) (grants : List Gra)
  deriving DecidableEq
structure Roll where
  (rev : Int) (tens : List Ten) (usrs : List Usr) (rols : List Rol)
  deriving DecidableEq
abbrev Ten.toI (t : Ten) : I := .agg [.str t.name, .int .i64 t.mb, .int .i64 t.ks]
abbrev Gra.toI (g : Gra) : I := .agg [g.sp.toI, .bool g.r, .bool g.w]
abbrev Usr.toI (u : Usr) : I := .agg [.str u.name, .str u.ten, .str u.salt, .str u.hash, .list (strs u.roles)]
abbrev Rol.toI (x : Rol) : I := .agg [.str x.name, .str x.ten, .list (x.grants.map Gra.toI)]
abbrev Roll.toI (r : Roll) : I := .agg [.int .i64 r.rev, .list (r.tens.map Ten.toI), .list (r.usrs.map Usr.toI), .list (r.rols.map Rol.toI)]
/-- Where the first that has a name stands, from k on; -1: nowhere. -/
def findAt {α : Type} (p : α → Bool) : Nat → List α → Int
  | _, [] => -1
  | k, a :: r => if p a then k else findAt p (k + 1) r
abbrev Roll.tenAt (r : Roll) (n : Str) : Int := findAt (fun t : Ten => decide (t.name = n)) 0 r.tens
abbrev Roll.usrAt (r : Roll) (n : Str) : Int := findAt (fun t : Usr => decide (t.name = n)) 0 r.usrs
abbrev Roll.rolAt (r : Roll) (n : Str) : Int := findAt (fun t : Rol => decide (t.name = n)) 0 r.rols
end Go.Ab


set_option maxRecDepth 100000
set_option maxHeartbeats 8000000
namespace Go.Ab
open Go.Proofs

theorem findAt_bound {α : Type} (p : α → Bool) : ∀ (k : Nat) (l : List α), findAt p k l = -1 ∨ ∃ j : Nat, findAt p k l = (k + j : Nat) ∧ j < l.length ∧ ∃ a, l[j]? = some a ∧ p a = true
  | _, [] => .inl rfl
  | k, a :: r => by
    unfold findAt
    by_cases h : p a = true
    · rw [if_pos h]
      exact .inr ⟨0, rfl, by simp, a, rfl, h⟩
    · rw [if_neg h]
      rcases findAt_bound p (k + 1) r with h1 | ⟨j, h1, h2, a', h3, h4⟩
      · exact .inl h1
      · exact .inr ⟨j + 1, by rw [h1]; congr 1; omega, by simp; omega, a', by simpa using h3, h4⟩
theorem spec_TenantAt (r : Roll) (n : Str) (hl : r.tens.length ≤ 1000000) : Fn Try.prog F_exchequerref15_Tenant [.v r.toI, .v (.str n)] (Is (.v (.int .i64 (r.tenAt n))) [.no, .no]) := by
  refine of_exchequerref15_Tenant ?_ (by simp)
  have hm : r.tens.length ≤ maxLen := by simp only [maxLen]; omega
  repeat' ((conv => whnf); first
    | (refine And.intro (fun hb => ?_) (fun hb => ?_) <;> first | (exact absurd hb (by first | assumption | decide)) | (with_reducible exact absurd hb Bool.false_ne_true) | (with_reducible exact absurd hb.symm Bool.false_ne_true) | (exfalso; first | (simp only [LENS] at hb <;> omega) | omega) | ((try rw [hb]); (try simp only [NRMS] at hb); (try subst hb)))
    | (refine Exists.intro ?_ ?_; focus (and_intros <;> first | omega | exact rfl | assumption | (intro _ hh; cases hh; done) | exact all_size (by rfl) | exact size_map (fun _ => rfl) | exact size_one rfl | exact take_size (fun _ => rfl) | exact dsize_one rfl | exact dsize_map (fun _ => rfl) | exact dsize_its (fun _ => rfl) | (simp only [LENS]; omega) | (simp; done) | decide))
    | (intro hfact))
  all_goals (try (conv => whnf))
  refine LoopWq.by (X := Nat) (fun x => [(5, .v (.int .i64 x))]) (fun x => x ≤ r.tens.length ∧ findAt (fun t : Ten => decide (t.name = n)) x (r.tens.drop x) = r.tenAt n) (fun x => r.tens.length - x)
    0 (by kernel_rfl) ⟨Nat.zero_le _, rfl⟩ ?_
  rintro k ⟨h1, h2⟩
  by_cases hk : k < r.tens.length
  case neg =>
    have hlt : ¬ decide ((k : Int) < ((r.tens.map Ten.toI).length : Int)) = true := by simp; omega
    rw [List.drop_eq_nil_of_le (by omega)] at h2
    repeat' ((conv => whnf); first
      | (refine And.intro (fun hb => ?_) (fun hb => ?_) <;> first | (exact absurd hb (by first | assumption | decide)) | (with_reducible exact absurd hb Bool.false_ne_true) | (with_reducible exact absurd hb.symm Bool.false_ne_true) | (exfalso; first | (simp only [LENS] at hb <;> omega) | omega) | ((try rw [hb]); (try simp only [NRMS] at hb); (try subst hb)))
      | (refine Exists.intro ?_ ?_; focus (and_intros <;> first | omega | exact rfl | assumption | (intro _ hh; cases hh; done) | exact all_size (by rfl) | exact size_map (fun _ => rfl) | exact size_one rfl | exact take_size (fun _ => rfl) | exact dsize_one rfl | exact dsize_map (fun _ => rfl) | exact dsize_its (fun _ => rfl) | (simp only [LENS]; omega) | (simp; done) | decide))
      | (intro hfact))
    all_goals (try (conv => whnf))
    exact Done.mk ⟨congrArg (fun n => SV.v (.int .i64 n)) h2, by kernel_rfl⟩ (by kernel_rfl)
  obtain ⟨e, he⟩ : ∃ e, r.tens[k]? = some e := ⟨_, List.getElem?_eq_getElem hk⟩
  have hg := map_get (f := Ten.toI) he
  have hlt : ¬ decide ((k : Int) < ((r.tens.map Ten.toI).length : Int)) = false := by simp [hk]
  have hkl : Int.toNat (k : Int) < (r.tens.map Ten.toI).length := by simp [hk]
  have hke : r.tens[k] = e := by rw [List.getElem?_eq_getElem hk] at he; simpa using he
  rw [List.drop_eq_getElem_cons hk, hke, findAt] at h2
  by_cases hn : e.name = n
  · have n1 : ¬ decide (e.name = n) = false := by simp [hn]
    rw [if_pos (by simpa using hn)] at h2
    repeat' ((conv => whnf); first
      | (refine And.intro (fun hb => ?_) (fun hb => ?_) <;> first | (exact absurd hb (by first | assumption | decide)) | (with_reducible exact absurd hb Bool.false_ne_true) | (with_reducible exact absurd hb.symm Bool.false_ne_true) | (exfalso; first | (simp only [LENS] at hb <;> omega) | omega) | ((try rw [hb]); (try simp only [NRMS] at hb); (try subst hb)))
      | (refine Exists.intro ?_ ?_; focus (and_intros <;> first | omega | exact rfl | assumption | (intro _ hh; cases hh; done) | exact all_size (by rfl) | exact size_map (fun _ => rfl) | exact size_one rfl | exact take_size (fun _ => rfl) | exact dsize_one rfl | exact dsize_map (fun _ => rfl) | exact dsize_its (fun _ => rfl) | (simp only [LENS]; omega) | (simp; done) | decide))
      | (intro hfact)
      | ((try dsimp only); rw [hg]))
    all_goals (try (conv => whnf))
    exact Done.mk ⟨congrArg (fun n => SV.v (.int .i64 n)) h2, by kernel_rfl⟩ (by kernel_rfl)
  · have n1 : ¬ decide (e.name = n) = true := by simp [hn]
    rw [if_neg (by simpa using hn)] at h2
    repeat' ((conv => whnf); first
      | (refine And.intro (fun hb => ?_) (fun hb => ?_) <;> first | (exact absurd hb (by first | assumption | decide)) | (with_reducible exact absurd hb Bool.false_ne_true) | (with_reducible exact absurd hb.symm Bool.false_ne_true) | (exfalso; first | (simp only [LENS] at hb <;> omega) | omega) | ((try rw [hb]); (try simp only [NRMS] at hb); (try subst hb)))
      | (refine Exists.intro ?_ ?_; focus (and_intros <;> first | omega | exact rfl | assumption | (intro _ hh; cases hh; done) | exact all_size (by rfl) | exact size_map (fun _ => rfl) | exact size_one rfl | exact take_size (fun _ => rfl) | exact dsize_one rfl | exact dsize_map (fun _ => rfl) | exact dsize_its (fun _ => rfl) | (simp only [LENS]; omega) | (simp; done) | decide))
      | (intro hfact)
      | ((try dsimp only); rw [hg]))
    all_goals (try (conv => whnf))
    refine Round.by (k + 1) ?_ ⟨hk, h2⟩ (by omega)
    rw [wrap_succ hk hm]
    show norm _ _ = upd _ _
    kernel_rfl
theorem spec_UserAt (r : Roll) (n : Str) (hl : r.usrs.length ≤ 1000000) : Fn Try.prog F_exchequerref15_User [.v r.toI, .v (.str n)] (Is (.v (.int .i64 (r.usrAt n))) [.no, .no]) := by
  refine of_exchequerref15_User ?_ (by simp)
  have hm : r.usrs.length ≤ maxLen := by simp only [maxLen]; omega
  repeat' ((conv => whnf); first
    | (refine And.intro (fun hb => ?_) (fun hb => ?_) <;> first | (exact absurd hb (by first | assumption | decide)) | (with_reducible exact absurd hb Bool.false_ne_true) | (with_reducible exact absurd hb.symm Bool.false_ne_true) | (exfalso; first | (simp only [LENS] at hb <;> omega) | omega) | ((try rw [hb]); (try simp only [NRMS] at hb); (try subst hb)))
    | (refine Exists.intro ?_ ?_; focus (and_intros <;> first | omega | exact rfl | assumption | (intro _ hh; cases hh; done) | exact all_size (by rfl) | exact size_map (fun _ => rfl) | exact size_one rfl | exact take_size (fun _ => rfl) | exact dsize_one rfl | exact dsize_map (fun _ => rfl) | exact dsize_its (fun _ => rfl) | (simp only [LENS]; omega) | (simp; done) | decide))
    | (intro hfact))
  all_goals (try (conv => whnf))
  refine LoopWq.by (X := Nat) (fun x => [(5, .v (.int .i64 x))]) (fun x => x ≤ r.usrs.length ∧ findAt (fun t : Usr => decide (t.name = n)) x (r.usrs.drop x) = r.usrAt n) (fun x => r.usrs.length - x)
    0 (by kernel_rfl) ⟨Nat.zero_le _, rfl⟩ ?_
  rintro k ⟨h1, h2⟩
  by_cases hk : k < r.usrs.length
  case neg =>
    have hlt : ¬ decide ((k : Int) < ((r.usrs.map Usr.toI).length : Int)) = true := by simp; omega
    rw [List.drop_eq_nil_of_le (by omega)] at h2
    repeat' ((conv => whnf); first
      | (refine And.intro (fun hb => ?_) (fun hb => ?_) <;> first | (exact absurd hb (by first | assumption | decide)) | (with_reducible exact absurd hb Bool.false_ne_true) | (with_reducible exact absurd hb.symm Bool.false_ne_true) | (exfalso; first | (simp only [LENS] at hb <;> omega) | omega) | ((try rw [hb]); (try simp only [NRMS] at hb); (try subst hb)))
      | (refine Exists.intro ?_ ?_; focus (and_intros <;> first | omega | exact rfl | assumption | (intro _ hh; cases hh; done) | exact all_size (by rfl) | exact size_map (fun _ => rfl) | exact size_one rfl | exact take_size (fun _ => rfl) | exact dsize_one rfl | exact dsize_map (fun _ => rfl) | exact dsize_its (fun _ => rfl) | (simp only [LENS]; omega) | (simp; done) | decide))
      | (intro hfact))
    all_goals (try (conv => whnf))
    exact Done.mk ⟨congrArg (fun n => SV.v (.int .i64 n)) h2, by kernel_rfl⟩ (by kernel_rfl)
  obtain ⟨e, he⟩ : ∃ e, r.usrs[k]? = some e := ⟨_, List.getElem?_eq_getElem hk⟩
  have hg := map_get (f := Usr.toI) he
  have hlt : ¬ decide ((k : Int) < ((r.usrs.map Usr.toI).length : Int)) = false := by simp [hk]
  have hkl : Int.toNat (k : Int) < (r.usrs.map Usr.toI).length := by simp [hk]
  have hke : r.usrs[k] = e := by rw [List.getElem?_eq_getElem hk] at he; simpa using he
  rw [List.drop_eq_getElem_cons hk, hke, findAt] at h2
  by_cases hn : e.name = n
  · have n1 : ¬ decide (e.name = n) = false := by simp [hn]
    rw [if_pos (by simpa using hn)] at h2
    repeat' ((conv => whnf); first
      | (refine And.intro (fun hb => ?_) (fun hb => ?_) <;> first | (exact absurd hb (by first | assumption | decide)) | (with_reducible exact absurd hb Bool.false_ne_true) | (with_reducible exact absurd hb.symm Bool.false_ne_true) | (exfalso; first | (simp only [LENS] at hb <;> omega) | omega) | ((try rw [hb]); (try simp only [NRMS] at hb); (try subst hb)))
      | (refine Exists.intro ?_ ?_; focus (and_intros <;> first | omega | exact rfl | assumption | (intro _ hh; cases hh; done) | exact all_size (by rfl) | exact size_map (fun _ => rfl) | exact size_one rfl | exact take_size (fun _ => rfl) | exact dsize_one rfl | exact dsize_map (fun _ => rfl) | exact dsize_its (fun _ => rfl) | (simp only [LENS]; omega) | (simp; done) | decide))
      | (intro hfact)
      | ((try dsimp only); rw [hg]))
    all_goals (try (conv => whnf))
    exact Done.mk ⟨congrArg (fun n => SV.v (.int .i64 n)) h2, by kernel_rfl⟩ (by kernel_rfl)
  · have n1 : ¬ decide (e.name = n) = true := by simp [hn]
    rw [if_neg (by simpa using hn)] at h2
    repeat' ((conv => whnf); first
      | (refine And.intro (fun hb => ?_) (fun hb => ?_) <;> first | (exact absurd hb (by first | assumption | decide)) | (with_reducible exact absurd hb Bool.false_ne_true) | (with_reducible exact absurd hb.symm Bool.false_ne_true) | (exfalso; first | (simp only [LENS] at hb <;> omega) | omega) | ((try rw [hb]); (try simp only [NRMS] at hb); (try subst hb)))
      | (refine Exists.intro ?_ ?_; focus (and_intros <;> first | omega | exact rfl | assumption | (intro _ hh; cases hh; done) | exact all_size (by rfl) | exact size_map (fun _ => rfl) | exact size_one rfl | exact take_size (fun _ => rfl) | exact dsize_one rfl | exact dsize_map (fun _ => rfl) | exact dsize_its (fun _ => rfl) | (simp only [LENS]; omega) | (simp; done) | decide))
      | (intro hfact)
      | ((try dsimp only); rw [hg]))
    all_goals (try (conv => whnf))
    refine Round.by (k + 1) ?_ ⟨hk, h2⟩ (by omega)
    rw [wrap_succ hk hm]
    show norm _ _ = upd _ _
    kernel_rfl
theorem spec_RoleAt (r : Roll) (n : Str) (hl : r.rols.length ≤ 1000000) : Fn Try.prog F_exchequerref15_Role [.v r.toI, .v (.str n)] (Is (.v (.int .i64 (r.rolAt n))) [.no, .no]) := by
  refine of_exchequerref15_Role ?_ (by simp)
  have hm : r.rols.length ≤ maxLen := by simp only [maxLen]; omega
  repeat' ((conv => whnf); first
    | (refine And.intro (fun hb => ?_) (fun hb => ?_) <;> first | (exact absurd hb (by first | assumption | decide)) | (with_reducible exact absurd hb Bool.false_ne_true) | (with_reducible exact absurd hb.symm Bool.false_ne_true) | (exfalso; first | (simp only [LENS] at hb <;> omega) | omega) | ((try rw [hb]); (try simp only [NRMS] at hb); (try subst hb)))
    | (refine Exists.intro ?_ ?_; focus (and_intros <;> first | omega | exact rfl | assumption | (intro _ hh; cases hh; done) | exact all_size (by rfl) | exact size_map (fun _ => rfl) | exact size_one rfl | exact take_size (fun _ => rfl) | exact dsize_one rfl | exact dsize_map (fun _ => rfl) | exact dsize_its (fun _ => rfl) | (simp only [LENS]; omega) | (simp; done) | decide))
    | (intro hfact))
  all_goals (try (conv => whnf))
  refine LoopWq.by (X := Nat) (fun x => [(5, .v (.int .i64 x))]) (fun x => x ≤ r.rols.length ∧ findAt (fun t : Rol => decide (t.name = n)) x (r.rols.drop x) = r.rolAt n) (fun x => r.rols.length - x)
    0 (by kernel_rfl) ⟨Nat.zero_le _, rfl⟩ ?_
  rintro k ⟨h1, h2⟩
  by_cases hk : k < r.rols.length
  case neg =>
    have hlt : ¬ decide ((k : Int) < ((r.rols.map Rol.toI).length : Int)) = true := by simp; omega
    rw [List.drop_eq_nil_of_le (by omega)] at h2
    repeat' ((conv => whnf); first
      | (refine And.intro (fun hb => ?_) (fun hb => ?_) <;> first | (exact absurd hb (by first | assumption | decide)) | (with_reducible exact absurd hb Bool.false_ne_true) | (with_reducible exact absurd hb.symm Bool.false_ne_true) | (exfalso; first | (simp only [LENS] at hb <;> omega) | omega) | ((try rw [hb]); (try simp only [NRMS] at hb); (try subst hb)))
      | (refine Exists.intro ?_ ?_; focus (and_intros <;> first | omega | exact rfl | assumption | (intro _ hh; cases hh; done) | exact all_size (by rfl) | exact size_map (fun _ => rfl) | exact size_one rfl | exact take_size (fun _ => rfl) | exact dsize_one rfl | exact dsize_map (fun _ => rfl) | exact dsize_its (fun _ => rfl) | (simp only [LENS]; omega) | (simp; done) | decide))
      | (intro hfact))
    all_goals (try (conv => whnf))
    exact Done.mk ⟨congrArg (fun n => SV.v (.int .i64 n)) h2, by kernel_rfl⟩ (by kernel_rfl)
  obtain ⟨e, he⟩ : ∃ e, r.rols[k]? = some e := ⟨_, List.getElem?_eq_getElem hk⟩
  have hg := map_get (f := Rol.toI) he
  have hlt : ¬ decide ((k : Int) < ((r.rols.map Rol.toI).length : Int)) = false := by simp [hk]
  have hkl : Int.toNat (k : Int) < (r.rols.map Rol.toI).length := by simp [hk]
  have hke : r.rols[k] = e := by rw [List.getElem?_eq_getElem hk] at he; simpa using he
  rw [List.drop_eq_getElem_cons hk, hke, findAt] at h2
  by_cases hn : e.name = n
  · have n1 : ¬ decide (e.name = n) = false := by simp [hn]
    rw [if_pos (by simpa using hn)] at h2
    repeat' ((conv => whnf); first
      | (refine And.intro (fun hb => ?_) (fun hb => ?_) <;> first | (exact absurd hb (by first | assumption | decide)) | (with_reducible exact absurd hb Bool.false_ne_true) | (with_reducible exact absurd hb.symm Bool.false_ne_true) | (exfalso; first | (simp only [LENS] at hb <;> omega) | omega) | ((try rw [hb]); (try simp only [NRMS] at hb); (try subst hb)))
      | (refine Exists.intro ?_ ?_; focus (and_intros <;> first | omega | exact rfl | assumption | (intro _ hh; cases hh; done) | exact all_size (by rfl) | exact size_map (fun _ => rfl) | exact size_one rfl | exact take_size (fun _ => rfl) | exact dsize_one rfl | exact dsize_map (fun _ => rfl) | exact dsize_its (fun _ => rfl) | (simp only [LENS]; omega) | (simp; done) | decide))
      | (intro hfact)
      | ((try dsimp only); rw [hg]))
    all_goals (try (conv => whnf))
    exact Done.mk ⟨congrArg (fun n => SV.v (.int .i64 n)) h2, by kernel_rfl⟩ (by kernel_rfl)
  · have n1 : ¬ decide (e.name = n) = true := by simp [hn]
    rw [if_neg (by simpa using hn)] at h2
    repeat' ((conv => whnf); first
      | (refine And.intro (fun hb => ?_) (fun hb => ?_) <;> first | (exact absurd hb (by first | assumption | decide)) | (with_reducible exact absurd hb Bool.false_ne_true) | (with_reducible exact absurd hb.symm Bool.false_ne_true) | (exfalso; first | (simp only [LENS] at hb <;> omega) | omega) | ((try rw [hb]); (try simp only [NRMS] at hb); (try subst hb)))
      | (refine Exists.intro ?_ ?_; focus (and_intros <;> first | omega | exact rfl | assumption | (intro _ hh; cases hh; done) | exact all_size (by rfl) | exact size_map (fun _ => rfl) | exact size_one rfl | exact take_size (fun _ => rfl) | exact dsize_one rfl | exact dsize_map (fun _ => rfl) | exact dsize_its (fun _ => rfl) | (simp only [LENS]; omega) | (simp; done) | decide))
      | (intro hfact)
      | ((try dsimp only); rw [hg]))
    all_goals (try (conv => whnf))
    refine Round.by (k + 1) ?_ ⟨hk, h2⟩ (by omega)
    rw [wrap_succ hk hm]
    show norm _ _ = upd _ _
    kernel_rfl
end Go.Ab

