/- One text of the proof whose last text says what is proved. -/
import Derived.Test.YtoombangidlpjaaA1
set_option linter.unusedVariables false
set_option linter.unusedSimpArgs false
set_option maxRecDepth 100000
set_option maxHeartbeats 4000000
namespace Go.Ab
open Go.Proofs

def itselfM (s : Str) : Bool := match s with
  | [] => false
  | [c] => decide (32 ≤ (c.toNat : Int)) && decide ((c.toNat : Int) ≤ 126) && !decide ((c.toNat : Int) = 92)
  | [c, d] => if (c.toNat : Int) = 194 then decide (161 ≤ (d.toNat : Int)) else true
  | _ => true
theorem spec_itself (s : Str) : Fn Try.prog F_exchequerref04_itself [.v (.str s)] (Is (.v (.bool (itselfM s))) [.no]) := by
  refine of_exchequerref04_itself ?_ (by simp)
  rcases s with _ | ⟨c, _ | ⟨d, _ | ⟨e, r⟩⟩⟩
  · repeat' ((conv => whnf); first
      | (refine And.intro (fun hb => ?_) (fun hb => ?_) <;> first | (exact absurd hb (by first | assumption | decide)) | (rw [hb]) | skip)
      | (refine Exists.intro ?_ ?_; focus (and_intros <;> first | omega | exact rfl | assumption | (intro _ hh; cases hh; done) | exact all_size (by rfl) | (simp; done) | decide))
      | (intro hfact)
      | ((with_reducible apply Drawn.by0); (focus kernel_rfl); intro hfact))
    all_goals (try (conv => whnf))
    exact Done.mk ⟨rfl, by kernel_rfl⟩ (by kernel_rfl)
  · have h1 : ¬ decide ((([c] : Str).length : Int) = 1) = false := by simp
    repeat' ((conv => whnf); first
      | (refine And.intro (fun hb => ?_) (fun hb => ?_) <;> first | (exact absurd hb (by first | assumption | decide)) | (rw [hb]) | skip)
      | (refine Exists.intro ?_ ?_; focus (and_intros <;> first | omega | exact rfl | assumption | (intro _ hh; cases hh; done) | exact all_size (by rfl) | (simp; done) | decide))
      | (intro hfact)
      | ((with_reducible apply Drawn.by0); (focus kernel_rfl); intro hfact))
    all_goals (try (conv => whnf))
    all_goals (refine Done.mk ⟨SV.bool_congr ?_, by kernel_rfl⟩ (by kernel_rfl))
    all_goals (simp [itselfM] at *; grind)
  · have h1 : ¬ decide ((([c, d] : Str).length : Int) = 1) = true := by simp
    have h2 : ¬ decide ((([c, d] : Str).length : Int) = 2) = false := by simp
    have h3 : ¬ decide (1 < (([c, d] : Str).length : Int)) = false := by simp
    repeat' ((conv => whnf); first
      | (refine And.intro (fun hb => ?_) (fun hb => ?_) <;> first | (exact absurd hb (by first | assumption | decide)) | (rw [hb]) | skip)
      | (refine Exists.intro ?_ ?_; focus (and_intros <;> first | omega | exact rfl | assumption | (intro _ hh; cases hh; done) | exact all_size (by rfl) | (simp; done) | decide))
      | (intro hfact)
      | ((with_reducible apply Drawn.by0); (focus kernel_rfl); intro hfact))
    all_goals (try (conv => whnf))
    all_goals (refine Done.mk ⟨SV.bool_congr ?_, by kernel_rfl⟩ (by kernel_rfl))
    all_goals (simp [itselfM] at *; grind)
  · have h1 : ¬ decide (((c :: d :: e :: r : Str).length : Int) = 1) = true := by simp; omega
    have h2 : ¬ decide (((c :: d :: e :: r : Str).length : Int) = 2) = true := by simp; omega
    repeat' ((conv => whnf); first
      | (refine And.intro (fun hb => ?_) (fun hb => ?_) <;> first | (exact absurd hb (by first | assumption | decide)) | (rw [hb]) | skip)
      | (refine Exists.intro ?_ ?_; focus (and_intros <;> first | omega | exact rfl | assumption | (intro _ hh; cases hh; done) | exact all_size (by rfl) | (simp; done) | decide))
      | (intro hfact)
      | ((with_reducible apply Drawn.by0); (focus kernel_rfl); intro hfact))
    all_goals (try (conv => whnf))
    all_goals (refine Done.mk ⟨SV.bool_congr ?_, by kernel_rfl⟩ (by kernel_rfl))
    all_goals (simp [itselfM] at *; try grind)
end Go.Ab


set_option maxRecDepth 100000
set_option maxHeartbeats 4000000
namespace Go.Ab
open Go.Proofs

theorem withinM_lt {s : Str} {k : Nat} {lo hi : Int} (h : withinM s k lo hi = true) : k < s.length := by
  unfold withinM at h
  split at h
  · rename_i c hc
    have := (List.getElem?_eq_some_iff.1 hc).1
    simpa using this
  · cases h
theorem tailM_lt {s : Str} {k n : Nat} (h : tailM s k n = true) (hn : 0 < n) : k + n ≤ s.length := by
  simp only [tailM, List.all_eq_true, List.mem_range] at h
  have := withinM_lt (h (n - 1) (by omega))
  omega
theorem sizeM_le (s : Str) : 0 ≤ sizeM s ∧ sizeM s ≤ s.length := by
  unfold sizeM
  split
  · rename_i h; have := withinM_lt (k := 0) h; omega
  split
  · rename_i h; simp only [Bool.and_eq_true] at h; have := tailM_lt h.2 (by omega); omega
  split
  · rename_i h; simp only [Bool.and_eq_true] at h; have := tailM_lt h.1 (by omega); omega
  split
  · rename_i h; simp only [Bool.and_eq_true] at h; have := tailM_lt h.1 (by omega); omega
  omega
/-- May a rune of so many bytes, beginning with c, not stand at a place? -/
def badR (k : Nat) (c : Int) (at' : Nat) (piece : Str) : Bool :=
  (decide (k = 1) && !((decide (97 ≤ c) && decide (c ≤ 122)) || (decide (48 ≤ c) && decide (c ≤ 57)) || decide (c = 95) || (decide (c = 45) && decide (0 < at'))))
  || (decide (1 < k) && !itselfM piece)
def nameGo : Nat → Str → Nat → Nat → Bool
  | 0, _, _, _ => false
  | f + 1, s, at', n => match s[at']? with
    | none => decide (0 < n)
    | some c =>
      let k := (sizeM (s.drop at')).toNat
      if k = 0 then false
      else if badR k c.toNat at' ((s.drop at').take k) = true then false
      else if 24 < n + 1 then false
      else nameGo f s (at' + k) (n + 1)
def nameM (s : Str) : Bool := nameGo (s.length + 1) s 0 0
theorem spec_name (s : Str) : Fn Try.prog F_exchequerref04_Right [.v (.str s)] (Is (.v (.bool (nameM s))) [.no]) := by
  refine of_exchequerref04_Right ?_ (by simp)
  repeat' ((conv => whnf); first
    | (refine And.intro (fun hb => ?_) (fun hb => ?_) <;> first | (exact absurd hb (by first | assumption | decide)) | (rw [hb]) | skip)
    | (refine Exists.intro ?_ ?_; focus (and_intros <;> first | omega | exact rfl | assumption | (intro _ hh; cases hh; done) | exact all_size (by rfl) | (simp; done) | decide))
    | (intro hfact)
    | ((with_reducible apply Drawn.by0); (focus kernel_rfl); intro hfact))
  all_goals (try (conv => whnf))
  refine LoopWq.by (X := Nat × Nat × Nat) (fun x => [(3, .v (.int .i64 x.2.2)), (4, .v (.int .i64 x.2.1))]) (fun x => nameGo x.1 s x.2.1 x.2.2 = nameM s ∧ s.length < x.1 + x.2.1 ∧ x.2.1 ≤ s.length ∧ x.2.2 ≤ 24) (fun x => s.length - x.2.1)
    (s.length + 1, 0, 0) (by kernel_rfl) ⟨rfl, by dsimp only; omega, Nat.zero_le _, Nat.zero_le _⟩ ?_
  rintro ⟨f, p, n⟩ ⟨h1, h2, h3, h4⟩
  dsimp only at h1 h2 h3 h4 ⊢
  obtain ⟨f, rfl⟩ : ∃ g, f = g + 1 := ⟨f - 1, by omega⟩
  by_cases hp : p < s.length
  case neg =>
    have hlt : ¬ decide ((p : Int) < (s.length : Int)) = true := by simp; omega
    repeat' ((conv => whnf); first
      | (refine And.intro (fun hb => ?_) (fun hb => ?_) <;> first | (exact absurd hb (by first | assumption | decide)) | (rw [hb]) | skip)
      | (refine Exists.intro ?_ ?_; focus (and_intros <;> first | omega | exact rfl | assumption | (intro _ hh; cases hh; done) | exact all_size (by rfl) | (simp; done) | decide))
      | (intro hfact)
      | ((with_reducible apply Drawn.by0); (focus kernel_rfl); intro hfact))
    all_goals (try (conv => whnf))
    refine Done.mk ⟨SV.bool_congr ?_, by kernel_rfl⟩ (by kernel_rfl)
    rw [← h1, nameGo, List.getElem?_eq_none (by omega)]
    simp
  obtain ⟨c, hc⟩ : ∃ c, s[p]? = some c := ⟨_, List.getElem?_eq_getElem hp⟩
  have hg : s[Int.toNat (p : Int)]? = some c := hc
  have hlt : ¬ decide ((p : Int) < (s.length : Int)) = false := by simp [hp]
  have hsz := sizeM_le (s.drop p)
  have hs := spec_size (s.drop p)
  rw [nameGo, hc] at h1
  dsimp only at h1
  obtain ⟨k, hk⟩ : ∃ k : Nat, sizeM (s.drop p) = k := ⟨(sizeM (s.drop p)).toNat, by omega⟩
  rw [hk] at hs h1 hsz
  have hs' : Fn Try.prog F_exchequerref04_Size [.v (.str ((s.take s.length).drop p))] (Is (.v (.int .i64 k)) [.no]) := by rw [List.take_length]; exact hs
  rw [List.length_drop] at hsz
  simp only [Int.toNat_natCast] at h1
  have hw : s.length ≤ maxLen → IntKind.i64.wrap ((p : Int) + (k : Int)) = ((p + k : Nat) : Int) := fun hm => by
    rw [show (p : Int) + (k : Int) = ((p + k : Nat) : Int) by omega]; exact wrap_id (by simp only [maxLen] at hm; omega)
  have hwn : IntKind.i64.wrap ((n : Int) + 1) = ((n + 1 : Nat) : Int) := wrap_succ (n := 25) (by omega) (by simp only [maxLen]; omega)
  have hpc : ((s.drop p).take k) = (s.take (p + k)).drop p := by rw [List.drop_take]; congr 1; omega
  have hit := spec_itself ((s.take (p + k)).drop p)
  have hpk : ((p + k : Nat) : Int) ≤ (s.length : Int) := by omega
  have hpp : (p : Int) ≤ ((p + k : Nat) : Int) := by omega
  rw [hpc] at h1
  obtain ⟨b, hb0⟩ : ∃ b, itselfM ((s.take (p + k)).drop p) = b := ⟨_, rfl⟩
  rw [hb0] at hit
  unfold badR at h1
  rw [hb0] at h1
  rcases Nat.lt_or_ge k 1 with hk0 | hk0
  · have n1 : ¬ decide ((k : Int) = 0) = false := by simp; omega
    rw [if_pos (by omega)] at h1
    repeat' ((conv => whnf); first
      | (refine And.intro (fun hb => ?_) (fun hb => ?_) <;> first | (exact absurd hb (by first | assumption | decide)) | (rw [hb]) | skip)
      | (refine Exists.intro ?_ ?_; focus (and_intros <;> first | omega | exact rfl | assumption | (intro _ hh; cases hh; done) | exact all_size (by rfl) | (simp; done) | decide))
      | (intro hfact)
      | ((with_reducible apply Drawn.by0); (focus kernel_rfl); intro hfact)
      | ((try dsimp only); rw [hg])
      | (refine CallWp.mk ⟨_, hs', ?_⟩; rintro _ _ ⟨rfl, rfl⟩))
    all_goals (try (conv => whnf))
    exact Done.mk ⟨SV.bool_congr h1, by kernel_rfl⟩ (by kernel_rfl)
  rw [if_neg (by omega)] at h1
  have n1 : ¬ decide ((k : Int) = 0) = true := by simp; omega
  rcases Nat.lt_or_ge 1 k with hk1 | hk1
  · have n2 : ¬ decide ((k : Int) = 1) = true := by simp; omega
    have n3 : ¬ decide (1 < (k : Int)) = false := by simp; omega
    repeat' ((conv => whnf); first
      | (refine And.intro (fun hb => ?_) (fun hb => ?_) <;> first | (exact absurd hb (by first | assumption | decide)) | (rw [hb]) | skip)
      | (refine Exists.intro ?_ ?_; focus (and_intros <;> first | omega | exact rfl | assumption | (intro _ hh; cases hh; done) | exact all_size (by rfl) | (simp; done) | decide))
      | (intro hfact)
      | ((with_reducible apply Drawn.by0); (focus kernel_rfl); intro hfact)
      | ((try dsimp only); rw [hg])
      | (refine CallWp.mk ⟨_, hs', ?_⟩; rintro _ _ ⟨rfl, rfl⟩)
      | (refine CallWp.mk ⟨_, hit, ?_⟩; rintro _ _ ⟨rfl, rfl⟩)
      | ((try dsimp only); rw [hw (by assumption)])
      | ((try dsimp only); rw [hwn]))
    all_goals (try (conv => whnf))
    all_goals first
      | (refine Done.mk ⟨SV.bool_congr ?_, by kernel_rfl⟩ (by kernel_rfl); rw [← h1]; simp at *; grind)
      | (refine Round.by (f, p + k, n + 1) ?_ ⟨?_, by dsimp only; omega, by dsimp only; omega, ?_⟩ (by dsimp only; omega)
         · dsimp only
           show norm _ _ = upd _ _
           kernel_rfl
         · dsimp only
           rw [← h1]; simp at *; grind
         · dsimp only
           simp at *; omega)
  · have n2 : ¬ decide ((k : Int) = 1) = false := by simp; omega
    have n3 : ¬ decide (1 < (k : Int)) = true := by simp; omega
    repeat' ((conv => whnf); first
      | (refine And.intro (fun hb => ?_) (fun hb => ?_) <;> first | (exact absurd hb (by first | assumption | decide)) | (rw [hb]) | skip)
      | (refine Exists.intro ?_ ?_; focus (and_intros <;> first | omega | exact rfl | assumption | (intro _ hh; cases hh; done) | exact all_size (by rfl) | (simp; done) | decide))
      | (intro hfact)
      | ((with_reducible apply Drawn.by0); (focus kernel_rfl); intro hfact)
      | ((try dsimp only); rw [hg])
      | (refine CallWp.mk ⟨_, hs', ?_⟩; rintro _ _ ⟨rfl, rfl⟩)
      | (refine CallWp.mk ⟨_, hit, ?_⟩; rintro _ _ ⟨rfl, rfl⟩)
      | ((try dsimp only); rw [hw (by assumption)])
      | ((try dsimp only); rw [hwn]))
    all_goals (try (conv => whnf))
    all_goals first
      | (refine Done.mk ⟨SV.bool_congr ?_, by kernel_rfl⟩ (by kernel_rfl); rw [← h1]; simp at *; grind)
      | (refine Round.by (f, p + k, n + 1) ?_ ⟨?_, by dsimp only; omega, by dsimp only; omega, ?_⟩ (by dsimp only; omega)
         · dsimp only
           show norm _ _ = upd _ _
           kernel_rfl
         · dsimp only
           rw [← h1]; simp at *; grind
         · dsimp only
           simp at *; omega)
end Go.Ab

