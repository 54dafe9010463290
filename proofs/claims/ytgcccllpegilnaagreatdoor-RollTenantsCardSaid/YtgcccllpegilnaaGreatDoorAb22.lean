/- Lemmas for the last text. -/
import Derived.Test.YtgcccllpegilnaaGreatDoorN22
import Derived.Deep.Slices
import Derived.ChangeSame
import Derived.ChangeArms
import Derived.ProofKit
import Derived.OpenShut
set_option linter.unusedVariables false
set_option linter.unusedSimpArgs false
set_option maxRecDepth 100000
set_option maxHeartbeats 40000000
namespace Go.Ab
open Go.Proofs
def Qb (r : Roll) (u : Usr) (n : Ad) : Prop := (getR r.rols n).2 = true ∧ (getR r.rols n).1.ten = u.ten
structure UsrOk (r : Roll) (u : Usr) : Prop where
 salt : u.salt.length ≤ 64
 hash : u.hash.length = 32
 many : u.roles.length ≤ 4
 rise : Gf u.roles
 root : u.name = [114, 111, 111, 116] → u.ten = [] ∧ u.roles = []
 ten : u.name ≠ [114, 111, 111, 116] → (getT r.tens u.ten).2 = true
 rol : u.name ≠ [114, 111, 111, 116] → ∀ n ∈ u.roles, Qb r u n
structure RolR (r : Roll) (x : Rol) : Prop where
 ten : (getT r.tens x.ten).2 = true
 grs : x.grants.length ≤ 8 ∧ ∀ i, GrAt x.grants i
structure Roll.RightP (r : Roll) : Prop where
 num : 1 ≤ r.rev ∧ r.rev ≤ 1099511627776 ∧ r.tens.length ≤ 8 ∧ r.usrs.length ≤ 16 ∧ r.rols.length ≤ 16
 rT : Gf (r.tens.map Ten.name)
 rU : Gf (r.usrs.map Usr.name)
 rX : Gf (r.rols.map Rol.name)
 tens : ∀ t ∈ r.tens, B4 t.mb = true ∧ B4 t.ks = true
 rols : ∀ x ∈ r.rols, RolR r x
 usrs : ∀ u ∈ r.usrs, UsrOk r u
 root : (getU r.usrs [114, 111, 111, 116]).2 = true
theorem Wq (r : Roll) (hs : r.Small) (b : Bool) (hB : b = true ↔ r.RightP) : Fn Tryz.prog Abz [.v r.toI] (Is (.v (.bool b)) [.no]) := by
 refine Zf ?_ (by simp)
 have bad : ¬ r.RightP → b = false := fun h => by
  cases b with
  | false => rfl
  | true => exact absurd (hB.1 rfl) h
 obtain ⟨b1, b2, b3, b4, b5⟩ := hs
 have hs : r.Small := ⟨b1, b2, b3, b4, b5⟩
 by_cases h1 : 1 ≤ r.rev ∧ r.rev ≤ 1099511627776 ∧ r.tens.length ≤ 8 ∧ r.usrs.length ≤ 16 ∧ r.rols.length ≤ 16
 case neg =>
  obtain rfl := bad fun h => h1 h.num
  repeat' ((conv => whnf); first | (refine aI (fun hb => ?_) (fun hb => ?_) <;>first | exact absurd hb (by decide) | (exfalso; simp only [Am] at hb <;> omega) | ((try rw [hb]); (try simp only [Ac] at hb))) | (refine eI ?_ ?_; focus (and_intros <;> first | omega | exact rfl | (simp; done))) | (intro hfact))
  all_goals (try (conv => whnf))
  all_goals first | (exfalso; simp at *; omega) | exact Done.mk ⟨by kernel_rfl, by kernel_rfl⟩ (by kernel_rfl)
 obtain ⟨n1, n2, n3, n4, n5⟩ := h1
 repeat' ((conv => whnf); first | (refine aI (fun hb => ?_) (fun hb => ?_) <;>first | exact absurd hb (by decide) | (exfalso; simp only [Am] at hb <;> omega) | ((try rw [hb]); (try simp only [Ac] at hb))) | (refine eI ?_ ?_; focus (and_intros <;> first | omega | exact rfl | (simp; done) | decide)) | (intro hfact))
 all_goals (try (conv => whnf))
 have nT := Yt r.tens (by omega)
 have nU := Y3 r.usrs (by omega)
 have nX := Ym r.rols (by omega)
 have lT : (r.tens.map Ten.name).length ≤ 1000000 := by rw [List.length_map]; omega
 have lU : (r.usrs.map Usr.name).length ≤ 1000000 := by rw [List.length_map]; omega
 have lX : (r.rols.map Rol.name).length ≤ 1000000 := by rw [List.length_map]; omega
 by_cases hT : Gf (r.tens.map Ten.name)
 case neg =>
  have rT := Dh _ lT false (by simp [hT])
  obtain rfl := bad fun h => hT h.rT
  repeat' ((conv => whnf); first | (refine aI (fun hb => ?_) (fun hb => ?_) <;>first | exact absurd hb (by decide) | ((try rw [hb]); (try simp only [Ac] at hb))) | (refine eI ?_ ?_; focus (and_intros <;> first | (intro _ hh; cases hh; done) | (simp; done) | decide)) | (refine CallWp.mk ⟨_, nT, ?_⟩; rintro _ _ ⟨rfl, rfl⟩) | (refine CallWp.mk ⟨_, rT, ?_⟩; rintro _ _ ⟨rfl, rfl⟩))
  all_goals (try (conv => whnf))
  all_goals first | contradiction | exact Done.mk ⟨by kernel_rfl, by kernel_rfl⟩ (by kernel_rfl)
 have rT := Dh _ lT true (by simp [hT])
 by_cases hU : Gf (r.usrs.map Usr.name)
 case neg =>
  have rU := Dh _ lU false (by simp [hU])
  obtain rfl := bad fun h => hU h.rU
  repeat' ((conv => whnf); first | (refine aI (fun hb => ?_) (fun hb => ?_) <;>first | exact absurd hb (by decide) | ((try rw [hb]); (try simp only [Ac] at hb))) | (refine eI ?_ ?_; focus (and_intros <;> first | omega | exact rfl | (intro _ hh; cases hh; done) | (simp; done) | decide)) | (refine CallWp.mk ⟨_, nT, ?_⟩; rintro _ _ ⟨rfl, rfl⟩) | (refine CallWp.mk ⟨_, rT, ?_⟩; rintro _ _ ⟨rfl, rfl⟩) | (refine CallWp.mk ⟨_, nU, ?_⟩; rintro _ _ ⟨rfl, rfl⟩) | (refine CallWp.mk ⟨_, rU, ?_⟩; rintro _ _ ⟨rfl, rfl⟩))
  all_goals (try (conv => whnf))
  all_goals first | contradiction | exact Done.mk ⟨by kernel_rfl, by kernel_rfl⟩ (by kernel_rfl)
 have rU := Dh _ lU true (by simp [hU])
 by_cases hX : Gf (r.rols.map Rol.name)
 case neg =>
  have rX := Dh _ lX false (by simp [hX])
  obtain rfl := bad fun h => hX h.rX
  repeat' ((conv => whnf); first | (refine aI (fun hb => ?_) (fun hb => ?_) <;>first | exact absurd hb (by decide) | ((try rw [hb]); (try simp only [Ac] at hb))) | (refine eI ?_ ?_; focus (and_intros <;> first | omega | exact rfl | (intro _ hh; cases hh; done) | (simp; done) | decide)) | (refine CallWp.mk ⟨_, nT, ?_⟩; rintro _ _ ⟨rfl, rfl⟩) | (refine CallWp.mk ⟨_, rT, ?_⟩; rintro _ _ ⟨rfl, rfl⟩) | (refine CallWp.mk ⟨_, nU, ?_⟩; rintro _ _ ⟨rfl, rfl⟩) | (refine CallWp.mk ⟨_, rU, ?_⟩; rintro _ _ ⟨rfl, rfl⟩) | (refine CallWp.mk ⟨_, nX, ?_⟩; rintro _ _ ⟨rfl, rfl⟩) | (refine CallWp.mk ⟨_, rX, ?_⟩; rintro _ _ ⟨rfl, rfl⟩))
  all_goals (try (conv => whnf))
  all_goals first | contradiction | exact Done.mk ⟨by kernel_rfl, by kernel_rfl⟩ (by kernel_rfl)
 have rX := Dh _ lX true (by simp [hX])
 repeat' ((conv => whnf); first | (refine aI (fun hb => ?_) (fun hb => ?_) <;>first | exact absurd hb (by decide) | ((try rw [hb]); (try simp only [Ac] at hb))) | (refine eI ?_ ?_; focus (and_intros <;> first | omega | exact rfl | (intro _ hh; cases hh; done) | (simp; done) | decide)) | (intro hfact) | (refine CallWp.mk ⟨_, nT, ?_⟩; rintro _ _ ⟨rfl, rfl⟩) | (refine CallWp.mk ⟨_, rT, ?_⟩; rintro _ _ ⟨rfl, rfl⟩) | (refine CallWp.mk ⟨_, nU, ?_⟩; rintro _ _ ⟨rfl, rfl⟩) | (refine CallWp.mk ⟨_, rU, ?_⟩; rintro _ _ ⟨rfl, rfl⟩) | (refine CallWp.mk ⟨_, nX, ?_⟩; rintro _ _ ⟨rfl, rfl⟩) | (refine CallWp.mk ⟨_, rX, ?_⟩; rintro _ _ ⟨rfl, rfl⟩))
 all_goals (try (conv => whnf))
 clear nT nU nX rT rU rX lT lU lX
 refine LoopWq.by (X := Nat) (fun k => [(67, .v (.int .i64 k))]) (fun k => k ≤ r.tens.length ∧ ∀ i < k, ∀ t, r.tens[i]? = some t → B4 t.mb = true ∧ B4 t.ks = true) (fun k => r.tens.length - k)
  0 (by kernel_rfl) ⟨Nat.zero_le _, by intro i hi; omega⟩ ?_
 rintro k ⟨hk, hA⟩
 by_cases hk2 : k < r.tens.length
 · obtain ⟨e, he⟩ : ∃ e, r.tens[k]? = some e := ⟨_, List.getElem?_eq_getElem hk2⟩
   have hlt : ¬ decide ((k : Int) < ((r.tens.map Ten.toI).length : Int)) = false := by simp [hk2]
   have i1 := Kp e.mb
   have i2 := Kp e.ks
   have ht0 := List.mem_of_getElem? he
   by_cases h1 : B4 e.mb = true
   case neg =>
    obtain rfl := bad fun h => h1 (h.tens e ht0).1
    rw [Bool.not_eq_true] at h1
    rw [h1] at i1
    generalize B4 e.ks = z at i2
    repeat' ((conv => whnf); first | (refine aI (fun hb => ?_) (fun hb => ?_) <;>first | exact absurd hb (by first | assumption | decide) | ((try rw [hb]); (try simp only [Ac] at hb))) | (refine eI ?_ ?_; focus (and_intros <;> first | omega | exact rfl | (intro _ hh; cases hh; done) | (simp; done) | decide)) | ((try dsimp only); first | rw [An he] | rw [Aj he] | rw [Ai he]) | (refine CallWp.mk ⟨_, i1, ?_⟩; rintro _ _ ⟨rfl, rfl⟩))
    all_goals (try (conv => whnf))
    all_goals first | contradiction | exact Done.mk ⟨by kernel_rfl, by kernel_rfl⟩ (by kernel_rfl)
   rw [h1] at i1
   by_cases h2 : B4 e.ks = true
   case neg =>
    obtain rfl := bad fun h => h2 (h.tens e ht0).2
    rw [Bool.not_eq_true] at h2
    rw [h2] at i2
    repeat' ((conv => whnf); first | (refine aI (fun hb => ?_) (fun hb => ?_) <;>first | exact absurd hb (by first | assumption | decide) | ((try rw [hb]); (try simp only [Ac] at hb))) | (refine eI ?_ ?_; focus (and_intros <;> first | omega | exact rfl | (intro _ hh; cases hh; done) | (simp; done) | decide)) | ((try dsimp only); first | rw [An he] | rw [Aj he] | rw [Ai he]) | (refine CallWp.mk ⟨_, i1, ?_⟩; rintro _ _ ⟨rfl, rfl⟩) | (refine CallWp.mk ⟨_, i2, ?_⟩; rintro _ _ ⟨rfl, rfl⟩))
    all_goals (try (conv => whnf))
    all_goals first | contradiction | exact Done.mk ⟨by kernel_rfl, by kernel_rfl⟩ (by kernel_rfl)
   rw [h2] at i2
   have hq : B4 e.mb = true ∧ B4 e.ks = true := ⟨h1, h2⟩
   repeat' ((conv => whnf); first | (refine aI (fun hb => ?_) (fun hb => ?_) <;>first | exact absurd hb (by first | assumption | decide) | ((try rw [hb]); (try simp only [Ac] at hb))) | (refine eI ?_ ?_; focus (and_intros <;> first | omega | exact rfl | (intro _ hh; cases hh; done) | (simp; done) | decide)) | ((try dsimp only); first | rw [An he] | rw [Aj he] | rw [Ai he]) | (refine CallWp.mk ⟨_, i1, ?_⟩; rintro _ _ ⟨rfl, rfl⟩) | (refine CallWp.mk ⟨_, i2, ?_⟩; rintro _ _ ⟨rfl, rfl⟩))
   all_goals (try (conv => whnf))
   all_goals first | contradiction | skip
   refine Round.by (k + 1) ?_ ⟨hk2, fun i hi t ht => ?_⟩ (by omega)
   · rw [Ah (n := r.tens.length) hk2 (by simp only [maxLen]; omega)]
     show norm _ _ = upd _ _
     kernel_rfl
   · rcases Nat.lt_succ_iff_lt_or_eq.1 hi with h' | rfl
     · exact hA i h' t ht
     · rw [he] at ht; cases ht; exact hq
 have hlt : ¬ decide ((k : Int) < ((r.tens.map Ten.toI).length : Int)) = true := by simp; omega
 have htens : ∀ t ∈ r.tens, B4 t.mb = true ∧ B4 t.ks = true := fun t ht => by
  obtain ⟨i, hi⟩ := List.getElem?_of_mem ht
  exact hA i (by have := (List.getElem?_eq_some_iff.1 hi).1; omega) t hi
 obtain rfl : k = r.tens.length := by omega
 clear hA hk hk2
 repeat' ((conv => whnf); first | (refine aI (fun hb => ?_) (fun hb => ?_) <;>first | exact absurd hb (by assumption) | ((try rw [hb]); (try simp only [Ac] at hb))) | (refine eI ?_ ?_; focus (and_intros <;> first | omega | exact rfl | (simp; done))) | (intro hfact))
 all_goals (try (conv => whnf))
 clear hlt
 refine LoopWq.by (X := Nat) (fun k => [(85, .v (.int .i64 k))]) (fun k => k ≤ r.rols.length ∧ ∀ i < k, ∀ x, r.rols[i]? = some x → RolR r x) (fun k => r.rols.length - k)
  0 (by kernel_rfl) ⟨Nat.zero_le _, by intro i hi; omega⟩ ?_
 rintro k ⟨hk, hA⟩
 by_cases hk2 : k < r.rols.length
 · obtain ⟨e, he⟩ : ∃ e, r.rols[k]? = some e := ⟨_, List.getElem?_eq_getElem hk2⟩
   have hlt : ¬ decide ((k : Int) < ((r.rols.map Rol.toI).length : Int)) = false := by simp [hk2]
   have i1 := Ep r hs e.ten
   have hgl := b5 e (List.mem_of_getElem? he)
   cases h1 : (getT r.tens e.ten).2 with
   | false =>
     rw [h1] at i1
     obtain rfl := bad fun h => by have := (h.rols e (List.mem_of_getElem? he)).ten; rw [h1] at this; cases this
     repeat' ((conv => whnf); first | (refine aI (fun hb => ?_) (fun hb => ?_) <;>first | exact absurd hb (by first | assumption | decide) | ((try rw [hb]); (try simp only [Ac] at hb))) | (refine eI ?_ ?_; focus (and_intros <;> first | omega | exact rfl | (intro _ hh; cases hh; done) | (simp; done) | decide)) | ((try dsimp only); first | rw [An he] | rw [Aj he] | rw [Ai he]) | (refine CallWp.mk ⟨_, i1, ?_⟩; rintro _ _ ⟨rfl, rfl⟩))
     all_goals (try (conv => whnf))
     all_goals first | contradiction | exact Done.mk ⟨by kernel_rfl, by kernel_rfl⟩ (by kernel_rfl)
   | true =>
   rw [h1] at i1
   by_cases hq : e.grants.length ≤ 8 ∧ ∀ i, GrAt e.grants i
   case neg =>
    have i2 := Le e.grants (by omega) false (by simp [-not_and, hq])
    obtain rfl := bad fun h => hq (h.rols e (List.mem_of_getElem? he)).grs
    repeat' ((conv => whnf); first | (refine aI (fun hb => ?_) (fun hb => ?_) <;>first | exact absurd hb (by first | assumption | decide) | ((try rw [hb]); (try simp only [Ac] at hb))) | (refine eI ?_ ?_; focus (and_intros <;> first | omega | exact rfl | (intro _ hh; cases hh; done) | (simp; done) | decide)) | ((try dsimp only); first | rw [An he] | rw [Aj he] | rw [Ai he]) | (refine CallWp.mk ⟨_, i1, ?_⟩; rintro _ _ ⟨rfl, rfl⟩) | (refine CallWp.mk ⟨_, i2, ?_⟩; rintro _ _ ⟨rfl, rfl⟩))
    all_goals (try (conv => whnf))
    all_goals first | contradiction | exact Done.mk ⟨by kernel_rfl, by kernel_rfl⟩ (by kernel_rfl)
   have i2 := Le e.grants (by omega) true (by simp [-not_and, hq])
   repeat' ((conv => whnf); first | (refine aI (fun hb => ?_) (fun hb => ?_) <;>first | exact absurd hb (by first | assumption | decide) | ((try rw [hb]); (try simp only [Ac] at hb))) | (refine eI ?_ ?_; focus (and_intros <;> first | omega | exact rfl | (intro _ hh; cases hh; done) | (simp; done) | decide)) | ((try dsimp only); first | rw [An he] | rw [Aj he] | rw [Ai he]) | (refine CallWp.mk ⟨_, i1, ?_⟩; rintro _ _ ⟨rfl, rfl⟩) | (refine CallWp.mk ⟨_, i2, ?_⟩; rintro _ _ ⟨rfl, rfl⟩))
   all_goals (try (conv => whnf))
   all_goals first | contradiction | skip
   refine Round.by (k + 1) ?_ ⟨hk2, fun i hi t ht => ?_⟩ (by omega)
   · rw [Ah (n := r.rols.length) hk2 (by simp only [maxLen]; omega)]
     show norm _ _ = upd _ _
     kernel_rfl
   · rcases Nat.lt_succ_iff_lt_or_eq.1 hi with h' | rfl
     · exact hA i h' t ht
     · rw [he] at ht; cases ht; exact ⟨h1, hq⟩
 have hlt : ¬ decide ((k : Int) < ((r.rols.map Rol.toI).length : Int)) = true := by simp; omega
 have hrols : ∀ x ∈ r.rols, RolR r x := fun t ht => by
  obtain ⟨i, hi⟩ := List.getElem?_of_mem ht
  exact hA i (by have := (List.getElem?_eq_some_iff.1 hi).1; omega) t hi
 obtain rfl : k = r.rols.length := by omega
 clear hA hk hk2
 repeat' ((conv => whnf); first | (refine aI (fun hb => ?_) (fun hb => ?_) <;>first | exact absurd hb (by assumption) | ((try rw [hb]); (try simp only [Ac] at hb))) | (refine eI ?_ ?_; focus (and_intros <;> first | omega | exact rfl | (simp; done))) | (intro hfact))
 all_goals (try (conv => whnf))
 clear hlt
 refine LoopWq.by (X := Nat) (fun k => [(108, .v (.int .i64 k))]) (fun k => k ≤ r.usrs.length ∧ ∀ i < k, ∀ u, r.usrs[i]? = some u → UsrOk r u) (fun k => r.usrs.length - k)
  0 (by kernel_rfl) ⟨Nat.zero_le _, by intro i hi; omega⟩ ?_
 rintro k ⟨hk, hA⟩
 by_cases hk2 : k < r.usrs.length
 case neg =>
  have hlt : ¬ decide ((k : Int) < ((r.usrs.map Usr.toI).length : Int)) = true := by simp; omega
  have husrs : ∀ x ∈ r.usrs, UsrOk r x := fun t ht => by
   obtain ⟨i, hi⟩ := List.getElem?_of_mem ht
   exact hA i (by have := (List.getElem?_eq_some_iff.1 hi).1; omega) t hi
  have i1 := Qo r hs [114, 111, 111, 116]
  have hb2 : b = (getU r.usrs [114, 111, 111, 116]).2 := by
   cases h1 : (getU r.usrs [114, 111, 111, 116]).2 with
   | false => exact bad fun h => by have := h.root; rw [h1] at this; cases this
   | true => exact hB.2 ⟨⟨n1, n2, n3, n4, n5⟩, hT, hU, hX, htens, hrols, husrs, h1⟩
  rw [hb2]
  generalize getU r.usrs [114, 111, 111, 116] = q at i1
  obtain ⟨q1, q2⟩ := q
  repeat' ((conv => whnf); first | (refine aI (fun hb => ?_) (fun hb => ?_) <;>first | exact absurd hb (by assumption) | ((try rw [hb]); (try simp only [Ac] at hb))) | (refine eI ?_ ?_; focus (and_intros <;> first | omega | exact rfl | (intro _ hh; cases hh; done) | (simp; done) | decide)) | (refine CallWp.mk ⟨_, i1, ?_⟩; rintro _ _ ⟨rfl, rfl⟩))
  all_goals (try (conv => whnf))
  all_goals first | contradiction | exact Done.mk ⟨by kernel_rfl, by kernel_rfl⟩ (by kernel_rfl)
 obtain ⟨e, he⟩ : ∃ e, r.usrs[k]? = some e := ⟨_, List.getElem?_eq_getElem hk2⟩
 have hm := List.mem_of_getElem? he
 have hlt : ¬ decide ((k : Int) < ((r.usrs.map Usr.toI).length : Int)) = false := by simp [hk2]
 have hrl := b4 e hm
 have i1 := Ct e.salt
 by_cases hw : e.salt.length ≤ 64
 case neg =>
  obtain rfl := bad fun h => hw (h.usrs e hm).salt
  rw [decide_eq_false hw] at i1
  repeat' ((conv => whnf); first | (refine aI (fun hb => ?_) (fun hb => ?_) <;>first | exact absurd hb (by first | assumption | decide) | ((try rw [hb]); (try simp only [Ac] at hb))) | (refine eI ?_ ?_; focus (and_intros <;> first | omega | exact rfl | (intro _ hh; cases hh; done) | (simp; done) | decide)) | ((try dsimp only); first | rw [An he] | rw [Aj he] | rw [Ai he]) | (refine CallWp.mk ⟨_, i1, ?_⟩; rintro _ _ ⟨rfl, rfl⟩))
  all_goals (try (conv => whnf))
  all_goals first | contradiction | exact Done.mk ⟨by kernel_rfl, by kernel_rfl⟩ (by kernel_rfl)
 rw [decide_eq_true hw] at i1
 by_cases hh : e.hash.length = 32 ∧ e.roles.length ≤ 4
 case neg =>
  obtain rfl := bad fun h => hh ⟨(h.usrs e hm).hash, (h.usrs e hm).many⟩
  repeat' ((conv => whnf); first | (refine aI (fun hb => ?_) (fun hb => ?_) <;>first | exact absurd hb (by first | assumption | decide) | (exfalso; simp only [Am] at hb <;> omega) | ((try rw [hb]); (try simp only [Ac] at hb))) | (refine eI ?_ ?_; focus (and_intros <;> first | omega | exact rfl | (intro _ hh; cases hh; done) | (simp; done) | decide)) | (intro hfact) | ((try dsimp only); first | rw [An he] | rw [Aj he] | rw [Ai he]) | (refine CallWp.mk ⟨_, i1, ?_⟩; rintro _ _ ⟨rfl, rfl⟩))
  all_goals (try (conv => whnf))
  all_goals first | contradiction | (exfalso; omega) | skip
  all_goals exact Done.mk ⟨by kernel_rfl, by kernel_rfl⟩ (by kernel_rfl)
 by_cases hr : Gf e.roles
 case neg =>
  have i2 := Dh _ (show e.roles.length ≤ 1000000 by omega) false (by simp [hr])
  obtain rfl := bad fun h => hr (h.usrs e hm).rise
  repeat' ((conv => whnf); first | (refine aI (fun hb => ?_) (fun hb => ?_) <;>first | exact absurd hb (by first | assumption | decide) | (exfalso; simp only [Am] at hb <;> omega) | ((try rw [hb]); (try simp only [Ac] at hb))) | (refine eI ?_ ?_; focus (and_intros <;> first | omega | exact rfl | (intro _ hh; cases hh; done) | (simp; done) | decide)) | (intro hfact) | ((try dsimp only); first | rw [An he] | rw [Aj he] | rw [Ai he]) | (refine CallWp.mk ⟨_, i1, ?_⟩; rintro _ _ ⟨rfl, rfl⟩) | (refine CallWp.mk ⟨_, i2, ?_⟩; rintro _ _ ⟨rfl, rfl⟩))
  all_goals (try (conv => whnf))
  all_goals first | contradiction | (exfalso; omega) | skip
  all_goals exact Done.mk ⟨by kernel_rfl, by kernel_rfl⟩ (by kernel_rfl)
 have i2 := Dh _ (show e.roles.length ≤ 1000000 by omega) true (by simp [hr])
 have nxt : UsrOk r e → ∀ i < k + 1, ∀ u, r.usrs[i]? = some u → UsrOk r u := fun h i hi u hu => by
  rcases Nat.lt_succ_iff_lt_or_eq.1 hi with h' | rfl
  · exact hA i h' u hu
  · rw [he] at hu; cases hu; exact h
 by_cases hroot : e.name = [114, 111, 111, 116]
 · have hd : ¬ decide (e.name = [114, 111, 111, 116]) = false := by simp [hroot]
   by_cases hq : e.ten = [] ∧ e.roles = []
   case neg =>
    obtain rfl := bad fun h => hq ((h.usrs e hm).root hroot)
    by_cases he0 : e.ten = []
    · have hq2 : ¬ (!decide (e.ten = [])) = true := by simp [he0]
      have hq3 : 0 < e.roles.length := by
       cases hrr : e.roles with
       | nil => exact absurd ⟨he0, hrr⟩ hq
       | cons a t => simp
      repeat' ((conv => whnf); first | (refine aI (fun hb => ?_) (fun hb => ?_) <;>first | exact absurd hb (by first | assumption | decide) | (exfalso; simp only [Am] at hb <;> omega) | ((try rw [hb]); (try simp only [Ac] at hb))) | (refine eI ?_ ?_; focus (and_intros <;> first | omega | exact rfl | (intro _ hh; cases hh; done) | (simp; done) | decide)) | (intro hfact) | ((try dsimp only); first | rw [An he] | rw [Aj he] | rw [Ai he]) | (refine CallWp.mk ⟨_, i1, ?_⟩; rintro _ _ ⟨rfl, rfl⟩) | (refine CallWp.mk ⟨_, i2, ?_⟩; rintro _ _ ⟨rfl, rfl⟩))
      all_goals (try (conv => whnf))
      all_goals first | contradiction | (exfalso; omega) | skip
      all_goals exact Done.mk ⟨by kernel_rfl, by kernel_rfl⟩ (by kernel_rfl)
    · have hq2 : ¬ (!decide (e.ten = [])) = false := by simp [he0]
      repeat' ((conv => whnf); first | (refine aI (fun hb => ?_) (fun hb => ?_) <;>first | exact absurd hb (by first | assumption | decide) | (exfalso; simp only [Am] at hb <;> omega) | ((try rw [hb]); (try simp only [Ac] at hb))) | (refine eI ?_ ?_; focus (and_intros <;> first | omega | exact rfl | (intro _ hh; cases hh; done) | (simp; done) | decide)) | (intro hfact) | ((try dsimp only); first | rw [An he] | rw [Aj he] | rw [Ai he]) | (refine CallWp.mk ⟨_, i1, ?_⟩; rintro _ _ ⟨rfl, rfl⟩) | (refine CallWp.mk ⟨_, i2, ?_⟩; rintro _ _ ⟨rfl, rfl⟩))
      all_goals (try (conv => whnf))
      all_goals first | contradiction | (exfalso; omega) | skip
      all_goals exact Done.mk ⟨by kernel_rfl, by kernel_rfl⟩ (by kernel_rfl)
   have hq2 : ¬ (!decide (e.ten = [])) = true := by simp [hq.1]
   have hq3 : ¬ 0 < e.roles.length := by simp [hq.2]
   repeat' ((conv => whnf); first | (refine aI (fun hb => ?_) (fun hb => ?_) <;>first | exact absurd hb (by first | assumption | decide) | (exfalso; simp only [Am] at hb <;> omega) | ((try rw [hb]); (try simp only [Ac] at hb))) | (refine eI ?_ ?_; focus (and_intros <;> first | omega | exact rfl | (intro _ hh; cases hh; done) | (simp; done) | decide)) | (intro hfact) | ((try dsimp only); first | rw [An he] | rw [Aj he] | rw [Ai he]) | (refine CallWp.mk ⟨_, i1, ?_⟩; rintro _ _ ⟨rfl, rfl⟩) | (refine CallWp.mk ⟨_, i2, ?_⟩; rintro _ _ ⟨rfl, rfl⟩))
   all_goals (try (conv => whnf))
   all_goals first | contradiction | (exfalso; omega) | skip
   refine Round.by (k + 1) ?_ ⟨hk2, nxt ⟨hw, hh.1, hh.2, hr, fun _ => hq, fun h => absurd hroot h, fun h => absurd hroot h⟩⟩ (by omega)
   rw [Ah (n := r.usrs.length) hk2 (by simp only [maxLen]; omega)]
   show norm _ _ = upd _ _
   kernel_rfl
 have hd : ¬ decide (e.name = [114, 111, 111, 116]) = true := by simp [hroot]
 have i3 := Ep r hs e.ten
 cases ht : (getT r.tens e.ten).2 with
 | false =>
   rw [ht] at i3
   obtain rfl := bad fun h => by have := (h.usrs e hm).ten hroot; rw [ht] at this; cases this
   repeat' ((conv => whnf); first | (refine aI (fun hb => ?_) (fun hb => ?_) <;>first | exact absurd hb (by first | assumption | decide) | (exfalso; simp only [Am] at hb <;> omega) | ((try rw [hb]); (try simp only [Ac] at hb))) | (refine eI ?_ ?_; focus (and_intros <;> first | omega | exact rfl | (intro _ hh; cases hh; done) | (simp; done) | decide)) | (intro hfact) | ((try dsimp only); first | rw [An he] | rw [Aj he] | rw [Ai he]) | (refine CallWp.mk ⟨_, i1, ?_⟩; rintro _ _ ⟨rfl, rfl⟩) | (refine CallWp.mk ⟨_, i2, ?_⟩; rintro _ _ ⟨rfl, rfl⟩) | (refine CallWp.mk ⟨_, i3, ?_⟩; rintro _ _ ⟨rfl, rfl⟩))
   all_goals (try (conv => whnf))
   all_goals first | contradiction | (exfalso; omega) | skip
   all_goals exact Done.mk ⟨by kernel_rfl, by kernel_rfl⟩ (by kernel_rfl)
 | true =>
 rw [ht] at i3
 repeat' ((conv => whnf); first | (refine aI (fun hb => ?_) (fun hb => ?_) <;>first | exact absurd hb (by first | assumption | decide) | (exfalso; simp only [Am] at hb <;> omega) | ((try rw [hb]); (try simp only [Ac] at hb))) | (refine eI ?_ ?_; focus (and_intros <;> first | omega | exact rfl | (intro _ hh; cases hh; done) | (simp; done) | decide)) | (intro hfact) | ((try dsimp only); first | rw [An he] | rw [Aj he] | rw [Ai he]) | (refine CallWp.mk ⟨_, i1, ?_⟩; rintro _ _ ⟨rfl, rfl⟩) | (refine CallWp.mk ⟨_, i2, ?_⟩; rintro _ _ ⟨rfl, rfl⟩) | (refine CallWp.mk ⟨_, i3, ?_⟩; rintro _ _ ⟨rfl, rfl⟩))
 all_goals (try (conv => whnf))
 all_goals first | contradiction | (exfalso; omega) | skip
 refine LoopWq.by (X := Nat) (fun j => [(158, .v (.int .i64 j))]) (fun j => j ≤ e.roles.length ∧ ∀ i < j, ∀ n, e.roles[i]? = some n → Qb r e n) (fun j => e.roles.length - j)
  0 (by kernel_rfl) ⟨Nat.zero_le _, by intro i hi; omega⟩ ?_
 rintro j ⟨hj, hN⟩
 by_cases hj2 : j < e.roles.length
 case neg =>
  have hlt2 : ¬ decide ((j : Int) < ((strs e.roles).length : Int)) = true := by simp; omega
  have hrl2 : ∀ n ∈ e.roles, Qb r e n := fun t ht => by
   obtain ⟨i, hi⟩ := List.getElem?_of_mem ht
   exact hN i (by have := (List.getElem?_eq_some_iff.1 hi).1; omega) t hi
  repeat' ((conv => whnf); (refine aI (fun hb => ?_) (fun hb => ?_) <;>first | exact absurd hb (by assumption) | ((try rw [hb]); (try simp only [Ac] at hb))))
  all_goals (try (conv => whnf))
  refine Round.by (k + 1) ?_ ⟨hk2, nxt ⟨hw, hh.1, hh.2, hr, fun h => absurd h hroot, fun _ => ht, fun _ => hrl2⟩⟩ (by omega)
  rw [Ah (n := r.usrs.length) hk2 (by simp only [maxLen]; omega)]
  show norm _ _ = upd _ _
  kernel_rfl
 obtain ⟨n, hn⟩ : ∃ n, e.roles[j]? = some n := ⟨_, List.getElem?_eq_getElem hj2⟩
 have hlt2 : ¬ decide ((j : Int) < ((strs e.roles).length : Int)) = false := by simp [hj2]
 have i4 := J0 r hs n
 have nmem := List.mem_of_getElem? hn
 by_cases hq : Qb r e n
 case neg =>
  obtain rfl := bad fun h => hq ((h.usrs e hm).rol hroot n nmem)
  unfold Qb at hq
  generalize getR r.rols n = q at i4 hq
  obtain ⟨x, q2⟩ := q
  cases q2 with
  | false =>
    repeat' ((conv => whnf); first | (refine aI (fun hb => ?_) (fun hb => ?_) <;>first | exact absurd hb (by first | assumption | decide) | ((try rw [hb]); (try simp only [Ac] at hb))) | (refine eI ?_ ?_; focus (and_intros <;> first | omega | exact rfl | (intro _ hh; cases hh; done) | (simp; done) | decide)) | ((try dsimp only); first | rw [An hn] | rw [Aj hn] | rw [Ai hn]) | (refine CallWp.mk ⟨_, i4, ?_⟩; rintro _ _ ⟨rfl, rfl⟩))
    all_goals (try (conv => whnf))
    all_goals first | contradiction | exact Done.mk ⟨by kernel_rfl, by kernel_rfl⟩ (by kernel_rfl)
  | true =>
    have hne : ¬ (!decide (x.ten = e.ten)) = false := by simpa using hq
    repeat' ((conv => whnf); first | (refine aI (fun hb => ?_) (fun hb => ?_) <;>first | exact absurd hb (by first | assumption | decide) | ((try rw [hb]); (try simp only [Ac] at hb))) | (refine eI ?_ ?_; focus (and_intros <;> first | omega | exact rfl | (intro _ hh; cases hh; done) | (simp; done) | decide)) | ((try dsimp only); first | rw [An hn] | rw [Aj hn] | rw [Ai hn]) | (refine CallWp.mk ⟨_, i4, ?_⟩; rintro _ _ ⟨rfl, rfl⟩))
    all_goals (try (conv => whnf))
    all_goals first | contradiction | exact Done.mk ⟨by kernel_rfl, by kernel_rfl⟩ (by kernel_rfl)
 have hq0 := hq
 unfold Qb at hq
 generalize getR r.rols n = q at i4 hq
 obtain ⟨x, q2⟩ := q
 obtain ⟨hq1, hq2⟩ := hq
 dsimp only at hq1 hq2
 subst hq1
 have hne : ¬ (!decide (x.ten = e.ten)) = true := by simpa using hq2
 repeat' ((conv => whnf); first | (refine aI (fun hb => ?_) (fun hb => ?_) <;>first | exact absurd hb (by first | assumption | decide) | ((try rw [hb]); (try simp only [Ac] at hb))) | (refine eI ?_ ?_; focus (and_intros <;> first | omega | exact rfl | (intro _ hh; cases hh; done) | (simp; done) | decide)) | ((try dsimp only); first | rw [An hn] | rw [Aj hn] | rw [Ai hn]) | (refine CallWp.mk ⟨_, i4, ?_⟩; rintro _ _ ⟨rfl, rfl⟩))
 all_goals (try (conv => whnf))
 all_goals first | contradiction | skip
 refine Round.by (j + 1) ?_ ⟨hj2, fun i hi m hm => ?_⟩ (by omega)
 · rw [Ah (n := e.roles.length) hj2 (by simp only [maxLen]; omega)]
   show norm _ _ = upd _ _
   kernel_rfl
 · rcases Nat.lt_succ_iff_lt_or_eq.1 hi with h' | rfl
   · exact hN i h' m hm
   · rw [hn] at hm; cases hm; exact hq0
set_option maxHeartbeats 4000000

open Go.Proofs
def Told (r : Roll) (x : Roll × Int) : Prop := (x.2 = 0 ∧ x.1.rev = r.rev + 1) ∨ (x.2 ≠ 0 ∧ x.1 = r)
theorem Ams (r : Roll) (c : Cmd) : Told r (doM r c) := by
 have no : ∀ n : Int, n ≠ 0 → Told r (r, n) := fun n h => .inr ⟨h, rfl⟩
 unfold doM
 repeat' split
 all_goals first | exact no _ (by decide) | skip
 · unfold Ks; repeat' split
   all_goals first | exact no _ (by decide) | exact .inl ⟨rfl, rfl⟩
 · unfold Nj; repeat' split
   all_goals first | exact no _ (by decide) | exact .inl ⟨rfl, rfl⟩
 · unfold Sk; repeat' split
   all_goals first | exact no _ (by decide) | exact .inl ⟨rfl, rfl⟩
 · unfold Si; repeat' split
   all_goals first | exact no _ (by decide) | exact .inl ⟨rfl, rfl⟩
 · unfold Ng; repeat' split
   all_goals first | exact no _ (by decide) | exact .inl ⟨rfl, rfl⟩
 · unfold R8; repeat' split
   all_goals first | exact no _ (by decide) | exact .inl ⟨rfl, rfl⟩
 · unfold Sv; repeat' split
   all_goals first | exact no _ (by decide) | exact .inl ⟨rfl, rfl⟩
 · unfold M6; repeat' split
   all_goals first | exact no _ (by decide) | exact .inl ⟨rfl, rfl⟩
 · unfold Kv; repeat' split
   all_goals first | exact no _ (by decide) | exact .inl ⟨rfl, rfl⟩
 · unfold Pp; repeat' split
   all_goals first | exact no _ (by decide) | exact .inl ⟨rfl, rfl⟩
theorem Tn {α : Type} {p : α → Bool} {l : List α} {x : α} (hx : x ∈ l) (hp : p x = true) : ∃ y, l.find? p = some y ∧ y ∈ l ∧ p y = true := by
 cases h : l.find? p with
 | none => exact absurd hp (by simpa using List.find?_eq_none.1 h x hx)
 | some y => exact ⟨y, rfl, List.mem_of_find?_eq_some h, List.find?_some h⟩
theorem Ah3 {α : Type} {nm : α → Ad} {l : List α} (h : Cv nm l) {x y : α} (hx : x ∈ l) (hy : y ∈ l) (e : nm x = nm y) : x = y := by
 obtain ⟨i, hi⟩ := List.getElem?_of_mem hx
 obtain ⟨j, hj⟩ := List.getElem?_of_mem hy
 obtain ⟨hi', hi⟩ := List.getElem?_eq_some_iff.1 hi
 obtain ⟨hj', hj⟩ := List.getElem?_eq_some_iff.1 hj
 have h := List.pairwise_iff_getElem.1 h
 rcases Nat.lt_trichotomy i j with hl | hl | hl
 · have := h i j hi' hj' hl
   rw [hi, hj, e] at this
   exact absurd this (List.lt_irrefl _)
 · subst hl; rw [← hi, ← hj]
 · have := h j i hj' hi' hl
   rw [hi, hj, e] at this
   exact absurd this (List.lt_irrefl _)
theorem Afj {l : List Rol} (h : Cv Rol.name l) {x : Rol} (hx : x ∈ l) : getR l x.name = (x, true) := by
 obtain ⟨y, h1, h2, h3⟩ := Tn (p := fun t : Rol => decide (t.name = x.name)) hx (by simp)
 have : y = x := Ah3 h h2 hx (by simpa using h3)
 unfold getR
 rw [h1, this]
theorem Aff {l : List Ten} {n : Ad} (h : ∃ t ∈ l, t.name = n) : (getT l n).2 = true := by
 obtain ⟨x, hx, e⟩ := h
 obtain ⟨y, h1, h2, h3⟩ := Tn (p := fun t : Ten => decide (t.name = n)) hx (by simpa using e)
 unfold getT
 rw [h1]
theorem Amv {l : List Usr} {n : Ad} (h : ∃ t ∈ l, t.name = n) : (getU l n).2 = true := by
 obtain ⟨x, hx, e⟩ := h
 obtain ⟨y, h1, h2, h3⟩ := Tn (p := fun t : Usr => decide (t.name = n)) hx (by simpa using e)
 unfold getU
 rw [h1]
theorem L1 {l : List Ad} (h : l.Pairwise (· < ·)) (hn : ∀ x ∈ l, Bi x = true) : Gf l := fun i x hx => by
 refine ⟨hn x (List.mem_of_getElem? hx), fun y hi hy => ?_⟩
 obtain ⟨hi', e1⟩ := List.getElem?_eq_some_iff.1 hx
 obtain ⟨hj', e2⟩ := List.getElem?_eq_some_iff.1 hy
 have := List.pairwise_iff_getElem.1 h (i - 1) i hj' hi' (by omega)
 rw [e1, e2] at this
 exact this
theorem Amj {l : List Gra} (h : GrOk l) (i : Nat) : GrAt l i := fun x hx => by
 refine ⟨h.1 x (List.mem_of_getElem? hx), fun hm => ?_⟩
 obtain ⟨j, hj⟩ := List.getElem?_of_mem hm
 rw [List.getElem?_take] at hj
 split at hj
 · rename_i hlt
   obtain ⟨hi', e1⟩ := List.getElem?_eq_some_iff.1 hx
   obtain ⟨hj', e2⟩ := List.getElem?_eq_some_iff.1 hj
   have := List.pairwise_iff_getElem.1 h.2 j i hj' hi' hlt
   rw [e1, e2] at this
   exact this rfl
 · cases hj
theorem Akh {r : Roll} (f : r.Fit) (s : r.Sorted) (o : r.Ok) : r.RightP := by
 obtain ⟨hT, hU, hX, hR⟩ := s
 refine ⟨⟨f.hV.1, f.hV.2, f.hT, f.hU, f.hX⟩, L1 (Pb.1 hT) fun x hx => ?_, L1 (Pb.1 hU) fun x hx => ?_, L1 (Pb.1 hX) fun x hx => ?_, fun t ht => (o.tn t ht).2, fun x hx => ?_, fun u hu => ?_, Amv o.rt⟩
 · obtain ⟨t, ht, rfl⟩ := List.mem_map.1 hx; exact (o.tn t ht).1
 · obtain ⟨t, ht, rfl⟩ := List.mem_map.1 hx; exact (o.un t ht).1
 · obtain ⟨t, ht, rfl⟩ := List.mem_map.1 hx; exact (o.xn t ht).1
 · exact ⟨Aff (o.xn x hx).2.1, f.hG x hx, Amj (o.xn x hx).2.2⟩
 · refine ⟨(o.un u hu).2.1, (o.un u hu).2.2, f.hR u hu, L1 ?_ fun n hn => ?_, o.ur u hu, fun hn => Aff (o.ut u hu hn), fun _ n hn => ?_⟩
   · exact hR u hu
   · obtain ⟨x, hx, e, _⟩ := o.uo u hu n hn
     rw [← e]; exact (o.xn x hx).1
   · obtain ⟨x, hx, rfl, e⟩ := o.uo u hu n hn
     unfold Qb
     rw [Afj hX hx]
     exact ⟨rfl, e⟩
theorem Amw {r : Roll} (s : r.Sorted) (o : r.Ok) {u : Usr} (hu : u ∈ r.usrs) {n : Ad} (hn : n ∈ u.roles) : ∃ x : Rol, getR r.rols n = (x, true) ∧ x.ten = u.ten ∧ u.ten ≠ [] := by
 obtain ⟨x, hx, rfl, e⟩ := o.uo u hu n hn
 refine ⟨x, Afj s.X hx, e, fun h0 => ?_⟩
 obtain ⟨t, ht, e2⟩ := (o.xn x hx).2.1
 have := (o.tn t ht).1
 rw [e2, e, h0, Xt] at this
 cases this
set_option maxHeartbeats 40000000

open Go.Proofs
theorem Afk : ∀ (l : List Cmd) (r : Roll), r.Ok → (l.foldl next r).Ok
 | [], r, h => h
 | c :: l, r, h => Afk l _ (Anc h c)
theorem Th (l : List Cmd) (hl : l.length ≤ maxLen) : Fn Tryz.prog H3 [.v (.list (l.map Cmd.toI))] (Is (.v (.bool true)) [.no]) := by
 refine Hq ?_ (by simp)
 have aw := Ab1
 have gr := Acn l hl
 cases hg : Jm l with
 | true =>
   rw [hg] at gr
   repeat' ((conv => whnf); first | (refine aI (fun hb => ?_) (fun hb => ?_) <;>first | exact absurd hb (by decide) | ((try rw [hb]); (try simp only [Ac] at hb))) | (refine eI ?_ ?_; focus (and_intros <;> first | (intro _ hh; cases hh; done) | (simp; done) | decide)) | (refine CallWp.mk ⟨_, aw, ?_⟩; rintro _ _ ⟨rfl, rfl⟩) | (refine CallWp.mk ⟨_, gr, ?_⟩; rintro _ _ ⟨rfl, rfl⟩))
   all_goals (try (conv => whnf))
   exact Done.mk ⟨by kernel_rfl, by kernel_rfl⟩ (by kernel_rfl)
 | false =>
 rw [hg] at gr
 have hb0 : ∀ c ∈ l, bigC c = false := by
  unfold Jm at hg
  rw [Bool.or_eq_false_iff] at hg
  intro c hc
  have := List.any_eq_false.1 hg.2 c hc
  simpa using this
 have n1 := Xd [115] [119] (by simp) (by simp)
 have g0 := Amu [115] [119]
 have g1 := Agt [115] [119]
 have g2 := Ane [115] [119] (by simp)
 generalize Dj [115] [119] = R0 at *
 repeat' ((conv => whnf); first | (refine aI (fun hb => ?_) (fun hb => ?_) <;>first | exact absurd hb (by decide) | ((try rw [hb]); (try simp only [Ac] at hb))) | (refine eI ?_ ?_; focus (and_intros <;> first | omega | exact rfl | (intro _ hh; cases hh; done) | (simp; done) | decide)) | (intro hfact) | (refine CallWp.mk ⟨_, aw, ?_⟩; rintro _ _ ⟨rfl, rfl⟩) | (refine CallWp.mk ⟨_, gr, ?_⟩; rintro _ _ ⟨rfl, rfl⟩) | (refine CallWp.mk ⟨_, n1, ?_⟩; rintro _ _ ⟨rfl, rfl⟩))
 all_goals (try (conv => whnf))
 obtain ⟨R, hR⟩ : ∃ R : Nat → Roll, R = fun k => (l.take k).foldl next R0 := ⟨_, rfl⟩
 have hR0 : R 0 = R0 := by rw [hR]; rfl
 have hRg : ∀ k, (R k).Fit ∧ (R k).Sorted := fun k => by rw [hR]; exact Xc _ _ g0 g1
 have hRo : ∀ k, (R k).Ok := fun k => by rw [hR]; exact Afk _ _ g2
 have hRs : ∀ k e, l[k]? = some e → R (k + 1) = next (R k) e := fun k e he => by
  rw [hR]
  simp only [List.take_add_one, he, Option.toList_some, List.foldl_append, List.foldl_cons, List.foldl_nil]
 clear hR aw gr n1 hg
 refine LoopWq.by (X := Nat) (fun k => [(3, .box (.one (.i (R k).toI))), (26, .v (.int .i64 k))]) (fun k => k ≤ l.length) (fun k => l.length - k)
  0 (by rw [hR0]; kernel_rfl) (Nat.zero_le _) ?_
 intro k hk
 by_cases hk2 : k < l.length
 · obtain ⟨e, he⟩ : ∃ e, l[k]? = some e := ⟨_, List.getElem?_eq_getElem hk2⟩
   have hlt : ¬ decide ((k : Int) < ((l.map Cmd.toI).length : Int)) = false := by simp [hk2]
   have hbe : ¬ bigC e = true := by rw [hb0 e (List.mem_of_getElem? he)]; simp
   rw [Xr] at hbe
   obtain ⟨hf, hs⟩ := hRg k
   have d1 := Ake (R k) hf hs e (by omega)
   have hnx := hRs k e he
   obtain ⟨hfn, hsn⟩ := hRg (k + 1)
   have hon := hRo (k + 1)
   have hrv := Ams (R k) e
   unfold Told at hrv
   unfold next at hnx
   obtain ⟨Rk, hRk⟩ : ∃ x, x = R k := ⟨_, rfl⟩
   have hV := hf.hV
   rw [← hRk] at hV d1 hnx hrv ⊢
   obtain ⟨Rn, hRn⟩ : ∃ x, x = R (k + 1) := ⟨_, rfl⟩
   rw [← hRn] at hfn hsn hon hnx
   have hw : IntKind.i64.wrap (Rk.rev + 1) = Rk.rev + 1 := Bj (by omega)
   rw [← hnx] at d1 hrv
   generalize (doM Rk e).2 = b at d1 hrv
   have hrv2 : (b = 0 ∧ Rn.rev = Rk.rev + 1) ∨ (b ≠ 0 ∧ Rn.rev = Rk.rev) := by
    rcases hrv with h | ⟨h1, h2⟩
    · exact .inl h
    · exact .inr ⟨h1, by rw [h2]⟩
   clear hrv hnx hf hs hRg hRo hRs hb0 g0 g1 g2 hbe
   iterate 4 (all_goals (try ((conv => whnf); first
    | (refine aI (fun hb => ?_) (fun hb => ?_) <;> first | (exact absurd hb (by first | assumption | decide)) | (with_reducible exact absurd hb Bool.false_ne_true) | (with_reducible exact absurd hb.symm Bool.false_ne_true) | (exfalso; first | (simp only [Am] at hb <;> omega) | omega) | ((try rw [hb]); (try simp only [Ac] at hb); (try subst hb)))
    | (refine eI ?_ ?_; focus (and_intros <;> first | (with_reducible exact sz18 _) | (with_reducible exact Ant _) | (with_reducible exact Ank _) | (with_reducible exact Anp _) | omega | exact rfl | assumption | (intro _ hh; cases hh; done) | exact Bs (by rfl) | exact size_map (fun _ => rfl) | exact Aj7 rfl | exact take_size (fun _ => rfl) | exact Ci rfl | exact Ah8 (fun _ => rfl) | exact Ait (fun _ => rfl) | (simp only [Am]; omega) | (simp; done) | decide))
    | (intro hfact)
    | ((try dsimp only); first | rw [An he] | rw [Aj he] | rw [Ai he]))))
   generalize hKK : wqS Tryz.prog _ _ = KK
   as_aux_lemma =>
    repeat' ((conv => whnf); (refine eI ?_ ?_; focus (and_intros <;> first | omega | exact rfl)))
    all_goals (try (conv => whnf))
    rw [← hKK]
    clear hKK
    as_aux_lemma =>
     repeat' ((conv => whnf); first | (refine aI (fun hb => ?_) (fun hb => ?_) <;>first | exact absurd hb (by decide) | (exfalso; simp only [Am] at hb <;> omega) | ((try rw [hb]); (try simp only [Ac] at hb); (try subst hb))) | (refine eI ?_ ?_; focus (and_intros <;> first | omega | exact rfl | (intro _ hh; cases hh; done) | (simp; done) | decide)) | (intro hfact) | (refine CallWp.mk ⟨_, d1, ?_⟩; rintro _ _ ⟨rfl, rfl⟩) | ((try dsimp only); rw [hw]))
     all_goals (try (conv => whnf))
     all_goals first | (exfalso; have ht : ¬ True := (by assumption); exact ht True.intro) | (exfalso; omega) | skip
     all_goals
      as_aux_lemma =>
       clear hrv2 d1
       refine LoopWq.by (X := Nat) (fun i => [(67, .v (.int .i64 i))]) (fun i => i ≤ Rn.usrs.length) (fun i => Rn.usrs.length - i)
        0 (by kernel_rfl) (Nat.zero_le _) ?_
       intro i hi
       by_cases hi2 : i < Rn.usrs.length
       · obtain ⟨u, hu⟩ : ∃ e, Rn.usrs[i]? = some e := ⟨_, List.getElem?_eq_getElem hi2⟩
         have hlt1 : ¬ decide ((i : Int) < ((Rn.usrs.map Usr.toI).length : Int)) = false := by simp [hi2]
         have hum := List.mem_of_getElem? hu
         have hul := hfn.hR u hum
         repeat' ((conv => whnf); first | (refine aI (fun hb => ?_) (fun hb => ?_) <;>first | exact absurd hb (by assumption) | ((try rw [hb]); (try simp only [Ac] at hb))) | (refine eI ?_ ?_; focus (and_intros <;> first | omega | exact rfl | (simp; done))) | (intro hfact) | ((try dsimp only); first | rw [An hu] | rw [Aj hu] | rw [Ai hu]))
         all_goals (try (conv => whnf))
         refine LoopWq.by (X := Nat) (fun j => [(74, .v (.int .i64 j))]) (fun j => j ≤ u.roles.length) (fun j => u.roles.length - j)
          0 (by kernel_rfl) (Nat.zero_le _) ?_
         intro j hj
         by_cases hj2 : j < u.roles.length
         · obtain ⟨n, hn⟩ : ∃ e, u.roles[j]? = some e := ⟨_, List.getElem?_eq_getElem hj2⟩
           have hlt2 : ¬ decide ((j : Int) < ((strs u.roles).length : Int)) = false := by simp [hj2]
           obtain ⟨x, x1, x2, x3⟩ := Amw hsn hon hum (List.mem_of_getElem? hn)
           have q := J0 Rn hfn.small n
           rw [x1] at q
           have c1 : ¬ (!decide (x.ten = u.ten)) = true := by simp [x2]
           have c2 : ¬ decide (u.ten = []) = true := by simp [x3]
           clear x1 x2 x3
           repeat' ((conv => whnf); first | (refine aI (fun hb => ?_) (fun hb => ?_) <;>first | exact absurd hb (by first | assumption | decide) | ((try rw [hb]); (try simp only [Ac] at hb))) | (refine eI ?_ ?_; focus (and_intros <;> first | omega | exact rfl | (intro _ hh; cases hh; done) | (simp; done) | decide)) | ((try dsimp only); first | rw [An hn] | rw [Aj hn] | rw [Ai hn]) | (refine CallWp.mk ⟨_, q, ?_⟩; rintro _ _ ⟨rfl, rfl⟩))
           all_goals (try (conv => whnf))
           all_goals first | contradiction | skip
           refine Round.by (j + 1) ?_ hj2 (by omega)
           rw [Ah (n := u.roles.length) hj2 (by simp only [maxLen]; omega)]
           show norm _ _ = upd _ _
           kernel_rfl
         · have hlt2 : ¬ decide ((j : Int) < ((strs u.roles).length : Int)) = true := by simp; omega
           repeat' ((conv => whnf); (refine aI (fun hb => ?_) (fun hb => ?_) <;>first | exact absurd hb (by assumption) | ((try rw [hb]); (try simp only [Ac] at hb))))
           all_goals (try (conv => whnf))
           refine Round.by (i + 1) ?_ hi2 (by omega)
           rw [Ah (n := Rn.usrs.length) hi2 (by have := hfn.hU; simp only [maxLen]; omega)]
           show norm _ _ = upd _ _
           kernel_rfl
       · have hlt1 : ¬ decide ((i : Int) < ((Rn.usrs.map Usr.toI).length : Int)) = true := by simp; omega
         repeat' ((conv => whnf); (refine aI (fun hb => ?_) (fun hb => ?_) <;>first | exact absurd hb (by assumption) | ((try rw [hb]); (try simp only [Ac] at hb))))
         all_goals (try (conv => whnf))
         refine Round.by (k + 1) ?_ hk2 (by omega)
         rw [Ah hk2 hl, ← hRn]
         show norm _ _ = upd _ _
         kernel_rfl
 · have hlt : ¬ decide ((k : Int) < ((l.map Cmd.toI).length : Int)) = true := by simp; omega
   obtain rfl : k = l.length := by omega
   have rr := Wq (R l.length) (hRg _).1.small true (by simp [Akh (hRg l.length).1 (hRg l.length).2 (hRo l.length)])
   repeat' ((conv => whnf); first | (refine aI (fun hb => ?_) (fun hb => ?_) <;>first | exact absurd hb (by assumption) | ((try rw [hb]); (try simp only [Ac] at hb))) | (refine eI ?_ ?_; focus (and_intros <;> first | omega | exact rfl | (intro _ hh; cases hh; done) | (simp; done) | decide)) | (refine CallWp.mk ⟨_, rr, ?_⟩; rintro _ _ ⟨rfl, rfl⟩))
   all_goals (try (conv => whnf))
   exact Done.mk ⟨by kernel_rfl, by kernel_rfl⟩ (by kernel_rfl)

open Go.ChangeShapes Go.Deep
inductive Sh where
 | int (k : IntKind)
 | bool
 | str
 | st (l : List Sh)
 | sl (sz : Nat) (e : Sh)
 | ar (sz n : Nat) (e : Sh)
 deriving Inhabited
mutual
def Sh.ok (P : Program) : TypeId → Sh → Bool
 | t, .int k => match P.underlying t with
   | some (.int k') => k == k'
   | _ => false
 | t, .bool => match P.underlying t with
   | some .bool => true
   | _ => false
 | t, .str => match P.underlying t with
   | some .string => true
   | _ => false
 | t, .st l => match P.underlying t with
   | some (.struct fs) => Sh.oks P 0 (P.cellsOf t) fs.toList l
   | _ => false
 | t, .sl sz e => match P.underlying t with
   | some (.slice e') => P.cellsOf e' == sz && sz != 0 && Sh.ok P e' e
   | _ => false
 | t, .ar sz n e => match P.underlying t with
   | some (.array m e') => P.cellsOf e' == sz && m == n && P.cellsOf t == n * sz && Sh.ok P e' e
   | _ => false
def Sh.oks (P : Program) : Nat → Nat → List Field → List Sh → Bool
 | off, tot, [], [] => off == tot
 | off, tot, f :: fs, s :: l => f.offset == off && Sh.ok P f.type s && Sh.oks P (off + P.cellsOf f.type) tot fs l
 | _, _, _, _ => false
end
mutual
def Fits : Sh → I → Prop
 | .int k, x => ∃ n, x = .int k n ∧ (Lit.int k n).wf = true
 | .bool, x => ∃ b, x = .bool b
 | .str, x => ∃ s, x = .str s
 | .st l, x => ∃ xs, x = .agg xs ∧ FitsL l xs
 | .sl sz e, x => ∃ xs, x = .list xs ∧ ∀ y ∈ xs, Fits e y ∧ y.size = sz
 | .ar sz n e, x => ∃ xs, x = .arr sz xs ∧ xs.length = n ∧ ∀ y ∈ xs, Fits e y ∧ y.size = sz
def FitsL : List Sh → List I → Prop
 | [], xs => xs = []
 | s :: l, xs => ∃ y ys, xs = y :: ys ∧ Fits s y ∧ FitsL l ys
end
def Ds (w : World) : Mem := fun b => w.heap[b]?
section
variable {H : Type} {enc : TypeId × Value → H} {P : Program} {w : World} {base : Nat} {sp : Nat → Bool} {held : Bool}
theorem X4 {a : Addr} {n : Nat} {cs : List Value} (h : w.cells? base a n = some cs) (h0 : 0 < n) : ∃ bl ty fz, a = ⟨a.block, a.off, none⟩ ∧ w.heap[a.block]? = some (.cells bl ty fz) ∧ a.off + n ≤ bl.size ∧ (bl.toList.drop a.off).take n = cs := by
 obtain ⟨_, hl, hc⟩ := World.cells?_some h
 have hget : ∀ i, i < n → ∃ v, w.cell? (a.add i) = some v := fun i hi => ⟨cs[i]'(by omega), by rw [hc i hi, List.getElem?_eq_getElem]⟩
 obtain ⟨v, hv⟩ := hget 0 h0
 unfold World.cell? at hv
 rw [show a.add 0 = a from by simp [Addr.add]] at hv
 split at hv
 · rename_i bl ty fz hb
   split at hv
   · cases hv
   · rename_i hs
     have hspot : a.spot = none := by cases hsp : a.spot <;> simp [hsp] at hs ⊢
     have hadd : ∀ i, w.cell? (a.add i) = bl[a.off + i]? := by
      intro i
      unfold World.cell? Addr.add
      by_cases hi : i = 0
      · simp [hi, hb, hspot]
      · simp [hi, hb]
     have hsz : a.off + n ≤ bl.size := by
      obtain ⟨v', hv'⟩ := hget (n - 1) (by omega)
      rw [hadd] at hv'
      have := (Array.getElem?_eq_some_iff.1 hv').1
      omega
     refine ⟨bl, ty, fz, ?_, hb, hsz, ?_⟩
     · cases a; simp at hspot; simp [hspot]
     · apply List.ext_getElem?
       intro i
       by_cases hi : i < n
       · rw [List.getElem?_take, if_pos hi, List.getElem?_drop, ← hc i hi, hadd]
         simp
       · rw [List.getElem?_eq_none (by simp; omega), List.getElem?_eq_none (by omega)]
 · cases hv
theorem RepIs.of_rows {G : Mem} {sz : Nat} : ∀ {n : Nat} {cells : List Value} {p : I → Prop}, n * sz ≤ cells.length → (∀ i, i < n → ∃ x, RepI G x ((cells.drop (i * sz)).take sz) ∧ p x) → ∃ xs, xs.length = n ∧ RepIs G xs (cells.take (n * sz)) ∧ ∀ x ∈ xs, p x
 | 0, cells, p, _, _ => ⟨[], rfl, by simp [RepIs], by simp⟩
 | n + 1, cells, p, hl, h => by
   have hm : (n + 1) * sz = sz + n * sz := by rw [Nat.add_mul]; omega
   obtain ⟨x, h1, h2⟩ := h 0 (by omega)
   simp only [Nat.zero_mul, List.drop_zero] at h1
   obtain ⟨xs, h3, h4, h5⟩ := RepIs.of_rows (sz := sz) (n := n) (cells := cells.drop sz) (p := p) (by rw [List.length_drop]; omega) fun i hi => by
    obtain ⟨y, g1, g2⟩ := h (i + 1) (by omega)
    refine ⟨y, ?_, g2⟩
    rw [List.drop_drop, show sz + i * sz = (i + 1) * sz by rw [Nat.add_mul]; omega]
    exact g1
   refine ⟨x :: xs, by simp [h3], ?_, ?_⟩
   · rw [hm, List.take_add]
     simp only [RepIs]
     exact ⟨_, _, rfl, h1, h4⟩
   · intro y hy
     rcases List.mem_cons.mp hy with rfl | hy
     · exact h2
     · exact h5 y hy
theorem Aip : ∀ {l : List Sh} {fs : List Field} {off tot : Nat}, Sh.oks P off tot fs l = true → off ≤ tot
 | [], [], _, _, h => by simp only [Sh.oks, beq_iff_eq] at h; omega
 | s :: l, f :: fs, off, tot, h => by
   simp only [Sh.oks, Bool.and_eq_true] at h
   have := Aip h.2
   omega
 | [], _ :: _, _, _, h => by simp [Sh.oks] at h
 | _ :: _, [], _, _, h => by simp [Sh.oks] at h
mutual
theorem trod_item : ∀ (sh : Sh) {t : TypeId} {fuel : Nat} {cs : List Value} {x : DataW H × List MemPlace}, sh.ok P t = true → DataW.trod enc P w base (fun _ => sp 0) held fuel t cs = some x →
 ∃ y, RepI (Ds w) y cs ∧ Fits sh y
 | .int k, t, fuel, cs, x, ho, h => by
   simp only [Sh.ok] at ho
   split at ho
   · rename_i k' ht
     rw [beq_iff_eq] at ho
     subst ho
     obtain ⟨n, rfl, _, hw⟩ := DataW.trod_int ht h
     exact ⟨.int k n, by simp [RepI], n, rfl, hw⟩
   · cases ho
 | .bool, t, fuel, cs, x, ho, h => by
   simp only [Sh.ok] at ho
   split at ho
   · rename_i ht
     obtain ⟨b, rfl, _⟩ := DataW.trod_bool ht h
     exact ⟨.bool b, by simp [RepI], b, rfl⟩
   · cases ho
 | .str, t, fuel, cs, x, ho, h => by
   simp only [Sh.ok] at ho
   split at ho
   · rename_i ht
     obtain ⟨s, rfl, _, hs⟩ := DataW.trod_string ht h
     obtain ⟨⟨s⟩⟩ := s
     exact ⟨.str s, by simp only [RepI]; exact ⟨trivial, hs⟩, s, rfl⟩
   · cases ho
 | .st l, t, fuel, cs, x, ho, h => by
   simp only [Sh.ok] at ho
   split at ho
   · rename_i fs ht
     cases fuel with
     | zero => simp [DataW.trod] at h
     | succ fuel =>
       simp only [DataW.trod, ht] at h
       split at h
       · rename_i hl
         obtain ⟨xs, h1, _⟩ := Option.map_eq_some_iff.1 h
         obtain ⟨ys, h2, h3⟩ := trod_items l (off := 0) ho h1
         refine ⟨.agg ys, ?_, ys, rfl, h3⟩
         simp only [RepI]
         simpa [← hl] using h2
       · cases h
   · cases ho
 | .sl sz e, t, fuel, cs, x, ho, h => by
   simp only [Sh.ok] at ho
   split at ho
   · rename_i e' ht
     simp only [Bool.and_eq_true, beq_iff_eq, bne_iff_ne, ne_eq] at ho
     obtain ⟨⟨hsz, hz⟩, he⟩ := ho
     rcases open_slice ht h with ⟨rfl, _⟩ | ⟨a, len, cap, m, n, D, Pl, rfl, _, hlc, hcm, hm, _, hx⟩
     · exact ⟨.list [], by simp only [RepI]; exact ⟨none, 0, rfl, Nat.le_refl _, Nat.zero_le _, .inl trivial⟩, [], rfl, by simp⟩
     · by_cases h0 : len = 0
       · subst h0
         exact ⟨.list [], by simp only [RepI]; exact ⟨some a, cap, rfl, Nat.zero_le _, hcm, .inl trivial⟩, [], rfl, by simp⟩
       · have hmm : len ≤ m := by subst hm; split <;> omega
         have hrow : ∀ i, i < len → ∃ cs' y, w.cells? base (a.add (i * sz)) sz = some cs' ∧ RepI (Ds w) y cs' ∧ Fits e y ∧ y.size = sz := by
          intro i hi
          obtain ⟨cs', g1, g2⟩ := hx i (by omega)
          obtain ⟨y, g3, g4⟩ := trod_item e he g2
          rw [hsz] at g1
          have hlen := (World.cells?_some g1).2.1
          exact ⟨cs', y, g1, g3, g4, by rw [← RepI.length _ _ g3, hlen]⟩
         obtain ⟨cs0, _, c1, _⟩ := hrow 0 (by omega)
         rw [Nat.zero_mul, show a.add 0 = a by simp [Addr.add]] at c1
         obtain ⟨bl, ty, fz, ha, hb, hs0, _⟩ := X4 c1 (by omega)
         have hat : ∀ i, i < len → a.off + i * sz + sz ≤ bl.size ∧ ∃ y, RepI (Ds w) y (((bl.toList.drop a.off).drop (i * sz)).take sz) ∧ Fits e y ∧ y.size = sz := by
          intro i hi
          obtain ⟨cs', y, g1, g2, g3, g4⟩ := hrow i hi
          obtain ⟨bl', ty', fz', k1, k2, k3, k4⟩ := X4 g1 (by omega)
          have e1 : (a.add (i * sz)).block = a.block := by unfold Addr.add; split <;> rfl
          have e2 : (a.add (i * sz)).off = a.off + i * sz := by unfold Addr.add; split <;> rename_i hh <;> simp [hh]
          rw [e1, hb] at k2
          cases k2
          rw [e2] at k3 k4
          refine ⟨k3, y, ?_, g3, g4⟩
          rw [List.drop_drop, k4]
          exact g2
         have hlast := (hat (len - 1) (by omega)).1
         have hmul : (len - 1) * sz + sz = len * sz := by
          obtain ⟨q, rfl⟩ : ∃ q, len = q + 1 := ⟨len - 1, by omega⟩
          rw [Nat.add_sub_cancel, Nat.add_mul, Nat.one_mul]
         obtain ⟨xs, x1, x2, x3⟩ := RepIs.of_rows (G := Ds w) (sz := sz) (n := len) (cells := bl.toList.drop a.off) (p := fun y => Fits e y ∧ y.size = sz) (by simp; omega) fun i hi => (hat i hi).2
         refine ⟨.list xs, ?_, xs, rfl, x3⟩
         simp only [RepI]
         refine ⟨some a, cap, by rw [x1], by omega, hcm, .inr ⟨a.block, a.off, bl, ty, fz, sz, by rw [← ha], hb, fun y hy => (x3 y hy).2, by rw [x1]; omega, by rw [x1]; exact x2⟩⟩
   · cases ho
 | .ar sz n e, t, fuel, cs, x, ho, h => by
   simp only [Sh.ok] at ho
   split at ho
   · rename_i m e' ht
     simp only [Bool.and_eq_true, beq_iff_eq] at ho
     obtain ⟨⟨⟨hsz, rfl⟩, htot⟩, he⟩ := ho
     obtain ⟨xs, fu, rfl, _, hl, hxl, hx⟩ := DataW.trod_array ht h
     rw [htot] at hl
     rw [hsz] at hx
     obtain ⟨ys, y1, y2, y3⟩ := RepIs.of_rows (G := Ds w) (sz := sz) (n := m) (cells := cs) (p := fun y => Fits e y ∧ y.size = sz) (by omega) fun i hi => by
      obtain ⟨d, hd⟩ : ∃ d, xs[i]? = some d := ⟨_, List.getElem?_eq_getElem (by omega)⟩
      have h1 := hx i hi
      rw [hd] at h1
      obtain ⟨y, g1, g2⟩ := trod_item e he h1
      refine ⟨y, g1, g2, ?_⟩
      rw [← RepI.length _ _ g1, List.length_take, List.length_drop]
      have : (i + 1) * sz ≤ m * sz := Nat.mul_le_mul_right _ (by omega)
      rw [Nat.add_mul, Nat.one_mul] at this
      omega
     refine ⟨.arr sz ys, ?_, ys, rfl, y1, y3⟩
     rw [List.take_of_length_le (by omega)] at y2
     simp only [RepI]
     exact ⟨y2, fun y hy => (y3 y hy).2⟩
   · cases ho
theorem trod_items : ∀ (l : List Sh) {fs : List Field} {off tot fuel : Nat} {cs : List Value} {xs : List (DataW H × List MemPlace)}, Sh.oks P off tot fs l = true →
 (fs.mapM fun f => DataW.trod enc P w base (fun _ => sp 0) held fuel f.type ((cs.drop f.offset).take (P.cellsOf f.type))) = some xs → ∃ ys, RepIs (Ds w) ys ((cs.take tot).drop off) ∧ FitsL l ys
 | [], fs, off, tot, fuel, cs, xs, ho, h => by
   cases fs with
   | nil =>
     simp only [Sh.oks, beq_iff_eq] at ho
     subst ho
     exact ⟨[], by simp [RepIs], rfl⟩
   | cons f fs => simp [Sh.oks] at ho
 | s :: l, fs, off, tot, fuel, cs, xs, ho, h => by
   cases fs with
   | nil => simp [Sh.oks] at ho
   | cons f fs =>
     simp only [Sh.oks, Bool.and_eq_true, beq_iff_eq] at ho
     obtain ⟨⟨rfl, h1⟩, h2⟩ := ho
     simp only [List.mapM_cons] at h
     obtain ⟨y, g1, g2⟩ := Option.bind_eq_some_iff.1 h
     obtain ⟨z, g3, g4⟩ := Option.bind_eq_some_iff.1 g2
     obtain ⟨u, g5, g6⟩ := trod_item s h1 g1
     obtain ⟨us, g7, g8⟩ := trod_items l (cs := cs) h2 g3
     refine ⟨u :: us, ?_, u, us, rfl, g6, g8⟩
     simp only [RepIs]
     have hle := Aip h2
     refine ⟨_, _, ?_, g5, g7⟩
     have e1 : (cs.drop f.offset).take (P.cellsOf f.type) = ((cs.take tot).drop f.offset).take (P.cellsOf f.type) := by
      rw [List.drop_take, List.take_take, Nat.min_eq_left (by omega)]
     rw [e1, ← List.drop_drop, List.take_append_drop]
end
end
end Go.Ab
