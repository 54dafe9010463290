/- Lemmas for the last text. -/
import Derived.Test.YtgcccllpegilnaaGreatDoorH1
set_option linter.unusedVariables false
set_option linter.unusedSimpArgs false
set_option maxRecDepth 100000
set_option maxHeartbeats 8000000
namespace Go.Ab
open Go.Proofs
abbrev byD (l : Ad) : List D := (l.map A3).map D.it
def ee (e n : Nat) : Nat := if n = 0 then e else if e < 1000000 then e + 1000000 else e
theorem Aes (e n : Nat) : (if ee e n < 1000000 then ee e n + 1000000 else ee e n) = ee e (n + 1) := by
 unfold ee; by_cases h : n = 0 <;> by_cases g : e < 1000000 <;> simp [h, g] <;> omega
def addN (x y : H8) (j : Nat) : H8 := ⟨if 0 < j then B0 (x.a + y.a) else x.a, if 1 < j then B0 (x.b + y.b) else x.b, if 2 < j then B0 (x.c + y.c) else x.c, if 3 < j then B0 (x.d + y.d) else x.d,
 if 4 < j then B0 (x.e + y.e) else x.e, if 5 < j then B0 (x.f + y.f) else x.f, if 6 < j then B0 (x.g + y.g) else x.g, if 7 < j then B0 (x.i + y.i) else x.i⟩
def Strm.write (s : Strm) (t : Ad) : Strm :=
 let n := (s.rest ++ t).length / 64
 ⟨Ay s.w (s.rest ++ t) n, ee s.e n, (s.rest ++ t).drop (64 * n), IntKind.u64.wrap (s.size + IntKind.u64.wrap (t.length : Int))⟩
set_option pp.maxSteps 100000 in
set_option pp.deepTerms true in
theorem Agk (s : Strm) (tx : Ad) (he : s.e < 1000000 → s.e = 5) (hl : s.rest.length + tx.length ≤ 100000000) :
 Fn Tryz.prog Hs [.own [] (Strm.toD s), .v (.str tx)] (Is (resD []) [.own [] (s.write tx).toD, .no]) := by
 refine N3 ?_ (by simp)
 unfold Strm.write
 obtain ⟨w, e, rest, size⟩ := s
 simp only at he hl ⊢
 have e1 : ((rest.map A3).length + (tx.map A3).length) * 1 ≤ 140737488355328 := by simp only [List.length_map]; omega
 have e2 : (rest.map A3).length + (tx.map A3).length ≤ maxLen := by simp only [List.length_map, maxLen]; omega
 repeat' ((conv => whnf); first | (refine aI (fun hb => ?_) (fun hb => ?_) <;>first | exact absurd hb (by decide) | ((try rw [hb]); (try simp only [Ac] at hb))) | (refine eI ?_ ?_; focus (and_intros <;> first | omega | exact rfl | exact size_map (fun _ => rfl) | (simp; done))) | (intro hfact) | ((try dsimp only); rw [Fg]))
 all_goals (try (conv => whnf))
 have hBl : (rest ++ tx).length = rest.length + tx.length := List.length_append
 rw [← hBl] at hl
 rw [show List.map A3 rest ++ List.map A3 tx = List.map A3 (rest ++ tx) from List.map_append.symm]
 obtain ⟨B, hB⟩ : ∃ B, B = rest ++ tx := ⟨_, rfl⟩
 rw [← hB] at hBl hl ⊢
 obtain ⟨z, hz⟩ : ∃ z, z = IntKind.u64.wrap (size + IntKind.u64.wrap (tx.length : Int)) := ⟨_, rfl⟩
 rw [← hz]
 clear e1 e2 hB hz
 refine LoopWq.by (X := Nat) (fun n => [(48, .own [] (Strm.toD ⟨Ay w B n, ee e n, B.drop (64 * n), z⟩))]) (fun n => 64 * n ≤ B.length) (fun n => B.length - 64 * n)
  0 (by kernel_rfl) (by omega) ?_
 intro n hn
 obtain ⟨R, hR⟩ : ∃ R, R = B.drop (64 * n) := ⟨_, rfl⟩
 have hRl : R.length = B.length - 64 * n := by rw [hR, List.length_drop]
 rw [← hR]
 by_cases hnN : 64 ≤ R.length
 case neg =>
  have hlt : ¬ decide ((64 : Int) ≤ ((R.map A3).length : Int)) = true := by simp; omega
  repeat' ((conv => whnf); first | (refine aI (fun hb => ?_) (fun hb => ?_) <;>first | (exfalso; simp only [Am] at hb <;> omega) | ((try rw [hb]); (try simp only [Ac] at hb))) | (refine eI ?_ ?_; focus (and_intros <;> first | omega | exact rfl | (simp; done))) | (intro hfact))
  all_goals (try (conv => whnf))
  have hn' : n = B.length / 64 := by omega
  subst hn'
  rw [← hR]
  exact Done.mk ⟨by kernel_rfl, by kernel_rfl⟩ (by kernel_rfl)
 have hlt : ¬ decide ((64 : Int) ≤ ((R.map A3).length : Int)) = false := by simp; omega
 repeat' ((conv => whnf); first | (refine aI (fun hb => ?_) (fun hb => ?_) <;>first | (exfalso; simp only [Am] at hb <;> omega) | ((try rw [hb]); (try simp only [Ac] at hb))) | (refine eI ?_ ?_; focus (and_intros <;> first | omega | exact rfl | (simp only [Am]; omega) | (simp; done))) | (intro hfact) | ((with_reducible apply Drawn.by0); (focus kernel_rfl); intro hfact; (try simp only [List.mem_append, List.mem_cons, List.not_mem_nil, or_false, false_or, or_assoc, forall_eq_or_imp, forall_eq, false_implies, implies_true, forall_const, and_true, true_and] at hfact)))
 all_goals (try (conv => whnf))
 refine Hu ?_ (by decide)
 (conv => whnf)
 all_goals (try (conv => whnf))
 refine LoopWq.by (X := Nat) (fun i => [(4, .box (.one (.i (u32s (padW (sched B (64 * n) i)))))), (17, .v (.int .i64 i))]) (fun i => i ≤ 16) (fun i => 16 - i)
  0 (by kernel_rfl) (by omega) ?_
 intro i hi
 by_cases hi16 : i < 16
 case pos =>
  have hlt1 : ¬ decide ((i : Int) < 16) = false := by simp; omega
  have w0 : IntKind.i64.wrap (4 * (i : Int)) = ((4 * i : Nat) : Int) := by
   rw [show 4 * (i : Int) = ((4 * i : Nat) : Int) by omega]; exact Bj (by omega)
  have w1 : IntKind.i64.wrap (((4 * i : Nat) : Int) + 1) = ((4 * i + 1 : Nat) : Int) := by
   rw [show ((4 * i : Nat) : Int) + 1 = ((4 * i + 1 : Nat) : Int) by omega]; exact Bj (by omega)
  have w2 : IntKind.i64.wrap (((4 * i : Nat) : Int) + 2) = ((4 * i + 2 : Nat) : Int) := by
   rw [show ((4 * i : Nat) : Int) + 2 = ((4 * i + 2 : Nat) : Int) by omega]; exact Bj (by omega)
  have w3 : IntKind.i64.wrap (((4 * i : Nat) : Int) + 3) = ((4 * i + 3 : Nat) : Int) := by
   rw [show ((4 * i : Nat) : Int) + 3 = ((4 * i + 3 : Nat) : Int) by omega]; exact Bj (by omega)
  have g : ∀ k : Nat, k < 64 → (List.map D.it (List.map A3 R))[Int.toNat 0 + Int.toNat (k : Int)]? = some (.it (.int .u8 (B5 B (64 * n + k)))) := fun k hk => by
   obtain ⟨b, hb⟩ : ∃ b, R[k]? = some b := ⟨_, List.getElem?_eq_getElem (by omega)⟩
   have hb' : B[64 * n + k]? = some b := by rw [← hb, hR, List.getElem?_drop]
   rw [Int.toNat_natCast, show Int.toNat 0 + k = k by simp, List.getElem?_map, List.getElem?_map, hb, B5, List.getD_eq_getElem?_getD, hb']
   rfl
  have gD : ∀ (k : Nat) (_ : k < 64) (h8 : H8) (e' : Nat), D.at [0, 1, Int.toNat 0 + Int.toNat (k : Int)] (Strm.toD ⟨h8, e', R, z⟩) = some (.it (.int .u8 (B5 B (64 * n + k)))) := fun k hk h8 e' => by
   show (match (List.map D.it (List.map A3 R))[Int.toNat 0 + Int.toNat (k : Int)]? with | some y => D.at [] y | none => none) = _
   rw [g k hk]
   rfl
  have hsl := Dm B (64 * n) i
  obtain ⟨v0, hv0⟩ : ∃ v0, (padW (sched B (64 * n) i))[i]? = some v0 := ⟨_, List.getElem?_eq_getElem (by rw [Jd (by omega)]; omega)⟩
  have hh := C6 hv0
  have hp := R9 hv0
  repeat' ((conv => whnf); first | (refine aI (fun hb => ?_) (fun hb => ?_) <;>first | exact absurd hb (by assumption) | ((try rw [hb]); (try simp only [Ac] at hb))) | (refine eI ?_ ?_; focus (and_intros <;> first | omega | exact rfl | (simp; done))) | ((with_reducible apply Drawn.by0); (focus kernel_rfl); intro hfact; (try simp only [List.mem_append, List.mem_cons, List.not_mem_nil, or_false, false_or, or_assoc, forall_eq_or_imp, forall_eq, false_implies, implies_true, forall_const, and_true, true_and] at hfact)) | ((try dsimp only); rw [w0]) | ((try dsimp only); rw [w1]) | ((try dsimp only); rw [w2]) | ((try dsimp only); rw [w3]) | (refine Bv rfl (gD _ (by omega) _ _) rfl ?_) | ((try dsimp only); rw [hh]))
  all_goals (try (conv => whnf))
  have hset : padW (sched B (64 * n) (i + 1)) = (padW (sched B (64 * n) i)).set i (Ui B (64 * n + 4 * i)) := by
   rw [sched, if_pos hi16, ← Abr, ← P3 (by rw [hsl]; omega), hsl]
  refine Round.by (i + 1) ?_ (by omega) (by omega)
  rw [Ah hi16 (by simp only [maxLen]; omega), hset, hp]
  show norm _ _ = upd _ _
  kernel_rfl
 have hlt1 : ¬ decide ((i : Int) < 16) = true := by simp; omega
 have hi' : i = 16 := by omega
 subst hi'
 clear hlt1 hi hi16
 repeat' ((conv => whnf); (refine aI (fun hb => ?_) (fun hb => ?_) <;>first | exact absurd hb (by decide) | ((try rw [hb]); (try simp only [Ac] at hb))))
 all_goals (try (conv => whnf))
 refine LoopWq.by (X := Nat) (fun t => [(4, .box (.one (.i (u32s (padW (sched B (64 * n) t)))))), (6, .v (.int .i64 t))]) (fun t => 16 ≤ t ∧ t ≤ 64) (fun t => 64 - t)
  16 (by kernel_rfl) (by omega) ?_
 rintro t ⟨ht1, ht2⟩
 by_cases ht64 : t < 64
 case pos =>
  have hlt1 : ¬ decide ((t : Int) < 64) = false := by simp; omega
  have hsl := Dm B (64 * n) t
  have hset : padW (sched B (64 * n) (t + 1)) = (padW (sched B (64 * n) t)).set t (extI (sched B (64 * n) t) t) := by
   rw [sched, if_neg (by omega), ← P3 (by rw [hsl]; omega), hsl]
  rw [← Ae3] at hset
  obtain ⟨w, hw⟩ : ∃ w, w = sched B (64 * n) t := ⟨_, rfl⟩
  rw [← hw] at hsl hset ⊢
  have g : ∀ j, j < t → w[j]? = some (wAt w j) := fun j hj => by
   rw [wAt, List.getD_eq_getElem?_getD, List.getElem?_eq_getElem (by omega)]; rfl
  have hwr : ∀ j : Nat, j ≤ t → IntKind.i64.wrap ((t : Int) - (j : Int)) = ((t - j : Nat) : Int) := fun j hj => by
   rw [show (t : Int) - (j : Int) = ((t - j : Nat) : Int) by omega]; exact Bj (by omega)
  have w2 : IntKind.i64.wrap ((t : Int) - 2) = ((t - 2 : Nat) : Int) := hwr 2 (by omega)
  have w7 : IntKind.i64.wrap ((t : Int) - 7) = ((t - 7 : Nat) : Int) := hwr 7 (by omega)
  have w15 : IntKind.i64.wrap ((t : Int) - 15) = ((t - 15 : Nat) : Int) := hwr 15 (by omega)
  have w16 : IntKind.i64.wrap ((t : Int) - 16) = ((t - 16 : Nat) : Int) := hwr 16 (by omega)
  have h2 := C6 (E1 (g (t - 2) (by omega)))
  have h7 := C6 (E1 (g (t - 7) (by omega)))
  have h15 := C6 (E1 (g (t - 15) (by omega)))
  have h16 := C6 (E1 (g (t - 16) (by omega)))
  obtain ⟨v0, hv0⟩ : ∃ v0, (padW w)[t]? = some v0 := ⟨_, List.getElem?_eq_getElem (by rw [Jd (by omega)]; omega)⟩
  have hh := C6 hv0
  have hp := R9 hv0
  repeat' ((conv => whnf); first | (refine aI (fun hb => ?_) (fun hb => ?_) <;>first | exact absurd hb (by assumption) | ((try rw [hb]); (try simp only [Ac] at hb))) | (refine eI ?_ ?_; focus (and_intros <;> first | omega | exact rfl | (intro _ hh; cases hh; done) | (simp; done) | decide)) | ((with_reducible apply Drawn.by0); (focus kernel_rfl); intro hfact; (try simp only [List.mem_append, List.mem_cons, List.not_mem_nil, or_false, false_or, or_assoc, forall_eq_or_imp, forall_eq, false_implies, implies_true, forall_const, and_true, true_and] at hfact)) | ((try dsimp only); rw [w2]) | ((try dsimp only); rw [w7]) | ((try dsimp only); rw [w15]) | ((try dsimp only); rw [w16]) | ((try dsimp only); rw [h2]) | ((try dsimp only); rw [h7]) | ((try dsimp only); rw [h15]) | ((try dsimp only); rw [h16]) | ((try dsimp only); rw [hh]) | (refine CallWp.mk ⟨_, Bq _ (-7) 7, ?_⟩; rintro _ _ ⟨rfl, rfl⟩) | (refine CallWp.mk ⟨_, Bq _ (-18) 18, ?_⟩; rintro _ _ ⟨rfl, rfl⟩) | (refine CallWp.mk ⟨_, Bq _ (-17) 17, ?_⟩; rintro _ _ ⟨rfl, rfl⟩) | (refine CallWp.mk ⟨_, Bq _ (-19) 19, ?_⟩; rintro _ _ ⟨rfl, rfl⟩))
  all_goals (try (conv => whnf))
  refine Round.by (t + 1) ?_ ⟨by omega, ht64⟩ (by omega)
  rw [Ah ht64 (by simp only [maxLen]; omega), hset, hp]
  show norm _ _ = upd _ _
  kernel_rfl
 have hlt1 : ¬ decide ((t : Int) < 64) = true := by simp; omega
 have ht' : t = 64 := by omega
 subst ht'
 have hsl := Dm B (64 * n) 64
 have hpd : padW (sched B (64 * n) 64) = sched B (64 * n) 64 := by rw [padW, hsl]; exact List.append_nil _
 rw [hpd]
 have hnext : Ay w B (n + 1) = addH (Ay w B n) (rnds (sched B (64 * n) 64) (Ay w B n) 64) := rfl
 obtain ⟨W, hW⟩ : ∃ W, W = sched B (64 * n) 64 := ⟨_, rfl⟩
 rw [← hW] at hsl hnext ⊢
 obtain ⟨H, hH⟩ : ∃ H, H = Ay w B n := ⟨_, rfl⟩
 rw [← hH] at hnext ⊢
 clear hpd hlt1 ht1 ht2 ht64
 repeat' ((conv => whnf); first | (refine aI (fun hb => ?_) (fun hb => ?_) <;>first | exact absurd hb (by decide) | ((try rw [hb]); (try simp only [Ac] at hb))) | (refine eI ?_ ?_; focus (and_intros <;> first | omega | exact rfl | (intro _ hh; cases hh; done) | (simp; done) | decide)) | (refine CallWp.mk ⟨_, Re, ?_⟩; rintro _ _ ⟨rfl, rfl⟩))
 all_goals (try (conv => whnf))
 refine LoopWq.by (X := Nat) (fun t => [(9, .box (.one (.i (u32s (rnds W H t).l)))), (103, .v (.int .i64 t))]) (fun t => t ≤ 64) (fun t => 64 - t)
  0 (by kernel_rfl) (by omega) ?_
 intro t ht
 by_cases ht64 : t < 64
 case pos =>
  have hlt1 : ¬ decide ((t : Int) < 64) = false := by simp; omega
  have hgk : kays[t]? = some (wAt kays t) := by
   rw [wAt, List.getD_eq_getElem?_getD, List.getElem?_eq_getElem (show t < kays.length from ht64)]; rfl
  have hgw : W[t]? = some (wAt W t) := by
   rw [wAt, List.getD_eq_getElem?_getD, List.getElem?_eq_getElem (by omega)]; rfl
  have hh := C6 hgw
  have hr : rnds W H (t + 1) = rnd (rnds W H t) (wAt kays t) (wAt W t) := rfl
  obtain ⟨Q, hQ⟩ : ∃ R, R = rnds W H t := ⟨_, rfl⟩
  rw [← hQ] at hr ⊢
  obtain ⟨kt, hkt⟩ : ∃ k, k = wAt kays t := ⟨_, rfl⟩
  rw [← hkt] at hr hgk
  obtain ⟨wt, hwt⟩ : ∃ k, k = wAt W t := ⟨_, rfl⟩
  rw [← hwt] at hr hh
  clear hQ hkt hwt
  repeat' ((conv => whnf); first | (refine aI (fun hb => ?_) (fun hb => ?_) <;>first | exact absurd hb (by assumption) | ((try rw [hb]); (try simp only [Ac] at hb))) | (refine eI ?_ ?_; focus (and_intros <;> first | omega | exact rfl | (intro _ hh; cases hh; done) | exact Bs (by rfl) | (simp; done) | decide)) | ((with_reducible apply Drawn.by0); (focus kernel_rfl); intro hfact; (try simp only [List.mem_append, List.mem_cons, List.not_mem_nil, or_false, false_or, or_assoc, forall_eq_or_imp, forall_eq, false_implies, implies_true, forall_const, and_true, true_and] at hfact)) | ((try dsimp only); first | rw [An hgk] | rw [Aj hgk] | rw [Ai hgk]) | ((try dsimp only); rw [hh]) | (refine CallIs.mk ⟨_, _, Bq _ (-6) 6, ?_⟩) | (refine CallIs.mk ⟨_, _, Bq _ (-11) 11, ?_⟩) | (refine CallIs.mk ⟨_, _, Bq _ (-25) 25, ?_⟩) | (refine CallIs.mk ⟨_, _, Bq _ (-2) 2, ?_⟩) | (refine CallIs.mk ⟨_, _, Bq _ (-13) 13, ?_⟩) | (refine CallIs.mk ⟨_, _, Bq _ (-22) 22, ?_⟩))
  all_goals (try (conv => whnf))
  refine Round.by (t + 1) ?_ (by omega) (by omega)
  rw [Ah ht64 (by simp only [maxLen]; omega), hr]
  show norm _ _ = upd _ _
  kernel_rfl
 have hlt1 : ¬ decide ((t : Int) < 64) = true := by simp; omega
 have ht' : t = 64 := by omega
 subst ht'
 clear hlt1 ht ht64
 obtain ⟨Q, hQ⟩ : ∃ R, R = rnds W H 64 := ⟨_, rfl⟩
 rw [← hQ] at hnext ⊢
 repeat' ((conv => whnf); (refine aI (fun hb => ?_) (fun hb => ?_) <;>first | exact absurd hb (by decide) | ((try rw [hb]); (try simp only [Ac] at hb))))
 all_goals (try (conv => whnf))
 refine LoopWq.by (X := Nat) (fun j => [(245, .own [] (Strm.toD ⟨addN H Q j, ee e n, R, z⟩)), (182, .v (.int .i64 j))]) (fun j => j ≤ 8) (fun j => 8 - j)
  0 (by kernel_rfl) (by omega) ?_
 intro j hj
 by_cases hj8 : j < 8
 case pos =>
  have hj' : j = 0 ∨ j = 1 ∨ j = 2 ∨ j = 3 ∨ j = 4 ∨ j = 5 ∨ j = 6 ∨ j = 7 := by omega
  clear hj hj8
  rcases hj' with rfl | rfl | rfl | rfl | rfl | rfl | rfl | rfl
  · repeat' ((conv => whnf); first | (refine aI (fun hb => ?_) (fun hb => ?_) <;>first | exact absurd hb (by decide) | ((try rw [hb]); (try simp only [Ac] at hb))) | (refine eI ?_ ?_; focus (and_intros <;> first | omega | exact rfl | (simp; done))) | ((with_reducible apply Drawn.by0); (focus kernel_rfl); intro hfact; (try simp only [List.mem_append, List.mem_cons, List.not_mem_nil, or_false, false_or, or_assoc, forall_eq_or_imp, forall_eq, false_implies, implies_true, forall_const, and_true, true_and] at hfact)) | ((refine Exists.intro ⟨by omega, by omega, (show (_ : Nat) < 8 from by omega), rfl, by simp⟩ ?_)))
    all_goals (try (conv => whnf))
    refine Round.by 1 ?_ (by omega) (by omega)
    show norm _ _ = upd _ _
    kernel_rfl
  · repeat' ((conv => whnf); first | (refine aI (fun hb => ?_) (fun hb => ?_) <;>first | exact absurd hb (by decide) | ((try rw [hb]); (try simp only [Ac] at hb))) | (refine eI ?_ ?_; focus (and_intros <;> first | omega | exact rfl | (simp; done))) | ((with_reducible apply Drawn.by0); (focus kernel_rfl); intro hfact; (try simp only [List.mem_append, List.mem_cons, List.not_mem_nil, or_false, false_or, or_assoc, forall_eq_or_imp, forall_eq, false_implies, implies_true, forall_const, and_true, true_and] at hfact)) | ((refine Exists.intro ⟨by omega, by omega, (show (_ : Nat) < 8 from by omega), rfl, by simp⟩ ?_)))
    all_goals (try (conv => whnf))
    refine Round.by 2 ?_ (by omega) (by omega)
    show norm _ _ = upd _ _
    kernel_rfl
  · repeat' ((conv => whnf); first | (refine aI (fun hb => ?_) (fun hb => ?_) <;>first | exact absurd hb (by decide) | ((try rw [hb]); (try simp only [Ac] at hb))) | (refine eI ?_ ?_; focus (and_intros <;> first | omega | exact rfl | (simp; done))) | ((with_reducible apply Drawn.by0); (focus kernel_rfl); intro hfact; (try simp only [List.mem_append, List.mem_cons, List.not_mem_nil, or_false, false_or, or_assoc, forall_eq_or_imp, forall_eq, false_implies, implies_true, forall_const, and_true, true_and] at hfact)) | ((refine Exists.intro ⟨by omega, by omega, (show (_ : Nat) < 8 from by omega), rfl, by simp⟩ ?_)))
    all_goals (try (conv => whnf))
    refine Round.by 3 ?_ (by omega) (by omega)
    show norm _ _ = upd _ _
    kernel_rfl
  · repeat' ((conv => whnf); first | (refine aI (fun hb => ?_) (fun hb => ?_) <;>first | exact absurd hb (by decide) | ((try rw [hb]); (try simp only [Ac] at hb))) | (refine eI ?_ ?_; focus (and_intros <;> first | omega | exact rfl | (simp; done))) | ((with_reducible apply Drawn.by0); (focus kernel_rfl); intro hfact; (try simp only [List.mem_append, List.mem_cons, List.not_mem_nil, or_false, false_or, or_assoc, forall_eq_or_imp, forall_eq, false_implies, implies_true, forall_const, and_true, true_and] at hfact)) | ((refine Exists.intro ⟨by omega, by omega, (show (_ : Nat) < 8 from by omega), rfl, by simp⟩ ?_)))
    all_goals (try (conv => whnf))
    refine Round.by 4 ?_ (by omega) (by omega)
    show norm _ _ = upd _ _
    kernel_rfl
  · repeat' ((conv => whnf); first | (refine aI (fun hb => ?_) (fun hb => ?_) <;>first | exact absurd hb (by decide) | ((try rw [hb]); (try simp only [Ac] at hb))) | (refine eI ?_ ?_; focus (and_intros <;> first | omega | exact rfl | (simp; done))) | ((with_reducible apply Drawn.by0); (focus kernel_rfl); intro hfact; (try simp only [List.mem_append, List.mem_cons, List.not_mem_nil, or_false, false_or, or_assoc, forall_eq_or_imp, forall_eq, false_implies, implies_true, forall_const, and_true, true_and] at hfact)) | ((refine Exists.intro ⟨by omega, by omega, (show (_ : Nat) < 8 from by omega), rfl, by simp⟩ ?_)))
    all_goals (try (conv => whnf))
    refine Round.by 5 ?_ (by omega) (by omega)
    show norm _ _ = upd _ _
    kernel_rfl
  · repeat' ((conv => whnf); first | (refine aI (fun hb => ?_) (fun hb => ?_) <;>first | exact absurd hb (by decide) | ((try rw [hb]); (try simp only [Ac] at hb))) | (refine eI ?_ ?_; focus (and_intros <;> first | omega | exact rfl | (simp; done))) | ((with_reducible apply Drawn.by0); (focus kernel_rfl); intro hfact; (try simp only [List.mem_append, List.mem_cons, List.not_mem_nil, or_false, false_or, or_assoc, forall_eq_or_imp, forall_eq, false_implies, implies_true, forall_const, and_true, true_and] at hfact)) | ((refine Exists.intro ⟨by omega, by omega, (show (_ : Nat) < 8 from by omega), rfl, by simp⟩ ?_)))
    all_goals (try (conv => whnf))
    refine Round.by 6 ?_ (by omega) (by omega)
    show norm _ _ = upd _ _
    kernel_rfl
  · repeat' ((conv => whnf); first | (refine aI (fun hb => ?_) (fun hb => ?_) <;>first | exact absurd hb (by decide) | ((try rw [hb]); (try simp only [Ac] at hb))) | (refine eI ?_ ?_; focus (and_intros <;> first | omega | exact rfl | (simp; done))) | ((with_reducible apply Drawn.by0); (focus kernel_rfl); intro hfact; (try simp only [List.mem_append, List.mem_cons, List.not_mem_nil, or_false, false_or, or_assoc, forall_eq_or_imp, forall_eq, false_implies, implies_true, forall_const, and_true, true_and] at hfact)) | ((refine Exists.intro ⟨by omega, by omega, (show (_ : Nat) < 8 from by omega), rfl, by simp⟩ ?_)))
    all_goals (try (conv => whnf))
    refine Round.by 7 ?_ (by omega) (by omega)
    show norm _ _ = upd _ _
    kernel_rfl
  · repeat' ((conv => whnf); first | (refine aI (fun hb => ?_) (fun hb => ?_) <;>first | exact absurd hb (by decide) | ((try rw [hb]); (try simp only [Ac] at hb))) | (refine eI ?_ ?_; focus (and_intros <;> first | omega | exact rfl | (simp; done))) | ((with_reducible apply Drawn.by0); (focus kernel_rfl); intro hfact; (try simp only [List.mem_append, List.mem_cons, List.not_mem_nil, or_false, false_or, or_assoc, forall_eq_or_imp, forall_eq, false_implies, implies_true, forall_const, and_true, true_and] at hfact)) | ((refine Exists.intro ⟨by omega, by omega, (show (_ : Nat) < 8 from by omega), rfl, by simp⟩ ?_)))
    all_goals (try (conv => whnf))
    refine Round.by 8 ?_ (by omega) (by omega)
    show norm _ _ = upd _ _
    kernel_rfl
 have hj' : j = 8 := by omega
 subst hj'
 clear hj hj8
 have hlt1 : ¬ decide ((8 : Int) < 8) = true := by simp
 have hadd : addN H Q 8 = addH H Q := rfl
 rw [hadd, ← hnext]
 have hee : (if ee e n < 1000000 then ee e n + 1000000 else ee e n) = ee e (n + 1) := Aes e n
 have hdr : List.drop (Int.toNat 64) (List.map A3 R) = List.map A3 (B.drop (64 * (n + 1))) := by
  rw [← List.map_drop, hR, List.drop_drop]
  congr 2
 repeat' ((conv => whnf); first | (refine aI (fun hb => ?_) (fun hb => ?_) <;>first | exact absurd hb (by assumption) | ((try rw [hb]); (try simp only [Ac] at hb))) | (refine eI ?_ ?_; focus (and_intros <;> first | omega | exact rfl | (simp only [Am]; omega) | (simp; done))) | ((try dsimp only); rw [Fg]) | ((try dsimp only); rw [hee]) | ((try dsimp only); rw [hdr]))
 all_goals (try (conv => whnf))
 refine Round.by (n + 1) ?_ (by omega) (by omega)
 show norm _ _ = upd _ _
 kernel_rfl

open Go.Proofs
def Strm.tail (s : Strm) : Ad := s.rest ++ [128] ++ List.replicate (zeros s.rest.length) 0 ++ numB (8 * s.size.toNat) 8
abbrev Strm.toDF (s : Strm) : D := .ptr (.it (.agg [u32s s.w.l, .list (s.rest.map A3), .int .u64 s.size]))
def Strm.digest (s : Strm) : Ad := outB (Ay s.w s.tail (s.tail.length / 64)) 8
theorem Tg : ∀ (k n j : Nat), j < k → (numB n k)[j]? = some (UInt8.ofNat (n / 256 ^ (k - 1 - j) % 256))
 | 0, _, _, h => by omega
 | k + 1, n, j, h => by
   rw [numB]
   by_cases hj : j < k
   · rw [List.getElem?_append_left (by rw [Bn]; exact hj), Tg k (n / 256) j hj, Nat.div_div_eq_div_mul, show k + 1 - 1 - j = (k - 1 - j) + 1 by omega, Nat.pow_succ, Nat.mul_comm]
   · obtain rfl : j = k := by omega
     rw [List.getElem?_append_right (by rw [Bn]; exact Nat.le_refl _), Bn]
     simp
theorem Aey (h : H8) (t : Nat) : (outB h t).length ≤ 4 * t := by
 unfold outB
 induction t with
 | zero => simp
 | succ t ih =>
   rw [List.take_add_one, List.flatMap_append, List.length_append]
   cases hx : h.l[t]? with
   | none => simp only [Option.toList_none, List.flatMap_nil, List.length_nil]; omega
   | some x => simp only [Option.toList_some, List.flatMap_cons, List.flatMap_nil, List.append_nil, Bn]; omega
theorem Aix {h : H8} {t : Nat} {x : Int} (hx : h.l[t]? = some x) : outB h (t + 1) = outB h t ++ numB x.toNat 4 := by
 unfold outB
 rw [List.take_add_one, List.flatMap_append, hx]
 simp
theorem Ano (x : Int) (h : 0 ≤ x ∧ x < 4294967296) : (numB x.toNat 4).map A3 = [I.int .u8 (IntKind.u8.wrap (shrI .u32 x 24)), I.int .u8 (IntKind.u8.wrap (shrI .u32 x 16)), I.int .u8 (IntKind.u8.wrap (shrI .u32 x 8)), I.int .u8 (IntKind.u8.wrap x)] := by
 obtain ⟨m, rfl⟩ : ∃ m : Nat, x = m := ⟨x.toNat, by omega⟩
 rw [Int.toNat_natCast]
 have hs : ∀ k : Nat, k ≤ 32 → shrI .u32 (m : Int) (k : Int) = ((m / 2 ^ k : Nat) : Int) := fun k hk => by
  show Int.fdiv (m : Int) (2 ^ (min (Int.toNat (k : Int)) 32)) = _
  rw [Int.toNat_natCast, Nat.min_eq_left hk]
  exact (show Int.fdiv (m : Int) ((2 ^ k : Nat) : Int) = _ from (Int.ofNat_fdiv _ _).symm)
 have s24 := hs 24 (by omega)
 have s16 := hs 16 (by omega)
 have s8 := hs 8 (by omega)
 rw [show ((24 : Nat) : Int) = 24 from rfl] at s24
 rw [show ((16 : Nat) : Int) = 16 from rfl] at s16
 rw [show ((8 : Nat) : Int) = 8 from rfl] at s8
 rw [s24, s16, s8]
 have hb : ∀ k : Nat, A3 (UInt8.ofNat (k % 256)) = I.int .u8 (IntKind.u8.wrap (k : Int)) := fun k => by
  unfold A3
  rw [wrap_u8, UInt8.toNat_ofNat']
  congr 1
  omega
 simp only [numB, List.nil_append, List.map_append, List.map_cons, List.map_nil, List.cons_append, hb]
 simp only [Nat.div_div_eq_div_mul]
theorem Jw : ∀ s : Ad, bytesOf (s.map A3) = some s
 | [] => rfl
 | b :: s => by simp [A3, bytesOf, Jw s]
theorem Ah7 (s : Strm) (hl : s.rest.length ≤ 100000) (hz : 0 ≤ s.size ∧ s.size ≤ 1000000000) :
 Fn Tryz.prog J2 [.own [] s.toD] (Is (.v (.str s.digest)) [.own [] s.toDF]) := by
 refine R3 ?_ (by simp)
 obtain ⟨w, e, rest, size⟩ := s
 simp only at hl hz ⊢
 repeat' ((conv => whnf); first | (refine aI (fun hb => ?_) (fun hb => ?_) <;>first | exact absurd hb (by decide) | ((try rw [hb]); (try simp only [Ac] at hb))) | (refine eI ?_ ?_; focus (and_intros <;> first | omega | exact rfl | exact Bs (by rfl) | exact size_map (fun _ => rfl) | (simp only [Am]; omega) | (simp; done))) | ((simp only [show D.at (0 :: [].append [1]) (Strm.toD ⟨w, e, rest, size⟩) = some (D.vec e 1 ((rest.map A3).map D.it)) from rfl, D.toI, Az])))
 all_goals (try (conv => whnf))
 have hE : ([] ++ List.map A3 rest ++ (List.replicate 1 (I.int IntKind.u8 0)).set 0 (I.int IntKind.u8 128)) = List.map A3 (rest ++ [128]) := by simp [A3]
 rw [hE]
 obtain ⟨n, hn⟩ : ∃ n, n = rest.length := ⟨_, rfl⟩
 have hzl : zeros n < 64 := by unfold zeros; omega
 refine LoopWq.by (X := Nat) (fun k => [(3, .own [] (.vec 5 1 (byD (rest ++ [128] ++ List.replicate k 0))))]) (fun k => k ≤ zeros n) (fun k => zeros n - k)
  0 (by rw [List.replicate_zero, List.append_nil]; kernel_rfl) (by omega) ?_
 intro k hk
 obtain ⟨E, hE2⟩ : ∃ E, E = rest ++ [128] ++ List.replicate k 0 := ⟨_, rfl⟩
 have hlen : E.length = n + 1 + k := by rw [hE2]; simp [hn]; omega
 have hm : ((byD E).length : Int).tmod 64 = ((n + 1 + k) % 64 : Nat) := by
  rw [show ((byD E).length : Int) = ((n + 1 + k : Nat) : Int) by simp [hlen]]
  rfl
 rw [← hE2]
 by_cases hk2 : k < zeros n
 case pos =>
  have hlt : ¬ (!decide (((byD E).length : Int).tmod 64 = 56)) = false := by
   rw [hm]; unfold zeros at hk2 hk; simp; omega
  have e1 : ((E.map A3).length + 1) * 1 ≤ 140737488355328 := by simp [hlen]; omega
  have e2 : (E.map A3).length + 1 ≤ maxLen := by simp [hlen, maxLen]; omega
  repeat' ((conv => whnf); first | (refine aI (fun hb => ?_) (fun hb => ?_) <;>first | exact absurd hb (by assumption) | ((try rw [hb]); (try simp only [Ac] at hb))) | (refine eI ?_ ?_; focus (and_intros <;> first | omega | exact rfl | assumption | exact Bs (by rfl) | (simp; done))) | (intro hfact) | ((try dsimp only); rw [Fg]))
  all_goals (try (conv => whnf))
  have hE3 : List.map A3 (rest ++ [128] ++ List.replicate (k + 1) 0) = List.map A3 E ++ (List.replicate 1 (I.int IntKind.u8 0)).set 0 (I.int IntKind.u8 0) := by
   rw [hE2, List.replicate_succ']; simp [A3]
  refine Round.by (k + 1) ?_ (by omega) (by omega)
  rw [show byD (rest ++ [128] ++ List.replicate (k + 1) 0) = List.map D.it _ from congrArg (List.map D.it) hE3]
  show norm _ _ = upd _ _
  kernel_rfl
 have hlt : ¬ (!decide (((byD E).length : Int).tmod 64 = 56)) = true := by
  rw [hm]; unfold zeros at hk2 hk; simp; omega
 obtain rfl : k = zeros n := by omega
 repeat' ((conv => whnf); first | (refine aI (fun hb => ?_) (fun hb => ?_) <;>first | exact absurd hb (by assumption) | ((try rw [hb]); (try simp only [Ac] at hb))) | (refine eI ?_ ?_; focus (and_intros <;> first | omega | exact rfl | (simp; done))) | (intro hfact))
 all_goals (try (conv => whnf))
 obtain ⟨M, hM⟩ : ∃ M, M = 8 * size.toNat := ⟨_, rfl⟩
 have hMs : IntKind.u64.wrap (size * 8) = (M : Int) := by rw [wrap_u64]; omega
 have hbt : ∀ j : Nat, j < 8 → IntKind.u8.wrap (shrI .u64 (IntKind.u64.wrap (size * 8)) (56 - 8 * (j : Int))) = ((UInt8.ofNat (M / 256 ^ (7 - j) % 256)).toNat : Int) := fun j hj => by
  rw [hMs]
  have h1 : (56 - 8 * (j : Int)).toNat = 8 * (7 - j) := by omega
  have h2 : shrI .u64 (M : Int) (56 - 8 * (j : Int)) = ((M / 256 ^ (7 - j) : Nat) : Int) := by
   unfold shrI
   rw [h1, Nat.min_eq_left (by show _ ≤ 64; omega), show (2 : Int) ^ (8 * (7 - j)) = ((256 ^ (7 - j) : Nat) : Int) by rw [show (256 : Nat) = 2 ^ 8 from rfl, ← Nat.pow_mul]; push_cast; rfl]
   exact (Int.ofNat_fdiv _ _).symm
  rw [h2, wrap_u8]
  have h3 : (UInt8.ofNat (M / 256 ^ (7 - j) % 256)).toNat = M / 256 ^ (7 - j) % 256 := by
   rw [UInt8.toNat_ofNat']; omega
  rw [h3]
  omega
 refine LoopWq.by (X := Nat) (fun j => [(3, .own [] (.vec 5 1 (byD (E ++ (numB M 8).take j)))), (4, .v (.int .i64 (56 - 8 * (j : Int))))]) (fun j => j ≤ 8) (fun j => 8 - j)
  0 (by rw [List.take_zero, List.append_nil]; kernel_rfl) (by omega) ?_
 intro j hj
 obtain ⟨F, hF⟩ : ∃ F, F = E ++ (numB M 8).take j := ⟨_, rfl⟩
 have hFl : F.length = n + 1 + zeros n + j := by rw [hF]; simp [hlen, Bn]; omega
 rw [← hF]
 by_cases hj8 : j < 8
 case pos =>
  have e1 : ((F.map A3).length + 1) * 1 ≤ 140737488355328 := by simp [hFl]; omega
  have e2 : (F.map A3).length + 1 ≤ maxLen := by simp [hFl, maxLen]; omega
  have hge : ¬ decide (56 - 8 * (j : Int) ≥ 0) = false := by simp; omega
  have hge' : ¬ decide ((0 : Int) ≤ 56 - 8 * (j : Int)) = false := by simp; omega
  have h0j : (0 : Int) ≤ 56 - 8 * (j : Int) := by omega
  repeat' ((conv => whnf); first | (refine aI (fun hb => ?_) (fun hb => ?_) <;>first | exact absurd hb (by assumption) | ((try rw [hb]); (try simp only [Ac] at hb))) | (refine eI ?_ ?_; focus (and_intros <;> first | omega | exact rfl | assumption | exact Bs (by rfl) | (simp; done))) | ((try dsimp only); rw [Fg]))
  all_goals (try (conv => whnf))
  have hF3 : List.map A3 (E ++ (numB M 8).take (j + 1)) = List.map A3 F ++ (List.replicate 1 (I.int IntKind.u8 0)).set 0 (I.int IntKind.u8 (IntKind.u8.wrap (shrI .u64 (IntKind.u64.wrap (size * 8)) (56 - 8 * (j : Int))))) := by
   rw [hbt j hj8, List.take_add_one, Tg 8 M j hj8, ← List.append_assoc, ← hF, List.map_append]
   rfl
  have hs4 : IntKind.i64.wrap (56 - 8 * (j : Int) - 8) = 56 - 8 * ((j + 1 : Nat) : Int) := by rw [IntKind.wrap_i64]; omega
  refine Round.by (j + 1) ?_ (by omega) (by omega)
  rw [hs4, show byD (E ++ (numB M 8).take (j + 1)) = List.map D.it _ from congrArg (List.map D.it) hF3]
  show norm _ _ = upd _ _
  kernel_rfl
 have hge : ¬ decide (56 - 8 * (j : Int) ≥ 0) = true := by simp; omega
 have hge' : ¬ decide ((0 : Int) ≤ 56 - 8 * (j : Int)) = true := by simp; omega
 obtain rfl : j = 8 := by omega
 repeat' ((conv => whnf); first | (refine aI (fun hb => ?_) (fun hb => ?_) <;>first | exact absurd hb (by assumption) | ((try rw [hb]); (try simp only [Ac] at hb))) | (refine eI ?_ ?_; focus (and_intros <;> first | omega | exact rfl | (simp; done))))
 all_goals (try (conv => whnf))
 obtain ⟨B, hB⟩ : ∃ B, B = F := ⟨_, rfl⟩
 have hBF : B = Strm.tail ⟨w, e, rest, size⟩ := by
  rw [hB, hF, hE2, hM, hn]
  simp only [Strm.tail]
  rw [List.take_of_length_le (by rw [Bn]; exact Nat.le_refl _)]
 have hBl : B.length = 64 * (B.length / 64) := by rw [hB, hFl]; unfold zeros; omega
 have hB64 : 64 ≤ B.length := by rw [hB, hFl]; unfold zeros; omega
 rw [← hB]
 unfold Strm.digest
 rw [← hBF]
 simp only
 clear hF hFl hB hE hn hzl hlt hk hE2 hlen hm hk2 hM hMs hbt hj hj8 hge hge' hz hl
 rw [show (I.arr 1 (List.replicate 8 (I.int IntKind.u32 0))).put [] (u32s w.l) = u32s w.l from rfl]
 obtain ⟨ww, hw0⟩ : ∃ ww, ww = w := ⟨_, rfl⟩
 rw [← hw0]
 refine LoopWq.by (X := Nat) (fun n => [(3, .own [] (.vec (ee 5 n) 1 (byD (B.drop (64 * n))))), (5, .box (.one (.i (u32s (Ay ww B n).l))))]) (fun n => 64 * n ≤ B.length) (fun n => B.length - 64 * n)
  0 (by kernel_rfl) (by omega) ?_
 intro n hn
 obtain ⟨R, hR⟩ : ∃ R, R = B.drop (64 * n) := ⟨_, rfl⟩
 have hRl : R.length = B.length - 64 * n := by rw [hR, List.length_drop]
 rw [← hR]
 by_cases hnN : 0 < R.length
 case neg =>
  have hRb : ((byD R).length : Int) = (R.length : Int) := by simp
  have hlt : ¬ decide ((0 : Int) < ((byD R).length : Int)) = true := by rw [hRb, decide_eq_true_eq]; omega
  have hlt' : ¬ decide (((byD R).length : Int) > 0) = true := by rw [hRb, decide_eq_true_eq]; omega
  repeat' ((conv => whnf); first | (refine aI (fun hb => ?_) (fun hb => ?_) <;>first | exact absurd hb (by assumption) | ((try rw [hb]); (try simp only [Ac] at hb))) | (refine eI ?_ ?_; focus (and_intros <;> first | omega | exact rfl | (simp; done))) | (intro hfact))
  all_goals (try (conv => whnf))
  have hn' : n = B.length / 64 := by omega
  have hn0 : ∃ m, n = m + 1 := ⟨n - 1, by rw [hn']; have := hB64; omega⟩
  obtain ⟨H, hH⟩ : ∃ H, H = Ay ww B n := ⟨_, rfl⟩
  rw [← hn', ← hH]
  have hb8 : ∀ x ∈ H.l, 0 ≤ x ∧ x < 4294967296 := by
   obtain ⟨m, rfl⟩ := hn0
   rw [hH, Ay, Nx, addH, H8.l]
   intro x hx
   simp only [List.mem_cons, List.not_mem_nil, or_false] at hx
   rcases hx with rfl | rfl | rfl | rfl | rfl | rfl | rfl | rfl <;> exact Ahc _
  clear hH
  refine LoopWq.by (X := Nat) (fun t => [(6, .vec 5 1 ((outB H t).map A3)), (54, .v (.int .i64 t))]) (fun t => t ≤ 8) (fun t => 8 - t)
   0 (by kernel_rfl) (by omega) ?_
  intro t ht
  by_cases ht8 : t < 8
  case pos =>
   obtain ⟨x, hx⟩ : ∃ x, H.l[t]? = some x := ⟨_, List.getElem?_eq_getElem ht8⟩
   have hxi : (H.l.map (I.int .u32))[Int.toNat (t : Int)]? = some (.int .u32 x) := by rw [Int.toNat_natCast, List.getElem?_map, hx]; rfl
   have hol := Aey H t
   have e1 : ((List.map A3 (outB H t)).length + 4) * 1 ≤ 140737488355328 := by simp; omega
   have e2 : (List.map A3 (outB H t)).length + 4 ≤ maxLen := by simp [maxLen]; omega
   have hlt1 : ¬ decide ((t : Int) < 8) = false := by simp; omega
   repeat' ((conv => whnf); first | (refine aI (fun hb => ?_) (fun hb => ?_) <;>first | exact absurd hb (by assumption) | ((try rw [hb]); (try simp only [Ac] at hb))) | (refine eI ?_ ?_; focus (and_intros <;> first | omega | exact rfl | assumption | exact Bs (by rfl) | (simp; done))) | ((try dsimp only); rw [hxi]))
   all_goals (try (conv => whnf))
   refine Round.by (t + 1) ?_ (by omega) (by omega)
   rw [Ah ht8 (by simp only [maxLen]; omega), Aix hx, List.map_append, Ano x (hb8 x (List.mem_of_getElem? hx))]
   show norm _ _ = upd _ _
   kernel_rfl
  have hlt1 : ¬ decide ((t : Int) < 8) = true := by simp; omega
  obtain rfl : t = 8 := by omega
  have hol := Aey H 8
  obtain ⟨O, hO⟩ : ∃ O, O = outB H 8 := ⟨_, rfl⟩
  rw [← hO] at hol ⊢
  have hom : O.length ≤ maxLen := by simp [maxLen]; omega
  repeat' ((conv => whnf); first | (refine aI (fun hb => ?_) (fun hb => ?_) <;>first | exact absurd hb (by assumption) | ((try rw [hb]); (try simp only [Ac] at hb))) | (refine eI ?_ ?_; focus (and_intros <;> first | omega | (simp; done))) | ((simp only [SV.vecAt, Jw])))
  all_goals (try (conv => whnf))
  exact Done.mk ⟨by kernel_rfl, by kernel_rfl⟩ (by kernel_rfl)
 have hRb : ((byD R).length : Int) = (R.length : Int) := by simp
 have hlt : ¬ decide ((0 : Int) < ((byD R).length : Int)) = false := by rw [hRb, decide_eq_false_iff_not]; omega
 have hlt' : ¬ decide (((byD R).length : Int) > 0) = false := by rw [hRb, decide_eq_false_iff_not]; omega
 have hnN64 : 64 ≤ R.length := by omega
 repeat' ((conv => whnf); first | (refine aI (fun hb => ?_) (fun hb => ?_) <;>first | exact absurd hb (by assumption) | ((try rw [hb]); (try simp only [Ac] at hb))) | (refine eI ?_ ?_; focus (and_intros <;> first | omega | exact rfl | (simp; done))) | (intro hfact))
 all_goals (try (conv => whnf))
 refine Hu ?_ (by decide)
 (conv => whnf)
 all_goals (try (conv => whnf))
 refine LoopWq.by (X := Nat) (fun i => [(4, .box (.one (.i (u32s (padW (sched B (64 * n) i)))))), (17, .v (.int .i64 i))]) (fun i => i ≤ 16) (fun i => 16 - i)
  0 (by kernel_rfl) (by omega) ?_
 intro i hi
 by_cases hi16 : i < 16
 case pos =>
  have hlt1 : ¬ decide ((i : Int) < 16) = false := by simp; omega
  have w0 : IntKind.i64.wrap (4 * (i : Int)) = ((4 * i : Nat) : Int) := by
   rw [show 4 * (i : Int) = ((4 * i : Nat) : Int) by omega]; exact Bj (by omega)
  have w1 : IntKind.i64.wrap (((4 * i : Nat) : Int) + 1) = ((4 * i + 1 : Nat) : Int) := by
   rw [show ((4 * i : Nat) : Int) + 1 = ((4 * i + 1 : Nat) : Int) by omega]; exact Bj (by omega)
  have w2 : IntKind.i64.wrap (((4 * i : Nat) : Int) + 2) = ((4 * i + 2 : Nat) : Int) := by
   rw [show ((4 * i : Nat) : Int) + 2 = ((4 * i + 2 : Nat) : Int) by omega]; exact Bj (by omega)
  have w3 : IntKind.i64.wrap (((4 * i : Nat) : Int) + 3) = ((4 * i + 3 : Nat) : Int) := by
   rw [show ((4 * i : Nat) : Int) + 3 = ((4 * i + 3 : Nat) : Int) by omega]; exact Bj (by omega)
  have g : ∀ k : Nat, k < 64 → (List.map D.it (List.map A3 R))[Int.toNat 0 + Int.toNat (k : Int)]? = some (.it (.int .u8 (B5 B (64 * n + k)))) := fun k hk => by
   obtain ⟨b, hb⟩ : ∃ b, R[k]? = some b := ⟨_, List.getElem?_eq_getElem (by omega)⟩
   have hb' : B[64 * n + k]? = some b := by rw [← hb, hR, List.getElem?_drop]
   rw [Int.toNat_natCast, show Int.toNat 0 + k = k by simp, List.getElem?_map, List.getElem?_map, hb, B5, List.getD_eq_getElem?_getD, hb']
   rfl
  have gD : ∀ (k : Nat) (_ : k < 64) (e' : Nat), D.at [Int.toNat 0 + Int.toNat (k : Int)] (D.vec e' 1 (byD R)) = some (.it (.int .u8 (B5 B (64 * n + k)))) := fun k hk e' => by
   show (match (List.map D.it (List.map A3 R))[Int.toNat 0 + Int.toNat (k : Int)]? with | some y => D.at [] y | none => none) = _
   rw [g k hk]
   rfl
  have hsl := Dm B (64 * n) i
  obtain ⟨v0, hv0⟩ : ∃ v0, (padW (sched B (64 * n) i))[i]? = some v0 := ⟨_, List.getElem?_eq_getElem (by rw [Jd (by omega)]; omega)⟩
  have hh := C6 hv0
  have hp := R9 hv0
  repeat' ((conv => whnf); first | (refine aI (fun hb => ?_) (fun hb => ?_) <;>first | exact absurd hb (by assumption) | ((try rw [hb]); (try simp only [Ac] at hb))) | (refine eI ?_ ?_; focus (and_intros <;> first | omega | exact rfl | (simp; done))) | ((with_reducible apply Drawn.by0); (focus kernel_rfl); intro hfact; (try simp only [List.mem_append, List.mem_cons, List.not_mem_nil, or_false, false_or, or_assoc, forall_eq_or_imp, forall_eq, false_implies, implies_true, forall_const, and_true, true_and] at hfact)) | ((try dsimp only); rw [w0]) | ((try dsimp only); rw [w1]) | ((try dsimp only); rw [w2]) | ((try dsimp only); rw [w3]) | (refine Bv rfl (gD _ (by omega) _) rfl ?_) | ((try dsimp only); rw [hh]))
  all_goals (try (conv => whnf))
  have hset : padW (sched B (64 * n) (i + 1)) = (padW (sched B (64 * n) i)).set i (Ui B (64 * n + 4 * i)) := by
   rw [sched, if_pos hi16, ← Abr, ← P3 (by rw [hsl]; omega), hsl]
  refine Round.by (i + 1) ?_ (by omega) (by omega)
  rw [Ah hi16 (by simp only [maxLen]; omega), hset, hp]
  show norm _ _ = upd _ _
  kernel_rfl
 have hlt1 : ¬ decide ((i : Int) < 16) = true := by simp; omega
 have hi' : i = 16 := by omega
 subst hi'
 clear hlt1 hi hi16
 repeat' ((conv => whnf); (refine aI (fun hb => ?_) (fun hb => ?_) <;>first | exact absurd hb (by decide) | ((try rw [hb]); (try simp only [Ac] at hb))))
 all_goals (try (conv => whnf))
 refine LoopWq.by (X := Nat) (fun t => [(4, .box (.one (.i (u32s (padW (sched B (64 * n) t)))))), (6, .v (.int .i64 t))]) (fun t => 16 ≤ t ∧ t ≤ 64) (fun t => 64 - t)
  16 (by kernel_rfl) (by omega) ?_
 rintro t ⟨ht1, ht2⟩
 by_cases ht64 : t < 64
 case pos =>
  have hlt1 : ¬ decide ((t : Int) < 64) = false := by simp; omega
  have hsl := Dm B (64 * n) t
  have hset : padW (sched B (64 * n) (t + 1)) = (padW (sched B (64 * n) t)).set t (extI (sched B (64 * n) t) t) := by
   rw [sched, if_neg (by omega), ← P3 (by rw [hsl]; omega), hsl]
  rw [← Ae3] at hset
  obtain ⟨w, hw⟩ : ∃ w, w = sched B (64 * n) t := ⟨_, rfl⟩
  rw [← hw] at hsl hset ⊢
  have g : ∀ j, j < t → w[j]? = some (wAt w j) := fun j hj => by
   rw [wAt, List.getD_eq_getElem?_getD, List.getElem?_eq_getElem (by omega)]; rfl
  have hwr : ∀ j : Nat, j ≤ t → IntKind.i64.wrap ((t : Int) - (j : Int)) = ((t - j : Nat) : Int) := fun j hj => by
   rw [show (t : Int) - (j : Int) = ((t - j : Nat) : Int) by omega]; exact Bj (by omega)
  have w2 : IntKind.i64.wrap ((t : Int) - 2) = ((t - 2 : Nat) : Int) := hwr 2 (by omega)
  have w7 : IntKind.i64.wrap ((t : Int) - 7) = ((t - 7 : Nat) : Int) := hwr 7 (by omega)
  have w15 : IntKind.i64.wrap ((t : Int) - 15) = ((t - 15 : Nat) : Int) := hwr 15 (by omega)
  have w16 : IntKind.i64.wrap ((t : Int) - 16) = ((t - 16 : Nat) : Int) := hwr 16 (by omega)
  have h2 := C6 (E1 (g (t - 2) (by omega)))
  have h7 := C6 (E1 (g (t - 7) (by omega)))
  have h15 := C6 (E1 (g (t - 15) (by omega)))
  have h16 := C6 (E1 (g (t - 16) (by omega)))
  obtain ⟨v0, hv0⟩ : ∃ v0, (padW w)[t]? = some v0 := ⟨_, List.getElem?_eq_getElem (by rw [Jd (by omega)]; omega)⟩
  have hh := C6 hv0
  have hp := R9 hv0
  repeat' ((conv => whnf); first | (refine aI (fun hb => ?_) (fun hb => ?_) <;>first | exact absurd hb (by assumption) | ((try rw [hb]); (try simp only [Ac] at hb))) | (refine eI ?_ ?_; focus (and_intros <;> first | omega | exact rfl | (intro _ hh; cases hh; done) | (simp; done) | decide)) | ((with_reducible apply Drawn.by0); (focus kernel_rfl); intro hfact; (try simp only [List.mem_append, List.mem_cons, List.not_mem_nil, or_false, false_or, or_assoc, forall_eq_or_imp, forall_eq, false_implies, implies_true, forall_const, and_true, true_and] at hfact)) | ((try dsimp only); rw [w2]) | ((try dsimp only); rw [w7]) | ((try dsimp only); rw [w15]) | ((try dsimp only); rw [w16]) | ((try dsimp only); rw [h2]) | ((try dsimp only); rw [h7]) | ((try dsimp only); rw [h15]) | ((try dsimp only); rw [h16]) | ((try dsimp only); rw [hh]) | (refine CallWp.mk ⟨_, Bq _ (-7) 7, ?_⟩; rintro _ _ ⟨rfl, rfl⟩) | (refine CallWp.mk ⟨_, Bq _ (-18) 18, ?_⟩; rintro _ _ ⟨rfl, rfl⟩) | (refine CallWp.mk ⟨_, Bq _ (-17) 17, ?_⟩; rintro _ _ ⟨rfl, rfl⟩) | (refine CallWp.mk ⟨_, Bq _ (-19) 19, ?_⟩; rintro _ _ ⟨rfl, rfl⟩))
  all_goals (try (conv => whnf))
  refine Round.by (t + 1) ?_ ⟨by omega, ht64⟩ (by omega)
  rw [Ah ht64 (by simp only [maxLen]; omega), hset, hp]
  show norm _ _ = upd _ _
  kernel_rfl
 have hlt1 : ¬ decide ((t : Int) < 64) = true := by simp; omega
 have ht' : t = 64 := by omega
 subst ht'
 have hsl := Dm B (64 * n) 64
 have hpd : padW (sched B (64 * n) 64) = sched B (64 * n) 64 := by rw [padW, hsl]; exact List.append_nil _
 rw [hpd]
 have hnext : Ay ww B (n + 1) = addH (Ay ww B n) (rnds (sched B (64 * n) 64) (Ay ww B n) 64) := rfl
 obtain ⟨W, hW⟩ : ∃ W, W = sched B (64 * n) 64 := ⟨_, rfl⟩
 rw [← hW] at hsl hnext ⊢
 obtain ⟨H, hH⟩ : ∃ H, H = Ay ww B n := ⟨_, rfl⟩
 rw [← hH] at hnext ⊢
 clear hpd hlt1 ht1 ht2 ht64
 repeat' ((conv => whnf); first | (refine aI (fun hb => ?_) (fun hb => ?_) <;>first | exact absurd hb (by decide) | ((try rw [hb]); (try simp only [Ac] at hb))) | (refine eI ?_ ?_; focus (and_intros <;> first | omega | exact rfl | (intro _ hh; cases hh; done) | (simp; done) | decide)) | (refine CallWp.mk ⟨_, Re, ?_⟩; rintro _ _ ⟨rfl, rfl⟩))
 all_goals (try (conv => whnf))
 refine LoopWq.by (X := Nat) (fun t => [(9, .box (.one (.i (u32s (rnds W H t).l)))), (103, .v (.int .i64 t))]) (fun t => t ≤ 64) (fun t => 64 - t)
  0 (by kernel_rfl) (by omega) ?_
 intro t ht
 by_cases ht64 : t < 64
 case pos =>
  have hlt1 : ¬ decide ((t : Int) < 64) = false := by simp; omega
  have hgk : kays[t]? = some (wAt kays t) := by
   rw [wAt, List.getD_eq_getElem?_getD, List.getElem?_eq_getElem (show t < kays.length from ht64)]; rfl
  have hgw : W[t]? = some (wAt W t) := by
   rw [wAt, List.getD_eq_getElem?_getD, List.getElem?_eq_getElem (by omega)]; rfl
  have hh := C6 hgw
  have hr : rnds W H (t + 1) = rnd (rnds W H t) (wAt kays t) (wAt W t) := rfl
  obtain ⟨Q, hQ⟩ : ∃ R, R = rnds W H t := ⟨_, rfl⟩
  rw [← hQ] at hr ⊢
  obtain ⟨kt, hkt⟩ : ∃ k, k = wAt kays t := ⟨_, rfl⟩
  rw [← hkt] at hr hgk
  obtain ⟨wt, hwt⟩ : ∃ k, k = wAt W t := ⟨_, rfl⟩
  rw [← hwt] at hr hh
  clear hQ hkt hwt
  repeat' ((conv => whnf); first | (refine aI (fun hb => ?_) (fun hb => ?_) <;>first | exact absurd hb (by assumption) | ((try rw [hb]); (try simp only [Ac] at hb))) | (refine eI ?_ ?_; focus (and_intros <;> first | omega | exact rfl | (intro _ hh; cases hh; done) | exact Bs (by rfl) | (simp; done) | decide)) | ((with_reducible apply Drawn.by0); (focus kernel_rfl); intro hfact; (try simp only [List.mem_append, List.mem_cons, List.not_mem_nil, or_false, false_or, or_assoc, forall_eq_or_imp, forall_eq, false_implies, implies_true, forall_const, and_true, true_and] at hfact)) | ((try dsimp only); first | rw [An hgk] | rw [Aj hgk] | rw [Ai hgk]) | ((try dsimp only); rw [hh]) | (refine CallIs.mk ⟨_, _, Bq _ (-6) 6, ?_⟩) | (refine CallIs.mk ⟨_, _, Bq _ (-11) 11, ?_⟩) | (refine CallIs.mk ⟨_, _, Bq _ (-25) 25, ?_⟩) | (refine CallIs.mk ⟨_, _, Bq _ (-2) 2, ?_⟩) | (refine CallIs.mk ⟨_, _, Bq _ (-13) 13, ?_⟩) | (refine CallIs.mk ⟨_, _, Bq _ (-22) 22, ?_⟩))
  all_goals (try (conv => whnf))
  refine Round.by (t + 1) ?_ (by omega) (by omega)
  rw [Ah ht64 (by simp only [maxLen]; omega), hr]
  show norm _ _ = upd _ _
  kernel_rfl
 have hlt1 : ¬ decide ((t : Int) < 64) = true := by simp; omega
 have ht' : t = 64 := by omega
 subst ht'
 clear hlt1 ht ht64
 obtain ⟨Q, hQ⟩ : ∃ R, R = rnds W H 64 := ⟨_, rfl⟩
 rw [← hQ] at hnext ⊢
 repeat' ((conv => whnf); (refine aI (fun hb => ?_) (fun hb => ?_) <;>first | exact absurd hb (by decide) | ((try rw [hb]); (try simp only [Ac] at hb))))
 all_goals (try (conv => whnf))
 refine LoopWq.by (X := Nat) (fun j => [(202, .box (.one (.i (u32s (addN H Q j).l)))), (182, .v (.int .i64 j))]) (fun j => j ≤ 8) (fun j => 8 - j)
  0 (by kernel_rfl) (by omega) ?_
 intro j hj
 by_cases hj8 : j < 8
 case pos =>
  have hj' : j = 0 ∨ j = 1 ∨ j = 2 ∨ j = 3 ∨ j = 4 ∨ j = 5 ∨ j = 6 ∨ j = 7 := by omega
  clear hj hj8
  rcases hj' with rfl | rfl | rfl | rfl | rfl | rfl | rfl | rfl
  · repeat' ((conv => whnf); first | (refine aI (fun hb => ?_) (fun hb => ?_) <;>first | exact absurd hb (by decide) | ((try rw [hb]); (try simp only [Ac] at hb))) | (refine eI ?_ ?_; focus (and_intros <;> first | omega | exact rfl | (simp; done))) | ((with_reducible apply Drawn.by0); (focus kernel_rfl); intro hfact; (try simp only [List.mem_append, List.mem_cons, List.not_mem_nil, or_false, false_or, or_assoc, forall_eq_or_imp, forall_eq, false_implies, implies_true, forall_const, and_true, true_and] at hfact)))
    all_goals (try (conv => whnf))
    refine Round.by 1 ?_ (by omega) (by omega)
    show norm _ _ = upd _ _
    kernel_rfl
  · repeat' ((conv => whnf); first | (refine aI (fun hb => ?_) (fun hb => ?_) <;>first | exact absurd hb (by decide) | ((try rw [hb]); (try simp only [Ac] at hb))) | (refine eI ?_ ?_; focus (and_intros <;> first | omega | exact rfl | (simp; done))) | ((with_reducible apply Drawn.by0); (focus kernel_rfl); intro hfact; (try simp only [List.mem_append, List.mem_cons, List.not_mem_nil, or_false, false_or, or_assoc, forall_eq_or_imp, forall_eq, false_implies, implies_true, forall_const, and_true, true_and] at hfact)))
    all_goals (try (conv => whnf))
    refine Round.by 2 ?_ (by omega) (by omega)
    show norm _ _ = upd _ _
    kernel_rfl
  · repeat' ((conv => whnf); first | (refine aI (fun hb => ?_) (fun hb => ?_) <;>first | exact absurd hb (by decide) | ((try rw [hb]); (try simp only [Ac] at hb))) | (refine eI ?_ ?_; focus (and_intros <;> first | omega | exact rfl | (simp; done))) | ((with_reducible apply Drawn.by0); (focus kernel_rfl); intro hfact; (try simp only [List.mem_append, List.mem_cons, List.not_mem_nil, or_false, false_or, or_assoc, forall_eq_or_imp, forall_eq, false_implies, implies_true, forall_const, and_true, true_and] at hfact)))
    all_goals (try (conv => whnf))
    refine Round.by 3 ?_ (by omega) (by omega)
    show norm _ _ = upd _ _
    kernel_rfl
  · repeat' ((conv => whnf); first | (refine aI (fun hb => ?_) (fun hb => ?_) <;>first | exact absurd hb (by decide) | ((try rw [hb]); (try simp only [Ac] at hb))) | (refine eI ?_ ?_; focus (and_intros <;> first | omega | exact rfl | (simp; done))) | ((with_reducible apply Drawn.by0); (focus kernel_rfl); intro hfact; (try simp only [List.mem_append, List.mem_cons, List.not_mem_nil, or_false, false_or, or_assoc, forall_eq_or_imp, forall_eq, false_implies, implies_true, forall_const, and_true, true_and] at hfact)))
    all_goals (try (conv => whnf))
    refine Round.by 4 ?_ (by omega) (by omega)
    show norm _ _ = upd _ _
    kernel_rfl
  · repeat' ((conv => whnf); first | (refine aI (fun hb => ?_) (fun hb => ?_) <;>first | exact absurd hb (by decide) | ((try rw [hb]); (try simp only [Ac] at hb))) | (refine eI ?_ ?_; focus (and_intros <;> first | omega | exact rfl | (simp; done))) | ((with_reducible apply Drawn.by0); (focus kernel_rfl); intro hfact; (try simp only [List.mem_append, List.mem_cons, List.not_mem_nil, or_false, false_or, or_assoc, forall_eq_or_imp, forall_eq, false_implies, implies_true, forall_const, and_true, true_and] at hfact)))
    all_goals (try (conv => whnf))
    refine Round.by 5 ?_ (by omega) (by omega)
    show norm _ _ = upd _ _
    kernel_rfl
  · repeat' ((conv => whnf); first | (refine aI (fun hb => ?_) (fun hb => ?_) <;>first | exact absurd hb (by decide) | ((try rw [hb]); (try simp only [Ac] at hb))) | (refine eI ?_ ?_; focus (and_intros <;> first | omega | exact rfl | (simp; done))) | ((with_reducible apply Drawn.by0); (focus kernel_rfl); intro hfact; (try simp only [List.mem_append, List.mem_cons, List.not_mem_nil, or_false, false_or, or_assoc, forall_eq_or_imp, forall_eq, false_implies, implies_true, forall_const, and_true, true_and] at hfact)))
    all_goals (try (conv => whnf))
    refine Round.by 6 ?_ (by omega) (by omega)
    show norm _ _ = upd _ _
    kernel_rfl
  · repeat' ((conv => whnf); first | (refine aI (fun hb => ?_) (fun hb => ?_) <;>first | exact absurd hb (by decide) | ((try rw [hb]); (try simp only [Ac] at hb))) | (refine eI ?_ ?_; focus (and_intros <;> first | omega | exact rfl | (simp; done))) | ((with_reducible apply Drawn.by0); (focus kernel_rfl); intro hfact; (try simp only [List.mem_append, List.mem_cons, List.not_mem_nil, or_false, false_or, or_assoc, forall_eq_or_imp, forall_eq, false_implies, implies_true, forall_const, and_true, true_and] at hfact)))
    all_goals (try (conv => whnf))
    refine Round.by 7 ?_ (by omega) (by omega)
    show norm _ _ = upd _ _
    kernel_rfl
  · repeat' ((conv => whnf); first | (refine aI (fun hb => ?_) (fun hb => ?_) <;>first | exact absurd hb (by decide) | ((try rw [hb]); (try simp only [Ac] at hb))) | (refine eI ?_ ?_; focus (and_intros <;> first | omega | exact rfl | (simp; done))) | ((with_reducible apply Drawn.by0); (focus kernel_rfl); intro hfact; (try simp only [List.mem_append, List.mem_cons, List.not_mem_nil, or_false, false_or, or_assoc, forall_eq_or_imp, forall_eq, false_implies, implies_true, forall_const, and_true, true_and] at hfact)))
    all_goals (try (conv => whnf))
    refine Round.by 8 ?_ (by omega) (by omega)
    show norm _ _ = upd _ _
    kernel_rfl
 have hj' : j = 8 := by omega
 subst hj'
 clear hj hj8
 have hlt1 : ¬ decide ((8 : Int) < 8) = true := by simp
 have hadd : addN H Q 8 = addH H Q := rfl
 rw [hadd, ← hnext]
 have hee : (if ee 5 n < 1000000 then ee 5 n + 1000000 else ee 5 n) = ee 5 (n + 1) := Aes 5 n
 have hdr : List.drop (Int.toNat 64) (List.map A3 R) = List.map A3 (B.drop (64 * (n + 1))) := by
  rw [← List.map_drop, hR, List.drop_drop]
  congr 2
 repeat' ((conv => whnf); first | (refine aI (fun hb => ?_) (fun hb => ?_) <;>first | exact absurd hb (by assumption) | ((try rw [hb]); (try simp only [Ac] at hb))) | (refine eI ?_ ?_; focus (and_intros <;> first | omega | (simp only [Am]; omega))) | ((try dsimp only); rw [Fg]) | ((try dsimp only); rw [hee]) | ((try dsimp only); rw [hdr]))
 all_goals (try (conv => whnf))
 refine Round.by (n + 1) ?_ (by omega) (by omega)
 show norm _ _ = upd _ _
 kernel_rfl
end Go.Ab
