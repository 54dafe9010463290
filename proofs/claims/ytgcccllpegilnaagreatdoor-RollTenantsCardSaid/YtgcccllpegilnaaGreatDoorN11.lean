/- Lemmas for the last text. -/
import Derived.Test.YtgcccllpegilnaaGreatDoorN8
set_option linter.unusedVariables false
set_option linter.unusedSimpArgs false
set_option maxRecDepth 100000
set_option maxHeartbeats 40000000
namespace Go.Ab
open Go.Proofs
theorem Ab0 (r : Roll) (hs : r.Small) (c : Cmd) (hk : c.kind = 10) : Fn Tryz.prog Ge [.own [] (.ptr r.toD), .v c.toI] (Is (.v (.int .i64 (Bb r c).2)) [.own [] (.ptr (Dw r c)), .no]) := by
 refine Gn ?_ (by simp)
 have hs' := hs
 obtain ⟨b1, b2, b3, b4, b5⟩ := hs
 have hf := Hg r.rols c.name (by omega)
 have hU : Dw r c = (Bb r c).1.toD := by simp [Dw, hk]
 rw [hU]
 cases hb : Bh Rol.name r.rols c.name with
 | false =>
   rw [hb] at hf
   rw [show Bb r c = (r, 16) by simp only [Bb, hk, hb, Int.reduceEq, if_false, if_true, and_false, false_and, Bool.true_eq_false]]
   repeat' ((conv => whnf); first | (refine aI (fun hb => ?_) (fun hb => ?_) <;>first | exact absurd hb (by decide) | (exfalso; simp only [Am] at hb <;> omega) | ((try rw [hb]); (try simp only [Ac] at hb))) | (refine eI ?_ ?_; focus (and_intros <;> first | omega | exact rfl | (simp; done))) | ((with_reducible apply Drawn.by0); (focus kernel_rfl); intro hfact; (try simp only [List.mem_append, List.mem_cons, List.not_mem_nil, or_false, false_or, or_assoc, forall_eq_or_imp, forall_eq, false_implies, implies_true, forall_const, and_true, true_and] at hfact)) | ((simp only [show D.at (0 :: [].append [3]) (D.ptr r.toD) = some (D.vec Au 3 (r.rols.map Rol.toD)) from rfl, B3, show D.at [0] (D.ptr r.toD) = some r.toD from rfl, A8])) | (refine CallIs.mk ⟨_, _, hf, ?_⟩))
   all_goals (try (conv => whnf))
   all_goals exact Done.mk ⟨by kernel_rfl, by kernel_rfl⟩ (by kernel_rfl)
 | true =>
   rw [hb] at hf
   obtain ⟨x, hx, -⟩ := Dz hb
   have hlt : Aw Rol.name r.rols c.name < r.rols.length := (List.getElem?_eq_some_iff.1 hx).1
   have hP : Bb r c = ({ r with rols := Cw (Aw Rol.name r.rols c.name) r.rols, usrs := r.usrs.map (Hc c.name) }, 0) := by
    simp only [Bb, hk, hb, Int.reduceEq, if_false, if_true, and_false, false_and, Bool.true_eq_false]
   rw [hP]
   clear hP hU
   have hxd : (r.rols.map Rol.toD)[Aw Rol.name r.rols c.name]? = some x.toD := by simp [hx]
   have hdel := Acd (r.rols.map Rol.toD) (Aw Rol.name r.rols c.name) (by simpa using hlt) (by simp; omega)
   rw [Xb] at hdel
   have hw : IntKind.i64.wrap ((Aw Rol.name r.rols c.name : Int) + 1) = ((Aw Rol.name r.rols c.name + 1 : Nat) : Int) := Ah hlt (by simp only [maxLen]; omega)
   repeat' ((conv => whnf); first | (refine aI (fun hb => ?_) (fun hb => ?_) <;>first | exact absurd hb (by decide) | (exfalso; simp only [Am] at hb <;> omega) | ((try rw [hb]); (try simp only [Ac] at hb))) | (refine eI ?_ ?_; focus (and_intros <;> first | omega | exact rfl | (intro _ hh; cases hh; done) | (simp only [Am]; omega) | (simp; done) | decide)) | (intro hfact) | ((with_reducible apply Drawn.by0); (focus kernel_rfl); intro hfact; (try simp only [List.mem_append, List.mem_cons, List.not_mem_nil, or_false, false_or, or_assoc, forall_eq_or_imp, forall_eq, false_implies, implies_true, forall_const, and_true, true_and] at hfact)) | ((simp only [show D.at (0 :: [].append [3]) (D.ptr r.toD) = some (D.vec Au 3 (r.rols.map Rol.toD)) from rfl, B3, show D.at [0] (D.ptr r.toD) = some r.toD from rfl, A8])) | (refine CallIs.mk ⟨_, _, hf, ?_⟩) | ((simp only [List.tail, List.headD, hw])) | (refine CallWp.mk ⟨_, hdel, ?_⟩; rintro _ _ ⟨rfl, rfl⟩))
   all_goals (try (conv => whnf))
   refine LoopWq.by (X := Nat) (fun k => [(197, .own [] (.ptr (.st [.it (.int .i64 r.rev), .vec A0 3 ((r.tens.map Ten.toI).map D.it), .vec Ax 5 ((D5 c.name r.usrs k).map Usr.toD), .vec Au 3 ((Cw (Aw Rol.name r.rols c.name) r.rols).map Rol.toD)]))), (3, if k = 0 then .box (.one (.i c.toI)) else .rp c.toI), (106, .v (.int .i64 k))]) (fun k => k ≤ r.usrs.length) (fun k => r.usrs.length - k)
    0 (by kernel_rfl) (by omega) ?_
   intro k hk2
   have hlen : (r.usrs.map Usr.toD).length = r.usrs.length := by simp
   by_cases hk3 : k < r.usrs.length
   case neg =>
    obtain rfl : k = r.usrs.length := by omega
    rw [Ah6]
    have hlt1 : ¬ decide ((r.usrs.length : Int) < ((r.usrs.map Usr.toD).length : Int)) = true := by simp
    by_cases hk0 : r.usrs.length = 0
    · rw [if_pos hk0]
      repeat' ((conv => whnf); (refine aI (fun hb => ?_) (fun hb => ?_) <;>first | exact absurd hb (by assumption) | ((try rw [hb]); (try simp only [Ac] at hb))))
      all_goals (try (conv => whnf))
      exact Done.mk ⟨by kernel_rfl, by kernel_rfl⟩ (by kernel_rfl)
    · rw [if_neg hk0]
      repeat' ((conv => whnf); (refine aI (fun hb => ?_) (fun hb => ?_) <;>first | exact absurd hb (by assumption) | ((try rw [hb]); (try simp only [Ac] at hb))))
      all_goals (try (conv => whnf))
      exact Done.mk ⟨by kernel_rfl, by kernel_rfl⟩ (by kernel_rfl)
   obtain ⟨u, hu⟩ : ∃ u, r.usrs[k]? = some u := ⟨_, List.getElem?_eq_getElem hk3⟩
   have hlt1 : ¬ decide ((k : Int) < ((r.usrs.map Usr.toD).length : Int)) = false := by simp [hk3]
   have hul := b4 u (List.mem_of_getElem? hu)
   have hdl := (Zx u.roles c (by omega)).ofVec0 (by decide)
   have hpg : ((D5 c.name r.usrs k).map Usr.toD)[k]? = some u.toD := by rw [List.getElem?_map, Ahv hu]; rfl
   have hps : ((D5 c.name r.usrs k).map Usr.toD).set k (Hc c.name u).toD = (D5 c.name r.usrs (k + 1)).map Usr.toD := by rw [← Aic hu, List.map_set]
   have hpl : ((D5 c.name r.usrs k).map Usr.toD).length = r.usrs.length := by rw [List.length_map, Acf]
   have hk10 : ¬ k + 1 = 0 := by omega
   have hws : IntKind.i64.wrap ((k : Int) + 1) = ((k + 1 : Nat) : Int) := Ah hk3 (by simp only [maxLen]; omega)
   obtain ⟨L, hL⟩ : ∃ L, L = (D5 c.name r.usrs k).map Usr.toD := ⟨_, rfl⟩
   rw [← hL] at hpg hps hpl ⊢
   by_cases hk0 : k = 0
   · rw [if_pos hk0]
     repeat' ((conv => whnf); first | (refine aI (fun hb => ?_) (fun hb => ?_) <;>first | exact absurd hb (by assumption) | ((try rw [hb]); (try simp only [Ac] at hb))) | (refine eI ?_ ?_; focus (and_intros <;> first | omega | exact rfl | (intro _ hh; cases hh; done) | (simp only [Am]; omega) | (simp; done) | decide)) | (refine Drawn.mk (by kernel_rfl) (by repeat' ((conv => whnf); first | exact True.intro | refine And.intro ?_ ?_ | rfl | (dsimp only [eyeP, eyeO, eyeR, eyeH, seen]; rfl))) (fun hfact => ?_); (try simp only [List.mem_append, List.mem_cons, List.not_mem_nil, or_false, false_or, or_assoc, forall_eq_or_imp, forall_eq, false_implies, implies_true, forall_const, and_true, true_and] at hfact)) | (refine CallIs.mk ⟨_, _, hdl, ?_⟩) | ((first | with_reducible apply Hj | ((with_reducible apply Bv); (focus rfl))); (focus (simp only [D.at, D.put, D.kid, D.setKid, List.cons_append, List.nil_append, List.append, List.getElem?_cons_zero, List.getElem?_cons_succ, Int.toNat_natCast, List.getElem?_set_self', Option.map_eq_map, Option.map_some, List.set_cons_zero, List.set_cons_succ, List.set_set, Function.const_apply, List.map_cons, List.map_nil, mkSt, Be, D.toI, toIs, Az, List.getElem?_map, List.length_map, List.length_set, hpg] <;> exact rfl)); (try (focus exact rfl))))
     all_goals (try (conv => whnf))
     refine Round.by (k + 1) ?_ (by omega) (by omega)
     rw [if_neg hk10, hws, ← hps]
     show norm _ _ = upd _ _
     kernel_rfl
   · rw [if_neg hk0]
     repeat' ((conv => whnf); first | (refine aI (fun hb => ?_) (fun hb => ?_) <;>first | exact absurd hb (by assumption) | ((try rw [hb]); (try simp only [Ac] at hb))) | (refine eI ?_ ?_; focus (and_intros <;> first | omega | exact rfl | (intro _ hh; cases hh; done) | (simp only [Am]; omega) | (simp; done) | decide)) | (refine Drawn.mk (by kernel_rfl) (by repeat' ((conv => whnf); first | exact True.intro | refine And.intro ?_ ?_ | rfl | (dsimp only [eyeP, eyeO, eyeR, eyeH, seen]; rfl))) (fun hfact => ?_); (try simp only [List.mem_append, List.mem_cons, List.not_mem_nil, or_false, false_or, or_assoc, forall_eq_or_imp, forall_eq, false_implies, implies_true, forall_const, and_true, true_and] at hfact)) | (refine CallIs.mk ⟨_, _, hdl, ?_⟩) | ((first | with_reducible apply Hj | ((with_reducible apply Bv); (focus rfl))); (focus (simp only [D.at, D.put, D.kid, D.setKid, List.cons_append, List.nil_append, List.append, List.getElem?_cons_zero, List.getElem?_cons_succ, Int.toNat_natCast, List.getElem?_set_self', Option.map_eq_map, Option.map_some, List.set_cons_zero, List.set_cons_succ, List.set_set, Function.const_apply, List.map_cons, List.map_nil, mkSt, Be, D.toI, toIs, Az, List.getElem?_map, List.length_map, List.length_set, hpg] <;> exact rfl)); (try (focus exact rfl))))
     all_goals (try (conv => whnf))
     refine Round.by (k + 1) ?_ (by omega) (by omega)
     rw [if_neg hk10, hws, ← hps]
     show norm _ _ = upd _ _
     kernel_rfl

open Go.Proofs
def Ca (s : List Gra) : SV := match s with
 | [] => .vec Bt 4 []
 | a :: t => .own [] (.vec Bt 4 (((a :: t).map Gra.toI).map D.it))
def gsp (sp : Sp) (l : List Sp) : Nat → Sp
 | 0 => sp
 | n + 1 => (l[n]?).getD sp
theorem Aak (r : Roll) (hs : r.Small) (c : Cmd) (hk : c.kind = 12) : Fn Tryz.prog Ge [.own [] (.ptr r.toD), .v c.toI] (Is (.v (.int .i64 (Bb r c).2)) [.own [] (.ptr (Dw r c)), .no]) := by
 refine Gn ?_ (by simp)
 have hs' := hs
 obtain ⟨b1, b2, b3, b4, b5⟩ := hs
 have hf := Hg r.rols c.name (by omega)
 have hU : Dw r c = (Bb r c).1.toD := by simp [Dw, hk]
 rw [hU]
 have hg := Gj c.grant.sp
 cases hgr : decide (Bc c.grant.sp) with
 | false =>
   rw [hgr] at hg
   rw [show Bb r c = (r, 1) by simp only [Bb, hk, hgr, Int.reduceEq, if_false, if_true, and_self, false_and]]
   repeat' ((conv => whnf); first | (refine aI (fun hb => ?_) (fun hb => ?_) <;>first | exact absurd hb (by decide) | (exfalso; simp only [Am] at hb <;> omega) | ((try rw [hb]); (try simp only [Ac] at hb))) | (refine eI ?_ ?_; focus (and_intros <;> first | omega | exact rfl | (intro _ hh; cases hh; done) | (simp; done) | decide)) | ((with_reducible apply Drawn.by0); (focus kernel_rfl); intro hfact; (try simp only [List.mem_append, List.mem_cons, List.not_mem_nil, or_false, false_or, or_assoc, forall_eq_or_imp, forall_eq, false_implies, implies_true, forall_const, and_true, true_and] at hfact)) | ((simp only [show D.at (0 :: [].append [3]) (D.ptr r.toD) = some (D.vec Au 3 (r.rols.map Rol.toD)) from rfl, B3, show D.at [0] (D.ptr r.toD) = some r.toD from rfl, A8])) | (refine CallIs.mk ⟨_, _, hf, ?_⟩) | (refine CallWp.mk ⟨_, hg, ?_⟩; rintro _ _ ⟨rfl, rfl⟩))
   all_goals (try (conv => whnf))
   all_goals exact Done.mk ⟨by kernel_rfl, by kernel_rfl⟩ (by kernel_rfl)
 | true =>
 rw [hgr] at hg
 cases hb : Bh Rol.name r.rols c.name with
 | false =>
   rw [hb] at hf
   rw [show Bb r c = (r, 16) by simp only [Bb, hk, hgr, hb, Int.reduceEq, if_false, if_true, and_false, false_and, Bool.true_eq_false]]
   repeat' ((conv => whnf); first | (refine aI (fun hb => ?_) (fun hb => ?_) <;>first | exact absurd hb (by decide) | (exfalso; simp only [Am] at hb <;> omega) | ((try rw [hb]); (try simp only [Ac] at hb))) | (refine eI ?_ ?_; focus (and_intros <;> first | omega | exact rfl | (intro _ hh; cases hh; done) | (simp; done) | decide)) | ((with_reducible apply Drawn.by0); (focus kernel_rfl); intro hfact; (try simp only [List.mem_append, List.mem_cons, List.not_mem_nil, or_false, false_or, or_assoc, forall_eq_or_imp, forall_eq, false_implies, implies_true, forall_const, and_true, true_and] at hfact)) | ((simp only [show D.at (0 :: [].append [3]) (D.ptr r.toD) = some (D.vec Au 3 (r.rols.map Rol.toD)) from rfl, B3, show D.at [0] (D.ptr r.toD) = some r.toD from rfl, A8])) | (refine CallIs.mk ⟨_, _, hf, ?_⟩) | (refine CallWp.mk ⟨_, hg, ?_⟩; rintro _ _ ⟨rfl, rfl⟩))
   all_goals (try (conv => whnf))
   all_goals exact Done.mk ⟨by kernel_rfl, by kernel_rfl⟩ (by kernel_rfl)
 | true =>
   rw [hb] at hf
   obtain ⟨x, hx, -⟩ := Dz hb
   have hlt : Aw Rol.name r.rols c.name < r.rols.length := (List.getElem?_eq_some_iff.1 hx).1
   have hxl := b5 x (List.mem_of_getElem? hx)
   have hP : Bb r c = (if 8 < ((revM x.grants c.grant.sp).length : Int) then (r, 17)
    else ({ r with rols := r.rols.set (Aw Rol.name r.rols c.name) { x with grants := revM x.grants c.grant.sp } }, 0)) := by
    simp only [Bb, hk, hgr, hb, hx, Int.reduceEq, if_false, if_true, and_false, false_and, Bool.true_eq_false]
   rw [hP]
   clear hP hU
   have hxd : (r.rols.map Rol.toD)[Aw Rol.name r.rols c.name]? = some x.toD := by simp [hx]
   repeat' ((conv => whnf); first | (refine aI (fun hb => ?_) (fun hb => ?_) <;>first | exact absurd hb (by decide) | (exfalso; simp only [Am] at hb <;> omega) | ((try rw [hb]); (try simp only [Ac] at hb))) | (refine eI ?_ ?_; focus (and_intros <;> first | omega | exact rfl | (intro _ hh; cases hh; done) | (simp only [Am]; omega) | (simp; done) | decide)) | (intro hfact) | ((with_reducible apply Drawn.by0); (focus kernel_rfl); intro hfact; (try simp only [List.mem_append, List.mem_cons, List.not_mem_nil, or_false, false_or, or_assoc, forall_eq_or_imp, forall_eq, false_implies, implies_true, forall_const, and_true, true_and] at hfact)) | ((simp only [show D.at (0 :: [].append [3]) (D.ptr r.toD) = some (D.vec Au 3 (r.rols.map Rol.toD)) from rfl, B3, show D.at [0] (D.ptr r.toD) = some r.toD from rfl, A8])) | (refine CallIs.mk ⟨_, _, hf, ?_⟩) | (refine CallWp.mk ⟨_, hg, ?_⟩; rintro _ _ ⟨rfl, rfl⟩) | ((((first | with_reducible apply Bv | with_reducible apply Kx); (focus rfl))); (focus (simp only [D.at, D.put, D.kid, D.setKid, List.cons_append, List.nil_append, List.append, List.getElem?_cons_zero, List.getElem?_cons_succ, Int.toNat_natCast, List.getElem?_set_self', Option.map_eq_map, Option.map_some, List.set_cons_zero, List.set_cons_succ, List.set_set, Function.const_apply, List.map_cons, List.map_nil, mkSt, Be, D.toI, toIs, Az, List.getElem?_map, List.length_map, List.length_set, hxd] <;> exact rfl)); (try (focus exact rfl))))
   all_goals (try (conv => whnf))
   have hAns : runL (Ln (Dc c.grant.sp)) Sc x.grants [] = revM x.grants c.grant.sp := P2 _ _ _
   have hm : x.grants.length ≤ maxLen := by simp only [maxLen]; omega
   refine each x.grants _ _ _ (fun k s => [(11, Ca s), (162, .v (.int .i64 k))]) (fun k s => s.length ≤ 5 * k) [] (by kernel_rfl) (by simp) hAns ?_ ?_ <;> clear hAns
   · rintro k s e he hk hi hA
     try dsimp only at hi hA ⊢
     have hrl := N1 e.sp c.grant.sp
     have hol := Yw c.grant.sp s e
     have m1 := Agh [e.sp] c.grant.sp (by simp)
     rw [← Xv] at m1
     have hge : ((x.grants.map Gra.toI).map D.it)[k]? = some (.it e.toI) := by simp [he]
     rcases s with _ | ⟨a, t⟩
     · simp only [Ca]
       repeat' ((conv => whnf); first | (refine aI (fun hb => ?_) (fun hb => ?_) <;>first | (exfalso; simp only [Am] at hb <;> omega) | ((try rw [hb]); (try simp only [Ac] at hb))) | (refine eI ?_ ?_; focus (and_intros <;> first | omega | exact rfl | (intro _ hh; cases hh; done) | exact Ci rfl | (simp only [Am]; omega) | (simp; done) | decide)) | (intro hfact) | (refine CallWp.mk ⟨_, m1, ?_⟩; rintro _ _ ⟨rfl, rfl⟩) | ((((first | with_reducible apply Bv | with_reducible apply Kx); (focus rfl))); (focus (simp only [D.at, D.put, D.kid, D.setKid, List.cons_append, List.nil_append, List.append, List.getElem?_cons_zero, List.getElem?_cons_succ, Int.toNat_natCast, List.getElem?_set_self', Option.map_eq_map, Option.map_some, List.set_cons_zero, List.set_cons_succ, List.set_set, Function.const_apply, List.map_cons, List.map_nil, mkSt, Be, D.toI, toIs, Az, List.getElem?_map, List.length_map, List.length_set, hxd, hge] <;> exact rfl)); (try (focus exact rfl))))
       all_goals (try (conv => whnf))
       have hA2 : runL (Ln (addG e)) Sc (Gc [e.sp] c.grant.sp) [] = Dc c.grant.sp [] e := P2 _ _ _
       obtain ⟨l2, hl2⟩ : ∃ l2, l2 = Gc [e.sp] c.grant.sp := ⟨_, rfl⟩
       rw [← hl2] at hA2 hrl ⊢
       refine each l2 _ _ _ (fun k' s' => [(11, Ca s'), (13, .box (.one (.i (Gra.toI ⟨gsp e.sp l2 k', e.r, e.w⟩)))), (174, .v (.int .i64 k'))]) (fun k' s' => s'.length ≤ (([] : List Gra) : List Gra).length + k') [] (by kernel_rfl) (by simp) hA2 ?_ ?_ <;> clear hA2
       · clear hA
         rintro k' s' e' he' hk' hi' hA
         try dsimp only at hi' hA ⊢
         have hm2 : l2.length ≤ maxLen := by simp only [maxLen]; omega
         have hgn : gsp e.sp l2 (k' + 1) = e' := by simp only [gsp, he', Option.getD_some]
         have hgc := Fu s' ⟨e', e.r, e.w⟩ (by omega)
         generalize gsp e.sp l2 k' = gk at *
         rcases s' with _ | ⟨b, q⟩
         · simp only [Ca]
           repeat' ((conv => whnf); first | (refine aI (fun hb => ?_) (fun hb => ?_) <;>first | (exfalso; simp only [Am] at hb <;> omega) | ((try rw [hb]); (try simp only [Ac] at hb))) | (refine eI ?_ ?_; focus (and_intros <;> first | omega | exact rfl | exact Ci rfl | (simp only [Am]; omega) | (simp; done))) | ((try dsimp only); first | rw [An he'] | rw [Aj he'] | rw [Ai he']) | (refine CallWp.mk ⟨_, hgc, ?_⟩; rintro _ _ ⟨rfl, rfl⟩))
           all_goals (try (conv => whnf))
           all_goals (refine RoundE.by (addG e [] e') ?_ ?_ hA; rotate_left; (have h1 := Gi e [] e'; have h2 := hi'; (try dsimp only at h2 ⊢); simp only [List.length_cons, List.length_nil] at h1 h2 ⊢; omega))
           all_goals (rw [Ah hk' hm2, hgn]; unfold addG; rename_i hb; rw [hb]; simp only [if_true, Bool.false_eq_true, if_false, Ca, List.nil_append, List.cons_append, List.map_append, List.map_cons, List.map_nil])
           all_goals (show norm _ _ = upd _ _; kernel_rfl)
         · have hq : q.length + 1 ≤ 5005 := by
            have h2 := hi'
            have h3 := hi
            simp only [List.length_cons, List.length_nil] at h2 h3
            omega
           simp only [Ca]
           repeat' ((conv => whnf); first | (refine aI (fun hb => ?_) (fun hb => ?_) <;>first | (exfalso; simp only [Am] at hb <;> omega) | ((try rw [hb]); (try simp only [Ac] at hb))) | (refine eI ?_ ?_; focus (and_intros <;> first | omega | exact rfl | exact Ci rfl | (simp only [Am]; omega) | (simp; done))) | ((simp only [show D.at [] (D.vec Bt 4 (List.map D.it (List.map Gra.toI (b :: q)))) = some (D.vec Bt 4 (List.map D.it (List.map Gra.toI (b :: q)))) from rfl, D.toI, Az])) | ((try dsimp only); first | rw [An he'] | rw [Aj he'] | rw [Ai he']) | (refine CallWp.mk ⟨_, hgc, ?_⟩; rintro _ _ ⟨rfl, rfl⟩))
           all_goals (try (conv => whnf))
           all_goals (refine RoundE.by (addG e (b :: q) e') ?_ ?_ hA; rotate_left; (have h1 := Gi e (b :: q) e'; have h2 := hi'; (try dsimp only at h2 ⊢); simp only [List.length_cons, List.length_nil] at h1 h2 ⊢; omega))
           all_goals (rw [Ah hk' hm2, hgn]; unfold addG; rename_i hb; rw [hb]; simp only [if_true, Bool.false_eq_true, if_false, Ca, List.nil_append, List.cons_append, List.map_append, List.map_cons, List.map_nil])
           all_goals (show norm _ _ = upd _ _; kernel_rfl)
       · rintro s' k' rfl hi' hA'
         try dsimp only at hi' hA' ⊢
         obtain rfl : s' = Dc c.grant.sp [] e := hA'
         obtain ⟨V, hV⟩ : ∃ V, V = Dc c.grant.sp [] e := ⟨_, rfl⟩
         rw [← hV]
         rcases V with _ | ⟨b, q⟩
         · simp only [Ca]
           repeat' ((conv => whnf); (refine aI (fun hb => ?_) (fun hb => ?_) <;>first | (exfalso; simp only [Am] at hb <;> omega) | ((try rw [hb]); (try simp only [Ac] at hb))))
           all_goals (try (conv => whnf))
           refine RoundE.by (Dc c.grant.sp [] e) ?_ (Nat.le_trans hol (by have h2 := hi; simp only [List.length_cons, List.length_nil] at h2 ⊢; omega)) hA
           rw [Ah hk hm, ← hV]
           simp only [Ca]
           show norm _ _ = upd _ _
           kernel_rfl
         · simp only [Ca]
           repeat' ((conv => whnf); (refine aI (fun hb => ?_) (fun hb => ?_) <;>first | (exfalso; simp only [Am] at hb <;> omega) | ((try rw [hb]); (try simp only [Ac] at hb))))
           all_goals (try (conv => whnf))
           refine RoundE.by (Dc c.grant.sp [] e) ?_ (Nat.le_trans hol (by have h2 := hi; simp only [List.length_cons, List.length_nil] at h2 ⊢; omega)) hA
           rw [Ah hk hm, ← hV]
           simp only [Ca]
           show norm _ _ = upd _ _
           kernel_rfl
     · simp only [Ca]
       repeat' ((conv => whnf); first | (refine aI (fun hb => ?_) (fun hb => ?_) <;>first | (exfalso; simp only [Am] at hb <;> omega) | ((try rw [hb]); (try simp only [Ac] at hb))) | (refine eI ?_ ?_; focus (and_intros <;> first | omega | exact rfl | (intro _ hh; cases hh; done) | exact Ci rfl | (simp only [Am]; omega) | (simp; done) | decide)) | (intro hfact) | (refine CallWp.mk ⟨_, m1, ?_⟩; rintro _ _ ⟨rfl, rfl⟩) | ((((first | with_reducible apply Bv | with_reducible apply Kx); (focus rfl))); (focus (simp only [D.at, D.put, D.kid, D.setKid, List.cons_append, List.nil_append, List.append, List.getElem?_cons_zero, List.getElem?_cons_succ, Int.toNat_natCast, List.getElem?_set_self', Option.map_eq_map, Option.map_some, List.set_cons_zero, List.set_cons_succ, List.set_set, Function.const_apply, List.map_cons, List.map_nil, mkSt, Be, D.toI, toIs, Az, List.getElem?_map, List.length_map, List.length_set, hxd, hge] <;> exact rfl)); (try (focus exact rfl))))
       all_goals (try (conv => whnf))
       have hA2 : runL (Ln (addG e)) Sc (Gc [e.sp] c.grant.sp) (a :: t) = Dc c.grant.sp (a :: t) e := P2 _ _ _
       obtain ⟨l2, hl2⟩ : ∃ l2, l2 = Gc [e.sp] c.grant.sp := ⟨_, rfl⟩
       rw [← hl2] at hA2 hrl ⊢
       refine each l2 _ _ _ (fun k' s' => [(11, Ca s'), (13, .box (.one (.i (Gra.toI ⟨gsp e.sp l2 k', e.r, e.w⟩)))), (174, .v (.int .i64 k'))]) (fun k' s' => s'.length ≤ ((a :: t) : List Gra).length + k') (a :: t) (by kernel_rfl) (by simp) hA2 ?_ ?_ <;> clear hA2
       · clear hA
         rintro k' s' e' he' hk' hi' hA
         try dsimp only at hi' hA ⊢
         have hm2 : l2.length ≤ maxLen := by simp only [maxLen]; omega
         have hgn : gsp e.sp l2 (k' + 1) = e' := by simp only [gsp, he', Option.getD_some]
         have hgc := Fu s' ⟨e', e.r, e.w⟩ (by omega)
         generalize gsp e.sp l2 k' = gk at *
         rcases s' with _ | ⟨b, q⟩
         · simp only [Ca]
           repeat' ((conv => whnf); first | (refine aI (fun hb => ?_) (fun hb => ?_) <;>first | (exfalso; simp only [Am] at hb <;> omega) | ((try rw [hb]); (try simp only [Ac] at hb))) | (refine eI ?_ ?_; focus (and_intros <;> first | omega | exact rfl | exact Ci rfl | (simp only [Am]; omega) | (simp; done))) | ((try dsimp only); first | rw [An he'] | rw [Aj he'] | rw [Ai he']) | (refine CallWp.mk ⟨_, hgc, ?_⟩; rintro _ _ ⟨rfl, rfl⟩))
           all_goals (try (conv => whnf))
           all_goals (refine RoundE.by (addG e [] e') ?_ ?_ hA; rotate_left; (have h1 := Gi e [] e'; have h2 := hi'; (try dsimp only at h2 ⊢); simp only [List.length_cons, List.length_nil] at h1 h2 ⊢; omega))
           all_goals (rw [Ah hk' hm2, hgn]; unfold addG; rename_i hb; rw [hb]; simp only [if_true, Bool.false_eq_true, if_false, Ca, List.nil_append, List.cons_append, List.map_append, List.map_cons, List.map_nil])
           all_goals (show norm _ _ = upd _ _; kernel_rfl)
         · have hq : q.length + 1 ≤ 5005 := by
            have h2 := hi'
            have h3 := hi
            simp only [List.length_cons, List.length_nil] at h2 h3
            omega
           simp only [Ca]
           repeat' ((conv => whnf); first | (refine aI (fun hb => ?_) (fun hb => ?_) <;>first | (exfalso; simp only [Am] at hb <;> omega) | ((try rw [hb]); (try simp only [Ac] at hb))) | (refine eI ?_ ?_; focus (and_intros <;> first | omega | exact rfl | exact Ci rfl | (simp only [Am]; omega) | (simp; done))) | ((simp only [show D.at [] (D.vec Bt 4 (List.map D.it (List.map Gra.toI (b :: q)))) = some (D.vec Bt 4 (List.map D.it (List.map Gra.toI (b :: q)))) from rfl, D.toI, Az])) | ((try dsimp only); first | rw [An he'] | rw [Aj he'] | rw [Ai he']) | (refine CallWp.mk ⟨_, hgc, ?_⟩; rintro _ _ ⟨rfl, rfl⟩))
           all_goals (try (conv => whnf))
           all_goals (refine RoundE.by (addG e (b :: q) e') ?_ ?_ hA; rotate_left; (have h1 := Gi e (b :: q) e'; have h2 := hi'; (try dsimp only at h2 ⊢); simp only [List.length_cons, List.length_nil] at h1 h2 ⊢; omega))
           all_goals (rw [Ah hk' hm2, hgn]; unfold addG; rename_i hb; rw [hb]; simp only [if_true, Bool.false_eq_true, if_false, Ca, List.nil_append, List.cons_append, List.map_append, List.map_cons, List.map_nil])
           all_goals (show norm _ _ = upd _ _; kernel_rfl)
       · rintro s' k' rfl hi' hA'
         try dsimp only at hi' hA' ⊢
         obtain rfl : s' = Dc c.grant.sp (a :: t) e := hA'
         obtain ⟨V, hV⟩ : ∃ V, V = Dc c.grant.sp (a :: t) e := ⟨_, rfl⟩
         rw [← hV]
         rcases V with _ | ⟨b, q⟩
         · simp only [Ca]
           repeat' ((conv => whnf); (refine aI (fun hb => ?_) (fun hb => ?_) <;>first | (exfalso; simp only [Am] at hb <;> omega) | ((try rw [hb]); (try simp only [Ac] at hb))))
           all_goals (try (conv => whnf))
           refine RoundE.by (Dc c.grant.sp (a :: t) e) ?_ (Nat.le_trans hol (by have h2 := hi; simp only [List.length_cons, List.length_nil] at h2 ⊢; omega)) hA
           rw [Ah hk hm, ← hV]
           simp only [Ca]
           show norm _ _ = upd _ _
           kernel_rfl
         · simp only [Ca]
           repeat' ((conv => whnf); (refine aI (fun hb => ?_) (fun hb => ?_) <;>first | (exfalso; simp only [Am] at hb <;> omega) | ((try rw [hb]); (try simp only [Ac] at hb))))
           all_goals (try (conv => whnf))
           refine RoundE.by (Dc c.grant.sp (a :: t) e) ?_ (Nat.le_trans hol (by have h2 := hi; simp only [List.length_cons, List.length_nil] at h2 ⊢; omega)) hA
           rw [Ah hk hm, ← hV]
           simp only [Ca]
           show norm _ _ = upd _ _
           kernel_rfl
   · rintro s k rfl hi hA
     try dsimp only at hi hA ⊢
     obtain rfl : s = revM x.grants c.grant.sp := hA
     obtain ⟨V, hV⟩ : ∃ V, V = revM x.grants c.grant.sp := ⟨_, rfl⟩
     rw [← hV]
     have hset : (r.rols.set (Aw Rol.name r.rols c.name) { x with grants := V }).map Rol.toD = (r.rols.map Rol.toD).set (Aw Rol.name r.rols c.name) (Rol.toD { x with grants := V }) := by simp [List.map_set]
     have hD : Roll.toD { r with rols := r.rols.set (Aw Rol.name r.rols c.name) { x with grants := V } } = .st [.it (.int .i64 r.rev), .vec A0 3 ((r.tens.map Ten.toI).map D.it), .vec Ax 5 (r.usrs.map Usr.toD), .vec Au 3 ((r.rols.map Rol.toD).set (Aw Rol.name r.rols c.name) (.st [.it (.str x.name), .it (.str x.ten), .vec Bt 4 ((V.map Gra.toI).map D.it)]))] := by
      show D.st [_, _, _, D.vec _ _ (List.map _ (r.rols.set _ _))] = _
      rw [hset]
     by_cases h8 : 8 < (V.length : Int)
     · rw [if_pos h8]
       rcases V with _ | ⟨a, t⟩
       · simp at h8
       · simp only [Ca]
         repeat' ((conv => whnf); first | (refine aI (fun hb => ?_) (fun hb => ?_) <;>first | (exfalso; simp only [Am] at hb <;> omega) | ((try rw [hb]); (try simp only [Ac] at hb))) | (refine eI ?_ ?_; focus (and_intros <;> first | omega | exact rfl | (simp; done))) | (intro hfact) | ((first | with_reducible apply Ug | ((with_reducible apply Bv); (focus rfl))); (focus (simp only [D.at, D.put, D.kid, D.setKid, List.cons_append, List.nil_append, List.append, List.getElem?_cons_zero, List.getElem?_cons_succ, Int.toNat_natCast, List.getElem?_set_self', Option.map_eq_map, Option.map_some, List.set_cons_zero, List.set_cons_succ, List.set_set, Function.const_apply, List.map_cons, List.map_nil, mkSt, Be, D.toI, toIs, Az, List.getElem?_map, List.length_map, List.length_set, hxd] <;> exact rfl)); (try (focus exact rfl))))
         all_goals (try (conv => whnf))
         all_goals first | (exfalso; simp at h8 hb; omega) | (exfalso; simp at h8; omega) | exact Done.mk ⟨by kernel_rfl, by kernel_rfl⟩ (by kernel_rfl)
     · rw [if_neg h8, hD]
       rcases V with _ | ⟨a, t⟩
       · simp only [Ca]
         repeat' ((conv => whnf); first | (refine aI (fun hb => ?_) (fun hb => ?_) <;>first | exact absurd hb (by decide) | (exfalso; simp only [Am] at hb <;> omega) | ((try rw [hb]); (try simp only [Ac] at hb))) | (refine eI ?_ ?_; focus (and_intros <;> first | omega | exact rfl | (simp; done))) | (intro hfact) | ((first | with_reducible apply Ug | ((with_reducible apply Bv); (focus rfl))); (focus (simp only [D.at, D.put, D.kid, D.setKid, List.cons_append, List.nil_append, List.append, List.getElem?_cons_zero, List.getElem?_cons_succ, Int.toNat_natCast, List.getElem?_set_self', Option.map_eq_map, Option.map_some, List.set_cons_zero, List.set_cons_succ, List.set_set, Function.const_apply, List.map_cons, List.map_nil, mkSt, Be, D.toI, toIs, Az, List.getElem?_map, List.length_map, List.length_set, hxd] <;> exact rfl)); (try (focus exact rfl))))
         all_goals (try (conv => whnf))
         all_goals first | (exfalso; simp at h8 hb; omega) | (exfalso; simp at h8; omega) | exact Done.mk ⟨by kernel_rfl, by kernel_rfl⟩ (by kernel_rfl)
       · simp only [Ca]
         repeat' ((conv => whnf); first | (refine aI (fun hb => ?_) (fun hb => ?_) <;>first | (exfalso; simp only [Am] at hb <;> omega) | ((try rw [hb]); (try simp only [Ac] at hb))) | (refine eI ?_ ?_; focus (and_intros <;> first | exact rfl | (simp; done))) | (intro hfact) | ((first | with_reducible apply Ug | ((with_reducible apply Bv); (focus rfl))); (focus (simp only [D.at, D.put, D.kid, D.setKid, List.cons_append, List.nil_append, List.append, List.getElem?_cons_zero, List.getElem?_cons_succ, Int.toNat_natCast, List.getElem?_set_self', Option.map_eq_map, Option.map_some, List.set_cons_zero, List.set_cons_succ, List.set_set, Function.const_apply, List.map_cons, List.map_nil, mkSt, Be, D.toI, toIs, Az, List.getElem?_map, List.length_map, List.length_set, hxd] <;> exact rfl)); (try (focus exact rfl))))
         all_goals (try (conv => whnf))
         all_goals first | (exfalso; simp at h8 hb; omega) | (exfalso; simp at h8; omega) | exact Done.mk ⟨by kernel_rfl, by kernel_rfl⟩ (by kernel_rfl)

open Go.Proofs
def doP (r : Roll) (c : Cmd) : Roll × Int :=
 if c.kind = 4 ∨ c.kind = 5 then Eh r c
 else if c.kind = 6 ∨ c.kind = 7 ∨ c.kind = 8 then Bx r c
 else if c.kind = 13 ∨ c.kind = 14 then Df r c
 else Bb r c
def doD (r : Roll) (c : Cmd) : D :=
 if c.kind = 4 ∨ c.kind = 5 then (Eh r c).1.toD
 else if c.kind = 6 ∨ c.kind = 7 ∨ c.kind = 8 then Fv r c
 else if c.kind = 13 ∨ c.kind = 14 then (Df r c).1.toD
 else Dw r c
theorem Afx (r : Roll) (hs : r.Small) (c : Cmd) (hk : 9 ≤ c.kind ∧ c.kind ≤ 12) : Fn Tryz.prog Ge [.own [] (.ptr r.toD), .v c.toI] (Is (.v (.int .i64 (Bb r c).2)) [.own [] (.ptr (Dw r c)), .no]) := by
 rcases (by omega : c.kind = 9 ∨ c.kind = 10 ∨ c.kind = 11 ∨ c.kind = 12) with h | h | h | h
 · exact Adb r hs c h
 · exact Ab0 r hs c h
 · exact Acs r hs c h
 · exact Aak r hs c h
theorem Akt (r : Roll) (hs : r.Small) (c : Cmd) (hc : c.salt.length ≤ 100000 ∧ c.word.length ≤ 100000) (hk : 4 ≤ c.kind ∧ c.kind ≤ 14) : Fn Tryz.prog Ai8 [.own [] (.ptr r.toD), .v c.toI] (Is (.v (.int .i64 (doP r c).2)) [.own [] (.ptr (doD r c)), .no]) := by
 refine Agn ?_ (by simp)
 have t1 := Aav r hs c
 have u1 := Agc r hs c hc
 have h1 := Af9 r hs c
 unfold doP doD
 by_cases k1 : c.kind = 4 ∨ c.kind = 5
 · rw [if_pos k1, if_pos k1]
   repeat' ((conv => whnf); first | (refine aI (fun hb => ?_) (fun hb => ?_) <;>first | exact absurd hb (by decide) | (exfalso; simp only [Am] at hb <;> omega) | ((try rw [hb]); (try simp only [Ac] at hb))) | (refine eI ?_ ?_; focus (and_intros <;> first | exact rfl | (intro _ hh; cases hh; done) | (simp; done) | decide)) | (refine CallWp.mk ⟨_, t1, ?_⟩; rintro _ _ ⟨rfl, rfl⟩))
   all_goals (try (conv => whnf))
   all_goals first | (exfalso; omega) | exact Done.mk ⟨by kernel_rfl, by kernel_rfl⟩ (by kernel_rfl)
 rw [if_neg k1, if_neg k1]
 by_cases k2 : c.kind = 6 ∨ c.kind = 7 ∨ c.kind = 8
 · rw [if_pos k2, if_pos k2]
   repeat' ((conv => whnf); first | (refine aI (fun hb => ?_) (fun hb => ?_) <;>first | exact absurd hb (by decide) | (exfalso; simp only [Am] at hb <;> omega) | ((try rw [hb]); (try simp only [Ac] at hb))) | (refine eI ?_ ?_; focus (and_intros <;> first | exact rfl | (intro _ hh; cases hh; done) | (simp; done) | decide)) | (refine CallWp.mk ⟨_, u1, ?_⟩; rintro _ _ ⟨rfl, rfl⟩))
   all_goals (try (conv => whnf))
   all_goals first | (exfalso; omega) | exact Done.mk ⟨by kernel_rfl, by kernel_rfl⟩ (by kernel_rfl)
 rw [if_neg k2, if_neg k2]
 by_cases k3 : c.kind = 13 ∨ c.kind = 14
 · rw [if_pos k3, if_pos k3]
   repeat' ((conv => whnf); first | (refine aI (fun hb => ?_) (fun hb => ?_) <;>first | exact absurd hb (by decide) | (exfalso; simp only [Am] at hb <;> omega) | ((try rw [hb]); (try simp only [Ac] at hb))) | (refine eI ?_ ?_; focus (and_intros <;> first | exact rfl | (intro _ hh; cases hh; done) | (simp; done) | decide)) | (refine CallWp.mk ⟨_, h1, ?_⟩; rintro _ _ ⟨rfl, rfl⟩))
   all_goals (try (conv => whnf))
   all_goals first | (exfalso; omega) | exact Done.mk ⟨by kernel_rfl, by kernel_rfl⟩ (by kernel_rfl)
 rw [if_neg k3, if_neg k3]
 have r1 := Afx r hs c (by omega)
 repeat' ((conv => whnf); first | (refine aI (fun hb => ?_) (fun hb => ?_) <;>first | (exfalso; simp only [Am] at hb <;> omega) | ((try rw [hb]); (try simp only [Ac] at hb))) | (refine eI ?_ ?_; focus (and_intros <;> first | exact rfl | (intro _ hh; cases hh; done) | (simp; done) | decide)) | (refine CallWp.mk ⟨_, r1, ?_⟩; rintro _ _ ⟨rfl, rfl⟩))
 all_goals (try (conv => whnf))
 all_goals first | (exfalso; omega) | exact Done.mk ⟨by kernel_rfl, by kernel_rfl⟩ (by kernel_rfl)

open Go.Proofs
theorem Ad4 (r : Roll) (c : Cmd) : (Eh r c).1.rev = r.rev := by unfold Eh; repeat' split
                                                                all_goals rfl
theorem Ah2 (r : Roll) (c : Cmd) : (Bx r c).1.rev = r.rev := by unfold Bx; repeat' split
                                                                all_goals rfl
theorem Ahm (r : Roll) (c : Cmd) : (Df r c).1.rev = r.rev := by unfold Df; repeat' split
                                                                all_goals rfl
theorem Ah0 (r : Roll) (c : Cmd) : (Bb r c).1.rev = r.rev := by unfold Bb; repeat' split
                                                                all_goals rfl
theorem Am0 (r : Roll) (c : Cmd) : (doP r c).1.rev = r.rev := by
 unfold doP
 split
 · exact Ad4 r c
 split
 · exact Ah2 r c
 split
 · exact Ahm r c
 · exact Ah0 r c
def IsD (d : D) (r : Roll) : Prop := ∃ a b e, d = .st [.it (.int .i64 r.rev), .vec A0 3 a, .vec Ax 5 b, .vec Au 3 e] ∧ toIs a = some (r.tens.map Ten.toI) ∧ toIs b = some (r.usrs.map Usr.toI) ∧ toIs e = some (r.rols.map Rol.toI)
theorem Sa (r : Roll) : IsD r.toD r := ⟨_, _, _, rfl, Az _, Ey _, E9 _⟩
theorem Un {α : Type} {d : α → D} {f : α → I} {l : List α} (h : toIs (l.map d) = some (l.map f)) (i : Nat) (x : α) : toIs (Cm i (.it (f x)) (l.map d)) = some ((Cm i x l).map f) := by
 have hap : ∀ (a b : List D) (u v : List I), toIs a = some u → toIs b = some v → toIs (a ++ b) = some (u ++ v) := by
  intro a
  induction a with
  | nil => intro b u v h1 h2; simp [toIs] at h1; subst h1; simpa using h2
  | cons y a ih =>
    intro b u v h1 h2
    simp only [toIs] at h1
    cases hy : y.toI with
    | none => rw [hy] at h1; simp at h1
    | some z =>
      cases ha : toIs a with
      | none => rw [hy, ha] at h1; simp at h1
      | some w =>
        rw [hy, ha] at h1
        simp at h1
        subst h1
        simp only [List.cons_append, toIs, hy, ih b w v ha h2]
 have hsp : ∀ (l : List α), toIs (l.map d) = some (l.map f) → ∀ i, toIs ((l.take i).map d) = some ((l.take i).map f) ∧ toIs ((l.drop i).map d) = some ((l.drop i).map f) := by
  intro l
  induction l with
  | nil => intro _ i; simp [toIs]
  | cons y l ih =>
    intro h i
    cases i with
    | zero => exact ⟨by simp [toIs], by simpa using h⟩
    | succ i =>
      simp only [List.map_cons, toIs] at h
      cases hy : (d y).toI with
      | none => rw [hy] at h; simp at h
      | some z =>
        cases ha : toIs (l.map d) with
        | none => rw [hy, ha] at h; simp at h
        | some w =>
          rw [hy, ha] at h
          simp at h
          obtain ⟨rfl, rfl⟩ := h
          obtain ⟨i1, i2⟩ := ih ha i
          exact ⟨by simp only [List.take_succ_cons, List.map_cons, toIs, hy, i1], by simpa using i2⟩
 obtain ⟨s1, s2⟩ := hsp l h i
 unfold Cm
 rw [List.map_append, List.map_cons, ← List.map_take, ← List.map_drop]
 exact hap _ _ _ _ s1 (by simp only [toIs, D.toI, s2])
theorem Aio (r : Roll) (c : Cmd) : IsD (Fv r c) (Bx r c).1 := by
 unfold Fv
 split
 · rename_i h
   obtain ⟨h6, h0⟩ := h
   have hP : (Bx r c).1 = { r with usrs := Cm (Aw Usr.name r.usrs c.name) ⟨c.name, c.other, c.salt, C4 c.salt c.word, []⟩ r.usrs } := by
    revert h0
    unfold Bx
    rw [if_pos h6]
    repeat' split
    all_goals simp
   rw [hP]
   exact ⟨_, _, _, rfl, Az _, Un (d := Usr.toD) (f := Usr.toI) (Ey r.usrs) _ _, E9 _⟩
 · exact Sa _
theorem Ajk (r : Roll) (c : Cmd) : IsD (Dw r c) (Bb r c).1 := by
 unfold Dw
 split
 · rename_i h
   obtain ⟨h6, h0⟩ := h
   have hP : (Bb r c).1 = { r with rols := Cm (Aw Rol.name r.rols c.name) ⟨c.name, c.other, []⟩ r.rols } := by
    revert h0
    unfold Bb
    rw [if_pos h6]
    repeat' split
    all_goals simp
   rw [hP]
   exact ⟨_, _, _, rfl, Az _, Ey _, Un (d := Rol.toD) (f := Rol.toI) (E9 r.rols) _ _⟩
 · exact Sa _
theorem Am2 (r : Roll) (c : Cmd) : IsD (doD r c) (doP r c).1 := by
 unfold doD doP
 split
 · exact Sa _
 split
 · exact Aio r c
 split
 · exact Sa _
 · exact Ajk r c
def DoP (r : Roll) (c : Cmd) : Roll × Int :=
 if c.kind < 4 ∨ 14 < c.kind then (r, 1)
 else if 1099511627776 ≤ r.rev then (r, 17)
 else if (doP r c).2 = 0 then ({ (doP r c).1 with rev := r.rev + 1 }, 0)
 else (r, (doP r c).2)
theorem H6 (r : Roll) (hs : r.Small) (c : Cmd) (hc : c.salt.length ≤ 100000 ∧ c.word.length ≤ 100000) (hrev : -9223372036854775808 ≤ r.rev) : Fn Tryz.prog Xm [.v r.toI, .v c.toI] (Is (.tup [.i (DoP r c).1.toI, .i (.int .i64 (DoP r c).2)]) [.no, .no]) := by
 refine Fn.isF (x := [(DoP r c).1.toI, .int .i64 (DoP r c).2]) ?_
 refine Aeg ?_ (by simp)
 have cp := Abt r hs
 unfold DoP
 by_cases k1 : c.kind < 4 ∨ 14 < c.kind
 · rw [if_pos k1]
   repeat' ((conv => whnf); first | (refine aI (fun hb => ?_) (fun hb => ?_) <;>first | exact absurd hb (by decide) | (exfalso; simp only [Am] at hb <;> omega) | ((try rw [hb]); (try simp only [Ac] at hb))) | (refine eI ?_ ?_; focus (and_intros <;> first | exact rfl | (intro _ hh; cases hh; done) | (simp; done) | decide)) | (refine CallWp.mk ⟨_, cp, ?_⟩; rintro _ _ ⟨rfl, rfl⟩))
   all_goals (try (conv => whnf))
   all_goals first | (exfalso; omega) | skip
   all_goals (refine Done.mk ⟨?_, by kernel_rfl⟩ (by kernel_rfl))
   all_goals (try simp only [hs])
   all_goals (try simp only [hs, *, if_true, if_false, Bool.false_eq_true, Bool.true_eq_false, Bool.not_true, Bool.not_false, decide_true, decide_false, not_true_eq_false, not_false_eq_true, ne_eq, reduceIte])
   all_goals (try simp only [resD, Mb, I.put, List.replicate_succ, List.replicate_zero, toIs, D.toI, Az, P9, List.map_cons, List.map_nil, List.set_cons_zero, List.set_cons_succ, mkSt, Be, List.map_set, Int.toNat_natCast, E9, Ey])
   all_goals (try rfl)
 rw [if_neg k1]
 by_cases k2 : 1099511627776 ≤ r.rev
 · rw [if_pos k2]
   repeat' ((conv => whnf); first | (refine aI (fun hb => ?_) (fun hb => ?_) <;>first | exact absurd hb (by decide) | (exfalso; simp only [Am] at hb <;> omega) | ((try rw [hb]); (try simp only [Ac] at hb))) | (refine eI ?_ ?_; focus (and_intros <;> first | exact rfl | (intro _ hh; cases hh; done) | (simp; done) | decide)) | (refine CallWp.mk ⟨_, cp, ?_⟩; rintro _ _ ⟨rfl, rfl⟩))
   all_goals (try (conv => whnf))
   all_goals first | (exfalso; omega) | skip
   all_goals (refine Done.mk ⟨?_, by kernel_rfl⟩ (by kernel_rfl))
   all_goals (try simp only [hs])
   all_goals (try simp only [hs, *, if_true, if_false, Bool.false_eq_true, Bool.true_eq_false, Bool.not_true, Bool.not_false, decide_true, decide_false, not_true_eq_false, not_false_eq_true, ne_eq, reduceIte])
   all_goals (try simp only [resD, Mb, I.put, List.replicate_succ, List.replicate_zero, toIs, D.toI, Az, P9, List.map_cons, List.map_nil, List.set_cons_zero, List.set_cons_succ, mkSt, Be, List.map_set, Int.toNat_natCast, E9, Ey])
   all_goals (try rfl)
 rw [if_neg k2]
 have hd := Akt r hs c hc (by omega)
 obtain ⟨a, b, e, hD, hta, htb, hte⟩ := Am2 r c
 rw [Am0] at hD
 rw [hD] at hd
 have hw : IntKind.i64.wrap (r.rev + 1) = r.rev + 1 := Bj (by omega)
 generalize doP r c = X at *
 obtain ⟨n, x⟩ := X
 dsimp only at *
 by_cases k3 : x = 0
 · rw [if_pos k3]
   repeat' ((conv => whnf); first | (refine aI (fun hb => ?_) (fun hb => ?_) <;>first | exact absurd hb (by decide) | (exfalso; simp only [Am] at hb <;> omega) | ((try rw [hb]); (try simp only [Ac] at hb); (try subst hb))) | (refine eI ?_ ?_; focus (and_intros <;> first | omega | exact rfl | (intro _ hh; cases hh; done) | (simp; done) | decide)) | (refine CallWp.mk ⟨_, cp, ?_⟩; rintro _ _ ⟨rfl, rfl⟩) | (refine CallWp.mk ⟨_, hd, ?_⟩; rintro _ _ ⟨rfl, rfl⟩) | ((try dsimp only); rw [hw]))
   all_goals (try (conv => whnf))
   all_goals first | (exfalso; omega) | skip
   all_goals (refine Done.mk ⟨?_, by kernel_rfl⟩ (by kernel_rfl))
   all_goals (try simp only [hs])
   all_goals (try simp only [hs, *, if_true, if_false, Bool.false_eq_true, Bool.true_eq_false, Bool.not_true, Bool.not_false, decide_true, decide_false, not_true_eq_false, not_false_eq_true, ne_eq, reduceIte])
   all_goals (try simp only [resD, Mb, I.put, List.replicate_succ, List.replicate_zero, toIs, D.toI, Az, P9, List.map_cons, List.map_nil, List.set_cons_zero, List.set_cons_succ, mkSt, Be, List.map_set, Int.toNat_natCast, hta, htb, hte])
   all_goals (try rfl)
 · rw [if_neg k3]
   repeat' ((conv => whnf); first | (refine aI (fun hb => ?_) (fun hb => ?_) <;>first | exact absurd hb (by decide) | (exfalso; simp only [Am] at hb <;> omega) | ((try rw [hb]); (try simp only [Ac] at hb))) | (refine eI ?_ ?_; focus (and_intros <;> first | exact rfl | (intro _ hh; cases hh; done) | (simp; done) | decide)) | (refine CallWp.mk ⟨_, cp, ?_⟩; rintro _ _ ⟨rfl, rfl⟩) | (refine CallWp.mk ⟨_, hd, ?_⟩; rintro _ _ ⟨rfl, rfl⟩))
   all_goals (try (conv => whnf))
   all_goals first | (exfalso; omega) | skip
   all_goals (refine Done.mk ⟨?_, by kernel_rfl⟩ (by kernel_rfl))
   all_goals (try simp only [hs])
   all_goals (try simp only [hs, *, if_true, if_false, Bool.false_eq_true, Bool.true_eq_false, Bool.not_true, Bool.not_false, decide_true, decide_false, not_true_eq_false, not_false_eq_true, ne_eq, reduceIte])
   all_goals (try simp only [resD, Mb, I.put, List.replicate_succ, List.replicate_zero, toIs, D.toI, Az, P9, List.map_cons, List.map_nil, List.set_cons_zero, List.set_cons_succ, mkSt, Be, List.map_set, Int.toNat_natCast, E9, Ey])
   all_goals (try rfl)
end Go.Ab
