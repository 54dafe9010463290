/- Lemmas for the last text. -/
import Derived.Test.YtgcccllpegilnaaGreatDoorN15
set_option linter.unusedVariables false
set_option linter.unusedSimpArgs false
set_option maxRecDepth 100000
set_option maxHeartbeats 4000000
namespace Go.Ab
open Go.Proofs
abbrev Uo : Ad := [114, 111, 111, 116]
def GrOk (l : List Gra) : Prop := (∀ g ∈ l, Bc g.sp ∧ (g.r || g.w) = true) ∧ l.Nodup
structure Roll.Ok (r : Roll) : Prop where
 tn : ∀ t ∈ r.tens, Bi t.name = true ∧ B4 t.mb = true ∧ B4 t.ks = true
 un : ∀ u ∈ r.usrs, Bi u.name = true ∧ u.salt.length ≤ 64 ∧ u.hash.length = 32
 xn : ∀ x ∈ r.rols, Bi x.name = true ∧ (∃ t ∈ r.tens, t.name = x.ten) ∧ GrOk x.grants
 ur : ∀ u ∈ r.usrs, u.name = Uo → u.ten = [] ∧ u.roles = []
 ut : ∀ u ∈ r.usrs, u.name ≠ Uo → ∃ t ∈ r.tens, t.name = u.ten
 uo : ∀ u ∈ r.usrs, ∀ n ∈ u.roles, ∃ x ∈ r.rols, x.name = n ∧ x.ten = u.ten
 rt : ∃ u ∈ r.usrs, u.name = Uo
theorem Ame {g : Gra} {out : List Gra} {sp : Sp} (h : GrOk out) (hs : Bc sp) (hg : (g.r || g.w) = true) : GrOk (addG g out sp) := by
 unfold addG
 split
 · exact h
 · rename_i hn
   refine ⟨fun x hx => ?_, ?_⟩
   · rcases List.mem_append.1 hx with hx | hx
     · exact h.1 x hx
     · simp at hx; subst hx; exact ⟨hs, hg⟩
   · rw [List.nodup_append]
     refine ⟨h.2, by simp, fun a ha b hb => ?_⟩
     simp at hb; subst hb
     intro e
     exact hn (List.any_eq_true.2 ⟨a, ha, by simpa using e⟩)
theorem Abi {g : Gra} (hg : (g.r || g.w) = true) : ∀ {l : List Sp} {out : List Gra}, GrOk out → (∀ s ∈ l, Bc s) → GrOk (l.foldl (addG g) out)
 | [], _, h, _ => h
 | s :: l, out, h, hl => Abi hg (l := l) (Ame h (hl s (List.mem_cons_self ..)) hg) fun x hx => hl x (List.mem_cons_of_mem _ hx)
theorem Afa {s : Sp} : ∀ {l out : List Gra}, GrOk out → (∀ g ∈ l, Bc g.sp ∧ (g.r || g.w) = true) → GrOk (l.foldl (Dc s) out)
 | [], _, h, _ => h
 | g :: l, out, h, hl => Afa (l := l) (by
     unfold Dc
     exact Abi (hl g (List.mem_cons_self ..)).2 h (by rw [Xv]; exact Adw _ _)) fun x hx => hl x (List.mem_cons_of_mem _ hx)
theorem Am5 {l : List Gra} {s : Sp} (h : GrOk l) : GrOk (revM l s) := Afa ⟨by simp, by simp⟩ h.1
theorem Uv {α : Type} {gt : α → Bool} {y : α} {p : α → Prop} {l : List α} (h : ∃ x ∈ l, p x) : ∃ x ∈ Du gt y l, p x := by
 obtain ⟨x, hx, hp⟩ := h
 exact ⟨x, B7.2 (.inr hx), hp⟩
theorem Ns {α : Type} {p : α → Prop} {l : List α} {j : Nat} {x y : α} (hj : l[j]? = some x) (hxy : p x → p y) (h : ∃ z ∈ l, p z) : ∃ z ∈ l.set j y, p z := by
 obtain ⟨z, hz, hp⟩ := h
 obtain ⟨i, hi⟩ := List.getElem?_of_mem hz
 by_cases e : j = i
 · subst e
   rw [hj] at hi
   cases hi
   exact ⟨y, List.mem_of_getElem? (i := j) (by rw [List.getElem?_set_self (List.getElem?_eq_some_iff.1 hj).1]), hxy hp⟩
 · exact ⟨z, List.mem_of_getElem? (i := i) (by rw [List.getElem?_set_ne e]; exact hi), hp⟩
theorem Air {α : Type} {p : α → Prop} {l : List α} {j : Nat} {x : α} (hj : l[j]? = some x) (hx : ¬ p x) (h : ∃ z ∈ l, p z) : ∃ z ∈ l.take j ++ l.drop (j + 1), p z := by
 obtain ⟨z, hz, hp⟩ := h
 obtain ⟨i, hi⟩ := List.getElem?_of_mem hz
 refine ⟨z, ?_, hp⟩
 rcases Nat.lt_trichotomy i j with h | h | h
 · exact List.mem_append_left _ (List.mem_of_getElem? (i := i) (by rw [List.getElem?_take, if_pos h]; exact hi))
 · subst h; rw [hj] at hi; cases hi; exact absurd hp hx
 · exact List.mem_append_right _ (List.mem_of_getElem? (i := i - (j + 1)) (by rw [List.getElem?_drop, show j + 1 + (i - (j + 1)) = i by omega]; exact hi))
theorem Ni {α : Type} {l : List α} {j : Nat} {x : α} (h : x ∈ l.take j ++ l.drop (j + 1)) : x ∈ l := by
 rcases List.mem_append.1 h with h | h
 · exact List.mem_of_mem_take h
 · exact List.mem_of_mem_drop h
theorem Xt : Bi [] = false := by decide
theorem Anc {r : Roll} (h : r.Ok) (c : Cmd) : (doM r c).1.Ok := by
 obtain ⟨tn, un, xn, ur, ut, uo, rt⟩ := h
 have h0 : r.Ok := ⟨tn, un, xn, ur, ut, uo, rt⟩
 have nn : ∀ {α : Type} {nm : α → Ad} {l : List α} {n : Ad}, findAt (fun t => decide (nm t = n)) 0 l < 0 → ∀ x ∈ l, nm x ≠ n := fun h x hx => by simpa using Aev h x hx
 unfold doM
 split
 · exact h0
 split
 · exact h0
 split
 · unfold Ks
   repeat' split
   all_goals try exact h0
   rename_i g1 g2 g3 g4 g5
   refine ⟨fun t ht => ?_, un, fun x hx => ⟨(xn x hx).1, Uv (xn x hx).2.1, (xn x hx).2.2⟩, ur, fun u hu hn => Uv (ut u hu hn), uo, rt⟩
   rcases B7.1 ht with rfl | ht
   · exact ⟨by simpa using g1, by simpa using g2, by simpa using g3⟩
   · exact tn t ht
 split
 · unfold Nj
   repeat' split
   all_goals try exact h0
   rename_i g1 g2 hn
   obtain ⟨x, hx, hp⟩ := Ja hn
   have hp : x.name = c.name := of_decide_eq_true hp
   have es : ∀ {n : Ad}, (∃ t ∈ r.tens, t.name = n) → ∃ t ∈ r.tens.set (r.tenAt c.name).toNat ⟨c.name, c.bytes, c.keys⟩, t.name = n := fun h => Ns hx (fun e => by dsimp only; rw [← e, hp]) h
   refine ⟨fun t ht => ?_, un, fun x hx => ⟨(xn x hx).1, es (xn x hx).2.1, (xn x hx).2.2⟩, ur, fun u hu hn => es (ut u hu hn), uo, rt⟩
   rcases C8 ht with rfl | ht
   · exact ⟨by rw [← hp]; exact (tn x (List.mem_of_getElem? hx)).1, by simpa using g1, by simpa using g2⟩
   · exact tn t ht
 split
 · unfold Sk
   repeat' split
   all_goals try exact h0
   rename_i g1 g2 g3 g4 g5 g6
   have hne : c.name ≠ Uo := by
    obtain ⟨u, hu, hr⟩ := rt
    intro e
    exact nn (show r.usrAt c.name < 0 by omega) u hu (by rw [hr, e])
   obtain ⟨x, hx, hp⟩ := Ja (show ¬ r.tenAt c.other < 0 from g5)
   have hp : x.name = c.other := of_decide_eq_true hp
   refine ⟨tn, fun u hu => ?_, xn, fun u hu hn => ?_, fun u hu hn => ?_, fun u hu => ?_, Uv rt⟩
   · rcases B7.1 hu with rfl | hu
     · exact ⟨by simpa using g1, by dsimp only; omega, Hn _ _ _⟩
     · exact un u hu
   · rcases B7.1 hu with rfl | hu
     · exact absurd hn hne
     · exact ur u hu hn
   · rcases B7.1 hu with rfl | hu
     · exact ⟨x, List.mem_of_getElem? hx, hp⟩
     · exact ut u hu hn
   · rcases B7.1 hu with rfl | hu
     · intro n hn; simp at hn
     · exact uo u hu
 split
 · unfold Si
   repeat' split
   all_goals try exact h0
   rename_i g1 g2 hn _ u hu
   have hm := List.mem_of_getElem? hu
   refine ⟨tn, fun v hv => ?_, xn, fun v hv => ?_, fun v hv => ?_, fun v hv => ?_, Ns hu (fun e => e) rt⟩
   all_goals rcases C8 hv with rfl | hv
   · exact ⟨(un u hm).1, by dsimp only; omega, Hn _ _ _⟩
   · exact un v hv
   · exact ur u hm
   · exact ur v hv
   · exact ut u hm
   · exact ut v hv
   · exact uo u hm
   · exact uo v hv
 split
 · unfold Ng
   repeat' split
   all_goals try exact h0
   rename_i hn hroot
   obtain ⟨x, hx, hp⟩ := Ja hn
   have hp : x.name = c.name := of_decide_eq_true hp
   exact ⟨tn, fun u hu => un u (Ni hu), xn, fun u hu => ur u (Ni hu), fun u hu => ut u (Ni hu), fun u hu => uo u (Ni hu), Air hx (fun e => hroot (by rw [← hp, e])) rt⟩
 split
 · unfold R8
   repeat' split
   all_goals try exact h0
   rename_i g1 g2 g3 g4
   obtain ⟨x, hx, hp⟩ := Ja (show ¬ r.tenAt c.other < 0 from g3)
   have hp : x.name = c.other := of_decide_eq_true hp
   refine ⟨tn, un, fun y hy => ?_, ur, ut, fun u hu n hn => Uv (uo u hu n hn), rt⟩
   rcases B7.1 hy with rfl | hy
   · exact ⟨by simpa using g1, ⟨x, List.mem_of_getElem? hx, hp⟩, by simp [GrOk]⟩
   · exact xn y hy
 split
 · unfold Sv
   repeat' split
   all_goals try exact h0
   rename_i hn
   obtain ⟨x, hx, hp⟩ := Ja hn
   have hp : x.name = c.name := of_decide_eq_true hp
   refine ⟨tn, fun v hv => ?_, fun y hy => xn y (Ni hy), fun v hv => ?_, fun v hv => ?_, fun v hv => ?_, ?_⟩
   · obtain ⟨u, hu, rfl⟩ := List.mem_map.1 hv; exact un u hu
   · obtain ⟨u, hu, rfl⟩ := List.mem_map.1 hv
     intro e
     obtain ⟨e1, e2⟩ := ur u hu e
     exact ⟨e1, by simp [Hc, e2]⟩
   · obtain ⟨u, hu, rfl⟩ := List.mem_map.1 hv; exact ut u hu
   · obtain ⟨u, hu, rfl⟩ := List.mem_map.1 hv
     intro n hn
     simp only [Hc, List.mem_filter, Bool.not_eq_true', decide_eq_false_iff_not] at hn
     exact Air hx (fun e => hn.2 (by rw [← e.1, hp])) (uo u hu n hn.1)
   · obtain ⟨u, hu, e⟩ := rt
     exact ⟨_, List.mem_map_of_mem hu, e⟩
 split
 · unfold M6
   repeat' split
   all_goals try exact h0
   rename_i g1 hn _ x hx g2 g3
   have hm := List.mem_of_getElem? hx
   refine ⟨tn, un, fun y hy => ?_, ur, ut, fun u hu n hn => Ns hx (fun e => e) (uo u hu n hn), rt⟩
   rcases C8 hy with rfl | hy
   · refine ⟨(xn x hm).1, (xn x hm).2.1, fun g hg => ?_, ?_⟩
     · rcases List.mem_append.1 hg with hg | hg
       · exact (xn x hm).2.2.1 g hg
       · simp at hg
         subst hg
         have g4 : (decide (Bc c.grant.sp) && (c.grant.r || c.grant.w)) = true := by
          revert g1
          cases (decide (Bc c.grant.sp) && (c.grant.r || c.grant.w)) <;> simp
         rw [Bool.and_eq_true] at g4
         exact ⟨of_decide_eq_true g4.1, g4.2⟩
     · dsimp only
       rw [List.nodup_append]
       refine ⟨(xn x hm).2.2.2, by simp, fun a ha b hb => ?_⟩
       simp at hb; subst hb
       intro e
       exact g2 (List.any_eq_true.2 ⟨a, ha, by simpa using e⟩)
   · exact xn y hy
 split
 · unfold Kv
   repeat' split
   all_goals try exact h0
   rename_i g1 hn _ x hx g2
   have hm := List.mem_of_getElem? hx
   refine ⟨tn, un, fun y hy => ?_, ur, ut, fun u hu n hn => Ns hx (fun e => e) (uo u hu n hn), rt⟩
   rcases C8 hy with rfl | hy
   · exact ⟨(xn x hm).1, (xn x hm).2.1, Am5 (xn x hm).2.2⟩
   · exact xn y hy
 · unfold Pp
   repeat' split
   all_goals try exact h0
   · rename_i u hu _ _
     have hm := List.mem_of_getElem? hu
     refine ⟨tn, fun v hv => ?_, xn, fun v hv => ?_, fun v hv => ?_, fun v hv => ?_, Ns hu (fun e => e) rt⟩
     all_goals rcases C8 hv with rfl | hv
     · exact un u hm
     · exact un v hv
     · intro e
       obtain ⟨e1, e2⟩ := ur u hm e
       exact ⟨e1, by simp [e2]⟩
     · exact ur v hv
     · exact ut u hm
     · exact ut v hv
     · intro n hn; exact uo u hm n (List.mem_filter.1 hn).1
     · exact uo v hv
   · rename_i u hu _ hxn _ x hx ht ha hl
     have hm := List.mem_of_getElem? hu
     have ht : x.ten = u.ten := by simpa using ht
     have hxm := List.mem_of_getElem? hx
     have hxo : x.name = c.other := by
      obtain ⟨y, hy, hp⟩ := Ja hxn
      rw [hx] at hy
      cases hy
      exact of_decide_eq_true hp
     refine ⟨tn, fun v hv => ?_, xn, fun v hv => ?_, fun v hv => ?_, fun v hv => ?_, Ns hu (fun e => e) rt⟩
     all_goals rcases C8 hv with rfl | hv
     · exact un u hm
     · exact un v hv
     · intro e
       obtain ⟨e1, e2⟩ := ur u hm e
       obtain ⟨t, htm, htn⟩ := (xn x hxm).2.1
       have := (tn t htm).1
       rw [htn, ht, e1, Xt] at this
       cases this
     · exact ur v hv
     · exact ut u hm
     · exact ut v hv
     · intro n hn
       rcases B7.1 hn with rfl | hn
       · exact ⟨x, hxm, hxo, ht⟩
       · exact uo u hm n hn
     · exact uo v hv
theorem Ane (a b : Ad) (ha : a.length ≤ 64) : (Dj a b).Ok := by
 refine ⟨by simp [Dj], fun u hu => ?_, by simp [Dj], fun u hu => ?_, fun u hu => ?_, fun u hu => ?_, ⟨_, List.mem_cons_self .., rfl⟩⟩
 all_goals
  simp [Dj] at hu
  subst hu
 · exact ⟨show Bi Uo = true by decide, ha, Hn _ _ _⟩
 · exact fun _ => ⟨rfl, rfl⟩
 · exact fun h => absurd rfl h
 · simp
set_option maxHeartbeats 40000000

open Go.Proofs
theorem Anh (a b : Ad) : a < b ∨ a = b ∨ b < a := by
 by_cases h : a < b
 · exact .inl h
 · by_cases h2 : b < a
   · exact .inr (.inr h2)
   · exact .inr (.inl (List.le_antisymm (List.not_lt.1 h2) (List.not_lt.1 h)))
def R1 (l : List Ad) (i : Nat) : Prop := ∀ x, l[i]? = some x → Bi x = true ∧ ∀ y, 0 < i → l[i - 1]? = some y → y < x
def Gf (l : List Ad) : Prop := ∀ i, R1 l i
theorem Dh (l : List Ad) (hl : l.length ≤ 1000000) (b : Bool) (hB : b = true ↔ Gf l) : Fn Tryz.prog Yo [.v (.list (strs l))] (Is (.v (.bool b)) [.no]) := by
 refine W2 ?_ (by simp)
 repeat' ((conv => whnf); first | (refine eI ?_ ?_; focus (and_intros <;> exact rfl)) | (intro hfact))
 all_goals (try (conv => whnf))
 refine LoopWq.by (X := Nat) (fun k => [(7, .v (.int .i64 k))]) (fun k => k ≤ l.length ∧ ∀ i < k, R1 l i) (fun k => l.length - k)
  0 (by kernel_rfl) ⟨Nat.zero_le _, by intro i hi; omega⟩ ?_
 rintro k ⟨hk, hA⟩
 have bad : ¬ R1 l k → b = false := fun h => by
  cases b with
  | false => rfl
  | true => exact absurd (hB.1 rfl k) h
 by_cases hk2 : k < l.length
 · obtain ⟨e, he⟩ : ∃ e, l[k]? = some e := ⟨_, List.getElem?_eq_getElem hk2⟩
   have hlt : ¬ decide ((k : Int) < ((strs l).length : Int)) = false := by simp [hk2]
   have nm := J9 e
   have nxt : R1 l k → ∀ i < k + 1, R1 l i := fun h i hi => by
    rcases Nat.lt_succ_iff_lt_or_eq.1 hi with h' | rfl
    · exact hA i h'
    · exact h
   cases hn : Bi e with
   | false =>
     rw [hn] at nm
     obtain rfl := bad fun h => by rw [(h e he).1] at hn; cases hn
     repeat' ((conv => whnf); first | (refine aI (fun hb => ?_) (fun hb => ?_) <;>first | exact absurd hb (by first | assumption | decide) | ((try rw [hb]); (try simp only [Ac] at hb))) | (refine eI ?_ ?_; focus (and_intros <;> first | omega | exact rfl | (intro _ hh; cases hh; done) | (simp; done) | decide)) | ((try dsimp only); first | rw [An he] | rw [Aj he] | rw [Ai he]) | (refine CallWp.mk ⟨_, nm, ?_⟩; rintro _ _ ⟨rfl, rfl⟩))
     all_goals (try (conv => whnf))
     all_goals first | contradiction | exact Done.mk ⟨by kernel_rfl, by kernel_rfl⟩ (by kernel_rfl)
   | true =>
     rw [hn] at nm
     by_cases h0 : k = 0
     · have h1 := nxt fun x hx => by rw [he] at hx; cases hx; exact ⟨hn, fun y hy => by omega⟩
       subst h0
       repeat' ((conv => whnf); first | (refine aI (fun hb => ?_) (fun hb => ?_) <;>first | exact absurd hb (by first | assumption | decide) | ((try rw [hb]); (try simp only [Ac] at hb))) | (refine eI ?_ ?_; focus (and_intros <;> first | omega | exact rfl | (intro _ hh; cases hh; done) | (simp; done) | decide)) | ((try dsimp only); first | rw [An he] | rw [Aj he] | rw [Ai he]) | (refine CallWp.mk ⟨_, nm, ?_⟩; rintro _ _ ⟨rfl, rfl⟩))
       all_goals (try (conv => whnf))
       all_goals first | contradiction | skip
       refine Round.by 1 ?_ ⟨hk2, h1⟩ (by omega)
       show norm _ _ = upd _ _
       kernel_rfl
     · obtain ⟨y, hy⟩ : ∃ y, l[k - 1]? = some y := ⟨_, List.getElem?_eq_getElem (by omega)⟩
       have hw : IntKind.i64.wrap ((k : Int) - 1) = ((k - 1 : Nat) : Int) := by rw [Bj (by omega)]; omega
       by_cases hle : y < e
       · have h1 := nxt fun x hx => by
          rw [he] at hx; cases hx
          exact ⟨hn, fun z _ hz => by rw [hy] at hz; cases hz; exact hle⟩
         have hq : ¬ (decide (e < y) || decide (e = y)) = true := by
          simp only [Bool.or_eq_true, decide_eq_true_eq]
          rintro (h | h)
          · exact List.lt_irrefl _ (List.lt_trans h hle)
          · rw [h] at hle; exact List.lt_irrefl _ hle
         repeat' ((conv => whnf); first | (refine aI (fun hb => ?_) (fun hb => ?_) <;>first | exact absurd hb (by first | assumption | decide) | (exfalso; simp only [Am] at hb <;> omega) | ((try rw [hb]); (try simp only [Ac] at hb))) | (refine eI ?_ ?_; focus (and_intros <;> first | omega | exact rfl | (intro _ hh; cases hh; done) | (simp; done) | decide)) | ((try dsimp only); first | rw [An he] | rw [Aj he] | rw [Ai he]) | (refine CallWp.mk ⟨_, nm, ?_⟩; rintro _ _ ⟨rfl, rfl⟩) | ((try dsimp only); rw [hw]) | ((try dsimp only); first | rw [An hy] | rw [Aj hy] | rw [Ai hy]))
         all_goals (try (conv => whnf))
         all_goals first | contradiction | skip
         refine Round.by (k + 1) ?_ ⟨hk2, h1⟩ (by omega)
         rw [Ah (n := l.length) hk2 (by simp only [maxLen]; omega)]
         show norm _ _ = upd _ _
         kernel_rfl
       · obtain rfl := bad fun h => hle ((h e he).2 y (by omega) hy)
         have hq : ¬ (decide (e < y) || decide (e = y)) = false := by
          simp only [Bool.or_eq_false_iff, decide_eq_false_iff_not, not_and]
          rcases Anh y e with h | h | h
          · exact absurd h hle
          · exact fun _ h' => h' h.symm
          · exact fun h' => absurd h h'
         repeat' ((conv => whnf); first | (refine aI (fun hb => ?_) (fun hb => ?_) <;>first | exact absurd hb (by first | assumption | decide) | (exfalso; simp only [Am] at hb <;> omega) | ((try rw [hb]); (try simp only [Ac] at hb))) | (refine eI ?_ ?_; focus (and_intros <;> first | omega | exact rfl | (intro _ hh; cases hh; done) | (simp; done) | decide)) | ((try dsimp only); first | rw [An he] | rw [Aj he] | rw [Ai he]) | (refine CallWp.mk ⟨_, nm, ?_⟩; rintro _ _ ⟨rfl, rfl⟩) | ((try dsimp only); rw [hw]) | ((try dsimp only); first | rw [An hy] | rw [Aj hy] | rw [Ai hy]))
         all_goals (try (conv => whnf))
         all_goals first | contradiction | exact Done.mk ⟨by kernel_rfl, by kernel_rfl⟩ (by kernel_rfl)
 · have hlt : ¬ decide ((k : Int) < ((strs l).length : Int)) = true := by simp; omega
   obtain rfl : b = true := hB.2 fun i x hx => by
    have := (List.getElem?_eq_some_iff.1 hx).1
    exact hA i (by omega) x hx
   repeat' ((conv => whnf); (refine aI (fun hb => ?_) (fun hb => ?_) <;>first | exact absurd hb (by assumption) | ((try rw [hb]); (try simp only [Ac] at hb))))
   all_goals (try (conv => whnf))
   exact Done.mk ⟨by kernel_rfl, by kernel_rfl⟩ (by kernel_rfl)

open Go.Proofs
theorem Yt (l : List Ten) (hl : l.length ≤ 1000000) : Fn Tryz.prog Lw [.v (.list (l.map Ten.toI)), .v (.fn Ch)] (Is (.v (.list (strs (l.map Ten.name)))) [.no, .no]) := by
 refine Lm ?_ (by simp)
 repeat' ((conv => whnf); first | (refine eI ?_ ?_; focus (and_intros <;> exact rfl)) | (intro hfact))
 all_goals (try (conv => whnf))
 refine LoopWq.by (X := Nat × List I) (fun x => [(5, .vec Bo 1 x.2), (10, .v (.int .i64 x.1))]) (fun x => x.1 ≤ l.length ∧ x.2 = strs ((l.take x.1).map Ten.name) ∧ x.2.length = x.1) (fun x => l.length - x.1)
  (0, []) (by kernel_rfl) ⟨Nat.zero_le _, rfl, rfl⟩ ?_
 rintro ⟨k, o⟩ ⟨hk, ho, hol⟩
 dsimp only at hk ho hol ⊢
 by_cases hk2 : k < l.length
 · obtain ⟨e, he⟩ : ∃ e, l[k]? = some e := ⟨_, List.getElem?_eq_getElem hk2⟩
   have hlt : ¬ decide ((k : Int) < ((l.map Ten.toI).length : Int)) = false := by simp [hk2]
   have hs : strs ((l.take (k + 1)).map Ten.name) = o ++ [I.str e.name] := by rw [ho]; simp [List.take_add_one, he]
   have nm := Es e
   have hm : (1 : Nat) ≤ maxLen := by simp only [maxLen]; omega
   have hsum : o.length + 1 ≤ 1000001 := by omega
   repeat' ((conv => whnf); first | (refine aI (fun hb => ?_) (fun hb => ?_) <;>first | exact absurd hb (by assumption) | ((try rw [hb]); (try simp only [Ac] at hb))) | (refine eI ?_ ?_; focus (and_intros <;> first | omega | exact rfl | (intro _ hh; cases hh; done) | exact Bs (by rfl) | (simp only [Am]; omega) | (simp; done) | decide)) | ((try dsimp only); first | rw [An he] | rw [Aj he] | rw [Ai he]) | (refine CallWp.mk ⟨_, nm, ?_⟩; rintro _ _ ⟨rfl, rfl⟩))
   all_goals (try (conv => whnf))
   all_goals first | contradiction | skip
   refine Round.by (k + 1, o ++ [I.str e.name]) ?_ ⟨hk2, hs.symm, by simp [hol]⟩ (by dsimp only; omega)
   rw [Ah (n := l.length) hk2 (by simp only [maxLen]; omega)]
   show norm _ _ = upd _ _
   kernel_rfl
 · have hlt : ¬ decide ((k : Int) < ((l.map Ten.toI).length : Int)) = true := by simp; omega
   obtain rfl : k = l.length := by omega
   rw [List.take_length] at ho
   subst ho
   repeat' ((conv => whnf); first | (refine aI (fun hb => ?_) (fun hb => ?_) <;>first | exact absurd hb (by assumption) | ((try rw [hb]); (try simp only [Ac] at hb))) | (refine eI ?_ ?_; focus (and_intros <;> first | omega | exact rfl | (simp; done))))
   all_goals (try (conv => whnf))
   exact Done.mk ⟨by kernel_rfl, by kernel_rfl⟩ (by kernel_rfl)
theorem Y3 (l : List Usr) (hl : l.length ≤ 1000000) : Fn Tryz.prog Nf [.v (.list (l.map Usr.toI)), .v (.fn C5)] (Is (.v (.list (strs (l.map Usr.name)))) [.no, .no]) := by
 refine My ?_ (by simp)
 repeat' ((conv => whnf); first | (refine eI ?_ ?_; focus (and_intros <;> exact rfl)) | (intro hfact))
 all_goals (try (conv => whnf))
 refine LoopWq.by (X := Nat × List I) (fun x => [(5, .vec Bo 1 x.2), (10, .v (.int .i64 x.1))]) (fun x => x.1 ≤ l.length ∧ x.2 = strs ((l.take x.1).map Usr.name) ∧ x.2.length = x.1) (fun x => l.length - x.1)
  (0, []) (by kernel_rfl) ⟨Nat.zero_le _, rfl, rfl⟩ ?_
 rintro ⟨k, o⟩ ⟨hk, ho, hol⟩
 dsimp only at hk ho hol ⊢
 by_cases hk2 : k < l.length
 · obtain ⟨e, he⟩ : ∃ e, l[k]? = some e := ⟨_, List.getElem?_eq_getElem hk2⟩
   have hlt : ¬ decide ((k : Int) < ((l.map Usr.toI).length : Int)) = false := by simp [hk2]
   have hs : strs ((l.take (k + 1)).map Usr.name) = o ++ [I.str e.name] := by rw [ho]; simp [List.take_add_one, he]
   have nm := Gq e
   have hm : (1 : Nat) ≤ maxLen := by simp only [maxLen]; omega
   have hsum : o.length + 1 ≤ 1000001 := by omega
   repeat' ((conv => whnf); first | (refine aI (fun hb => ?_) (fun hb => ?_) <;>first | exact absurd hb (by assumption) | ((try rw [hb]); (try simp only [Ac] at hb))) | (refine eI ?_ ?_; focus (and_intros <;> first | omega | exact rfl | (intro _ hh; cases hh; done) | exact Bs (by rfl) | (simp only [Am]; omega) | (simp; done) | decide)) | ((try dsimp only); first | rw [An he] | rw [Aj he] | rw [Ai he]) | (refine CallWp.mk ⟨_, nm, ?_⟩; rintro _ _ ⟨rfl, rfl⟩))
   all_goals (try (conv => whnf))
   all_goals first | contradiction | skip
   refine Round.by (k + 1, o ++ [I.str e.name]) ?_ ⟨hk2, hs.symm, by simp [hol]⟩ (by dsimp only; omega)
   rw [Ah (n := l.length) hk2 (by simp only [maxLen]; omega)]
   show norm _ _ = upd _ _
   kernel_rfl
 · have hlt : ¬ decide ((k : Int) < ((l.map Usr.toI).length : Int)) = true := by simp; omega
   obtain rfl : k = l.length := by omega
   rw [List.take_length] at ho
   subst ho
   repeat' ((conv => whnf); first | (refine aI (fun hb => ?_) (fun hb => ?_) <;>first | exact absurd hb (by assumption) | ((try rw [hb]); (try simp only [Ac] at hb))) | (refine eI ?_ ?_; focus (and_intros <;> first | omega | exact rfl | (simp; done))))
   all_goals (try (conv => whnf))
   exact Done.mk ⟨by kernel_rfl, by kernel_rfl⟩ (by kernel_rfl)
theorem Ym (l : List Rol) (hl : l.length ≤ 1000000) : Fn Tryz.prog Nn [.v (.list (l.map Rol.toI)), .v (.fn C9)] (Is (.v (.list (strs (l.map Rol.name)))) [.no, .no]) := by
 refine Mi ?_ (by simp)
 repeat' ((conv => whnf); first | (refine eI ?_ ?_; focus (and_intros <;> exact rfl)) | (intro hfact))
 all_goals (try (conv => whnf))
 refine LoopWq.by (X := Nat × List I) (fun x => [(5, .vec Bo 1 x.2), (10, .v (.int .i64 x.1))]) (fun x => x.1 ≤ l.length ∧ x.2 = strs ((l.take x.1).map Rol.name) ∧ x.2.length = x.1) (fun x => l.length - x.1)
  (0, []) (by kernel_rfl) ⟨Nat.zero_le _, rfl, rfl⟩ ?_
 rintro ⟨k, o⟩ ⟨hk, ho, hol⟩
 dsimp only at hk ho hol ⊢
 by_cases hk2 : k < l.length
 · obtain ⟨e, he⟩ : ∃ e, l[k]? = some e := ⟨_, List.getElem?_eq_getElem hk2⟩
   have hlt : ¬ decide ((k : Int) < ((l.map Rol.toI).length : Int)) = false := by simp [hk2]
   have hs : strs ((l.take (k + 1)).map Rol.name) = o ++ [I.str e.name] := by rw [ho]; simp [List.take_add_one, he]
   have nm := Gk e
   have hm : (1 : Nat) ≤ maxLen := by simp only [maxLen]; omega
   have hsum : o.length + 1 ≤ 1000001 := by omega
   repeat' ((conv => whnf); first | (refine aI (fun hb => ?_) (fun hb => ?_) <;>first | exact absurd hb (by assumption) | ((try rw [hb]); (try simp only [Ac] at hb))) | (refine eI ?_ ?_; focus (and_intros <;> first | omega | exact rfl | (intro _ hh; cases hh; done) | exact Bs (by rfl) | (simp only [Am]; omega) | (simp; done) | decide)) | ((try dsimp only); first | rw [An he] | rw [Aj he] | rw [Ai he]) | (refine CallWp.mk ⟨_, nm, ?_⟩; rintro _ _ ⟨rfl, rfl⟩))
   all_goals (try (conv => whnf))
   all_goals first | contradiction | skip
   refine Round.by (k + 1, o ++ [I.str e.name]) ?_ ⟨hk2, hs.symm, by simp [hol]⟩ (by dsimp only; omega)
   rw [Ah (n := l.length) hk2 (by simp only [maxLen]; omega)]
   show norm _ _ = upd _ _
   kernel_rfl
 · have hlt : ¬ decide ((k : Int) < ((l.map Rol.toI).length : Int)) = true := by simp; omega
   obtain rfl : k = l.length := by omega
   rw [List.take_length] at ho
   subst ho
   repeat' ((conv => whnf); first | (refine aI (fun hb => ?_) (fun hb => ?_) <;>first | exact absurd hb (by assumption) | ((try rw [hb]); (try simp only [Ac] at hb))) | (refine eI ?_ ?_; focus (and_intros <;> first | omega | exact rfl | (simp; done))))
   all_goals (try (conv => whnf))
   exact Done.mk ⟨by kernel_rfl, by kernel_rfl⟩ (by kernel_rfl)

open Go.Proofs
def GrAt (l : List Gra) (i : Nat) : Prop := ∀ x, l[i]? = some x → (Bc x.sp ∧ (x.r || x.w) = true) ∧ x ∉ l.take i
theorem Le (l : List Gra) (hl : l.length ≤ 1000000) (b : Bool) (hB : b = true ↔ l.length ≤ 8 ∧ ∀ i, GrAt l i) : Fn Tryz.prog Ru [.v (.list (l.map Gra.toI))] (Is (.v (.bool b)) [.no]) := by
 refine Qs ?_ (by simp)
 by_cases h8 : l.length ≤ 8
 case neg =>
  obtain rfl : b = false := by
   cases b with
   | false => rfl
   | true => exact absurd (hB.1 rfl).1 h8
  repeat' ((conv => whnf); first | (refine aI (fun hb => ?_) (fun hb => ?_) <;>first | (exfalso; simp only [Am] at hb <;> omega) | ((try rw [hb]); (try simp only [Ac] at hb))) | (refine eI ?_ ?_; focus (and_intros <;> exact rfl)) | (intro hfact))
  all_goals (try (conv => whnf))
  all_goals first | (exfalso; simp at hb; omega) | exact Done.mk ⟨by kernel_rfl, by kernel_rfl⟩ (by kernel_rfl)
 repeat' ((conv => whnf); first | (refine aI (fun hb => ?_) (fun hb => ?_) <;>first | (exfalso; simp only [Am] at hb <;> omega) | ((try rw [hb]); (try simp only [Ac] at hb))) | (refine eI ?_ ?_; focus (and_intros <;> exact rfl)) | (intro hfact))
 all_goals (try (conv => whnf))
 all_goals first | (exfalso; simp at hb; omega) | skip
 refine LoopWq.by (X := Nat) (fun k => [(10, .v (.int .i64 k))]) (fun k => k ≤ l.length ∧ ∀ i < k, GrAt l i) (fun k => l.length - k)
  0 (by kernel_rfl) ⟨Nat.zero_le _, by intro i hi; omega⟩ ?_
 rintro k ⟨hk, hA⟩
 have bad : ¬ GrAt l k → b = false := fun h => by
  cases b with
  | false => rfl
  | true => exact absurd ((hB.1 rfl).2 k) h
 by_cases hk2 : k < l.length
 · obtain ⟨e, he⟩ : ∃ e, l[k]? = some e := ⟨_, List.getElem?_eq_getElem hk2⟩
   have hlt : ¬ decide ((k : Int) < ((l.map Gra.toI).length : Int)) = false := by simp [hk2]
   have rg := Ma e
   have cg := Fu (l.take k) e (by rw [List.length_take]; omega)
   rw [List.map_take] at cg
   have nxt : GrAt l k → ∀ i < k + 1, GrAt l i := fun h i hi => by
    rcases Nat.lt_succ_iff_lt_or_eq.1 hi with h' | rfl
    · exact hA i h'
    · exact h
   cases hn : (decide (Bc e.sp) && (e.r || e.w)) with
   | false =>
     rw [hn] at rg
     obtain rfl := bad fun h => by
      have := (h e he).1
      rw [this.2, decide_eq_true this.1] at hn
      cases hn
     repeat' ((conv => whnf); first | (refine aI (fun hb => ?_) (fun hb => ?_) <;>first | exact absurd hb (by first | assumption | decide) | ((try rw [hb]); (try simp only [Ac] at hb))) | (refine eI ?_ ?_; focus (and_intros <;> first | omega | exact rfl | (intro _ hh; cases hh; done) | (simp; done) | decide)) | ((with_reducible apply Drawn.by0); (focus kernel_rfl); intro hfact; (try simp only [List.mem_append, List.mem_cons, List.not_mem_nil, or_false, false_or, or_assoc, forall_eq_or_imp, forall_eq, false_implies, implies_true, forall_const, and_true, true_and] at hfact)) | ((try dsimp only); first | rw [An he] | rw [Aj he] | rw [Ai he]) | (refine CallIs.mk ⟨_, _, rg, ?_⟩))
     all_goals (try (conv => whnf))
     all_goals first | contradiction | exact Done.mk ⟨by kernel_rfl, by kernel_rfl⟩ (by kernel_rfl)
   | true =>
     rw [hn] at rg
     simp only [Bool.and_eq_true, decide_eq_true_eq] at hn
     cases hc : (l.take k).any (fun x => decide (x = e)) with
     | true =>
       rw [hc] at cg
       obtain rfl := bad fun h => by
        obtain ⟨x, hx, hxe⟩ := List.any_eq_true.1 hc
        have := of_decide_eq_true hxe
        subst this
        exact (h x he).2 hx
       repeat' ((conv => whnf); first | (refine aI (fun hb => ?_) (fun hb => ?_) <;>first | exact absurd hb (by first | assumption | decide) | ((try rw [hb]); (try simp only [Ac] at hb))) | (refine eI ?_ ?_; focus (and_intros <;> first | omega | exact rfl | (intro _ hh; cases hh; done) | exact size_map (fun _ => rfl) | (simp only [Am]; omega) | (simp; done) | decide)) | ((with_reducible apply Drawn.by0); (focus kernel_rfl); intro hfact; (try simp only [List.mem_append, List.mem_cons, List.not_mem_nil, or_false, false_or, or_assoc, forall_eq_or_imp, forall_eq, false_implies, implies_true, forall_const, and_true, true_and] at hfact)) | ((try dsimp only); first | rw [An he] | rw [Aj he] | rw [Ai he]) | (refine CallIs.mk ⟨_, _, rg, ?_⟩) | (refine CallIs.mk ⟨_, _, cg, ?_⟩) | ((simp only [List.headD, Int.toNat_natCast, List.drop_zero])))
       all_goals (try (conv => whnf))
       all_goals first | contradiction | exact Done.mk ⟨by kernel_rfl, by kernel_rfl⟩ (by kernel_rfl)
     | false =>
       rw [hc] at cg
       have h1 := nxt fun x hx => by
        rw [he] at hx; cases hx
        refine ⟨hn, fun hm => ?_⟩
        have := List.any_eq_false.1 hc e hm
        simp at this
       repeat' ((conv => whnf); first | (refine aI (fun hb => ?_) (fun hb => ?_) <;>first | exact absurd hb (by first | assumption | decide) | ((try rw [hb]); (try simp only [Ac] at hb))) | (refine eI ?_ ?_; focus (and_intros <;> first | omega | exact rfl | (intro _ hh; cases hh; done) | exact size_map (fun _ => rfl) | (simp only [Am]; omega) | (simp; done) | decide)) | ((with_reducible apply Drawn.by0); (focus kernel_rfl); intro hfact; (try simp only [List.mem_append, List.mem_cons, List.not_mem_nil, or_false, false_or, or_assoc, forall_eq_or_imp, forall_eq, false_implies, implies_true, forall_const, and_true, true_and] at hfact)) | ((try dsimp only); first | rw [An he] | rw [Aj he] | rw [Ai he]) | (refine CallIs.mk ⟨_, _, rg, ?_⟩) | (refine CallIs.mk ⟨_, _, cg, ?_⟩) | ((simp only [List.headD, Int.toNat_natCast, List.drop_zero])))
       all_goals (try (conv => whnf))
       all_goals first | contradiction | skip
       refine Round.by (k + 1) ?_ ⟨hk2, h1⟩ (by omega)
       rw [Ah (n := l.length) hk2 (by simp only [maxLen]; omega)]
       show norm _ _ = upd _ _
       kernel_rfl
 · have hlt : ¬ decide ((k : Int) < ((l.map Gra.toI).length : Int)) = true := by simp; omega
   obtain rfl : b = true := hB.2 ⟨h8, fun i x hx => by
    have := (List.getElem?_eq_some_iff.1 hx).1
    exact hA i (by omega) x hx⟩
   repeat' ((conv => whnf); (refine aI (fun hb => ?_) (fun hb => ?_) <;>first | exact absurd hb (by assumption) | ((try rw [hb]); (try simp only [Ac] at hb))))
   all_goals (try (conv => whnf))
   exact Done.mk ⟨by kernel_rfl, by kernel_rfl⟩ (by kernel_rfl)
end Go.Ab
