/- Lemmas for the last text. -/
import Derived.Test.YtgcccllpegilnaaGreatDoorN0
set_option linter.unusedVariables false
set_option linter.unusedSimpArgs false
set_option maxRecDepth 100000
namespace Go.Ab
open Go.Proofs
abbrev Abw : FuncId := 93
def Y6 : Stm := (.seq (.ops [O1 (.box 1 0), gA 2 cF]) (.seq (.ops [gF 3 1 0, gL 4 3, O1 (.len 5 true 4), gB 6 .leq 5 (cI 65), gM 7 6, qt 7 (iG 8 1 1 1), qt 7 (iL 9 8), qt 7 (.len 10 true 9), qt 7 (iB 11 .leq 10 (cI 65)), gP 12 7 11 cF, gM 13 12, qt 13 (iG 14 1 1 1), qt 13 (iL 15 14), qt 13 (iB 16 .eql 15 (cS [])), qt 13 (iM 17 16), qf 17 (iG 18 1 0 0), qf 17 (iL 19 18), qf 17 (iG 20 1 1 1), qf 17 (iL 21 20), qf 17 (iB 22 .lss 19 21), qt 13 (iP 23 17 cT 22), gP 24 13 23 cF, gA 2 24]) .ret))
theorem Yi : OF 93 25 Y6 [.t 2] := oF Tryz.func93 rfl Tryz.ntmps93 (by kernel_rfl) (by kernel_rfl)
abbrev Aa7 : FuncId := 97
def Zc : Stm := (.seq (.ops [O1 (.box 3 1), gA 4 (.nils 34 2)]) (.seq (.ops [gM 10 0, .call none (some 11) 124 [(false, 10)], gA 5 11]) (.seq (.seq (.ops [gU 12 2 3, .call none (some 13) 93 [(false, 12)], gT 14 13]) (.cond 14 (.seq (.ops [gM 15 5, O1 (.mov 4 34 2 15)]) .ret) .skip)) (.seq (.ops [gA 6 (.nils 34 2)]) (.seq (.seq (.ops [gM 16 5, gN 17 16, gM 18 (cI 0)]) (.block 0 (.loop (kr [8,9,10,15] 19 46) (.seq (.ops [gB 19 .lss 18 17]) (.seq (.cond 19 .skip (.exit 0)) (.seq (.block 1 (.seq (.ops [gI 20 2 16 18, gU 21 2 20, O1 (.alloc 8 (.one (.i (.agg [(.str []), (.str [])])))), gS 2 8 21]) (.seq (.seq (.ops [gF 22 8 0, gL 23 22, gF 24 3 0, gL 25 24, gB 26 .lss 23 25]) (.cond 26 (.seq (.ops [gU 27 2 8, O1 (.alloc 9 (.one (.i (.agg [(.str []), (.str [])])))), gS 2 9 27]) (.seq (.seq (.ops [gF 28 9 1, gL 29 28, gF 30 3 0, gL 31 30, .call none (some 32) 125 [(false, 29), (false, 31)], gB 33 .gtr 32 (cI 0)]) (.cond 33 (.ops [gF 34 3 0, gL 35 34, gF 36 9 1, gS 1 36 35]) .skip)) (.ops [gM 37 6, gU 38 2 9, O1 (.bsl 39 34 2 (.agg [(.str []), (.str [])]) 1 [(0,38)]), O1 (.app 40 34 2 32 37 39), gA 6 40]))) .skip)) (.seq (.ops [gF 41 3 1, gL 42 41, gB 43 .neq 42 (cS []), gM 44 43, qt 44 (iG 45 8 1 1), qt 44 (iL 46 45), qt 44 (iG 47 3 1 1), qt 44 (iL 48 47), .call (some (44, true)) (some 49) 125 [(false, 46), (false, 48)], qt 44 (iB 50 .gtr 49 (cI 0)), gP 51 44 50 cF]) (.cond 51 (.ops [gM 52 6, gF 53 8 0, gL 54 53, gF 55 3 1, gL 56 55, O1 (.mm 57 true 54 56), gF 58 8 1, gL 59 58, O1 (.build 60 [(.str []), (.str [])] [(0,57), (1,59)]), O1 (.bsl 61 34 2 (.agg [(.str []), (.str [])]) 1 [(0,60)]), O1 (.app 62 34 2 32 52 61), gA 6 62]) .skip))))) (.ops [gB 63 .add 18 (cI 1), gM 18 63]))))))) (.seq (.ops [gM 64 6, O1 (.mov 4 34 2 64)]) .ret))))))
theorem Yu : OF 97 65 Zc [.t 4] := oF Tryz.func97 rfl Tryz.ntmps97 (by kernel_rfl) (by kernel_rfl)
abbrev Abj : FuncId := 124
def Za : Stm := (.seq (.ops [gA 2 (.nils 34 2)]) (.seq (.ops [gM 7 0, .call none (some 8) 138 [(false, 7)], .call none (some 9) 137 [(true, 8), (false, (.c (.fn 139)))], gA 0 9]) (.seq (.ops [gM 10 0, .call none (some 11) 140 [(true, 10), (false, (.c (.fn 141)))]]) (.seq (.ops [gA 3 (.nils 34 2)]) (.seq (.seq (.ops [gM 12 0, gN 13 12, gM 14 (cI 0)]) (.block 0 (.loop (kr [5,6,7,10] 15 50) (.seq (.ops [gB 15 .lss 14 13]) (.seq (.cond 15 .skip (.exit 0)) (.seq (.block 1 (.seq (.ops [gI 16 2 12 14, gU 17 2 16, O1 (.alloc 5 (.one (.i (.agg [(.str []), (.str [])])))), gS 2 5 17]) (.seq (.ops [gM 18 3, gN 19 18, gA 6 19]) (.seq (.drw [[], [0], [1], [2], [2], [4,2], [3,5,2], [6,2], [7,2], [8,2], [9,2], [10], [10], [12,10], [11,13,10], [14,10], [15,10], [10], [17,10], [16,18,10], [10,19,2], [2,20]] [gM 20 6, gB 21 .eql 20 (cI 0), gM 22 21, qf 22 (iM 23 3), qf 22 (iM 24 6), qf 22 (iB 25 .sub 24 (cI 1)), qf 22 (iI 26 2 23 25), qf 22 (iG 27 26 1 1), qf 22 (iL 28 27), qf 22 (iB 29 .neq 28 (cS [])), qf 22 (iM 30 29), qt 30 (iM 31 3), qt 30 (iM 32 6), qt 30 (iB 33 .sub 32 (cI 1)), qt 30 (iI 34 2 31 33), qt 30 (iG 35 34 1 1), qt 30 (iL 36 35), qt 30 (iG 37 5 0 0), qt 30 (iL 38 37), qt 30 (iB 39 .lss 36 38), qf 22 (iP 40 30 39 cF), gP 41 22 cT 40]) (.cond 41 (.ops [gM 42 3, gU 43 2 5, O1 (.bsl 44 34 2 (.agg [(.str []), (.str [])]) 1 [(0,43)]), O1 (.app 45 34 2 32 42 44), gA 3 45]) (.seq (.drw [[], [0], [], [], [3], [2,4], [5], [6], [1,7], [8]] [gF 46 5 1, gL 47 46, gM 48 3, gM 49 6, gB 50 .sub 49 (cI 1), gI 51 2 48 50, gF 52 51 1, gL 53 52, .call none (some 54) 125 [(false, 47), (false, 53)], gB 55 .gtr 54 (cI 0)]) (.cond 55 (.ops [gM 56 3, gM 57 6, gB 58 .sub 57 (cI 1), gF 59 5 1, gL 60 59, gI 61 2 56 58, gF 62 61 1, gS 1 62 60]) .skip))))))) (.ops [gB 63 .add 14 (cI 1), gM 14 63]))))))) (.seq (.ops [gM 64 3, O1 (.mov 2 34 2 64)]) .ret))))))
theorem Y0 : OF 124 65 Za [.t 2] := oF Tryz.func124 rfl Tryz.ntmps124 (by kernel_rfl) (by kernel_rfl)
abbrev Ad0 : FuncId := 125
def Aa3 : Stm := (.seq (.ops [gA 4 (cI 0)]) (.seq (.block 0 (.seq (.ops [gM 6 0, gM 7 1, gB 8 .eql 6 7, gA 5 8]) (.cond 5 (.seq (.ops [gA 4 (cI 0)]) .ret) (.seq (.ops [gM 10 0, gB 11 .eql 10 (cS []), gA 9 11]) (.cond 9 (.seq (.ops [gA 4 (cI 1)]) .ret) (.seq (.ops [gM 13 1, gB 14 .eql 13 (cS []), gA 12 14]) (.cond 12 (.seq (.ops [gA 4 (cI (-1))]) .ret) .skip))))))) (.seq (.ops [gM 15 0, gM 16 1, .call none (some 17) 111 [(false, 15), (false, 16)], gA 4 17]) .ret)))
theorem Ac1 : OF 125 18 Aa3 [.t 4] := oF Tryz.func125 rfl Tryz.ntmps125 (by kernel_rfl) (by kernel_rfl)
abbrev Ws : FuncId := 139
def Ut : Stm := (.seq (.ops [O1 (.box 1 0), gA 2 cF]) (.seq (.ops [gU 3 2 1, .call none (some 4) 93 [(false, 3)], gT 5 4, gA 2 5]) .ret))
theorem Ud : OF 139 6 Ut [.t 2] := oF Tryz.func139 rfl Tryz.ntmps139 (by kernel_rfl) (by kernel_rfl)

open Go.Proofs
theorem Gj (s : Sp) : Fn Tryz.prog Abw [.v s.toI] (Is (.v (.bool (decide (Bc s)))) [.no]) := by
 refine Yi ?_ (by simp)
 repeat' ((conv => whnf); first | (refine aI (fun hb => ?_) (fun hb => ?_) <;>first | exact absurd hb (by decide) | ((try rw [hb]); (try simp only [Ac] at hb))) | (refine eI ?_ ?_; focus (and_intros <;> first | omega | exact rfl | (simp; done))) | (intro hfact))
 all_goals (try (conv => whnf))
 all_goals (refine Done.mk ⟨SV.bool_congr ?_, by kernel_rfl⟩ (by kernel_rfl))
 all_goals (simp [Bc, D2] at *; grind)
theorem Va (k : Ad) : Fn Tryz.prog Q4 [.v (.str k)] (Is (.v (.bool false)) [.no]) := by
 refine Qw ?_ (by simp)
 (conv => whnf)
 all_goals (try (conv => whnf))
 exact Done.mk ⟨SV.bool_congr (by simp), by kernel_rfl⟩ (by kernel_rfl)
def cmpS (a b : Ad) : Int := if a < b then -1 else if b < a then 1 else 0
theorem Hd (a b : Ad) : Fn Tryz.prog Pj [.v (.str a), .v (.str b)] (Is (.v (.int .i64 (cmpS a b))) [.no, .no]) := by
 refine Nw ?_ (by simp)
 repeat' ((conv => whnf); first | (refine aI (fun hb => ?_) (fun hb => ?_) <;>first | exact absurd hb (by decide) | ((try rw [hb]); (try simp only [Ac] at hb))) | (refine eI ?_ ?_; focus (and_intros <;> first | (intro _ hh; cases hh; done) | (simp; done) | decide)) | (refine CallWp.mk ⟨_, Va _, ?_⟩; rintro _ _ ⟨rfl, rfl⟩))
 all_goals (try (conv => whnf))
 all_goals (refine Done.mk ⟨congrArg (fun n => SV.v (.int .i64 n)) ?_, by kernel_rfl⟩ (by kernel_rfl))
 all_goals (simp [cmpS, D2] at * <;> grind)
def Eo (a b : Ad) : Int := if a = b then 0 else if a = [] then 1 else if b = [] then -1 else cmpS a b
theorem Jt (a b : Ad) : Fn Tryz.prog Ad0 [.v (.str a), .v (.str b)] (Is (.v (.int .i64 (Eo a b))) [.no, .no]) := by
 refine Ac1 ?_ (by simp)
 repeat' ((conv => whnf); first | (refine aI (fun hb => ?_) (fun hb => ?_) <;> ((try rw [hb]); (try simp only [Ac] at hb); (try subst hb))) | (refine eI ?_ ?_; focus (and_intros <;> first | (intro _ hh; cases hh; done) | (simp; done) | decide)) | (refine CallWp.mk ⟨_, Hd _ _, ?_⟩; rintro _ _ ⟨rfl, rfl⟩))
 all_goals (try (conv => whnf))
 all_goals (refine Done.mk ⟨congrArg (fun n => SV.v (.int .i64 n)) ?_, by kernel_rfl⟩ (by kernel_rfl))
 all_goals (simp [Eo] at * <;> grind)
def SpIn (a b : Sp) : Prop := Bc a ∧ Bc b ∧ b.f ≤ a.f ∧ Eo a.t b.t ≤ 0
instance (a b : Sp) : Decidable (SpIn a b) := by unfold SpIn; infer_instance
set_option maxHeartbeats 1000000

open Go.Proofs
abbrev sps (l : List Sp) : List I := l.map Sp.toI
theorem T5 (l : List Sp) : ∀ u ∈ sps l, u.size = 2 := by
 intro u hu
 obtain ⟨e, _, rfl⟩ := List.mem_map.1 hu
 rfl
theorem Nz {l : List Sp} {k : Nat} {e : Sp} (h : l[k]? = some e) : (sps l)[k]? = some e.toI := by simp [h]
theorem W0 (s : Sp) : Fn Tryz.prog Ws [.v s.toI] (Is (.v (.bool (!decide (Bc s)))) [.no]) := by
 refine Ud ?_ (by simp)
 repeat' ((conv => whnf); first | (refine eI ?_ ?_; focus (and_intros <;> first | omega | exact rfl | (intro _ hh; cases hh; done) | (simp; done) | decide)) | (refine CallWp.mk ⟨_, Gj _, ?_⟩; rintro _ _ ⟨rfl, rfl⟩))
 all_goals (try (conv => whnf))
 exact Done.mk ⟨rfl, by kernel_rfl⟩ (by kernel_rfl)
theorem Ad3 (l : List Sp) (hl : l.length ≤ 1000000) : Fn Tryz.prog F7 [.v (.list (sps l))] (Is (.vec 34 2 (sps l)) [.no]) := by
 refine Fa ?_ (by simp)
 have h1 : (([] : List I).length + (sps l).length) * 32 ≤ 140737488355328 := by simp; omega
 have h2 : ([] : List I).length + (sps l).length ≤ maxLen := by simp [maxLen]; omega
 have h3 := T5 l
 repeat' ((conv => whnf); first | (refine aI (fun hb => ?_) (fun hb => ?_) <;> ((try rw [hb]); (try subst hb))) | (refine eI ?_ ?_; focus (and_intros <;> first | omega | exact rfl | (simp; done))) | (intro hfact))
 all_goals (try (conv => whnf))
 · refine Done.mk ⟨congrArg (fun l => SV.vec 34 2 l) ?_, by kernel_rfl⟩ (by kernel_rfl)
   simp_all
 · exact Done.mk ⟨congrArg (fun l => SV.vec 34 2 l) (List.nil_append _), by kernel_rfl⟩ (by kernel_rfl)
theorem Rj {e sz : Nat} {l : List I} {n : Nat} {u : I} (h : l[n]? = some u) : (SV.vec e sz l).hit 0 [n] = some (n * sz + 0, .item u) := by
 have : u.sub [] = some (0, u) := by cases u <;> rfl
 simp [SV.hit, hitV, h, hitI, this]
def badB (s : Sp) : Bool := !decide (Bc s)
def idxF (p : Sp → Bool) : Nat → List Sp → Int
 | _, [] => -1
 | k, s :: r => if p s = true then k else idxF p (k + 1) r
theorem Afs (l : List Sp) (hl : l.length ≤ 1000000) : Fn Tryz.prog Em [.v (.list (sps l)), .v (.fn 139)] (Is (.v (.int .i64 (idxF badB 0 l))) [.no, .no]) := by
 refine Eb ?_ (by simp)
 have hmax : l.length ≤ maxLen := by simp only [maxLen]; omega
 repeat' ((conv => whnf); first | (refine eI ?_ ?_; focus (and_intros <;> exact rfl)) | (intro hfact))
 all_goals (try (conv => whnf))
 refine LoopWq.by (X := Nat) (fun x => [(8, .v (.int .i64 x))]) (fun x => x ≤ l.length ∧ idxF badB x (l.drop x) = idxF badB 0 l) (fun x => l.length - x)
  0 (by kernel_rfl) ⟨Nat.zero_le _, rfl⟩ ?_
 rintro k ⟨h1, h2⟩
 by_cases hk : k < l.length
 · obtain ⟨e, he⟩ : ∃ e, l[k]? = some e := ⟨_, List.getElem?_eq_getElem hk⟩
   have hg : (sps l)[Int.toNat (k : Int)]? = some e.toI := Nz he
   have hlt : ¬ decide ((k : Int) < ((sps l).length : Int)) = false := by simp [hk]
   have hkl : Int.toNat (k : Int) < (sps l).length := by simp [hk]
   have hke : l[k] = e := by rw [List.getElem?_eq_getElem hk] at he; simpa using he
   rw [List.drop_eq_getElem_cons hk, hke] at h2
   repeat' ((conv => whnf); first | (refine aI (fun hb => ?_) (fun hb => ?_) <;>first | exact absurd hb (by assumption) | ((try rw [hb]); (try simp only [Ac] at hb))) | (refine eI ?_ ?_; focus (and_intros <;> first | omega | exact rfl | (intro _ hh; cases hh; done) | (simp; done) | decide)) | ((try dsimp only); rw [hg]) | (refine CallWp.mk ⟨_, W0 _, ?_⟩; rintro _ _ ⟨rfl, rfl⟩))
   all_goals (try (conv => whnf))
   · refine Done.mk ⟨congrArg (fun n => SV.v (.int .i64 n)) ?_, by kernel_rfl⟩ (by kernel_rfl)
     rw [← h2, idxF, if_pos (by first | assumption | simp [badB, *])]
   · refine Round.by (k + 1) ?_ ?_ ?_
     · rw [Ah hk hmax]
       show norm _ _ = upd _ _
       kernel_rfl
     · refine ⟨hk, ?_⟩
       rw [← h2, idxF, if_neg (by have := hb; simp only [badB]; simp at this ⊢; exact this)]
     · show l.length - (k + 1) < l.length - k
       omega
 · have hlt : ¬ decide ((k : Int) < ((sps l).length : Int)) = true := by simp; omega
   repeat' ((conv => whnf); (refine aI (fun hb => ?_) (fun hb => ?_) <;>first | exact absurd hb (by assumption) | ((try rw [hb]); (try simp only [Ac] at hb))))
   all_goals (try (conv => whnf))
   refine Done.mk ⟨congrArg (fun n => SV.v (.int .i64 n)) ?_, by kernel_rfl⟩ (by kernel_rfl)
   rw [← h2, List.drop_eq_nil_of_le (by omega)]
   rfl
set_option maxHeartbeats 8000000

open Go.Proofs
structure Ten where
 (name : Ad) (mb ks : Int)
 deriving DecidableEq
structure Gra where
 (sp : Sp) (r w : Bool)
 deriving DecidableEq
structure Usr where
 (name ten salt hash : Ad) (roles : List Ad)
 deriving DecidableEq
structure Rol where
 (name ten : Ad) (grants : List Gra)
 deriving DecidableEq
structure Roll where
 (rev : Int) (tens : List Ten) (usrs : List Usr) (rols : List Rol)
 deriving DecidableEq
abbrev Ten.toI (t : Ten) : I := .agg [.str t.name, .int .i64 t.mb, .int .i64 t.ks]
abbrev Gra.toI (g : Gra) : I := .agg [g.sp.toI, .bool g.r, .bool g.w]
abbrev Usr.toI (u : Usr) : I := .agg [.str u.name, .str u.ten, .str u.salt, .str u.hash, .list (strs u.roles)]
abbrev Rol.toI (x : Rol) : I := .agg [.str x.name, .str x.ten, .list (x.grants.map Gra.toI)]
abbrev Roll.toI (r : Roll) : I := .agg [.int .i64 r.rev, .list (r.tens.map Ten.toI), .list (r.usrs.map Usr.toI), .list (r.rols.map Rol.toI)]
def findAt {α : Type} (p : α → Bool) : Nat → List α → Int
 | _, [] => -1
 | k, a :: r => if p a then k else findAt p (k + 1) r
abbrev Roll.tenAt (r : Roll) (n : Ad) : Int := findAt (fun t : Ten => decide (t.name = n)) 0 r.tens
abbrev Roll.usrAt (r : Roll) (n : Ad) : Int := findAt (fun t : Usr => decide (t.name = n)) 0 r.usrs
abbrev Roll.rolAt (r : Roll) (n : Ad) : Int := findAt (fun t : Rol => decide (t.name = n)) 0 r.rols

open Go.Proofs
def Du {α : Type} (gt : α → Bool) (x : α) : List α → List α
 | [] => [x]
 | a :: r => if gt a then x :: a :: r else a :: Du gt x r
theorem E8 {α : Type} (gt : α → Bool) (x : α) : ∀ l : List α, (Du gt x l).length = l.length + 1
 | [] => rfl
 | a :: r => by
   unfold Du
   split
   · simp
   · simp [E8 gt x r]
theorem Ajg (e x : Gra) : (decide (e.sp.f = x.sp.f) && (decide (e.sp.t = x.sp.t) && true) && (decide (e.r = x.r) && (decide (e.w = x.w) && true))) = decide (e = x) := by
 obtain ⟨⟨a, b⟩, c, d⟩ := e
 obtain ⟨⟨a', b'⟩, c', d'⟩ := x
 simp only [Bool.and_true]
 by_cases h1 : a = a' <;> by_cases h2 : b = b' <;> by_cases h3 : c = c' <;> by_cases h4 : d = d' <;> simp [h1, h2, h3, h4]

open Go.Proofs
abbrev Usr.toD (u : Usr) : D := .st [.it (.str u.name), .it (.str u.ten), .it (.str u.salt), .it (.str u.hash), .vec Bo 1 ((u.roles.map I.str).map D.it)]
abbrev Rol.toD (x : Rol) : D := .st [.it (.str x.name), .it (.str x.ten), .vec Bt 4 ((x.grants.map Gra.toI).map D.it)]
abbrev Roll.toD (r : Roll) : D := .st [.it (.int .i64 r.rev), .vec A0 3 ((r.tens.map Ten.toI).map D.it), .vec Ax 5 (r.usrs.map Usr.toD), .vec Au 3 (r.rols.map Rol.toD)]
structure Roll.Small (r : Roll) : Prop where
 hT : r.tens.length ≤ 1000
 hU : r.usrs.length ≤ 1000
 hX : r.rols.length ≤ 1000
 hR : ∀ u ∈ r.usrs, u.roles.length ≤ 1000
 hG : ∀ x ∈ r.rols, x.grants.length ≤ 1000

def Mb : SV → Option SV
 | .own _ t => match t.toI with
   | some y => some (.v y)
   | none => none
 | .tupd l => match toIs l with
   | some r => some (.tup (r.map F.i))
   | none => none
 | .v x => some (.v x)
 | _ => none
theorem Aez {G : Mem} {y : I} {v : Value} (h : RepI G y v.cells.toList) (hv : valOf y.isAgg v = true) : RepV G y v := by
 unfold RepV
 cases hx : y.isAgg with
 | true =>
   rw [hx] at hv
   obtain ⟨a', rfl⟩ := Ez hv
   rw [if_pos rfl]
   exact ⟨a', rfl, h⟩
 | false =>
   rw [hx] at hv
   rw [Br hv] at h
   rw [if_neg (by simp)]
   exact h
theorem X9 {G G' : Mem} {σ : Lab} {w : World} {s : Nat} (hG : G.le G') : ∀ {l : List D} {r : List I} {cs : List Value} {bs : List Nat} {j : Nat}, RepVs G w l cs bs → toIs l = some r → (∀ b ∈ bs, G' b = w.heap[b]?) → RepTup G' σ w s j (r.map F.i) cs
 | [], r, cs, bs, j, h, hr, _ => by
   simp only [toIs, Option.some.injEq] at hr
   subst hr
   simp only [RepVs] at h
   simp [RepTup, h.1]
 | d :: l, r, cs, bs, j, h, hr, hb => by
   simp only [toIs] at hr
   split at hr
   · rename_i x hx
     split at hr
     · rename_i r' hr'
       cases hr
       simp only [RepVs] at h
       obtain ⟨v, c', b, b', rfl, rfl, hv, h1, h2⟩ := h
       simp only [List.map_cons, RepTup]
       refine ⟨v, c', rfl, Aez (RepD.toI hG h1 hx fun b hb' => hb b (by simp [hb'])) ?_, X9 hG h2 hr' fun b hb' => hb b (by simp [hb'])⟩
       rw [(toI_shape hx).2]; exact hv
     · cases hr
   · cases hr
theorem Fn.frz {P : Program} {f : FuncId} {args : List SV} {Post Post' : SV → List SV → Prop} (h : Fn P f args Post) (hP : ∀ r az, Post r az → ∃ r', Mb r = some r' ∧ Post' r' az) : Fn P f args Post' := by
 intro G σ Fr w cargs hok hsz hin
 refine (h G σ Fr w cargs hok hsz hin).mono ?_
 rintro e w' ⟨r, az, c, G1, σ1, rfl, hp, hG, hok1, hroot, hrep, hlen, has⟩
 obtain ⟨r', hfr, hp'⟩ := hP r az hp
 let G2 : Mem := fun b => match σ1 b with
  | some (s, _) => if s = args.length then w'.heap[b]? else G1 b
  | none => G1 b
 let σ2 : Lab := fun b => match σ1 b with
  | some (s, k) => if s = args.length then none else some (s, k)
  | none => none
 have hG2n : ∀ b k, σ1 b = some (args.length, k) → G2 b = w'.heap[b]? := by
  intro b k hb
  simp only [G2, hb, if_true]
 have hG2o : ∀ b, (∀ k, σ1 b ≠ some (args.length, k)) → G2 b = G1 b := by
  intro b hb
  simp only [G2]
  split
  · rename_i s k hs
    split
    · rename_i hsn; subst hsn; exact absurd hs (hb k)
    · rfl
  · rfl
 have hle : G1.le G2 := by
  intro b o hb
  rw [hG2o b]
  · exact hb
  · intro k hk
    rw [(hok1.own b _ hk).1] at hb
    cases hb
 have hσ2 : ∀ b s k, σ2 b = some (s, k) → σ1 b = some (s, k) ∧ s ≠ args.length := by
  intro b s k hb
  simp only [σ2] at hb
  split at hb
  · rename_i s' k' hs
    split at hb
    · cases hb
    · rename_i hne; cases hb; exact ⟨hs, hne⟩
  · cases hb
 have hok2 : WOk G2 σ2 Fr ⟨w, 0, #[]⟩ w' := by
  refine ⟨?_, ?_, ?_, hok1.frame, hok1.os, hok1.tape, hok1.output, hok1.size, ?_, Amb.mono hle hok1.amb⟩
  · intro b o hb
    by_cases hk : ∃ k, σ1 b = some (args.length, k)
    · obtain ⟨k, hk⟩ := hk
      rw [hG2n b k hk] at hb; exact hb
    · rw [hG2o b (fun k hk' => hk ⟨k, hk'⟩)] at hb
      exact hok1.fixed b o hb
  · rintro b ⟨s, k⟩ hb
    obtain ⟨h1, h2⟩ := hσ2 b s k hb
    obtain ⟨h3, h4, h5⟩ := hok1.own b _ h1
    refine ⟨?_, h4, h5⟩
    rw [hG2o b (fun k' hk' => ?_)]
    · exact h3
    · rw [h1] at hk'; cases hk'; exact h2 rfl
  · rintro b b' ⟨s, k⟩ hb hb'
    exact hok1.inj b b' _ (hσ2 b s k hb).1 (hσ2 b' s k hb').1
  · intro b o hb
    by_cases hk : ∃ k, σ1 b = some (args.length, k)
    · obtain ⟨k, hk⟩ := hk
      rw [(hok1.own b _ hk).2.1] at hb; cases hb
    · rw [hG2o b (fun k hk' => hk ⟨k, hk'⟩)]
      exact hok1.apart b o hb
 have hasn : ∀ i sv, az[i]? = some sv → sv.root = none ∧ RepOwn G2 σ2 w' i sv (cargs.getD i undef) := by
  intro i sv hi
  obtain ⟨h1, h2⟩ := has i sv hi
  refine ⟨h1, RepOwn.tr h2 hle fun b k hb => ⟨?_, rfl⟩⟩
  have hil : i < args.length := by
   have := (List.getElem?_eq_some_iff.1 hi).1
   omega
  simp only [σ2, hb]
  rw [if_neg (by omega)]
 refine ⟨r', az, c, G2, σ2, rfl, hp', hG.trans hle, hok2, ?_, ?_, hlen, hasn⟩
 · unfold Mb at hfr
   split at hfr
   · split at hfr
     · cases hfr; rfl
     · cases hfr
   · split at hfr
     · cases hfr; rfl
     · cases hfr
   · cases hfr; rfl
   · cases hfr
 · unfold Mb at hfr
   split at hfr
   · rename_i inv t
     split at hfr
     · rename_i y hy
       cases hfr
       obtain ⟨bs, h1, h2, h3, h4⟩ := (show OwnD G1 σ1 w' args.length t c from hrep)
       refine Aez (RepD.toI hle h1 hy fun b hb => ?_) (by rw [(toI_shape hy).2]; exact h2)
       obtain ⟨k, hk⟩ := h4 b hb
       exact hG2n b k hk
     · cases hfr
   · rename_i l
     split at hfr
     · rename_i r0 hr0
       cases hfr
       obtain ⟨a, bs, h0, h1, h3, h4⟩ := (show OwnT G1 σ1 w' args.length l c from hrep)
       refine ⟨a, h0, X9 hle h1 hr0 fun b hb => ?_⟩
       obtain ⟨k, hk⟩ := h4 b hb
       exact hG2n b k hk
     · cases hfr
   · cases hfr
     exact RepV.mono hle hrep
   · cases hfr
set_option maxHeartbeats 40000000

open Go.Proofs
structure Cmd where
 (client seq : Int) (token : Ad) (kind : Int) (name other word salt : Ad) (bytes keys : Int) (grant : Gra) (rev : Int) (ifs thn els : List I)
abbrev Cmd.toI (c : Cmd) : I := .agg [.int .i64 c.client, .int .i64 c.seq, .str c.token, .int .i64 c.kind, .str c.name, .str c.other, .str c.word, .str c.salt, .int .i64 c.bytes, .int .i64 c.keys, c.grant.toI, .int .i64 c.rev, .list c.ifs, .list c.thn, .list c.els]
def IsF (x : List I) (outs : List SV) (r : SV) (as1 : List SV) : Prop := Mb r = some (.tup (x.map F.i)) ∧ as1 = outs
theorem Fn.isF {P : Program} {f : FuncId} {args : List SV} {x : List I} {outs : List SV} (h : Fn P f args (IsF x outs)) : Fn P f args (Is (.tup (x.map F.i)) outs) :=
 Fn.frz h fun _ _ ⟨h1, h2⟩ => ⟨_, h1, rfl, h2⟩
theorem Ey (l : List Usr) : toIs (l.map Usr.toD) = some (l.map Usr.toI) := Tf (fun x => by simp [D.toI, toIs, Az, -List.map_map]) l
theorem E9 (l : List Rol) : toIs (l.map Rol.toD) = some (l.map Rol.toI) := Tf (fun x => by simp [D.toI, toIs, Az, -List.map_map]) l
def Pp (r : Roll) (c : Cmd) : Roll × Int :=
 if r.usrAt c.name < 0 then (r, 16)
 else match r.usrs[(r.usrAt c.name).toNat]? with
 | none => (r, 16)
 | some u =>
   if c.kind = 14 then
    if u.roles.any (fun e => decide (e = c.other)) then ({ r with rev := r.rev + 1, usrs := r.usrs.set (r.usrAt c.name).toNat { u with roles := u.roles.filter fun e => !decide (e = c.other) } }, 0)
    else (r, 16)
   else if r.rolAt c.other < 0 then (r, 16)
   else match r.rols[(r.rolAt c.other).toNat]? with
    | none => (r, 16)
    | some x =>
      if x.ten ≠ u.ten then (r, 18)
      else if u.roles.any (fun e => decide (e = c.other)) then (r, 15)
      else if 4 ≤ (u.roles.length : Int) then (r, 17)
      else ({ r with rev := r.rev + 1, usrs := r.usrs.set (r.usrAt c.name).toNat { u with roles := Du (fun e => decide (c.other < e)) c.other u.roles } }, 0)
theorem P9 {l : List I} {j : Nat} {y : I} : toIs ((l.map D.it).set j (D.it y)) = some (l.set j y) := by
 rw [← List.map_set]
 exact Az _

open Go.Proofs
theorem sz18 (e : Cmd) : e.toI.size = 18 := by kernel_rfl
theorem Ant (e : Cmd) : e.toI.size = (I.agg [.int .i64 0, .int .i64 0, .str [], .int .i64 0, .str [], .str [], .str [], .str [], .int .i64 0, .int .i64 0, .agg [.agg [.str [], .str []], .bool false, .bool false], .int .i64 0, .list [], .list [], .list []]).size :=
 Eq.trans (sz18 e) (Eq.symm (by kernel_rfl))
theorem Ank (e : Cmd) : ((I.agg [.int .i64 0, .int .i64 0, .str [], .int .i64 0, .str [], .str [], .str [], .str [], .int .i64 0, .int .i64 0, .agg [.agg [.str [], .str []], .bool false, .bool false], .int .i64 0, .list [], .list [], .list []]).put [] e.toI).size = 18 := by kernel_rfl
theorem Anp (e : Cmd) : ((I.agg [.int .i64 0, .int .i64 0, .str [], .int .i64 0, .str [], .str [], .str [], .str [], .int .i64 0, .int .i64 0, .agg [.agg [.str [], .str []], .bool false, .bool false], .int .i64 0, .list [], .list [], .list []]).put [] e.toI).isAgg = true := by kernel_rfl
end Go.Ab
