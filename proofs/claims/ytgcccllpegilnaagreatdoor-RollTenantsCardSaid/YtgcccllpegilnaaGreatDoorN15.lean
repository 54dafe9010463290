/- Lemmas for the last text. -/
import Derived.Test.YtgcccllpegilnaaGreatDoorN11
set_option linter.unusedVariables false
set_option linter.unusedSimpArgs false
set_option maxRecDepth 100000
namespace Go.Ab
open Go.Proofs
abbrev H3 : FuncId := 7
def Hr : Stm := (.seq (.ops [gA 2 cF]) (.seq (.seq (.ops [.call none (some 16) 8 [], gT 17 16]) (.cond 17 (.seq (.ops [gA 2 cF]) .ret) .skip)) (.seq (.seq (.ops [gM 18 0, .call none (some 19) 9 [(false, 18)]]) (.cond 19 (.seq (.ops [gA 2 cT]) .ret) .skip)) (.seq (.ops [.call none (some 21) 18 [(false, (cS [115])), (false, (cS [119]))], gA 20 21, gE 22 20 0, gE 23 20 1, O1 (.alloc 3 (.one (.i (.agg [(.int .i64 0), (.list []), (.list []), (.list [])])))), gS 4 3 22, gA 4 23]) (.seq (.seq (.ops [gM 24 0, gN 25 24, gM 26 (cI 0)]) (.block 0 (.loop (kr [2,6,7,8,9,11,13,14,15,18] 27 74) (.seq (.ops [gB 27 .lss 26 25]) (.seq (.cond 27 .skip (.exit 0)) (.seq (.block 1 (.seq (.ops [gI 28 18 24 26, gU 29 18 28, O1 (.alloc 6 (.one (.i (.agg [(.int .i64 0), (.int .i64 0), (.str []), (.int .i64 0), (.str []), (.str []), (.str []), (.str []), (.int .i64 0), (.int .i64 0), (.agg [(.agg [(.str []), (.str [])]), (.bool false), (.bool false)]), (.int .i64 0), (.list []), (.list []), (.list [])])))), gS 18 6 29]) (.seq (.ops [gF 30 3 0, gL 31 30, gA 7 31]) (.seq (.ops [gU 33 4 3, gU 34 18 6, .call none (some 35) 19 [(false, 33), (false, 34)], gA 32 35, gE 36 32 0, gE 37 32 1, O1 (.alloc 8 (.one (.i (.agg [(.int .i64 0), (.list []), (.list []), (.list [])])))), gS 4 8 36, gA 9 37]) (.seq (.seq (.ops [gF 38 8 0, gL 39 38, gM 40 7, gB 41 .neq 39 40, gM 42 41, qt 42 (iM 43 9), qt 42 (iB 44 .neq 43 (cI 0)), qt 42 (iM 45 44), qf 45 (iG 46 8 0 0), qf 45 (iL 47 46), qf 45 (iM 48 7), qf 45 (iB 49 .add 48 (cI 1)), qf 45 (iB 50 .neq 47 49), qt 42 (iP 51 45 cT 50), gP 52 42 51 cF, gM 53 52, qf 53 (iG 54 8 0 0), qf 53 (iL 55 54), qf 53 (iM 56 7), qf 53 (iB 57 .eql 55 56), qf 53 (iM 58 57), qt 58 (iM 59 9), qt 58 (iB 60 .eql 59 (cI 0)), qf 53 (iP 61 58 60 cF), gP 62 53 cT 61]) (.cond 62 (.seq (.ops [gA 2 cF]) .ret) .skip)) (.seq (.ops [gU 63 4 8, gS 4 3 63]) (.seq (.ops [gF 64 3 2, gL 65 64, gN 66 65, gM 67 (cI 0)]) (.block 2 (.loop (kr [2,11,13,14,15,18] 68 32) (.seq (.ops [gB 68 .lss 67 66]) (.seq (.cond 68 .skip (.exit 2)) (.seq (.block 3 (.seq (.ops [gI 69 5 65 67, gU 70 5 69, O1 (.alloc 11 (.one (.i (.agg [(.str []), (.str []), (.str []), (.str []), (.list [])])))), gS 5 11 70]) (.seq (.ops [gF 71 11 4, gL 72 71, gN 73 72, gM 74 (cI 0)]) (.block 4 (.loop (kr [2,13,14,15,18] 75 24) (.seq (.ops [gB 75 .lss 74 73]) (.seq (.cond 75 .skip (.exit 4)) (.seq (.block 5 (.seq (.ops [gI 76 1 72 74, gL 77 76, gA 13 77]) (.seq (.ops [gU 79 4 3, gM 80 13, .call none (some 81) 13 [(false, 79), (false, 80)], gA 78 81, gE 82 78 0, gE 83 78 1, O1 (.alloc 14 (.one (.i (.agg [(.str []), (.str []), (.list [])])))), gS 3 14 82, gA 15 83]) (.seq (.ops [gM 84 15, gT 85 84, gM 86 85, qf 86 (iG 87 14 1 1), qf 86 (iL 88 87), qf 86 (iG 89 11 1 1), qf 86 (iL 90 89), qf 86 (iB 91 .neq 88 90), gP 92 86 cT 91, gM 93 92, qf 93 (iG 94 11 1 1), qf 93 (iL 95 94), qf 93 (iB 96 .eql 95 (cS [])), gP 97 93 cT 96]) (.cond 97 (.seq (.ops [gA 2 cF]) .ret) .skip))))) (.ops [gB 98 .add 74 (cI 1), gM 74 98]))))))))) (.ops [gB 99 .add 67 (cI 1), gM 67 99]))))))))))))) (.ops [gB 100 .add 26 (cI 1), gM 26 100]))))))) (.seq (.ops [gU 101 4 3, .call none (some 102) 26 [(false, 101)], gA 2 102]) .ret))))))
theorem Hq : OF 7 103 Hr [.t 2] := oF Tryz.func7 rfl Tryz.ntmps7 (by kernel_rfl) (by kernel_rfl)
abbrev Mk : FuncId := 8
def Lt : Stm := (.seq (.ops [gA 0 cF]) (.seq (.ops [.call none (some 9) 18 [(false, (cS [115])), (false, (cS [119]))], gA 8 9, gE 10 8 0, gE 11 8 1, O1 (.alloc 1 (.one (.i (.agg [(.int .i64 0), (.list []), (.list []), (.list [])])))), gS 4 1 10, gA 2 11]) (.seq (.ops [gU 13 4 1, O1 (.build 14 [(.int .i64 0), (.int .i64 0), (.str []), (.int .i64 0), (.str []), (.str []), (.str []), (.str []), (.int .i64 0), (.int .i64 0), (.agg [(.agg [(.str []), (.str [])]), (.bool false), (.bool false)]), (.int .i64 0), (.list []), (.list []), (.list [])] [(3, (cI 4)), (4, (cS [116]))]), .call none (some 15) 19 [(false, 13), (false, 14)], gA 12 15, gE 16 12 0, gE 17 12 1, gS 4 1 16, gA 3 17]) (.seq (.ops [gU 19 4 1, O1 (.build 20 [(.int .i64 0), (.int .i64 0), (.str []), (.int .i64 0), (.str []), (.str []), (.str []), (.str []), (.int .i64 0), (.int .i64 0), (.agg [(.agg [(.str []), (.str [])]), (.bool false), (.bool false)]), (.int .i64 0), (.list []), (.list []), (.list [])] [(3, (cI 4)), (4, (cS [117]))]), .call none (some 21) 19 [(false, 19), (false, 20)], gA 18 21, gE 22 18 0, gE 23 18 1, gS 4 1 22, gA 4 23]) (.seq (.ops [gU 25 4 1, O1 (.build 26 [(.int .i64 0), (.int .i64 0), (.str []), (.int .i64 0), (.str []), (.str []), (.str []), (.str []), (.int .i64 0), (.int .i64 0), (.agg [(.agg [(.str []), (.str [])]), (.bool false), (.bool false)]), (.int .i64 0), (.list []), (.list []), (.list [])] [(3, (cI 6)), (4, (cS [120])), (5, (cS [116])), (6, (cS [112]))]), .call none (some 27) 19 [(false, 25), (false, 26)], gA 24 27, gE 28 24 0, gE 29 24 1, gS 4 1 28, gA 5 29]) (.seq (.ops [gU 31 4 1, O1 (.build 32 [(.int .i64 0), (.int .i64 0), (.str []), (.int .i64 0), (.str []), (.str []), (.str []), (.str []), (.int .i64 0), (.int .i64 0), (.agg [(.agg [(.str []), (.str [])]), (.bool false), (.bool false)]), (.int .i64 0), (.list []), (.list []), (.list [])] [(3, (cI 9)), (4, (cS [121])), (5, (cS [117]))]), .call none (some 33) 19 [(false, 31), (false, 32)], gA 30 33, gE 34 30 0, gE 35 30 1, gS 4 1 34, gA 6 35]) (.seq (.ops [gU 37 4 1, O1 (.build 38 [(.int .i64 0), (.int .i64 0), (.str []), (.int .i64 0), (.str []), (.str []), (.str []), (.str []), (.int .i64 0), (.int .i64 0), (.agg [(.agg [(.str []), (.str [])]), (.bool false), (.bool false)]), (.int .i64 0), (.list []), (.list []), (.list [])] [(3, (cI 13)), (4, (cS [120])), (5, (cS [121]))]), .call none (some 39) 19 [(false, 37), (false, 38)], gA 36 39, gE 40 36 0, gE 41 36 1, gS 4 1 40, gA 7 41]) (.seq (.ops [gM 42 2, gM 43 42, qt 43 (iM 44 3), qt 43 (iB 45 .eql 44 (cI 0)), gP 46 43 45 cF, gM 47 46, qt 47 (iM 48 4), qt 47 (iB 49 .eql 48 (cI 0)), gP 50 47 49 cF, gM 51 50, qt 51 (iM 52 5), qt 51 (iB 53 .eql 52 (cI 0)), gP 54 51 53 cF, gM 55 54, qt 55 (iM 56 6), qt 55 (iB 57 .eql 56 (cI 0)), gP 58 55 57 cF, gM 59 58, qt 59 (iM 60 7), qt 59 (iB 61 .eql 60 (cI 18)), gP 62 59 61 cF, gM 63 62, qt 63 (iG 64 1 0 0), qt 63 (iL 65 64), qt 63 (iB 66 .eql 65 (cI 5)), gP 67 63 66 cF, gM 68 67, qt 68 (iU 69 4 1), .call (some (68, true)) (some 70) 28 [(false, 69), (false, (cS [120])), (false, (cS [112]))], gP 71 68 70 cF, gA 0 71]) .ret))))))))
theorem Lu : OF 8 72 Lt [.t 0] := oF Tryz.func8 rfl Tryz.ntmps8 (by kernel_rfl) (by kernel_rfl)
abbrev Mp : FuncId := 9
def Lx : Stm := (.seq (.ops [gA 2 cF]) (.seq (.seq (.ops [gM 5 0, gN 6 5, gM 7 (cI 0)]) (.block 0 (.loop (kr [2,3,4] 8 47) (.seq (.ops [gB 8 .lss 7 6]) (.seq (.cond 8 .skip (.exit 0)) (.seq (.block 1 (.seq (.ops [gM 9 7, gI 10 18 5 7, gU 11 18 10, O1 (.alloc 4 (.one (.i (.agg [(.int .i64 0), (.int .i64 0), (.str []), (.int .i64 0), (.str []), (.str []), (.str []), (.str []), (.int .i64 0), (.int .i64 0), (.agg [(.agg [(.str []), (.str [])]), (.bool false), (.bool false)]), (.int .i64 0), (.list []), (.list []), (.list [])])))), gA 3 9, gS 18 4 11]) (.seq (.ops [gM 12 3, gB 13 .geq 12 (cI 80), gM 14 13, qf 14 (iG 15 4 4 4), qf 14 (iL 16 15), qf 14 (.len 17 true 16), qf 14 (iB 18 .gtr 17 (cI 1000)), gP 19 14 cT 18, gM 20 19, qf 20 (iG 21 4 5 5), qf 20 (iL 22 21), qf 20 (.len 23 true 22), qf 20 (iB 24 .gtr 23 (cI 1000)), gP 25 20 cT 24, gM 26 25, qf 26 (iG 27 4 6 6), qf 26 (iL 28 27), qf 26 (.len 29 true 28), qf 26 (iB 30 .gtr 29 (cI 1000)), gP 31 26 cT 30, gM 32 31, qf 32 (iG 33 4 7 7), qf 32 (iL 34 33), qf 32 (.len 35 true 34), qf 32 (iB 36 .gtr 35 (cI 1000)), gP 37 32 cT 36, gM 38 37, qf 38 (iG 39 4 10 10), qf 38 (iG 40 39 0 0), qf 38 (iG 41 40 0 0), qf 38 (iL 42 41), qf 38 (.len 43 true 42), qf 38 (iB 44 .gtr 43 (cI 1000)), gP 45 38 cT 44, gM 46 45, qf 46 (iG 47 4 10 10), qf 46 (iG 48 47 0 0), qf 46 (iG 49 48 1 1), qf 46 (iL 50 49), qf 46 (.len 51 true 50), qf 46 (iB 52 .gtr 51 (cI 1000)), gP 53 46 cT 52]) (.cond 53 (.seq (.ops [gA 2 cT]) .ret) .skip)))) (.ops [gB 54 .add 7 (cI 1), gM 7 54]))))))) (.seq (.ops [gA 2 cF]) .ret)))
theorem Ly : OF 9 55 Lx [.t 2] := oF Tryz.func9 rfl Tryz.ntmps9 (by kernel_rfl) (by kernel_rfl)
set_option maxHeartbeats 40000000

open Go.Proofs
theorem Xd (salt word : Ad) (h1 : salt.length ≤ 64) (h2 : word.length ≤ 64) : Fn Tryz.prog Afv [.v (.str salt), .v (.str word)] (Is (.tup [.i (Dj salt word).toI, .i (.bool true)]) [.no, .no]) := by
 refine Ac6 ?_ (by simp)
 have n1 := Ct salt
 have n2 := Ct word
 rw [show decide (salt.length ≤ 64) = true by simp [h1]] at n1
 rw [show decide (word.length ≤ 64) = true by simp [h2]] at n2
 have hh := Kd salt word (by omega) (by omega)
 repeat' ((conv => whnf); first | (refine aI (fun hb => ?_) (fun hb => ?_) <;>first | exact absurd hb (by decide) | ((try rw [hb]); (try simp only [Ac] at hb))) | (refine eI ?_ ?_; focus (and_intros <;> first | omega | exact rfl | (intro _ hh; cases hh; done) | exact Bs (by rfl) | (simp; done) | decide)) | (refine CallWp.mk ⟨_, n1, ?_⟩; rintro _ _ ⟨rfl, rfl⟩) | (refine CallWp.mk ⟨_, n2, ?_⟩; rintro _ _ ⟨rfl, rfl⟩) | (refine CallWp.mk ⟨_, hh, ?_⟩; rintro _ _ ⟨rfl, rfl⟩))
 all_goals (try (conv => whnf))
 exact Done.mk ⟨by kernel_rfl, by kernel_rfl⟩ (by kernel_rfl)
theorem Aec (r : Roll) (hf : r.Small) (n w : Ad) (u : Usr) (hu : getU r.usrs n = (u, true)) (hw : w.length ≤ 100000) (hs : u.salt.length ≤ 100000) : Fn Tryz.prog Ac0 [.v r.toI, .v (.str n), .v (.str w)] (Is (.v (.bool (decide (u.hash = C4 u.salt w)))) [.no, .no, .no]) := by
 refine Yj ?_ (by simp)
 have g := Qo r hf n
 rw [hu] at g
 have hh := Kd u.salt w hs hw
 repeat' ((conv => whnf); first | (refine aI (fun hb => ?_) (fun hb => ?_) <;>first | exact absurd hb (by decide) | with_reducible exact absurd hb.symm Bool.false_ne_true | ((try rw [hb]); (try simp only [Ac] at hb))) | (refine eI ?_ ?_; focus (and_intros <;> first | omega | exact rfl | (intro _ hh; cases hh; done) | (simp; done) | decide)) | ((with_reducible apply Drawn.by0); (focus kernel_rfl); intro hfact; (try simp only [List.mem_append, List.mem_cons, List.not_mem_nil, or_false, false_or, or_assoc, forall_eq_or_imp, forall_eq, false_implies, implies_true, forall_const, and_true, true_and] at hfact)) | (refine CallWp.mk ⟨_, g, ?_⟩; rintro _ _ ⟨rfl, rfl⟩) | (refine CallIs.mk ⟨_, _, hh, ?_⟩))
 all_goals (try (conv => whnf))
 all_goals refine Done.mk ⟨SV.bool_congr ?_, by kernel_rfl⟩ (by kernel_rfl)
 all_goals simp [*]
def cmdA (k : Int) (n o w : Ad) : Cmd := ⟨0, 0, [], k, n, o, w, [], 0, 0, ⟨⟨[], []⟩, false, false⟩, 0, [], [], []⟩
theorem Ab1 : Fn Tryz.prog Mk [] (Is (.v (.bool true)) []) := by
 refine Lu ?_ (by simp)
 have n1 := Xd [115] [119] (by simp) (by simp)
 unfold Dj at n1
 generalize C4 [115] [119] = h0 at n1
 obtain ⟨h1, hh1⟩ : ∃ h, h = C4 [] [112] := ⟨_, rfl⟩
 have e1 : DoP ⟨1, [], [⟨[114, 111, 111, 116], [], [115], h0, []⟩], []⟩ (cmdA 4 [116] [] []) = (⟨2, [⟨[116], 0, 0⟩], [⟨[114, 111, 111, 116], [], [115], h0, []⟩], []⟩, 0) := by kernel_rfl
 have e2 : DoP ⟨2, [⟨[116], 0, 0⟩], [⟨[114, 111, 111, 116], [], [115], h0, []⟩], []⟩ (cmdA 4 [117] [] []) = (⟨3, [⟨[116], 0, 0⟩, ⟨[117], 0, 0⟩], [⟨[114, 111, 111, 116], [], [115], h0, []⟩], []⟩, 0) := by kernel_rfl
 have e3 : DoP ⟨3, [⟨[116], 0, 0⟩, ⟨[117], 0, 0⟩], [⟨[114, 111, 111, 116], [], [115], h0, []⟩], []⟩ (cmdA 6 [120] [116] [112]) = (⟨4, [⟨[116], 0, 0⟩, ⟨[117], 0, 0⟩], [⟨[114, 111, 111, 116], [], [115], h0, []⟩, ⟨[120], [116], [], C4 [] [112], []⟩], []⟩, 0) := by kernel_rfl
 rw [← hh1] at e3
 have e4 : DoP ⟨4, [⟨[116], 0, 0⟩, ⟨[117], 0, 0⟩], [⟨[114, 111, 111, 116], [], [115], h0, []⟩, ⟨[120], [116], [], h1, []⟩], []⟩ (cmdA 9 [121] [117] []) = (⟨5, [⟨[116], 0, 0⟩, ⟨[117], 0, 0⟩], [⟨[114, 111, 111, 116], [], [115], h0, []⟩, ⟨[120], [116], [], h1, []⟩], [⟨[121], [117], []⟩]⟩, 0) := by kernel_rfl
 have e5 : DoP ⟨5, [⟨[116], 0, 0⟩, ⟨[117], 0, 0⟩], [⟨[114, 111, 111, 116], [], [115], h0, []⟩, ⟨[120], [116], [], h1, []⟩], [⟨[121], [117], []⟩]⟩ (cmdA 13 [120] [121] []) = (⟨5, [⟨[116], 0, 0⟩, ⟨[117], 0, 0⟩], [⟨[114, 111, 111, 116], [], [115], h0, []⟩, ⟨[120], [116], [], h1, []⟩], [⟨[121], [117], []⟩]⟩, 18) := by kernel_rfl
 have d1 := H6 ⟨1, [], [⟨[114, 111, 111, 116], [], [115], h0, []⟩], []⟩ ⟨by simp, by simp, by simp, by simp, by simp⟩ (cmdA 4 [116] [] []) (by simp [cmdA]) (by simp)
 have d2 := H6 ⟨2, [⟨[116], 0, 0⟩], [⟨[114, 111, 111, 116], [], [115], h0, []⟩], []⟩ ⟨by simp, by simp, by simp, by simp, by simp⟩ (cmdA 4 [117] [] []) (by simp [cmdA]) (by simp)
 have d3 := H6 ⟨3, [⟨[116], 0, 0⟩, ⟨[117], 0, 0⟩], [⟨[114, 111, 111, 116], [], [115], h0, []⟩], []⟩ ⟨by simp, by simp, by simp, by simp, by simp⟩ (cmdA 6 [120] [116] [112]) (by simp [cmdA]) (by simp)
 have d4 := H6 ⟨4, [⟨[116], 0, 0⟩, ⟨[117], 0, 0⟩], [⟨[114, 111, 111, 116], [], [115], h0, []⟩, ⟨[120], [116], [], h1, []⟩], []⟩ ⟨by simp, by simp, by simp, by simp, by simp⟩ (cmdA 9 [121] [117] []) (by simp [cmdA]) (by simp)
 have d5 := H6 ⟨5, [⟨[116], 0, 0⟩, ⟨[117], 0, 0⟩], [⟨[114, 111, 111, 116], [], [115], h0, []⟩, ⟨[120], [116], [], h1, []⟩], [⟨[121], [117], []⟩]⟩ ⟨by simp, by simp, by simp, by simp, by simp⟩ (cmdA 13 [120] [121] []) (by simp [cmdA]) (by simp)
 rw [e1] at d1
 rw [e2] at d2
 rw [e3] at d3
 rw [e4] at d4
 rw [e5] at d5
 have ch := Aec ⟨5, [⟨[116], 0, 0⟩, ⟨[117], 0, 0⟩], [⟨[114, 111, 111, 116], [], [115], h0, []⟩, ⟨[120], [116], [], h1, []⟩], [⟨[121], [117], []⟩]⟩ ⟨by simp, by simp, by simp, by simp, by simp⟩ [120] [112] ⟨[120], [116], [], h1, []⟩ (by simp [getU]) (by simp) (by simp)
 dsimp only at ch
 rw [show decide (h1 = C4 [] [112]) = true by simp [hh1]] at ch
 clear e1 e2 e3 e4 e5 hh1
 repeat' ((conv => whnf); first | (refine aI (fun hb => ?_) (fun hb => ?_) <;>first | exact absurd hb (by decide) | ((try rw [hb]); (try simp only [Ac] at hb))) | (refine eI ?_ ?_; focus (and_intros <;> first | omega | exact rfl | (intro _ hh; cases hh; done) | (simp; done) | decide)) | (refine CallWp.mk ⟨_, n1, ?_⟩; rintro _ _ ⟨rfl, rfl⟩) | (refine CallWp.mk ⟨_, d1, ?_⟩; rintro _ _ ⟨rfl, rfl⟩) | (refine CallWp.mk ⟨_, d2, ?_⟩; rintro _ _ ⟨rfl, rfl⟩) | (refine CallWp.mk ⟨_, d3, ?_⟩; rintro _ _ ⟨rfl, rfl⟩) | (refine CallWp.mk ⟨_, d4, ?_⟩; rintro _ _ ⟨rfl, rfl⟩) | (refine CallWp.mk ⟨_, d5, ?_⟩; rintro _ _ ⟨rfl, rfl⟩) | (refine CallWp.mk ⟨_, ch, ?_⟩; rintro _ _ ⟨rfl, rfl⟩))
 all_goals (try (conv => whnf))
 all_goals first | (exfalso; have ht : ¬ True := (by assumption); exact ht True.intro) | exact Done.mk ⟨by kernel_rfl, by kernel_rfl⟩ (by kernel_rfl)

open Go.Proofs
def Ks (r : Roll) (c : Cmd) : Roll × Int :=
 if Bi c.name = false then (r, 5)
 else if B4 c.bytes = false then (r, 1)
 else if B4 c.keys = false then (r, 1)
 else if 0 ≤ r.tenAt c.name then (r, 15)
 else if 8 ≤ (r.tens.length : Int) then (r, 17)
 else ({ r with rev := r.rev + 1, tens := Du (fun e : Ten => decide (c.name < e.name)) ⟨c.name, c.bytes, c.keys⟩ r.tens }, 0)
def R8 (r : Roll) (c : Cmd) : Roll × Int :=
 if Bi c.name = false then (r, 5)
 else if 0 ≤ r.rolAt c.name then (r, 15)
 else if r.tenAt c.other < 0 then (r, 16)
 else if 16 ≤ (r.rols.length : Int) then (r, 17)
 else ({ r with rev := r.rev + 1, rols := Du (fun e : Rol => decide (c.name < e.name)) ⟨c.name, c.other, []⟩ r.rols }, 0)
def Sk (r : Roll) (c : Cmd) : Roll × Int :=
 if Bi c.name = false then (r, 5)
 else if 64 < (c.word.length : Int) then (r, 2)
 else if 64 < (c.salt.length : Int) then (r, 2)
 else if 0 ≤ r.usrAt c.name then (r, 15)
 else if r.tenAt c.other < 0 then (r, 16)
 else if 16 ≤ (r.usrs.length : Int) then (r, 17)
 else ({ r with rev := r.rev + 1, usrs := Du (fun e : Usr => decide (c.name < e.name)) ⟨c.name, c.other, c.salt, C4 c.salt c.word, []⟩ r.usrs }, 0)
def Si (r : Roll) (c : Cmd) : Roll × Int :=
 if 64 < (c.word.length : Int) then (r, 2)
 else if 64 < (c.salt.length : Int) then (r, 2)
 else if r.usrAt c.name < 0 then (r, 16)
 else match r.usrs[(r.usrAt c.name).toNat]? with
 | none => (r, 16)
 | some u => ({ r with rev := r.rev + 1, usrs := r.usrs.set (r.usrAt c.name).toNat { u with salt := c.salt, hash := C4 c.salt c.word } }, 0)
set_option maxHeartbeats 4000000

open Go.Proofs
def doM (r : Roll) (c : Cmd) : Roll × Int :=
 if c.kind < 4 ∨ 14 < c.kind then (r, 1)
 else if 1099511627776 ≤ r.rev then (r, 17)
 else if c.kind = 4 then Ks r c
 else if c.kind = 5 then Nj r c
 else if c.kind = 6 then Sk r c
 else if c.kind = 7 then Si r c
 else if c.kind = 8 then Ng r c
 else if c.kind = 9 then R8 r c
 else if c.kind = 10 then Sv r c
 else if c.kind = 11 then M6 r c
 else if c.kind = 12 then Kv r c
 else Pp r c

open Go.Proofs
theorem Af6 (a b : Ad) : a < b ∨ a = b ∨ b < a := by
 by_cases h : a < b
 · exact .inl h
 · by_cases h2 : b < a
   · exact .inr (.inr h2)
   · exact .inr (.inl (List.le_antisymm (List.not_lt.1 h2) (List.not_lt.1 h)))
theorem Q9 {lt : Nat → Bool} {L : Nat} (mono : ∀ h h', h ≤ h' → h' < L → lt h' = true → lt h = true) : ∀ f i j, i ≤ j → j ≤ L → j - i ≤ f → (∀ h, h < i → lt h = true) → (∀ h, j ≤ h → h < L → lt h = false) →
 (∀ h, h < bsGo lt f i j → lt h = true) ∧ (∀ h, bsGo lt f i j ≤ h → h < L → lt h = false)
 | 0, i, j, h1, h2, h3, h4, h5 => by
   obtain rfl : i = j := by omega
   exact ⟨h4, h5⟩
 | f + 1, i, j, h1, h2, h3, h4, h5 => by
   unfold bsGo
   split
   · rename_i hij
     split
     · rename_i hl
       exact Q9 mono f _ _ (by omega) h2 (by omega) (fun h hh => mono h ((i + j) / 2) (by omega) (by omega) hl) h5
     · rename_i hl
       refine Q9 mono f _ _ (by omega) (by omega) (by omega) h4 (fun h hh hL => ?_)
       cases hx : lt h with
       | false => rfl
       | true => exact absurd (mono _ _ hh hL hx) hl
   · obtain rfl : i = j := by omega
     exact ⟨h4, h5⟩
abbrev Cv {α : Type} (nm : α → Ad) (l : List α) : Prop := l.Pairwise fun a b => nm a < nm b
def posOf {α : Type} (nm : α → Ad) (n : Ad) : List α → Nat
 | [] => 0
 | a :: r => if nm a < n then posOf nm n r + 1 else 0
theorem Aba {α : Type} (nm : α → Ad) (n : Ad) : ∀ l : List α, posOf nm n l ≤ l.length
 | [] => Nat.le_refl _
 | a :: r => by
   unfold posOf
   have := Aba nm n r
   split <;> simp <;> omega
theorem Acy {α : Type} (nm : α → Ad) (n : Ad) : ∀ (l : List α) (h : Nat), h < posOf nm n l → ltAt nm l n h = true
 | [], h, hh => by simp [posOf] at hh
 | a :: r, h, hh => by
   unfold posOf at hh
   split at hh
   · rename_i ha
     cases h with
     | zero => simp [ltAt, ha]
     | succ h =>
       have := Acy nm n r h (by omega)
       simpa [ltAt] using this
   · omega
theorem Abe {α : Type} (nm : α → Ad) (n : Ad) : ∀ (l : List α), posOf nm n l < l.length → ltAt nm l n (posOf nm n l) = false
 | [], h => by simp [posOf] at h
 | a :: r, h => by
   unfold posOf at h ⊢
   split
   · rename_i ha
     rw [if_pos ha] at h
     have := Abe nm n r (by simpa using h)
     simpa [ltAt] using this
   · rename_i ha
     simpa [ltAt] using ha
theorem Vm {α : Type} {nm : α → Ad} {l : List α} (hr : Cv nm l) (n : Ad) : Aw nm l n = posOf nm n l := by
 have mono : ∀ h h', h ≤ h' → h' < l.length → ltAt nm l n h' = true → ltAt nm l n h = true := by
  intro h h' hh hL hx
  rcases Nat.lt_or_ge h h' with hlt | hge
  · have hp := List.pairwise_iff_getElem.1 hr h h' (by omega) hL hlt
    unfold ltAt at hx ⊢
    rw [List.getElem?_eq_getElem hL] at hx
    rw [List.getElem?_eq_getElem (by omega : h < l.length)]
    simp only [Option.any_some, decide_eq_true_eq] at hx ⊢
    exact List.lt_trans hp hx
  · obtain rfl : h = h' := by omega
    exact hx
 obtain ⟨k1, k2⟩ := Q9 mono l.length 0 l.length (Nat.zero_le _) (Nat.le_refl _) (Nat.sub_le _ _) (fun h hh => by omega) (fun h h1 h2 => by omega)
 have hle := He nm l n
 have hpl := Aba nm n l
 change (∀ h, h < Aw nm l n → _) at k1
 change (∀ h, Aw nm l n ≤ h → _) at k2
 rcases Nat.lt_trichotomy (Aw nm l n) (posOf nm n l) with h | h | h
 · have a1 := Acy nm n l _ h
   rw [k2 _ (Nat.le_refl _) (by omega)] at a1
   cases a1
 · exact h
 · have a1 := k1 _ h
   rw [Abe nm n l (by omega)] at a1
   cases a1
theorem S2 {α : Type} {p : α → Bool} : ∀ (k : Nat) (l : List α), (∀ x ∈ l, p x = false) → findAt p k l = -1
 | _, [], _ => rfl
 | k, a :: r, h => by
   unfold findAt
   rw [if_neg (by rw [h a (List.mem_cons_self ..)]; simp)]
   exact S2 (k + 1) r fun x hx => h x (List.mem_cons_of_mem _ hx)
theorem Zy {α : Type} {nm : α → Ad} {n : Ad} : ∀ {l : List α} (k : Nat), Cv nm l → findAt (fun t => decide (nm t = n)) k l = if ((l[posOf nm n l]?).any fun x => decide (nm x = n)) = true then ((k + posOf nm n l : Nat) : Int) else -1
 | [], _, _ => by simp [findAt, posOf]
 | a :: r, k, h => by
   obtain ⟨h1, h2⟩ := List.pairwise_cons.1 h
   unfold findAt posOf
   rcases Af6 (nm a) n with ha | ha | ha
   · have hne : nm a ≠ n := by rintro rfl; exact List.lt_irrefl _ ha
     rw [if_neg (by simp [hne]), if_pos ha, Zy (k + 1) h2]
     simp only [List.getElem?_cons_succ]
     split
     · congr 1; omega
     · rfl
   · subst ha
     rw [if_pos (by simp), if_neg (List.lt_irrefl _)]
     simp
   · have hne : nm a ≠ n := by rintro rfl; exact List.lt_irrefl _ ha
     have hnl : ¬ nm a < n := fun h => List.lt_irrefl _ (List.lt_trans h ha)
     rw [if_neg (by simp [hne]), if_neg hnl]
     simp only [List.getElem?_cons_zero, Option.any_some, decide_eq_true_eq, hne, if_false]
     refine S2 _ _ fun x hx => ?_
     have := List.lt_trans ha (h1 x hx)
     simp only [decide_eq_false_iff_not]
     rintro rfl
     exact List.lt_irrefl _ this
theorem Abp {α : Type} {nm : α → Ad} {l : List α} (hr : Cv nm l) (n : Ad) : Bh nm l n = (l[posOf nm n l]?).any fun x => decide (nm x = n) := by
 unfold Bh
 rw [Vm hr]
theorem Zi {α : Type} {nm : α → Ad} {l : List α} (hr : Cv nm l) (n : Ad) : findAt (fun t => decide (nm t = n)) 0 l = if Bh nm l n = true then ((Aw nm l n : Nat) : Int) else -1 := by
 rw [Zy 0 hr, Abp hr, Vm hr, Nat.zero_add]
theorem Aeu {α : Type} {nm : α → Ad} {n : Ad} {x : α} : ∀ {l : List α}, Cv nm l → ((l[posOf nm n l]?).any fun x => decide (nm x = n)) = false → Du (fun e => decide (n < nm e)) x l = Cm (posOf nm n l) x l
 | [], _, _ => rfl
 | a :: r, h, hf => by
   obtain ⟨h1, h2⟩ := List.pairwise_cons.1 h
   unfold Du
   unfold posOf at hf ⊢
   rcases Af6 (nm a) n with ha | ha | ha
   · have hnl : ¬ n < nm a := fun h => List.lt_irrefl _ (List.lt_trans h ha)
     rw [if_pos ha] at hf
     rw [if_neg (by simpa using hnl), if_pos ha, Aeu h2 (by simpa using hf)]
     simp [Cm]
   · subst ha
     rw [if_neg (List.lt_irrefl _)] at hf
     simp at hf
   · have hnl : ¬ nm a < n := fun h => List.lt_irrefl _ (List.lt_trans h ha)
     rw [if_pos (by simpa using ha), if_neg hnl]
     rfl
theorem Uy {α : Type} {nm : α → Ad} {l : List α} (hr : Cv nm l) {n : Ad} (x : α) (hf : Bh nm l n = false) : Du (fun e => decide (n < nm e)) x l = Cm (Aw nm l n) x l := by
 rw [Vm hr]
 exact Aeu hr (by rw [← Abp hr]; exact hf)

open Go.Proofs
structure Roll.Sorted (r : Roll) : Prop where
 T : Cv Ten.name r.tens
 U : Cv Usr.name r.usrs
 X : Cv Rol.name r.rols
 R : ∀ u ∈ r.usrs, Cv B8 u.roles
theorem Kw {α : Type} (p : α → Bool) : ∀ (k : Nat) (l : List α), (l.find? p = none ∧ findAt p k l = -1) ∨ ∃ (j : Nat) (x : α), findAt p k l = ((k + j : Nat) : Int) ∧ l[j]? = some x ∧ l.find? p = some x
 | k, [] => .inl ⟨rfl, rfl⟩
 | k, a :: r => by
   by_cases h : p a = true
   · exact .inr ⟨0, a, by simp [findAt, h], rfl, by simp [h]⟩
   · rcases Kw p (k + 1) r with ⟨h1, h2⟩ | ⟨j, x, h1, h2, h3⟩
     · exact .inl ⟨by simp [h, h1], by simp [findAt, h, h2]⟩
     · exact .inr ⟨j + 1, x, by rw [findAt, if_neg h, h1]; congr 1; omega, by simpa using h2, by simp [h, h3]⟩
theorem Amr (l : List Ten) (n : Ad) : ((getT l n).2 = false ∧ findAt (fun t => decide (t.name = n)) 0 l = -1) ∨ ((getT l n).2 = true ∧ 0 ≤ findAt (fun t => decide (t.name = n)) 0 l) := by
 unfold getT
 rcases Kw (fun t : Ten => decide (t.name = n)) 0 l with ⟨h1, h2⟩ | ⟨j, x, h1, h2, h3⟩
 · rw [h1, h2]; exact .inl ⟨rfl, rfl⟩
 · rw [h3, h1]; exact .inr ⟨rfl, by omega⟩
theorem Amk (l : List Rol) (n : Ad) : ((getR l n).2 = false ∧ findAt (fun t => decide (t.name = n)) 0 l = -1) ∨ ∃ (j : Nat) (x : Rol), (getR l n) = (x, true) ∧ findAt (fun t => decide (t.name = n)) 0 l = (j : Int) ∧ l[j]? = some x := by
 unfold getR
 rcases Kw (fun t : Rol => decide (t.name = n)) 0 l with ⟨h1, h2⟩ | ⟨j, x, h1, h2, h3⟩
 · rw [h1, h2]; exact .inl ⟨rfl, rfl⟩
 · rw [h3, h1]; exact .inr ⟨j, x, rfl, by omega, h2⟩
theorem Vz {nm : Ad → Ad} (hnm : nm = B8) {l : List Ad} (hr : Cv nm l) (n : Ad) : Bh nm l n = l.any fun e => decide (e = n) := by
 subst hnm
 have h := Zi hr n
 rcases Kw (fun t : Ad => decide (B8 t = n)) 0 l with ⟨h1, h2⟩ | ⟨j, x, h1, h2, h3⟩
 · rw [h2] at h
   cases hb : Bh B8 l n with
   | true => rw [hb] at h; simp at h
   | false =>
     symm
     rw [List.any_eq_false]
     intro y hy
     have := List.find?_eq_none.1 h1 y hy
     simpa using this
 · rw [h1] at h
   cases hb : Bh B8 l n with
   | false => rw [hb] at h; simp at h
   | true =>
     symm
     rw [List.any_eq_true]
     exact ⟨x, List.mem_of_getElem? h2, by simpa using List.find?_some h3⟩
theorem Af3 {l : List Ad} (hr : Cv B8 l) (n : Ad) (hb : Bh B8 l n = true) : Cw (Aw B8 l n) l = l.filter fun e => !decide (e = n) := by
 rw [Abp hr] at hb
 rw [Vm hr]
 induction l with
 | nil => simp [posOf] at hb
 | cons a r ih =>
   obtain ⟨h1, h2⟩ := List.pairwise_cons.1 hr
   unfold posOf at hb ⊢
   by_cases ha : B8 a < n
   · rw [if_pos ha] at hb ⊢
     have hne : ¬ a = n := by rintro rfl; exact List.lt_irrefl _ ha
     have := ih h2 (by simpa using hb)
     simp only [Cw, List.take_succ_cons, List.drop_succ_cons, List.cons_append] at this ⊢
     rw [this, List.filter_cons, if_pos (by simp [hne])]
   · rw [if_neg ha] at hb ⊢
     simp only [List.getElem?_cons_zero, Option.any_some, decide_eq_true_eq] at hb
     obtain rfl : a = n := hb
     rw [List.filter_cons, if_neg (by simp)]
     simp only [Cw, List.take_zero, List.nil_append, Nat.zero_add, List.drop_succ_cons, List.drop_zero]
     symm
     rw [List.filter_eq_self]
     intro x hx
     have h3 : a < x := h1 x hx
     simp only [Bool.not_eq_true', decide_eq_false_iff_not]
     rintro rfl
     exact List.lt_irrefl _ h3
theorem Ang (r : Roll) (h : r.Sorted) (c : Cmd) : DoP r c = doM r c := by
 unfold DoP doM
 split
 · rfl
 split
 · rfl
 rename_i k1 k2
 have ht := fun n => Zi h.T n
 have hu := fun n => Zi h.U n
 have hx := fun n => Zi h.X n
 have gt := Amr r.tens c.other
 have gr := Amk r.rols c.other
 rcases (by omega : c.kind = 4 ∨ c.kind = 5 ∨ c.kind = 6 ∨ c.kind = 7 ∨ c.kind = 8 ∨ c.kind = 9 ∨ c.kind = 10 ∨ c.kind = 11 ∨ c.kind = 12 ∨ c.kind = 13 ∨ c.kind = 14) with hk | hk | hk | hk | hk | hk | hk | hk | hk | hk | hk
 · simp only [doP, hk, Int.reduceEq, true_or, if_true]
   simp only [Eh, Ks, hk, ht, true_and, Int.reduceEq, if_true]
   cases hn : Bi c.name <;> cases h1 : B4 c.bytes <;> cases h2 : B4 c.keys <;> cases hb : Bh Ten.name r.tens c.name <;> by_cases h8 : 8 ≤ (r.tens.length : Int) <;> simp [h8]
   rw [Uy h.T _ hb]
 · simp only [doP, hk, Int.reduceEq, or_true, if_true, if_false]
   simp only [Eh, Nj, hk, ht, false_and, Int.reduceEq, if_true, if_false]
   cases h1 : B4 c.bytes <;> cases h2 : B4 c.keys <;> cases hb : Bh Ten.name r.tens c.name <;> simp
 · have w1 : (64 < (c.word.length : Int)) = ¬ c.word.length ≤ 64 := by rw [eq_iff_iff]; omega
   have w2 : (64 < (c.salt.length : Int)) = ¬ c.salt.length ≤ 64 := by rw [eq_iff_iff]; omega
   simp only [doP, hk, Int.reduceEq, or_true, true_or, or_self, if_true, if_false]
   simp only [Bx, Sk, hk, hu, w1, w2, Int.reduceEq, if_true, if_false]
   rcases gt with ⟨g1, g2⟩ | ⟨g1, g2⟩ <;> rw [g1] <;> cases hn : Bi c.name <;> by_cases l1 : c.word.length ≤ 64 <;> by_cases l2 : c.salt.length ≤ 64 <;> cases hb : Bh Usr.name r.usrs c.name <;> by_cases h8 : 16 ≤ (r.usrs.length : Int) <;> simp [l1, l2, h8, g2, Int.not_lt.2]
   all_goals exact (Uy h.U _ hb).symm
 · have w1 : (64 < (c.word.length : Int)) = ¬ c.word.length ≤ 64 := by rw [eq_iff_iff]; omega
   have w2 : (64 < (c.salt.length : Int)) = ¬ c.salt.length ≤ 64 := by rw [eq_iff_iff]; omega
   simp only [doP, hk, Int.reduceEq, or_true, true_or, or_self, if_true, if_false]
   simp only [Bx, Si, hk, hu, w1, w2, Int.reduceEq, if_true, if_false]
   by_cases l1 : c.word.length ≤ 64 <;> by_cases l2 : c.salt.length ≤ 64 <;> cases hb : Bh Usr.name r.usrs c.name <;> simp [l1, l2]
   obtain ⟨x, hx, -⟩ := Dz hb
   rw [hx]
   simp
 · simp only [doP, hk, Int.reduceEq, or_true, true_or, or_self, if_true, if_false]
   simp only [Bx, Ng, hk, hu, Int.reduceEq, if_true, if_false, Zp]
   cases hb : Bh Usr.name r.usrs c.name <;> by_cases hr : c.name = [114, 111, 111, 116] <;> simp [hr, Cw]
 · simp only [doP, hk, Int.reduceEq, or_true, true_or, or_self, if_true, if_false]
   simp only [Bb, R8, hk, hx, Int.reduceEq, if_true, if_false]
   rcases gt with ⟨g1, g2⟩ | ⟨g1, g2⟩ <;> rw [g1] <;> cases hn : Bi c.name <;> cases hb : Bh Rol.name r.rols c.name <;> by_cases h8 : 16 ≤ (r.rols.length : Int) <;> simp [h8, g2, Int.not_lt.2]
   all_goals exact (Uy h.X _ hb).symm
 · simp only [doP, hk, Int.reduceEq, or_true, true_or, or_self, if_true, if_false]
   simp only [Bb, Sv, hk, hx, false_and, Int.reduceEq, if_true, if_false]
   cases hb : Bh Rol.name r.rols c.name <;> simp [Cw]
 · simp only [doP, hk, Int.reduceEq, or_true, true_or, or_self, if_true, if_false]
   simp only [Bb, M6, hk, hx, false_and, true_and, Int.reduceEq, if_true, if_false]
   cases hg : (decide (Bc c.grant.sp) && (c.grant.r || c.grant.w)) <;> cases hb : Bh Rol.name r.rols c.name <;> simp
   obtain ⟨x, hx, -⟩ := Dz hb
   rw [hx]
   dsimp only
   have hnn : ¬ ((Aw Rol.name r.rols c.name : Nat) : Int) < 0 := by omega
   by_cases hm : c.grant ∈ x.grants <;> by_cases h8 : 8 ≤ (x.grants.length : Int) <;> simp [h8, hnn, hm]
 · simp only [doP, hk, Int.reduceEq, or_true, true_or, or_self, if_true, if_false]
   simp only [Bb, Kv, hk, hx, false_and, true_and, Int.reduceEq, if_true, if_false]
   cases hg : decide (Bc c.grant.sp) <;> cases hb : Bh Rol.name r.rols c.name <;> simp
   obtain ⟨x, hx, -⟩ := Dz hb
   rw [hx]
   dsimp only
   by_cases h8 : 8 < ((revM x.grants c.grant.sp).length : Int) <;> simp [h8]
 · simp only [doP, hk, Int.reduceEq, or_true, true_or, or_self, if_true, if_false]
   simp only [Df, Pp, hk, hu, hx, false_and, true_and, Int.reduceEq, if_true, if_false]
   cases hb : Bh Usr.name r.usrs c.name <;> simp
   obtain ⟨u, hux, -⟩ := Dz hb
   rw [hux]
   dsimp only
   have hru := h.R u (List.mem_of_getElem? hux)
   rw [← hx c.other]
   simp only [Vz rfl hru c.other]
   rcases gr with ⟨g1, g2⟩ | ⟨j, x, g1, g2, g3⟩
   · rw [g1, g2]; simp
   · rw [g1, g2]
     simp only [Int.toNat_natCast, g3]
     have hins := fun hm : ¬ c.other ∈ u.roles => Uy hru (n := c.other) c.other (by rw [Vz rfl hru, List.any_eq_false]; intro y hy; simp only [decide_eq_true_eq]; rintro rfl; exact hm hy)
     have hnn : ¬ ((Aw Usr.name r.usrs c.name : Nat) : Int) < 0 := by omega
     have hnj : ¬ (j : Int) < 0 := by omega
     by_cases ht : x.ten = u.ten <;> by_cases hm : c.other ∈ u.roles <;> by_cases h8 : 4 ≤ (u.roles.length : Int) <;> simp [ht, h8, hnn, hnj, hm]
     all_goals rw [hins hm]
 · simp only [doP, hk, Int.reduceEq, or_true, true_or, or_self, if_true, if_false]
   simp only [Df, Pp, hk, hu, hx, false_and, true_and, Int.reduceEq, if_true, if_false]
   cases hb : Bh Usr.name r.usrs c.name <;> simp
   obtain ⟨u, hux, -⟩ := Dz hb
   rw [hux]
   dsimp only
   have hru := h.R u (List.mem_of_getElem? hux)
   have hdf := Af3 hru c.other
   rw [Vz rfl hru c.other] at hdf
   simp only [Vz rfl hru c.other]
   have hnn : ¬ ((Aw Usr.name r.usrs c.name : Nat) : Int) < 0 := by omega
   cases haa : (u.roles.any fun e => decide (e = c.other)) with
   | false =>
     simp only [haa]
     simp [hnn]
     intro hm
     have := List.any_eq_false.1 haa _ hm
     simp at this
   | true =>
     have := hdf haa
     simp only [haa, this]
     simp [hnn]
     obtain ⟨y, hy, he⟩ := List.any_eq_true.1 haa
     simp only [decide_eq_true_eq] at he
     subst he
     exact hy
set_option maxHeartbeats 40000000

open Go.Proofs
def bigC (c : Cmd) : Bool := decide (1000 < c.name.length) || decide (1000 < c.other.length) || decide (1000 < c.word.length) || decide (1000 < c.salt.length) || decide (1000 < c.grant.sp.f.length) || decide (1000 < c.grant.sp.t.length)
def Jm (l : List Cmd) : Bool := decide (80 < l.length) || l.any bigC
theorem Xr (c : Cmd) : bigC c = true ↔ (1000 < c.name.length ∨ 1000 < c.other.length ∨ 1000 < c.word.length ∨ 1000 < c.salt.length ∨ 1000 < c.grant.sp.f.length ∨ 1000 < c.grant.sp.t.length) := by
 unfold bigC
 simp only [Bool.or_eq_true, decide_eq_true_eq, or_assoc]
theorem Acn (l : List Cmd) (hl : l.length ≤ maxLen) : Fn Tryz.prog Mp [.v (.list (l.map Cmd.toI))] (Is (.v (.bool (Jm l))) [.no]) := by
 refine Ly ?_ (by simp)
 repeat' ((conv => whnf); first | (refine eI ?_ ?_; focus (and_intros <;> exact rfl)) | (intro hfact))
 all_goals (try (conv => whnf))
 refine LoopWq.by (X := Nat) (fun k => [(7, .v (.int .i64 k))]) (fun k => k ≤ l.length ∧ k ≤ 80 ∧ ∀ x ∈ l.take k, bigC x = false) (fun k => l.length - k)
  0 (by kernel_rfl) ⟨Nat.zero_le _, Nat.zero_le _, by simp⟩ ?_
 rintro k ⟨h1, h2, h3⟩
 by_cases hk : k < l.length
 · obtain ⟨e, he⟩ : ∃ e, l[k]? = some e := ⟨_, List.getElem?_eq_getElem hk⟩
   have hlt : ¬ decide ((k : Int) < ((l.map Cmd.toI).length : Int)) = false := by simp [hk]
   have hem := List.mem_of_getElem? he
   have hB := Xr e
   have hgt : bigC e = true ∨ 80 ≤ k → Jm l = true := fun h => by
    unfold Jm
    rw [Bool.or_eq_true]
    rcases h with h | h
    · exact .inr (List.any_eq_true.2 ⟨e, hem, h⟩)
    · exact .inl (by simp; omega)
   generalize hG : Jm l = G at hgt ⊢
   repeat' ((conv => whnf); first | (refine aI (fun hb => ?_) (fun hb => ?_) <;>first | exact absurd hb (by first | assumption | decide) | ((try rw [hb]); (try simp only [Ac] at hb))) | (refine eI ?_ ?_; focus (and_intros <;> first | omega | exact rfl | (simp; done))) | (intro hfact) | ((try dsimp only); first | rw [An he] | rw [Aj he] | rw [Ai he]))
   all_goals (try (conv => whnf))
   all_goals first
    | (obtain rfl : G = true := hgt (by rw [hB]; omega)
       exact Done.mk ⟨by kernel_rfl, by kernel_rfl⟩ (by kernel_rfl))
    | (refine Round.by (k + 1) ?_ ⟨hk, by omega, ?_⟩ (by omega)
       · rw [Ah hk hl]
         show norm _ _ = upd _ _
         kernel_rfl
       · intro x hx
         rw [List.take_add_one, he] at hx
         simp only [Option.toList_some, List.mem_append, List.mem_singleton] at hx
         rcases hx with hx | rfl
         · exact h3 x hx
         · cases hbx : bigC x with
           | false => rfl
           | true => rw [hbx] at hB; have := hB.1 rfl; omega)
 · have hlt : ¬ decide ((k : Int) < ((l.map Cmd.toI).length : Int)) = true := by simp; omega
   have hG : Jm l = false := by
    unfold Jm
    rw [List.take_of_length_le (by omega)] at h3
    rw [Bool.or_eq_false_iff]
    exact ⟨by simp; omega, List.any_eq_false.2 fun x hx => by simp [h3 x hx]⟩
   rw [hG]
   repeat' ((conv => whnf); (refine aI (fun hb => ?_) (fun hb => ?_) <;>first | exact absurd hb (by assumption) | ((try rw [hb]); (try simp only [Ac] at hb))))
   all_goals (try (conv => whnf))
   exact Done.mk ⟨by kernel_rfl, by kernel_rfl⟩ (by kernel_rfl)
set_option maxHeartbeats 4000000

open Go.Proofs
structure Roll.Fit (r : Roll) : Prop where
 hV : 1 ≤ r.rev ∧ r.rev ≤ 1099511627776
 hT : r.tens.length ≤ 8
 hU : r.usrs.length ≤ 16
 hX : r.rols.length ≤ 16
 hR : ∀ u ∈ r.usrs, u.roles.length ≤ 4
 hG : ∀ x ∈ r.rols, x.grants.length ≤ 8
theorem Roll.Fit.small {r : Roll} (h : r.Fit) : r.Small :=
 ⟨by have := h.hT; omega, by have := h.hU; omega, by have := h.hX; omega, fun u hu => by have := h.hR u hu; omega, fun x hx => by have := h.hG x hx; omega⟩
theorem B7 {α : Type} {gt : α → Bool} {x y : α} : ∀ {l : List α}, y ∈ Du gt x l ↔ y = x ∨ y ∈ l
 | [] => by simp [Du]
 | a :: r => by
   unfold Du
   split
   · simp
   · simp only [List.mem_cons, B7 (l := r)]
     constructor
     · rintro (h | h | h) <;> simp [h]
     · rintro (h | h | h) <;> simp [h]
theorem C8 {α : Type} {l : List α} {j : Nat} {x y : α} (h : y ∈ l.set j x) : y = x ∨ y ∈ l := (List.mem_or_eq_of_mem_set h).symm
theorem Amh {r : Roll} (hf : r.Fit) (c : Cmd) : (doM r c).1.Fit := by
 obtain ⟨hV, hT, hU, hX, hR, hG⟩ := hf
 unfold doM
 split
 · exact ⟨hV, hT, hU, hX, hR, hG⟩
 split
 · exact ⟨hV, hT, hU, hX, hR, hG⟩
 rename_i h1 h2
 have hV' : 1 ≤ r.rev + 1 ∧ r.rev + 1 ≤ 1099511627776 := by omega
 split
 · unfold Ks
   repeat' split
   all_goals first | exact ⟨hV, hT, hU, hX, hR, hG⟩ | skip
   refine ⟨hV', ?_, hU, hX, hR, hG⟩
   rw [E8]; omega
 split
 · unfold Nj
   repeat' split
   all_goals first | exact ⟨hV, hT, hU, hX, hR, hG⟩ | skip
   exact ⟨hV', by simpa using hT, hU, hX, hR, hG⟩
 split
 · unfold Sk
   repeat' split
   all_goals first | exact ⟨hV, hT, hU, hX, hR, hG⟩ | skip
   refine ⟨hV', hT, ?_, hX, ?_, hG⟩
   · rw [E8]; omega
   · intro u hu
     rcases B7.1 hu with rfl | hu
     · simp
     · exact hR u hu
 split
 · unfold Si
   repeat' split
   all_goals first | exact ⟨hV, hT, hU, hX, hR, hG⟩ | skip
   rename_i u hu
   refine ⟨hV', hT, by simpa using hU, hX, ?_, hG⟩
   intro v hv
   rcases C8 hv with rfl | hv
   · exact hR u (List.mem_of_getElem? hu)
   · exact hR v hv
 split
 · unfold Ng
   repeat' split
   all_goals first | exact ⟨hV, hT, hU, hX, hR, hG⟩ | skip
   refine ⟨hV', hT, ?_, hX, ?_, hG⟩
   · simp; omega
   · intro v hv
     rcases List.mem_append.1 hv with hv | hv
     · exact hR v (List.mem_of_mem_take hv)
     · exact hR v (List.mem_of_mem_drop hv)
 split
 · unfold R8
   repeat' split
   all_goals first | exact ⟨hV, hT, hU, hX, hR, hG⟩ | skip
   refine ⟨hV', hT, hU, ?_, hR, ?_⟩
   · rw [E8]; omega
   · intro u hu
     rcases B7.1 hu with rfl | hu
     · simp
     · exact hG u hu
 split
 · unfold Sv
   repeat' split
   all_goals first | exact ⟨hV, hT, hU, hX, hR, hG⟩ | skip
   refine ⟨hV', hT, by simpa using hU, ?_, ?_, ?_⟩
   · simp; omega
   · intro v hv
     obtain ⟨u, hu, rfl⟩ := List.mem_map.1 hv
     exact Nat.le_trans (List.length_filter_le _ _) (hR u hu)
   · intro v hv
     rcases List.mem_append.1 hv with hv | hv
     · exact hG v (List.mem_of_mem_take hv)
     · exact hG v (List.mem_of_mem_drop hv)
 split
 · unfold M6
   repeat' split
   all_goals first | exact ⟨hV, hT, hU, hX, hR, hG⟩ | skip
   refine ⟨hV', hT, hU, by simpa using hX, hR, ?_⟩
   intro v hv
   rcases C8 hv with rfl | hv
   · simp; omega
   · exact hG v hv
 split
 · unfold Kv
   repeat' split
   all_goals first | exact ⟨hV, hT, hU, hX, hR, hG⟩ | skip
   refine ⟨hV', hT, hU, by simpa using hX, hR, ?_⟩
   intro v hv
   rcases C8 hv with rfl | hv
   · dsimp only; omega
   · exact hG v hv
 · unfold Pp
   repeat' split
   all_goals first | exact ⟨hV, hT, hU, hX, hR, hG⟩ | skip
   · rename_i u hu _ _
     refine ⟨hV', hT, by simpa using hU, hX, ?_, hG⟩
     intro v hv
     rcases C8 hv with rfl | hv
     · exact Nat.le_trans (List.length_filter_le _ _) (hR u (List.mem_of_getElem? hu))
     · exact hR v hv
   · refine ⟨hV', hT, by simpa using hU, hX, ?_, hG⟩
     intro v hv
     rcases C8 hv with rfl | hv
     · rw [E8]; omega
     · exact hR v hv
theorem Amu (a b : Ad) : (Dj a b).Fit := ⟨⟨by show (1 : Int) ≤ 1; omega, by show (1 : Int) ≤ 1099511627776; omega⟩, Nat.zero_le _, by show 1 ≤ 16; decide, Nat.zero_le _, by intro u hu; simp [Dj] at hu; subst hu; simp, by intro x hx; simp [Dj] at hx⟩

open Go.Proofs
theorem K4 {α : Type} {nm : α → Ad} {y : α} {n : Ad} (hy : nm y = n) : ∀ {l : List α}, Cv nm l → (∀ x ∈ l, nm x ≠ n) → Cv nm (Du (fun e => decide (n < nm e)) y l)
 | [], _, _ => by simp [Du]
 | a :: r, h, hn => by
   obtain ⟨h1, h2⟩ := List.pairwise_cons.1 h
   unfold Du
   by_cases hlt : n < nm a
   · rw [if_pos (by simpa using hlt)]
     refine List.pairwise_cons.2 ⟨fun x hx => ?_, h⟩
     rw [hy]
     rcases List.mem_cons.1 hx with rfl | hx
     · exact hlt
     · exact List.lt_trans hlt (h1 x hx)
   · rw [if_neg (by simpa using hlt)]
     have ha : nm a < n := by
      rcases Af6 (nm a) n with h | h | h
      · exact h
      · exact absurd h (hn a (List.mem_cons_self ..))
      · exact absurd h hlt
     refine List.pairwise_cons.2 ⟨fun x hx => ?_, K4 hy h2 fun x hx => hn x (List.mem_cons_of_mem _ hx)⟩
     rcases B7.1 hx with rfl | hx
     · rw [hy]; exact ha
     · exact h1 x hx
theorem Pb {α : Type} {nm : α → Ad} {l : List α} : Cv nm l ↔ (l.map nm).Pairwise (· < ·) := List.pairwise_map.symm
theorem Jc {α : Type} {nm : α → Ad} {l : List α} {j : Nat} {x y : α} (hr : Cv nm l) (h : l[j]? = some x) (hn : nm y = nm x) : Cv nm (l.set j y) := by
 rw [Pb] at hr ⊢
 have : (l.set j y).map nm = l.map nm := by
  rw [List.map_set, hn]
  obtain ⟨hj, hx⟩ := List.getElem?_eq_some_iff.1 h
  apply List.ext_getElem?
  intro i
  rw [List.getElem?_set]
  split
  · rename_i e; subst e; simp [hj, hx]
  · rfl
 rw [this]
 exact hr
theorem Z0 {α : Type} {nm : α → Ad} {l : List α} (hr : Cv nm l) (j : Nat) : Cv nm (l.take j ++ l.drop (j + 1)) := by
 rw [← List.eraseIdx_eq_take_drop_succ]
 exact hr.sublist (List.eraseIdx_sublist ..)
theorem Aev {α : Type} {p : α → Bool} {l : List α} (h : findAt p 0 l < 0) : ∀ x ∈ l, p x = false := by
 rcases Kw p 0 l with ⟨h1, _⟩ | ⟨j, x, h1, _⟩
 · intro x hx
   have := List.find?_eq_none.1 h1 x hx
   simpa using this
 · omega
theorem Ja {α : Type} {p : α → Bool} {l : List α} (h : ¬ findAt p 0 l < 0) : ∃ x, l[(findAt p 0 l).toNat]? = some x ∧ p x = true := by
 rcases Kw p 0 l with ⟨_, h1⟩ | ⟨j, x, h1, h2, h3⟩
 · omega
 · refine ⟨x, ?_, List.find?_some h3⟩
   rw [h1]
   simpa using h2
theorem Agg {r : Roll} (h : r.Sorted) (c : Cmd) : (doM r c).1.Sorted := by
 obtain ⟨hT, hU, hX, hR⟩ := h
 have h0 : r.Sorted := ⟨hT, hU, hX, hR⟩
 have nn : ∀ {α : Type} {nm : α → Ad} {l : List α} {n : Ad}, findAt (fun t => decide (nm t = n)) 0 l < 0 → ∀ x ∈ l, nm x ≠ n := fun h x hx => by simpa using Aev h x hx
 unfold doM
 split
 · exact h0
 split
 · exact h0
 split
 · unfold Ks
   repeat' split
   all_goals try exact h0
   exact ⟨K4 (nm := Ten.name) (n := c.name) rfl hT (nn (show r.tenAt c.name < 0 by omega)), hU, hX, hR⟩
 split
 · unfold Nj
   repeat' split
   all_goals try exact h0
   rename_i hn
   obtain ⟨x, hx, hp⟩ := Ja hn
   exact ⟨Jc hT hx (by simpa using (of_decide_eq_true hp).symm), hU, hX, hR⟩
 split
 · unfold Sk
   repeat' split
   all_goals try exact h0
   refine ⟨hT, K4 (nm := Usr.name) (n := c.name) rfl hU (nn (show r.usrAt c.name < 0 by omega)), hX, fun u hu => ?_⟩
   rcases B7.1 hu with rfl | hu
   · exact List.Pairwise.nil
   · exact hR u hu
 split
 · unfold Si
   repeat' split
   all_goals try exact h0
   rename_i hn _ u hu
   refine ⟨hT, Jc hU hu rfl, hX, fun v hv => ?_⟩
   rcases C8 hv with rfl | hv
   · exact hR u (List.mem_of_getElem? hu)
   · exact hR v hv
 split
 · unfold Ng
   repeat' split
   all_goals try exact h0
   refine ⟨hT, Z0 hU _, hX, fun v hv => ?_⟩
   rcases List.mem_append.1 hv with hv | hv
   · exact hR v (List.mem_of_mem_take hv)
   · exact hR v (List.mem_of_mem_drop hv)
 split
 · unfold R8
   repeat' split
   all_goals try exact h0
   exact ⟨hT, hU, K4 (nm := Rol.name) (n := c.name) rfl hX (nn (show r.rolAt c.name < 0 by omega)), hR⟩
 split
 · unfold Sv
   repeat' split
   all_goals try exact h0
   refine ⟨hT, List.pairwise_map.2 hU, Z0 hX _, fun v hv => ?_⟩
   obtain ⟨u, hu, rfl⟩ := List.mem_map.1 hv
   exact (hR u hu).filter _
 split
 · unfold M6
   repeat' split
   all_goals try exact h0
   rename_i x hx _ _
   exact ⟨hT, hU, Jc hX hx rfl, hR⟩
 split
 · unfold Kv
   repeat' split
   all_goals try exact h0
   rename_i x hx _
   exact ⟨hT, hU, Jc hX hx rfl, hR⟩
 · unfold Pp
   repeat' split
   all_goals try exact h0
   · rename_i u hu _ _
     refine ⟨hT, Jc hU hu rfl, hX, fun v hv => ?_⟩
     rcases C8 hv with rfl | hv
     · exact (hR u (List.mem_of_getElem? hu)).filter _
     · exact hR v hv
   · rename_i u hu _ _ _ x hx _ ha _
     refine ⟨hT, Jc hU hu rfl, hX, fun v hv => ?_⟩
     rcases C8 hv with rfl | hv
     · exact K4 (nm := B8) rfl (hR u (List.mem_of_getElem? hu)) fun y hy => by
        intro e
        apply ha
        exact List.any_eq_true.2 ⟨y, hy, by simpa using e⟩
     · exact hR v hv
theorem Agt (a b : Ad) : (Dj a b).Sorted := ⟨List.Pairwise.nil, by simp [Dj], List.Pairwise.nil, by intro u hu; simp [Dj] at hu; subst hu; exact List.Pairwise.nil⟩
set_option maxHeartbeats 40000000

open Go.Proofs
def next (r : Roll) (c : Cmd) : Roll := (doM r c).1
theorem Xc : ∀ (l : List Cmd) (r : Roll), r.Fit → r.Sorted → (l.foldl next r).Fit ∧ (l.foldl next r).Sorted
 | [], r, h1, h2 => ⟨h1, h2⟩
 | c :: l, r, h1, h2 => Xc l _ (Amh h1 c) (Agg h2 c)
theorem Ake (r : Roll) (hf : r.Fit) (hs : r.Sorted) (c : Cmd) (hc : c.salt.length ≤ 100000 ∧ c.word.length ≤ 100000) : Fn Tryz.prog Xm [.v r.toI, .v c.toI] (Is (.tup [.i (doM r c).1.toI, .i (.int .i64 (doM r c).2)]) [.no, .no]) := by
 rw [← Ang r hs c]
 exact H6 r hf.small c hc (by have := hf.hV; omega)
end Go.Ab

