/- Lemmas for the last text. -/
import Derived.Test.YtgcccllpegilnaaGreatDoorN11
set_option linter.unusedVariables false
set_option linter.unusedSimpArgs false
set_option maxRecDepth 100000
namespace Go.Ab
open Go.Proofs
abbrev Ca:FuncId:=5
def Bq:Stm:=(.seq (.ops [O1 (.box 4 1),O1 (.box 5 2),gA 6 cF]) (.seq (.seq (.ops [.call none (some 19) 8 [],gT 20 19]) (.cond 20 (.seq (.ops [gA 6 cF]) .ret) .skip)) (.seq (.seq (.ops [gU 21 18 4,O1 (.bsl 22 40 18 (.agg [(.int .i64 0),(.int .i64 0),(.str []),(.int .i64 0),(.str []),(.str []),(.str []),(.str []),(.int .i64 0),(.int .i64 0),(.agg [(.agg [(.str []),(.str [])]),(.bool false),(.bool false)]),(.int .i64 0),(.list []),(.list []),(.list [])]) 1 [(0,21)]),gM 23 0,O1 (.app 24 40 18 240 22 23),.call none (some 25) 9 [(false,24)],gM 26 25,qf 26 (iL 27 5),qf 26 (.len 28 true 27),qf 26 (iB 29 .gtr 28 (cI 1000)),gP 30 26 cT 29]) (.cond 30 (.seq (.ops [gA 6 cT]) .ret) .skip)) (.seq (.ops [.call none (some 32) 18 [(false,(cS [115])),(false,(cS [119]))],gA 31 32,gE 33 31 0,gE 34 31 1,O1 (.alloc 7 (.one (.i (.agg [(.int .i64 0),(.list []),(.list []),(.list [])])))),gS 4 7 33,gA 8 34]) (.seq (.seq (.ops [gM 35 0,gN 36 35,gM 37 (cI 0)]) (.block 0 (.loop (kr [10,23] 38 10) (.seq (.ops [gB 38 .lss 37 36]) (.seq (.cond 38 .skip (.exit 0)) (.seq (.block 1 (.seq (.ops [gI 39 18 35 37,gU 40 18 39,O1 (.alloc 10 (.one (.i (.agg [(.int .i64 0),(.int .i64 0),(.str []),(.int .i64 0),(.str []),(.str []),(.str []),(.str []),(.int .i64 0),(.int .i64 0),(.agg [(.agg [(.str []),(.str [])]),(.bool false),(.bool false)]),(.int .i64 0),(.list []),(.list []),(.list [])])))),gS 18 10 40]) (.ops [gU 42 4 7,gU 43 18 10,.call none (some 44) 19 [(false,42),(false,43)],gA 41 44,gE 45 41 0,gE 46 41 1,gS 4 7 45]))) (.ops [gB 47 .add 37 (cI 1),gM 37 47]))))))) (.seq (.ops [gF 48 4 3,gS 1 48 (cI 12)]) (.seq (.ops [gU 50 4 7,gU 51 18 4,.call none (some 52) 19 [(false,50),(false,51)],gA 49 52,gE 53 49 0,gE 54 49 1,O1 (.alloc 11 (.one (.i (.agg [(.int .i64 0),(.list []),(.list []),(.list [])])))),gS 4 11 53,gA 12 54]) (.seq (.seq (.ops [gM 55 12,gB 56 .neq 55 (cI 0)]) (.cond 56 (.seq (.ops [gU 57 4 11,gU 58 4 7,.call none (some 59) 11 [(false,57),(false,58)],gA 6 59]) .ret) .skip)) (.seq (.ops [gU 61 4 7,gF 62 4 4,gL 63 62,.call none (some 64) 13 [(false,61),(false,63)],gA 60 64,gE 65 60 0,gE 66 60 1,O1 (.alloc 13 (.one (.i (.agg [(.str []),(.str []),(.list [])])))),gS 3 13 65,gA 14 66]) (.seq (.ops [gU 68 4 11,gF 69 4 4,gL 70 69,.call none (some 71) 13 [(false,68),(false,70)],gA 67 71,gE 72 67 0,gE 73 67 1,O1 (.alloc 15 (.one (.i (.agg [(.str []),(.str []),(.list [])])))),gS 3 15 72,gA 16 73]) (.seq (.ops [O1 (.mkf 74 21 [5]),gA 17 74]) (.seq (.ops [gF 75 4 10,gF 76 75 0,gU 77 2 76,gL 78 5,.call none (some 79) 23 [(false,77),(false,78)],gA 18 79]) (.seq (.drw [[],[],[0,1],[],[],[3,4,2],[5],[6],[7,6],[6,8],[2,9],[10,6],[11],[11],[12,13,11],[11],[11],[15,16,14,11],[17,11],[18],[19,18],[18,20,11],[14,21,11],[11,22],[23,18,0,1,2,3,4,5,6,7,8,9,10,11,12,13,14,15,16,17,19,20,21,22]] [gM 80 17,gU 81 3 15,.dyn none (some 82) [21] 80 [(false,81),(false,cF)],gM 83 17,gU 84 3 13,.dyn none (some 85) [21] 83 [(false,84),(false,cF)],gM 86 85,qt 86 (iM 87 18),qt 86 (iT 88 87),gP 89 86 88 cF,O1 (.eqs 90 false .bool 82 89),gM 91 90,qt 91 (iM 92 17),qt 91 (iU 93 3 15),.dyn (some (91,true)) (some 94) [21] 92 [(false,93),(false,cT)],qt 91 (iM 95 17),qt 91 (iU 96 3 13),.dyn (some (91,true)) (some 97) [21] 95 [(false,96),(false,cT)],qt 91 (iM 98 97),qt 98 (iM 99 18),qt 98 (iT 100 99),qt 91 (iP 101 98 100 cF),qt 91 (.eqs 102 false .bool 94 101),gP 103 91 102 cF,gA 6 103]) .ret)))))))))))))
theorem Br:OF 5 104 Bq [.t 6]:=oF Tryz.func5 rfl Tryz.ntmps5 (by kernel_rfl) (by kernel_rfl)
abbrev Pw:FuncId:=8
def Nv:Stm:=(.seq (.ops [gA 0 cF]) (.seq (.ops [.call none (some 9) 18 [(false,(cS [115])),(false,(cS [119]))],gA 8 9,gE 10 8 0,gE 11 8 1,O1 (.alloc 1 (.one (.i (.agg [(.int .i64 0),(.list []),(.list []),(.list [])])))),gS 4 1 10,gA 2 11]) (.seq (.ops [gU 13 4 1,O1 (.build 14 [(.int .i64 0),(.int .i64 0),(.str []),(.int .i64 0),(.str []),(.str []),(.str []),(.str []),(.int .i64 0),(.int .i64 0),(.agg [(.agg [(.str []),(.str [])]),(.bool false),(.bool false)]),(.int .i64 0),(.list []),(.list []),(.list [])] [(3,(cI 4)),(4,(cS [116]))]),.call none (some 15) 19 [(false,13),(false,14)],gA 12 15,gE 16 12 0,gE 17 12 1,gS 4 1 16,gA 3 17]) (.seq (.ops [gU 19 4 1,O1 (.build 20 [(.int .i64 0),(.int .i64 0),(.str []),(.int .i64 0),(.str []),(.str []),(.str []),(.str []),(.int .i64 0),(.int .i64 0),(.agg [(.agg [(.str []),(.str [])]),(.bool false),(.bool false)]),(.int .i64 0),(.list []),(.list []),(.list [])] [(3,(cI 4)),(4,(cS [117]))]),.call none (some 21) 19 [(false,19),(false,20)],gA 18 21,gE 22 18 0,gE 23 18 1,gS 4 1 22,gA 4 23]) (.seq (.ops [gU 25 4 1,O1 (.build 26 [(.int .i64 0),(.int .i64 0),(.str []),(.int .i64 0),(.str []),(.str []),(.str []),(.str []),(.int .i64 0),(.int .i64 0),(.agg [(.agg [(.str []),(.str [])]),(.bool false),(.bool false)]),(.int .i64 0),(.list []),(.list []),(.list [])] [(3,(cI 6)),(4,(cS [120])),(5,(cS [116])),(6,(cS [112]))]),.call none (some 27) 19 [(false,25),(false,26)],gA 24 27,gE 28 24 0,gE 29 24 1,gS 4 1 28,gA 5 29]) (.seq (.ops [gU 31 4 1,O1 (.build 32 [(.int .i64 0),(.int .i64 0),(.str []),(.int .i64 0),(.str []),(.str []),(.str []),(.str []),(.int .i64 0),(.int .i64 0),(.agg [(.agg [(.str []),(.str [])]),(.bool false),(.bool false)]),(.int .i64 0),(.list []),(.list []),(.list [])] [(3,(cI 9)),(4,(cS [121])),(5,(cS [117]))]),.call none (some 33) 19 [(false,31),(false,32)],gA 30 33,gE 34 30 0,gE 35 30 1,gS 4 1 34,gA 6 35]) (.seq (.ops [gU 37 4 1,O1 (.build 38 [(.int .i64 0),(.int .i64 0),(.str []),(.int .i64 0),(.str []),(.str []),(.str []),(.str []),(.int .i64 0),(.int .i64 0),(.agg [(.agg [(.str []),(.str [])]),(.bool false),(.bool false)]),(.int .i64 0),(.list []),(.list []),(.list [])] [(3,(cI 13)),(4,(cS [120])),(5,(cS [121]))]),.call none (some 39) 19 [(false,37),(false,38)],gA 36 39,gE 40 36 0,gE 41 36 1,gS 4 1 40,gA 7 41]) (.seq (.ops [gM 42 2,gM 43 42,qt 43 (iM 44 3),qt 43 (iB 45 .eql 44 (cI 0)),gP 46 43 45 cF,gM 47 46,qt 47 (iM 48 4),qt 47 (iB 49 .eql 48 (cI 0)),gP 50 47 49 cF,gM 51 50,qt 51 (iM 52 5),qt 51 (iB 53 .eql 52 (cI 0)),gP 54 51 53 cF,gM 55 54,qt 55 (iM 56 6),qt 55 (iB 57 .eql 56 (cI 0)),gP 58 55 57 cF,gM 59 58,qt 59 (iM 60 7),qt 59 (iB 61 .eql 60 (cI 18)),gP 62 59 61 cF,gM 63 62,qt 63 (iG 64 1 0 0),qt 63 (iL 65 64),qt 63 (iB 66 .eql 65 (cI 5)),gP 67 63 66 cF,gM 68 67,qt 68 (iU 69 4 1),.call (some (68,true)) (some 70) 28 [(false,69),(false,(cS [120])),(false,(cS [112]))],gP 71 68 70 cF,gA 0 71]) .ret))))))))
theorem N5:OF 8 72 Nv [.t 0]:=oF Tryz.func8 rfl Tryz.ntmps8 (by kernel_rfl) (by kernel_rfl)
abbrev Px:FuncId:=9
def Nw:Stm:=(.seq (.ops [gA 2 cF]) (.seq (.seq (.ops [gM 5 0,gN 6 5,gM 7 (cI 0)]) (.block 0 (.loop (kr [2,3,4] 8 47) (.seq (.ops [gB 8 .lss 7 6]) (.seq (.cond 8 .skip (.exit 0)) (.seq (.block 1 (.seq (.ops [gM 9 7,gI 10 18 5 7,gU 11 18 10,O1 (.alloc 4 (.one (.i (.agg [(.int .i64 0),(.int .i64 0),(.str []),(.int .i64 0),(.str []),(.str []),(.str []),(.str []),(.int .i64 0),(.int .i64 0),(.agg [(.agg [(.str []),(.str [])]),(.bool false),(.bool false)]),(.int .i64 0),(.list []),(.list []),(.list [])])))),gA 3 9,gS 18 4 11]) (.seq (.ops [gM 12 3,gB 13 .geq 12 (cI 80),gM 14 13,qf 14 (iG 15 4 4 4),qf 14 (iL 16 15),qf 14 (.len 17 true 16),qf 14 (iB 18 .gtr 17 (cI 1000)),gP 19 14 cT 18,gM 20 19,qf 20 (iG 21 4 5 5),qf 20 (iL 22 21),qf 20 (.len 23 true 22),qf 20 (iB 24 .gtr 23 (cI 1000)),gP 25 20 cT 24,gM 26 25,qf 26 (iG 27 4 6 6),qf 26 (iL 28 27),qf 26 (.len 29 true 28),qf 26 (iB 30 .gtr 29 (cI 1000)),gP 31 26 cT 30,gM 32 31,qf 32 (iG 33 4 7 7),qf 32 (iL 34 33),qf 32 (.len 35 true 34),qf 32 (iB 36 .gtr 35 (cI 1000)),gP 37 32 cT 36,gM 38 37,qf 38 (iG 39 4 10 10),qf 38 (iG 40 39 0 0),qf 38 (iG 41 40 0 0),qf 38 (iL 42 41),qf 38 (.len 43 true 42),qf 38 (iB 44 .gtr 43 (cI 1000)),gP 45 38 cT 44,gM 46 45,qf 46 (iG 47 4 10 10),qf 46 (iG 48 47 0 0),qf 46 (iG 49 48 1 1),qf 46 (iL 50 49),qf 46 (.len 51 true 50),qf 46 (iB 52 .gtr 51 (cI 1000)),gP 53 46 cT 52]) (.cond 53 (.seq (.ops [gA 2 cT]) .ret) .skip)))) (.ops [gB 54 .add 7 (cI 1),gM 7 54]))))))) (.seq (.ops [gA 2 cF]) .ret)))
theorem N6:OF 9 55 Nw [.t 2]:=oF Tryz.func9 rfl Tryz.ntmps9 (by kernel_rfl) (by kernel_rfl)
abbrev Bn:FuncId:=21
def A9:Stm:=(.seq (.ops [O1 (.box 3 0),gA 5 cF]) (.seq (.seq (.ops [gF 8 3 2,gL 9 8,gN 10 9,gM 11 (cI 0)]) (.block 0 (.loop (kr [5,7] 12 23) (.seq (.ops [gB 12 .lss 11 10]) (.seq (.cond 12 .skip (.exit 0)) (.seq (.block 1 (.seq (.ops [gI 13 4 9 11,gU 14 4 13,O1 (.alloc 7 (.one (.i (.agg [(.agg [(.str []),(.str [])]),(.bool false),(.bool false)])))),gS 4 7 14]) (.seq (.ops [gG 15 7 1 2,gL 16 15,gM 17 16,qt 17 (iM 18 1),qt 17 (iT 19 18),gP 20 17 19 cF,gM 21 20,qf 21 (iG 22 7 2 3),qf 21 (iL 23 22),qf 21 (iM 24 23),qt 24 (iM 25 1),qf 21 (iP 26 24 25 cF),gP 27 21 cT 26,gM 28 27,qt 28 (iG 29 7 0 0),qt 28 (iU 30 2 29),qt 28 (iL 31 2),.call (some (28,true)) (some 32) 22 [(false,30),(false,31)],gP 33 28 32 cF]) (.cond 33 (.seq (.ops [gA 5 cT]) .ret) .skip)))) (.ops [gB 34 .add 11 (cI 1),gM 11 34]))))))) (.seq (.ops [gA 5 cF]) .ret)))
theorem Ba:OF 21 35 A9 [.t 5]:=oF Tryz.func21 rfl Tryz.ntmps21 (by kernel_rfl) (by kernel_rfl)
set_option maxHeartbeats 40000000

open Go.Proofs
theorem Acd (salt word:Ad) (h1:salt.length≤64) (h2:word.length≤64):Fn Tryz.prog Ajv [.v (.str salt),.v (.str word)] (Is (.tup [.i (Ea salt word).toI,.i (.bool true)]) [.no,.no]):=by
 refine Ahw ?_ (by simp)
 have n1:=D1 salt
 have n2:=D1 word
 rw[show decide (salt.length≤64)=true by simp[h1]]at n1
 rw[show decide (word.length≤64)=true by simp[h2]]at n2
 have hh:=L6 salt word (by omega) (by omega)
 repeat'((conv=>whnf);first|(apply aI<;>intro hb<;>first|exact absurd hb (by decide)|((try rw[hb]);(try simp only[Aa]at hb)))|(refine eI ?_ ?_;focus (and_intros<;>first|omega|exact rfl|(intro _ hh;cases hh;done)|exact A0 (by rfl)|(simp;done)|decide))|(refine CallWp.mk ⟨_,n1,?_⟩;rintro _ _ ⟨rfl,rfl⟩)|(refine CallWp.mk ⟨_,n2,?_⟩;rintro _ _ ⟨rfl,rfl⟩)|(refine CallWp.mk ⟨_,hh,?_⟩;rintro _ _ ⟨rfl,rfl⟩))
 all_goals(try(conv=>whnf))
 exact Done.mk ⟨by kernel_rfl,by kernel_rfl⟩ (by kernel_rfl)
theorem Air (r:Roll) (hf:r.Small) (n w:Ad) (u:Usr) (hu:getU r.usrs n=(u,true)) (hw:w.length≤100000) (hs:u.salt.length≤100000):Fn Tryz.prog Adx [.v r.toI,.v (.str n),.v (.str w)] (Is (.v (.bool (decide (u.hash=C1 u.salt w)))) [.no,.no,.no]):=by
 refine Ac5 ?_ (by simp)
 have g:=Uk r hf n
 rw[hu]at g
 have hh:=L6 u.salt w hs hw
 repeat'((conv=>whnf);first|(apply aI<;>intro hb<;>first|exact absurd hb (by decide)|with_reducible exact absurd hb.symm Bool.false_ne_true|((try rw[hb]);(try simp only[Aa]at hb)))|(refine eI ?_ ?_;focus (and_intros<;>first|omega|exact rfl|(intro _ hh;cases hh;done)|(simp;done)|decide))|((with_reducible apply Drawn.by0);(focus kernel_rfl);intro hfact;(try simp only[dRS]at hfact))|(refine CallWp.mk ⟨_,g,?_⟩;rintro _ _ ⟨rfl,rfl⟩)|(refine CallIs.mk ⟨_,_,hh,?_⟩))
 all_goals(try(conv=>whnf))
 all_goals refine Done.mk ⟨SV.bool_congr ?_,by kernel_rfl⟩ (by kernel_rfl)
 all_goals simp[*]
def cmdA (k:Int) (n o w:Ad):Cmd:=⟨0,0,[],k,n,o,w,[],0,0,⟨⟨[],[]⟩,false,false⟩,0,[],[],[]⟩
theorem Agh:Fn Tryz.prog Pw [] (Is (.v (.bool true)) []):=by
 refine N5 ?_ (by simp)
 have n1:=Acd [115] [119] (by simp) (by simp)
 unfold Ea at n1
 generalize C1 [115] [119]=h0 at n1
 obtain⟨h1,hh1⟩:∃h,h=C1 [] [112]:=⟨_,rfl⟩
 have e1:DoP ⟨1,[],[⟨[114,111,111,116],[],[115],h0,[]⟩],[]⟩ (cmdA 4 [116] [] [])=(⟨2,[⟨[116],0,0⟩],[⟨[114,111,111,116],[],[115],h0,[]⟩],[]⟩,0):=by kernel_rfl
 have e2:DoP ⟨2,[⟨[116],0,0⟩],[⟨[114,111,111,116],[],[115],h0,[]⟩],[]⟩ (cmdA 4 [117] [] [])=(⟨3,[⟨[116],0,0⟩,⟨[117],0,0⟩],[⟨[114,111,111,116],[],[115],h0,[]⟩],[]⟩,0):=by kernel_rfl
 have e3:DoP ⟨3,[⟨[116],0,0⟩,⟨[117],0,0⟩],[⟨[114,111,111,116],[],[115],h0,[]⟩],[]⟩ (cmdA 6 [120] [116] [112])=(⟨4,[⟨[116],0,0⟩,⟨[117],0,0⟩],[⟨[114,111,111,116],[],[115],h0,[]⟩,⟨[120],[116],[],C1 [] [112],[]⟩],[]⟩,0):=by kernel_rfl
 rw[←hh1]at e3
 have e4:DoP ⟨4,[⟨[116],0,0⟩,⟨[117],0,0⟩],[⟨[114,111,111,116],[],[115],h0,[]⟩,⟨[120],[116],[],h1,[]⟩],[]⟩ (cmdA 9 [121] [117] [])=(⟨5,[⟨[116],0,0⟩,⟨[117],0,0⟩],[⟨[114,111,111,116],[],[115],h0,[]⟩,⟨[120],[116],[],h1,[]⟩],[⟨[121],[117],[]⟩]⟩,0):=by kernel_rfl
 have e5:DoP ⟨5,[⟨[116],0,0⟩,⟨[117],0,0⟩],[⟨[114,111,111,116],[],[115],h0,[]⟩,⟨[120],[116],[],h1,[]⟩],[⟨[121],[117],[]⟩]⟩ (cmdA 13 [120] [121] [])=(⟨5,[⟨[116],0,0⟩,⟨[117],0,0⟩],[⟨[114,111,111,116],[],[115],h0,[]⟩,⟨[120],[116],[],h1,[]⟩],[⟨[121],[117],[]⟩]⟩,18):=by kernel_rfl
 have d1:=J6 ⟨1,[],[⟨[114,111,111,116],[],[115],h0,[]⟩],[]⟩ ⟨by simp,by simp,by simp,by simp,by simp⟩ (cmdA 4 [116] [] []) (by simp[cmdA]) (by simp)
 have d2:=J6 ⟨2,[⟨[116],0,0⟩],[⟨[114,111,111,116],[],[115],h0,[]⟩],[]⟩ ⟨by simp,by simp,by simp,by simp,by simp⟩ (cmdA 4 [117] [] []) (by simp[cmdA]) (by simp)
 have d3:=J6 ⟨3,[⟨[116],0,0⟩,⟨[117],0,0⟩],[⟨[114,111,111,116],[],[115],h0,[]⟩],[]⟩ ⟨by simp,by simp,by simp,by simp,by simp⟩ (cmdA 6 [120] [116] [112]) (by simp[cmdA]) (by simp)
 have d4:=J6 ⟨4,[⟨[116],0,0⟩,⟨[117],0,0⟩],[⟨[114,111,111,116],[],[115],h0,[]⟩,⟨[120],[116],[],h1,[]⟩],[]⟩ ⟨by simp,by simp,by simp,by simp,by simp⟩ (cmdA 9 [121] [117] []) (by simp[cmdA]) (by simp)
 have d5:=J6 ⟨5,[⟨[116],0,0⟩,⟨[117],0,0⟩],[⟨[114,111,111,116],[],[115],h0,[]⟩,⟨[120],[116],[],h1,[]⟩],[⟨[121],[117],[]⟩]⟩ ⟨by simp,by simp,by simp,by simp,by simp⟩ (cmdA 13 [120] [121] []) (by simp[cmdA]) (by simp)
 rw[e1]at d1
 rw[e2]at d2
 rw[e3]at d3
 rw[e4]at d4
 rw[e5]at d5
 have ch:=Air ⟨5,[⟨[116],0,0⟩,⟨[117],0,0⟩],[⟨[114,111,111,116],[],[115],h0,[]⟩,⟨[120],[116],[],h1,[]⟩],[⟨[121],[117],[]⟩]⟩ ⟨by simp,by simp,by simp,by simp,by simp⟩ [120] [112] ⟨[120],[116],[],h1,[]⟩ (by simp[getU]) (by simp) (by simp)
 dsimp only at ch
 rw[show decide (h1=C1 [] [112])=true by simp[hh1]]at ch
 clear e1 e2 e3 e4 e5 hh1
 repeat'((conv=>whnf);first|(apply aI<;>intro hb<;>first|exact absurd hb (by decide)|((try rw[hb]);(try simp only[Aa]at hb)))|(refine eI ?_ ?_;focus (and_intros<;>first|omega|exact rfl|(intro _ hh;cases hh;done)|(simp;done)|decide))|(refine CallWp.mk ⟨_,n1,?_⟩;rintro _ _ ⟨rfl,rfl⟩)|(refine CallWp.mk ⟨_,d1,?_⟩;rintro _ _ ⟨rfl,rfl⟩)|(refine CallWp.mk ⟨_,d2,?_⟩;rintro _ _ ⟨rfl,rfl⟩)|(refine CallWp.mk ⟨_,d3,?_⟩;rintro _ _ ⟨rfl,rfl⟩)|(refine CallWp.mk ⟨_,d4,?_⟩;rintro _ _ ⟨rfl,rfl⟩)|(refine CallWp.mk ⟨_,d5,?_⟩;rintro _ _ ⟨rfl,rfl⟩)|(refine CallWp.mk ⟨_,ch,?_⟩;rintro _ _ ⟨rfl,rfl⟩))
 all_goals(try(conv=>whnf))
 all_goals first|(exfalso;have ht:¬True:=(by assumption);exact ht True.intro)|exact Done.mk ⟨by kernel_rfl,by kernel_rfl⟩ (by kernel_rfl)

open Go.Proofs
def Fe (r:Roll) (c:Cmd):Roll × Int:=
 if Co c.name=false then(r,5)
 else if Ej c.bytes=false then(r,1)
 else if Ej c.keys=false then(r,1)
 else if 0≤r.tenAt c.name then(r,15)
 else if 8≤(r.tens.length:Int)then(r,17)
 else({r with rev:=r.rev+1,tens:=B2 (fun e:Ten=>decide (c.name<e.name)) ⟨c.name,c.bytes,c.keys⟩ r.tens},0)
def Kg (r:Roll) (c:Cmd):Roll × Int:=
 if Co c.name=false then(r,5)
 else if 0≤r.rolAt c.name then(r,15)
 else if r.tenAt c.other<0 then(r,16)
 else if 16≤(r.rols.length:Int)then(r,17)
 else({r with rev:=r.rev+1,rols:=B2 (fun e:Rol=>decide (c.name<e.name)) ⟨c.name,c.other,[]⟩ r.rols},0)
def Kj (r:Roll) (c:Cmd):Roll × Int:=
 if Co c.name=false then(r,5)
 else if 64<(c.word.length:Int)then(r,2)
 else if 64<(c.salt.length:Int)then(r,2)
 else if 0≤r.usrAt c.name then(r,15)
 else if r.tenAt c.other<0 then(r,16)
 else if 16≤(r.usrs.length:Int)then(r,17)
 else({r with rev:=r.rev+1,usrs:=B2 (fun e:Usr=>decide (c.name<e.name)) ⟨c.name,c.other,c.salt,C1 c.salt c.word,[]⟩ r.usrs},0)
def Hi (r:Roll) (c:Cmd):Roll × Int:=
 if 64<(c.word.length:Int)then(r,2)
 else if 64<(c.salt.length:Int)then(r,2)
 else if r.usrAt c.name<0 then(r,16)
 else match r.usrs[(r.usrAt c.name).toNat]? with
 |none=>(r,16)
 |some u=>({r with rev:=r.rev+1,usrs:=r.usrs.set (r.usrAt c.name).toNat {u with salt:=c.salt,hash:=C1 c.salt c.word}},0)
set_option maxHeartbeats 4000000

open Go.Proofs
def doM (r:Roll) (c:Cmd):Roll × Int:=
 if c.kind<4∨14<c.kind then(r,1)
 else if 1099511627776≤r.rev then(r,17)
 else if c.kind=4 then Fe r c
 else if c.kind=5 then E9 r c
 else if c.kind=6 then Kj r c
 else if c.kind=7 then Hi r c
 else if c.kind=8 then E7 r c
 else if c.kind=9 then Kg r c
 else if c.kind=10 then He r c
 else if c.kind=11 then E4 r c
 else if c.kind=12 then Dp r c
 else Du r c

open Go.Proofs
theorem Akk (a b:Ad):a<b∨a=b∨b<a:=by
 by_cases h:a<b
 ·exact .inl h
 ·by_cases h2:b<a
  ·exact .inr (.inr h2)
  ·exact .inr (.inl (List.le_antisymm (List.not_lt.1 h2) (List.not_lt.1 h)))
theorem Ux {lt:Nat→Bool} {L:Nat} (mono:∀h h',h≤h'→h'<L→lt h'=true→lt h=true):∀f i j,i≤j→j≤L→j - i≤f→(∀h,h<i→lt h=true)→(∀h,j≤h→h<L→lt h=false)→
 (∀h,h<bsGo lt f i j→lt h=true)∧(∀h,bsGo lt f i j≤h→h<L→lt h=false)
 |0,i,j,h1,h2,h3,h4,h5=>by
  obtain rfl:i=j:=by omega
  exact⟨h4,h5⟩
 |f+1,i,j,h1,h2,h3,h4,h5=>by
  unfold bsGo
  split
  ·rename_i hij
   split
   ·rename_i hl
    exact Ux mono f _ _ (by omega) h2 (by omega) (fun h hh=>mono h ((i+j) / 2) (by omega) (by omega) hl) h5
   ·rename_i hl
    refine Ux mono f _ _ (by omega) (by omega) (by omega) h4 (fun h hh hL=>?_)
    cases hx:lt h with
    |false=>rfl
    |true=>exact absurd (mono _ _ hh hL hx) hl
  ·obtain rfl:i=j:=by omega
   exact⟨h4,h5⟩
abbrev Dt {α:Type} (nm:α→Ad) (l:List α):Prop:=l.Pairwise fun a b=>nm a<nm b
def posOf {α:Type} (nm:α→Ad) (n:Ad):List α→Nat
 | []=>0
 |a::r=>if nm a<n then posOf nm n r+1 else 0
theorem Afa {α:Type} (nm:α→Ad) (n:Ad):∀l:List α,posOf nm n l≤l.length
 | []=>Nat.le_refl _
 |a::r=>by
  unfold posOf
  have:=Afa nm n r
  split<;>simp<;>omega
theorem Afb {α:Type} (nm:α→Ad) (n:Ad):∀(l:List α) (h:Nat),h<posOf nm n l→ltAt nm l n h=true
 | [],h,hh=>by simp[posOf]at hh
 |a::r,h,hh=>by
  unfold posOf at hh
  split at hh
  ·rename_i ha
   cases h with
   |zero=>simp[ltAt,ha]
   |succ h=>
    have:=Afb nm n r h (by omega)
    simpa[ltAt]using this
  ·omega
theorem Ae9 {α:Type} (nm:α→Ad) (n:Ad):∀(l:List α),posOf nm n l<l.length→ltAt nm l n (posOf nm n l)=false
 | [],h=>by simp[posOf]at h
 |a::r,h=>by
  unfold posOf at h ⊢
  split
  ·rename_i ha
   rw[if_pos ha]at h
   have:=Ae9 nm n r (by simpa using h)
   simpa[ltAt]using this
  ·rename_i ha
   simpa[ltAt]using ha
theorem X8 {α:Type} {nm:α→Ad} {l:List α} (hr:Dt nm l) (n:Ad):Az nm l n=posOf nm n l:=by
 have mono:∀h h',h≤h'→h'<l.length→ltAt nm l n h'=true→ltAt nm l n h=true:=by
  intro h h' hh hL hx
  rcases Nat.lt_or_ge h h' with hlt|hge
  ·have hp:=List.pairwise_iff_getElem.1 hr h h' (by omega) hL hlt
   unfold ltAt at hx ⊢
   rw[List.getElem?_eq_getElem hL]at hx
   rw[List.getElem?_eq_getElem (by omega:h<l.length)]
   simp only[Option.any_some,decide_eq_true_eq]at hx ⊢
   exact List.lt_trans hp hx
  ·obtain rfl:h=h':=by omega
   exact hx
 obtain⟨k1,k2⟩:=Ux mono l.length 0 l.length (Nat.zero_le _) (Nat.le_refl _) (Nat.sub_le _ _) (fun h hh=>by omega) (fun h h1 h2=>by omega)
 have hle:=H5 nm l n
 have hpl:=Afa nm n l
 change (∀h,h<Az nm l n→_)at k1
 change (∀h,Az nm l n≤h→_)at k2
 rcases Nat.lt_trichotomy (Az nm l n) (posOf nm n l)with h|h|h
 ·have a1:=Afb nm n l _ h
  rw[k2 _ (Nat.le_refl _) (by omega)]at a1
  cases a1
 ·exact h
 ·have a1:=k1 _ h
  rw[Ae9 nm n l (by omega)]at a1
  cases a1
theorem Wo {α:Type} {p:α→Bool}:∀(k:Nat) (l:List α),(∀x∈l,p x=false)→findAt p k l= -1
 |_,[],_=>rfl
 |k,a::r,h=>by
  unfold findAt
  rw[if_neg (by rw[h a (List.mem_cons_self ..)];simp)]
  exact Wo (k+1) r fun x hx=>h x (List.mem_cons_of_mem _ hx)
theorem Aeg {α:Type} {nm:α→Ad} {n:Ad}:∀{l:List α} (k:Nat),Dt nm l→findAt (fun t=>decide (nm t=n)) k l=if((l[posOf nm n l]?).any fun x=>decide (nm x=n))=true then((k+posOf nm n l:Nat):Int)else -1
 | [],_,_=>by simp[findAt,posOf]
 |a::r,k,h=>by
  obtain⟨h1,h2⟩:=List.pairwise_cons.1 h
  unfold findAt posOf
  rcases Akk (nm a) n with ha|ha|ha
  ·have hne:nm a≠n:=by rintro rfl;exact List.lt_irrefl _ ha
   rw[if_neg (by simp[hne]),if_pos ha,Aeg (k+1) h2]
   simp only[List.getElem?_cons_succ]
   split
   ·congr 1;omega
   ·rfl
  ·subst ha
   rw[if_pos (by simp),if_neg (List.lt_irrefl _)]
   simp
  ·have hne:nm a≠n:=by rintro rfl;exact List.lt_irrefl _ ha
   have hnl:¬nm a<n:=fun h=>List.lt_irrefl _ (List.lt_trans h ha)
   rw[if_neg (by simp[hne]),if_neg hnl]
   simp only[List.getElem?_cons_zero,Option.any_some,decide_eq_true_eq,hne,if_false]
   refine Wo _ _ fun x hx=>?_
   have:=List.lt_trans ha (h1 x hx)
   simp only[decide_eq_false_iff_not]
   rintro rfl
   exact List.lt_irrefl _ this
theorem Ad7 {α:Type} {nm:α→Ad} {l:List α} (hr:Dt nm l) (n:Ad):Bv nm l n=(l[posOf nm n l]?).any fun x=>decide (nm x=n):=by
 unfold Bv
 rw[X8 hr]
theorem Adk {α:Type} {nm:α→Ad} {l:List α} (hr:Dt nm l) (n:Ad):findAt (fun t=>decide (nm t=n)) 0 l=if Bv nm l n=true then((Az nm l n:Nat):Int)else -1:=by
 rw[Aeg 0 hr,Ad7 hr,X8 hr,Nat.zero_add]
theorem Ai3 {α:Type} {nm:α→Ad} {n:Ad} {x:α}:∀{l:List α},Dt nm l→((l[posOf nm n l]?).any fun x=>decide (nm x=n))=false→B2 (fun e=>decide (n<nm e)) x l=C2 (posOf nm n l) x l
 | [],_,_=>rfl
 |a::r,h,hf=>by
  obtain⟨h1,h2⟩:=List.pairwise_cons.1 h
  unfold B2
  unfold posOf at hf ⊢
  rcases Akk (nm a) n with ha|ha|ha
  ·have hnl:¬n<nm a:=fun h=>List.lt_irrefl _ (List.lt_trans h ha)
   rw[if_pos ha]at hf
   rw[if_neg (by simpa using hnl),if_pos ha,Ai3 h2 (by simpa using hf)]
   simp[C2]
  ·subst ha
   rw[if_neg (List.lt_irrefl _)]at hf
   simp at hf
  ·have hnl:¬nm a<n:=fun h=>List.lt_irrefl _ (List.lt_trans h ha)
   rw[if_pos (by simpa using ha),if_neg hnl]
   rfl
theorem Ym {α:Type} {nm:α→Ad} {l:List α} (hr:Dt nm l) {n:Ad} (x:α) (hf:Bv nm l n=false):B2 (fun e=>decide (n<nm e)) x l=C2 (Az nm l n) x l:=by
 rw[X8 hr]
 exact Ai3 hr (by rw[←Ad7 hr];exact hf)

open Go.Proofs
structure Roll.Sorted (r:Roll):Prop where
 T:Dt Ten.name r.tens
 U:Dt Usr.name r.usrs
 X:Dt Rol.name r.rols
 R:∀u∈r.usrs,Dt Cj u.roles
theorem Gq {α:Type} (p:α→Bool):∀(k:Nat) (l:List α),(l.find? p=none∧findAt p k l= -1)∨∃(j:Nat) (x:α),findAt p k l=((k+j:Nat):Int)∧l[j]?=some x∧l.find? p=some x
 |k,[]=>.inl ⟨rfl,rfl⟩
 |k,a::r=>by
  by_cases h:p a=true
  ·exact .inr ⟨0,a,by simp[findAt,h],rfl,by simp[h]⟩
  ·rcases Gq p (k+1) r with⟨h1,h2⟩|⟨j,x,h1,h2,h3⟩
   ·exact .inl ⟨by simp[h,h1],by simp[findAt,h,h2]⟩
   ·exact .inr ⟨j+1,x,by rw[findAt,if_neg h,h1];congr 1;omega,by simpa using h2,by simp[h,h3]⟩
theorem Ari (l:List Ten) (n:Ad):((getT l n).2=false∧findAt (fun t=>decide (t.name=n)) 0 l= -1)∨((getT l n).2=true∧0≤findAt (fun t=>decide (t.name=n)) 0 l):=by
 unfold getT
 rcases Gq (fun t:Ten=>decide (t.name=n)) 0 l with⟨h1,h2⟩|⟨j,x,h1,h2,h3⟩
 ·rw[h1,h2];exact .inl ⟨rfl,rfl⟩
 ·rw[h3,h1];exact .inr ⟨rfl,by omega⟩
theorem Arh (l:List Rol) (n:Ad):((getR l n).2=false∧findAt (fun t=>decide (t.name=n)) 0 l= -1)∨∃(j:Nat) (x:Rol),(getR l n)=(x,true)∧findAt (fun t=>decide (t.name=n)) 0 l=(j:Int)∧l[j]?=some x:=by
 unfold getR
 rcases Gq (fun t:Rol=>decide (t.name=n)) 0 l with⟨h1,h2⟩|⟨j,x,h1,h2,h3⟩
 ·rw[h1,h2];exact .inl ⟨rfl,rfl⟩
 ·rw[h3,h1];exact .inr ⟨j,x,rfl,by omega,h2⟩
theorem X9 {nm:Ad→Ad} (hnm:nm=Cj) {l:List Ad} (hr:Dt nm l) (n:Ad):Bv nm l n=l.any fun e=>decide (e=n):=by
 subst hnm
 have h:=Adk hr n
 rcases Gq (fun t:Ad=>decide (Cj t=n)) 0 l with⟨h1,h2⟩|⟨j,x,h1,h2,h3⟩
 ·rw[h2]at h
  cases hb:Bv Cj l n with
  |true=>rw[hb]at h;simp at h
  |false=>
   symm
   rw[List.any_eq_false]
   intro y hy
   have:=List.find?_eq_none.1 h1 y hy
   simpa using this
 ·rw[h1]at h
  cases hb:Bv Cj l n with
  |false=>rw[hb]at h;simp at h
  |true=>
   symm
   rw[List.any_eq_true]
   exact⟨x,List.mem_of_getElem? h2,by simpa using List.find?_some h3⟩
theorem Aj1 {l:List Ad} (hr:Dt Cj l) (n:Ad) (hb:Bv Cj l n=true):Da (Az Cj l n) l=l.filter fun e=> !decide (e=n):=by
 rw[Ad7 hr]at hb
 rw[X8 hr]
 induction l with
 |nil=>simp[posOf]at hb
 |cons a r ih=>
  obtain⟨h1,h2⟩:=List.pairwise_cons.1 hr
  unfold posOf at hb ⊢
  by_cases ha:Cj a<n
  ·rw[if_pos ha]at hb ⊢
   have hne:¬a=n:=by rintro rfl;exact List.lt_irrefl _ ha
   have:=ih h2 (by simpa using hb)
   simp only[Da,List.take_succ_cons,List.drop_succ_cons,List.cons_append]at this ⊢
   rw[this,List.filter_cons,if_pos (by simp[hne])]
  ·rw[if_neg ha]at hb ⊢
   simp only[List.getElem?_cons_zero,Option.any_some,decide_eq_true_eq]at hb
   obtain rfl:a=n:=hb
   rw[List.filter_cons,if_neg (by simp)]
   simp only[Da,List.take_zero,List.nil_append,Nat.zero_add,List.drop_succ_cons,List.drop_zero]
   symm
   rw[List.filter_eq_self]
   intro x hx
   have h3:a<x:=h1 x hx
   simp only[Bool.not_eq_true',decide_eq_false_iff_not]
   rintro rfl
   exact List.lt_irrefl _ h3
theorem Arx (r:Roll) (h:r.Sorted) (c:Cmd):DoP r c=doM r c:=by
 unfold DoP doM
 split
 ·rfl
 split
 ·rfl
 rename_i k1 k2
 have ht:=fun n=>Adk h.T n
 have hu:=fun n=>Adk h.U n
 have hx:=fun n=>Adk h.X n
 have gt:=Ari r.tens c.other
 have gr:=Arh r.rols c.other
 rcases(by omega:c.kind=4∨c.kind=5∨c.kind=6∨c.kind=7∨c.kind=8∨c.kind=9∨c.kind=10∨c.kind=11∨c.kind=12∨c.kind=13∨c.kind=14)with hk|hk|hk|hk|hk|hk|hk|hk|hk|hk|hk
 ·simp only[doP,hk,Int.reduceEq,true_or,if_true]
  simp only[Ff,Fe,hk,ht,true_and,Int.reduceEq,if_true]
  cases hn:Co c.name<;>cases h1:Ej c.bytes<;>cases h2:Ej c.keys<;>cases hb:Bv Ten.name r.tens c.name<;>by_cases h8:8≤(r.tens.length:Int)<;>simp[h8]
  rw[Ym h.T _ hb]
 ·simp only[doP,hk,Int.reduceEq,or_true,if_true,if_false]
  simp only[Ff,E9,hk,ht,false_and,Int.reduceEq,if_true,if_false]
  cases h1:Ej c.bytes<;>cases h2:Ej c.keys<;>cases hb:Bv Ten.name r.tens c.name<;>simp
 ·have w1:(64<(c.word.length:Int))=¬c.word.length≤64:=by rw[eq_iff_iff];omega
  have w2:(64<(c.salt.length:Int))=¬c.salt.length≤64:=by rw[eq_iff_iff];omega
  simp only[doP,hk,Int.reduceEq,or_true,true_or,or_self,if_true,if_false]
  simp only[Cc,Kj,hk,hu,w1,w2,Int.reduceEq,if_true,if_false]
  rcases gt with⟨g1,g2⟩|⟨g1,g2⟩<;>rw[g1]<;>cases hn:Co c.name<;>by_cases l1:c.word.length≤64<;>by_cases l2:c.salt.length≤64<;>cases hb:Bv Usr.name r.usrs c.name<;>by_cases h8:16≤(r.usrs.length:Int)<;>simp[l1,l2,h8,g2,Int.not_lt.2]
  all_goals exact(Ym h.U _ hb).symm
 ·have w1:(64<(c.word.length:Int))=¬c.word.length≤64:=by rw[eq_iff_iff];omega
  have w2:(64<(c.salt.length:Int))=¬c.salt.length≤64:=by rw[eq_iff_iff];omega
  simp only[doP,hk,Int.reduceEq,or_true,true_or,or_self,if_true,if_false]
  simp only[Cc,Hi,hk,hu,w1,w2,Int.reduceEq,if_true,if_false]
  by_cases l1:c.word.length≤64<;>by_cases l2:c.salt.length≤64<;>cases hb:Bv Usr.name r.usrs c.name<;>simp[l1,l2]
  obtain⟨x,hx, -⟩:=Ep hb
  rw[hx]
  simp
 ·simp only[doP,hk,Int.reduceEq,or_true,true_or,or_self,if_true,if_false]
  simp only[Cc,E7,hk,hu,Int.reduceEq,if_true,if_false,Adq]
  cases hb:Bv Usr.name r.usrs c.name<;>by_cases hr:c.name=[114,111,111,116]<;>simp[hr,Da]
 ·simp only[doP,hk,Int.reduceEq,or_true,true_or,or_self,if_true,if_false]
  simp only[Bi,Kg,hk,hx,Int.reduceEq,if_true,if_false]
  rcases gt with⟨g1,g2⟩|⟨g1,g2⟩<;>rw[g1]<;>cases hn:Co c.name<;>cases hb:Bv Rol.name r.rols c.name<;>by_cases h8:16≤(r.rols.length:Int)<;>simp[h8,g2,Int.not_lt.2]
  all_goals exact(Ym h.X _ hb).symm
 ·simp only[doP,hk,Int.reduceEq,or_true,true_or,or_self,if_true,if_false]
  simp only[Bi,He,hk,hx,false_and,Int.reduceEq,if_true,if_false]
  cases hb:Bv Rol.name r.rols c.name<;>simp[Da]
 ·simp only[doP,hk,Int.reduceEq,or_true,true_or,or_self,if_true,if_false]
  simp only[Bi,E4,hk,hx,false_and,true_and,Int.reduceEq,if_true,if_false]
  cases hg:(decide (Bj c.grant.sp)&&(c.grant.r||c.grant.w))<;>cases hb:Bv Rol.name r.rols c.name<;>simp
  obtain⟨x,hx, -⟩:=Ep hb
  rw[hx]
  dsimp only
  have hnn:¬((Az Rol.name r.rols c.name:Nat):Int)<0:=by omega
  by_cases hm:c.grant∈x.grants<;>by_cases h8:8≤(x.grants.length:Int)<;>simp[h8,hnn,hm]
 ·simp only[doP,hk,Int.reduceEq,or_true,true_or,or_self,if_true,if_false]
  simp only[Bi,Dp,hk,hx,false_and,true_and,Int.reduceEq,if_true,if_false]
  cases hg:decide (Bj c.grant.sp)<;>cases hb:Bv Rol.name r.rols c.name<;>simp
  obtain⟨x,hx, -⟩:=Ep hb
  rw[hx]
  dsimp only
  by_cases h8:8<((revM x.grants c.grant.sp).length:Int)<;>simp[h8]
 ·simp only[doP,hk,Int.reduceEq,or_true,true_or,or_self,if_true,if_false]
  simp only[Dv,Du,hk,hu,hx,false_and,true_and,Int.reduceEq,if_true,if_false]
  cases hb:Bv Usr.name r.usrs c.name<;>simp
  obtain⟨u,hux, -⟩:=Ep hb
  rw[hux]
  dsimp only
  have hru:=h.R u (List.mem_of_getElem? hux)
  rw[←hx c.other]
  simp only[X9 rfl hru c.other]
  rcases gr with⟨g1,g2⟩|⟨j,x,g1,g2,g3⟩
  ·rw[g1,g2];simp
  ·rw[g1,g2]
   simp only[Int.toNat_natCast,g3]
   have hins:=fun hm:¬c.other∈u.roles=>Ym hru (n:=c.other) c.other (by rw[X9 rfl hru,List.any_eq_false];intro y hy;simp only[decide_eq_true_eq];rintro rfl;exact hm hy)
   have hnn:¬((Az Usr.name r.usrs c.name:Nat):Int)<0:=by omega
   have hnj:¬(j:Int)<0:=by omega
   by_cases ht:x.ten=u.ten<;>by_cases hm:c.other∈u.roles<;>by_cases h8:4≤(u.roles.length:Int)<;>simp[ht,h8,hnn,hnj,hm]
   all_goals rw[hins hm]
 ·simp only[doP,hk,Int.reduceEq,or_true,true_or,or_self,if_true,if_false]
  simp only[Dv,Du,hk,hu,hx,false_and,true_and,Int.reduceEq,if_true,if_false]
  cases hb:Bv Usr.name r.usrs c.name<;>simp
  obtain⟨u,hux, -⟩:=Ep hb
  rw[hux]
  dsimp only
  have hru:=h.R u (List.mem_of_getElem? hux)
  have hdf:=Aj1 hru c.other
  rw[X9 rfl hru c.other]at hdf
  simp only[X9 rfl hru c.other]
  have hnn:¬((Az Usr.name r.usrs c.name:Nat):Int)<0:=by omega
  cases haa:(u.roles.any fun e=>decide (e=c.other))with
  |false=>
   simp only[haa]
   simp[hnn]
   intro hm
   have:=List.any_eq_false.1 haa _ hm
   simp at this
  |true=>
   have:=hdf haa
   simp only[haa,this]
   simp[hnn]
   obtain⟨y,hy,he⟩:=List.any_eq_true.1 haa
   simp only[decide_eq_true_eq]at he
   subst he
   exact hy
set_option maxHeartbeats 40000000

open Go.Proofs
def bigC (c:Cmd):Bool:=decide (1000<c.name.length)||decide (1000<c.other.length)||decide (1000<c.word.length)||decide (1000<c.salt.length)||decide (1000<c.grant.sp.f.length)||decide (1000<c.grant.sp.t.length)
def Kk (l:List Cmd):Bool:=decide (80<l.length)||l.any bigC
theorem Aa5 (c:Cmd):bigC c=true↔(1000<c.name.length∨1000<c.other.length∨1000<c.word.length∨1000<c.salt.length∨1000<c.grant.sp.f.length∨1000<c.grant.sp.t.length):=by
 unfold bigC
 simp only[Bool.or_eq_true,decide_eq_true_eq,or_assoc]
theorem Agu (l:List Cmd) (hl:l.length≤maxLen):Fn Tryz.prog Px [.v (.list (l.map Cmd.toI))] (Is (.v (.bool (Kk l))) [.no]):=by
 refine N6 ?_ (by simp)
 repeat'((conv=>whnf);first|(refine eI ?_ ?_;focus (and_intros<;>exact rfl))|(intro hfact))
 all_goals(try(conv=>whnf))
 refine LoopWq.by (X:=Nat) (fun k=>[(7,.v (.int .i64 k))]) (fun k=>k≤l.length∧k≤80∧∀x∈l.take k,bigC x=false) (fun k=>l.length - k)
  0 (by kernel_rfl) ⟨Nat.zero_le _,Nat.zero_le _,by simp⟩ ?_
 rintro k ⟨h1,h2,h3⟩
 by_cases hk:k<l.length
 ·obtain⟨e,he⟩:∃e,l[k]?=some e:=⟨_,List.getElem?_eq_getElem hk⟩
  have hlt:¬decide ((k:Int)<((l.map Cmd.toI).length:Int))=false:=by simp[hk]
  have hem:=List.mem_of_getElem? he
  have hB:=Aa5 e
  have hgt:bigC e=true∨80≤k→Kk l=true:=fun h=>by
   unfold Kk
   rw[Bool.or_eq_true]
   rcases h with h|h
   ·exact .inr (List.any_eq_true.2 ⟨e,hem,h⟩)
   ·exact .inl (by simp;omega)
  generalize hG:Kk l=G at hgt ⊢
  repeat'((conv=>whnf);first|(apply aI<;>intro hb<;>first|exact absurd hb (by first|assumption|decide)|((try rw[hb]);(try simp only[Aa]at hb)))|(refine eI ?_ ?_;focus (and_intros<;>first|omega|exact rfl|(simp;done)))|(intro hfact)|((try dsimp only);first|rw[Au he]|rw[Am he]|rw[An he]))
  all_goals(try(conv=>whnf))
  all_goals first
   |(obtain rfl:G=true:=hgt (by rw[hB];omega)
     exact Done.mk ⟨by kernel_rfl,by kernel_rfl⟩ (by kernel_rfl))
   |(refine Round.by (k+1) ?_ ⟨hk,by omega,?_⟩ (by omega)
     ·rw[Ae hk hl]
      show norm _ _=upd _ _
      kernel_rfl
     ·intro x hx
      rw[List.take_add_one,he]at hx
      simp only[Option.toList_some,List.mem_append,List.mem_singleton]at hx
      rcases hx with hx|rfl
      ·exact h3 x hx
      ·cases hbx:bigC x with
       |false=>rfl
       |true=>rw[hbx]at hB;have:=hB.1 rfl;omega)
 ·have hlt:¬decide ((k:Int)<((l.map Cmd.toI).length:Int))=true:=by simp;omega
  have hG:Kk l=false:=by
   unfold Kk
   rw[List.take_of_length_le (by omega)]at h3
   rw[Bool.or_eq_false_iff]
   exact⟨by simp;omega,List.any_eq_false.2 fun x hx=>by simp[h3 x hx]⟩
  rw[hG]
  repeat'((conv=>whnf);(apply aI<;>intro hb<;>first|exact absurd hb (by assumption)|((try rw[hb]);(try simp only[Aa]at hb))))
  all_goals(try(conv=>whnf))
  exact Done.mk ⟨by kernel_rfl,by kernel_rfl⟩ (by kernel_rfl)
set_option maxHeartbeats 4000000

open Go.Proofs
structure Roll.Fit (r:Roll):Prop where
 hV:1≤r.rev∧r.rev≤1099511627776
 hT:r.tens.length≤8
 hU:r.usrs.length≤16
 hX:r.rols.length≤16
 hR:∀u∈r.usrs,u.roles.length≤4
 hG:∀x∈r.rols,x.grants.length≤8
theorem Roll.Fit.small {r:Roll} (h:r.Fit):r.Small:=
 ⟨by have:=h.hT;omega,by have:=h.hU;omega,by have:=h.hX;omega,fun u hu=>by have:=h.hR u hu;omega,fun x hx=>by have:=h.hG x hx;omega⟩
theorem Ko {α:Type} {gt:α→Bool} {x y:α}:∀{l:List α},y∈B2 gt x l↔y=x∨y∈l
 | []=>by simp[B2]
 |a::r=>by
  unfold B2
  split
  ·simp
  ·simp only[List.mem_cons,Ko (l:=r)]
   constructor
   ·rintro(h|h|h)<;>simp[h]
   ·rintro(h|h|h)<;>simp[h]
theorem Hu {α:Type} {l:List α} {j:Nat} {x y:α} (h:y∈l.set j x):y=x∨y∈l:=(List.mem_or_eq_of_mem_set h).symm
theorem Arb {r:Roll} (hf:r.Fit) (c:Cmd):(doM r c).1.Fit:=by
 obtain⟨hV,hT,hU,hX,hR,hG⟩:=hf
 unfold doM
 split
 ·exact⟨hV,hT,hU,hX,hR,hG⟩
 split
 ·exact⟨hV,hT,hU,hX,hR,hG⟩
 rename_i h1 h2
 have hV':1≤r.rev+1∧r.rev+1≤1099511627776:=by omega
 split
 ·unfold Fe
  repeat' split
  all_goals first|exact⟨hV,hT,hU,hX,hR,hG⟩|skip
  refine⟨hV',?_,hU,hX,hR,hG⟩
  rw[F5];omega
 split
 ·unfold E9
  repeat' split
  all_goals first|exact⟨hV,hT,hU,hX,hR,hG⟩|skip
  exact⟨hV',by simpa using hT,hU,hX,hR,hG⟩
 split
 ·unfold Kj
  repeat' split
  all_goals first|exact⟨hV,hT,hU,hX,hR,hG⟩|skip
  refine⟨hV',hT,?_,hX,?_,hG⟩
  ·rw[F5];omega
  ·intro u hu
   rcases Ko.1 hu with rfl|hu
   ·simp
   ·exact hR u hu
 split
 ·unfold Hi
  repeat' split
  all_goals first|exact⟨hV,hT,hU,hX,hR,hG⟩|skip
  rename_i u hu
  refine⟨hV',hT,by simpa using hU,hX,?_,hG⟩
  intro v hv
  rcases Hu hv with rfl|hv
  ·exact hR u (List.mem_of_getElem? hu)
  ·exact hR v hv
 split
 ·unfold E7
  repeat' split
  all_goals first|exact⟨hV,hT,hU,hX,hR,hG⟩|skip
  refine⟨hV',hT,?_,hX,?_,hG⟩
  ·simp;omega
  ·intro v hv
   rcases List.mem_append.1 hv with hv|hv
   ·exact hR v (List.mem_of_mem_take hv)
   ·exact hR v (List.mem_of_mem_drop hv)
 split
 ·unfold Kg
  repeat' split
  all_goals first|exact⟨hV,hT,hU,hX,hR,hG⟩|skip
  refine⟨hV',hT,hU,?_,hR,?_⟩
  ·rw[F5];omega
  ·intro u hu
   rcases Ko.1 hu with rfl|hu
   ·simp
   ·exact hG u hu
 split
 ·unfold He
  repeat' split
  all_goals first|exact⟨hV,hT,hU,hX,hR,hG⟩|skip
  refine⟨hV',hT,by simpa using hU,?_,?_,?_⟩
  ·simp;omega
  ·intro v hv
   obtain⟨u,hu,rfl⟩:=List.mem_map.1 hv
   exact Nat.le_trans (List.length_filter_le _ _) (hR u hu)
  ·intro v hv
   rcases List.mem_append.1 hv with hv|hv
   ·exact hG v (List.mem_of_mem_take hv)
   ·exact hG v (List.mem_of_mem_drop hv)
 split
 ·unfold E4
  repeat' split
  all_goals first|exact⟨hV,hT,hU,hX,hR,hG⟩|skip
  refine⟨hV',hT,hU,by simpa using hX,hR,?_⟩
  intro v hv
  rcases Hu hv with rfl|hv
  ·simp;omega
  ·exact hG v hv
 split
 ·unfold Dp
  repeat' split
  all_goals first|exact⟨hV,hT,hU,hX,hR,hG⟩|skip
  refine⟨hV',hT,hU,by simpa using hX,hR,?_⟩
  intro v hv
  rcases Hu hv with rfl|hv
  ·dsimp only;omega
  ·exact hG v hv
 ·unfold Du
  repeat' split
  all_goals first|exact⟨hV,hT,hU,hX,hR,hG⟩|skip
  ·rename_i u hu _ _
   refine⟨hV',hT,by simpa using hU,hX,?_,hG⟩
   intro v hv
   rcases Hu hv with rfl|hv
   ·exact Nat.le_trans (List.length_filter_le _ _) (hR u (List.mem_of_getElem? hu))
   ·exact hR v hv
  ·refine⟨hV',hT,by simpa using hU,hX,?_,hG⟩
   intro v hv
   rcases Hu hv with rfl|hv
   ·rw[F5];omega
   ·exact hR v hv
theorem Ai5 (a b:Ad):(Ea a b).Fit:=⟨⟨by show(1:Int)≤1;omega,by show(1:Int)≤1099511627776;omega⟩,Nat.zero_le _,by show 1≤16;decide,Nat.zero_le _,by intro u hu;simp[Ea]at hu;subst hu;simp,by intro x hx;simp[Ea]at hx⟩

open Go.Proofs
theorem Ng {α:Type} {nm:α→Ad} {y:α} {n:Ad} (hy:nm y=n):∀{l:List α},Dt nm l→(∀x∈l,nm x≠n)→Dt nm (B2 (fun e=>decide (n<nm e)) y l)
 | [],_,_=>by simp[B2]
 |a::r,h,hn=>by
  obtain⟨h1,h2⟩:=List.pairwise_cons.1 h
  unfold B2
  by_cases hlt:n<nm a
  ·rw[if_pos (by simpa using hlt)]
   refine List.pairwise_cons.2 ⟨fun x hx=>?_,h⟩
   rw[hy]
   rcases List.mem_cons.1 hx with rfl|hx
   ·exact hlt
   ·exact List.lt_trans hlt (h1 x hx)
  ·rw[if_neg (by simpa using hlt)]
   have ha:nm a<n:=by
    rcases Akk (nm a) n with h|h|h
    ·exact h
    ·exact absurd h (hn a (List.mem_cons_self ..))
    ·exact absurd h hlt
   refine List.pairwise_cons.2 ⟨fun x hx=>?_,Ng hy h2 fun x hx=>hn x (List.mem_cons_of_mem _ hx)⟩
   rcases Ko.1 hx with rfl|hx
   ·rw[hy];exact ha
   ·exact h1 x hx
theorem Ap8 {α:Type} {nm:α→Ad} {l:List α}:Dt nm l↔(l.map nm).Pairwise (· < ·):=List.pairwise_map.symm
theorem J5 {α:Type} {nm:α→Ad} {l:List α} {j:Nat} {x y:α} (hr:Dt nm l) (h:l[j]?=some x) (hn:nm y=nm x):Dt nm (l.set j y):=by
 rw[Ap8]at hr ⊢
 have:(l.set j y).map nm=l.map nm:=by
  rw[List.map_set,hn]
  obtain⟨hj,hx⟩:=List.getElem?_eq_some_iff.1 h
  apply List.ext_getElem?
  intro i
  rw[List.getElem?_set]
  split
  ·rename_i e;subst e;simp[hj,hx]
  ·rfl
 rw[this]
 exact hr
theorem Afh {α:Type} {nm:α→Ad} {l:List α} (hr:Dt nm l) (j:Nat):Dt nm (l.take j++l.drop (j+1)):=by
 rw[←List.eraseIdx_eq_take_drop_succ]
 exact hr.sublist (List.eraseIdx_sublist ..)
theorem Aq3 {α:Type} {p:α→Bool} {l:List α} (h:findAt p 0 l<0):∀x∈l,p x=false:=by
 rcases Gq p 0 l with⟨h1,_⟩|⟨j,x,h1,_⟩
 ·intro x hx
  have:=List.find?_eq_none.1 h1 x hx
  simpa using this
 ·omega
theorem Aq4 {α:Type} {p:α→Bool} {l:List α} (h:¬findAt p 0 l<0):∃x,l[(findAt p 0 l).toNat]?=some x∧p x=true:=by
 rcases Gq p 0 l with⟨_,h1⟩|⟨j,x,h1,h2,h3⟩
 ·omega
 ·refine⟨x,?_,List.find?_some h3⟩
  rw[h1]
  simpa using h2
theorem Aj2 {r:Roll} (h:r.Sorted) (c:Cmd):(doM r c).1.Sorted:=by
 obtain⟨hT,hU,hX,hR⟩:=h
 have h0:r.Sorted:=⟨hT,hU,hX,hR⟩
 have nn:∀{α:Type} {nm:α→Ad} {l:List α} {n:Ad},findAt (fun t=>decide (nm t=n)) 0 l<0→∀x∈l,nm x≠n:=fun h x hx=>by simpa using Aq3 h x hx
 unfold doM
 split
 ·exact h0
 split
 ·exact h0
 split
 ·unfold Fe
  repeat' split
  all_goals try exact h0
  exact⟨Ng (nm:=Ten.name) (n:=c.name) rfl hT (nn (show r.tenAt c.name<0 by omega)),hU,hX,hR⟩
 split
 ·unfold E9
  repeat' split
  all_goals try exact h0
  rename_i hn
  obtain⟨x,hx,hp⟩:=Aq4 hn
  exact⟨J5 hT hx (by simpa using(of_decide_eq_true hp).symm),hU,hX,hR⟩
 split
 ·unfold Kj
  repeat' split
  all_goals try exact h0
  refine⟨hT,Ng (nm:=Usr.name) (n:=c.name) rfl hU (nn (show r.usrAt c.name<0 by omega)),hX,fun u hu=>?_⟩
  rcases Ko.1 hu with rfl|hu
  ·exact List.Pairwise.nil
  ·exact hR u hu
 split
 ·unfold Hi
  repeat' split
  all_goals try exact h0
  rename_i hn _ u hu
  refine⟨hT,J5 hU hu rfl,hX,fun v hv=>?_⟩
  rcases Hu hv with rfl|hv
  ·exact hR u (List.mem_of_getElem? hu)
  ·exact hR v hv
 split
 ·unfold E7
  repeat' split
  all_goals try exact h0
  refine⟨hT,Afh hU _,hX,fun v hv=>?_⟩
  rcases List.mem_append.1 hv with hv|hv
  ·exact hR v (List.mem_of_mem_take hv)
  ·exact hR v (List.mem_of_mem_drop hv)
 split
 ·unfold Kg
  repeat' split
  all_goals try exact h0
  exact⟨hT,hU,Ng (nm:=Rol.name) (n:=c.name) rfl hX (nn (show r.rolAt c.name<0 by omega)),hR⟩
 split
 ·unfold He
  repeat' split
  all_goals try exact h0
  refine⟨hT,List.pairwise_map.2 hU,Afh hX _,fun v hv=>?_⟩
  obtain⟨u,hu,rfl⟩:=List.mem_map.1 hv
  exact(hR u hu).filter _
 split
 ·unfold E4
  repeat' split
  all_goals try exact h0
  rename_i x hx _ _
  exact⟨hT,hU,J5 hX hx rfl,hR⟩
 split
 ·unfold Dp
  repeat' split
  all_goals try exact h0
  rename_i x hx _
  exact⟨hT,hU,J5 hX hx rfl,hR⟩
 ·unfold Du
  repeat' split
  all_goals try exact h0
  ·rename_i u hu _ _
   refine⟨hT,J5 hU hu rfl,hX,fun v hv=>?_⟩
   rcases Hu hv with rfl|hv
   ·exact(hR u (List.mem_of_getElem? hu)).filter _
   ·exact hR v hv
  ·rename_i u hu _ _ _ x hx _ ha _
   refine⟨hT,J5 hU hu rfl,hX,fun v hv=>?_⟩
   rcases Hu hv with rfl|hv
   ·exact Ng (nm:=Cj) rfl (hR u (List.mem_of_getElem? hu)) fun y hy=>by
     intro e
     apply ha
     exact List.any_eq_true.2 ⟨y,hy,by simpa using e⟩
   ·exact hR v hv
theorem Yu (a b:Ad):(Ea a b).Sorted:=⟨List.Pairwise.nil,by simp[Ea],List.Pairwise.nil,by intro u hu;simp[Ea]at hu;subst hu;exact List.Pairwise.nil⟩
set_option maxHeartbeats 40000000

open Go.Proofs
def next (r:Roll) (c:Cmd):Roll:=(doM r c).1
theorem U4:∀(l:List Cmd) (r:Roll),r.Fit→r.Sorted→(l.foldl next r).Fit∧(l.foldl next r).Sorted
 | [],r,h1,h2=>⟨h1,h2⟩
 |c::l,r,h1,h2=>U4 l _ (Arb h1 c) (Aj2 h2 c)
theorem Aqe (r:Roll) (hf:r.Fit) (hs:r.Sorted) (c:Cmd) (hc:c.salt.length≤100000∧c.word.length≤100000):Fn Tryz.prog Aa4 [.v r.toI,.v c.toI] (Is (.tup [.i (doM r c).1.toI,.i (.int .i64 (doM r c).2)]) [.no,.no]):=by
 rw[←Arx r hs c]
 exact J6 r hf.small c hc (by have:=hf.hV;omega)
end Go.Ab
