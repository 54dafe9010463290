/- Lemmas for the last text. -/
import Derived.Test.YtgcccllpegilnaaGreatDoorN0
set_option linter.unusedVariables false
set_option linter.unusedSimpArgs false
set_option maxRecDepth 100000
namespace Go.Ab
open Go.Proofs
abbrev Ro:FuncId:=11
def Qm:Stm:=(.seq (.ops [O1 (.box 2 0),O1 (.box 3 1),gA 4 cF]) (.seq (.seq (.ops [gF 14 2 0,gL 15 14,gF 16 3 0,gL 17 16,gB 18 .neq 15 17,gM 19 18,qf 19 (iG 20 2 1 1),qf 19 (iL 21 20),qf 19 (iN 22 21),qf 19 (iG 23 3 1 1),qf 19 (iL 24 23),qf 19 (iN 25 24),qf 19 (iB 26 .neq 22 25),gP 27 19 cT 26,gM 28 27,qf 28 (iG 29 2 2 2),qf 28 (iL 30 29),qf 28 (iN 31 30),qf 28 (iG 32 3 2 2),qf 28 (iL 33 32),qf 28 (iN 34 33),qf 28 (iB 35 .neq 31 34),gP 36 28 cT 35,gM 37 36,qf 37 (iG 38 2 3 3),qf 37 (iL 39 38),qf 37 (iN 40 39),qf 37 (iG 41 3 3 3),qf 37 (iL 42 41),qf 37 (iN 43 42),qf 37 (iB 44 .neq 40 43),gP 45 37 cT 44]) (.cond 45 (.seq (.ops [gA 4 cF]) .ret) .skip)) (.seq (.seq (.ops [gA 5 (cI 0)]) (.block 0 (.loop (kr [4] 46 18) (.seq (.seq (.ops [gM 46 5,gF 47 2 1,gL 48 47,gN 49 48,gB 50 .lss 46 49]) (.cond 50 .skip (.exit 0))) (.seq (.block 1 (.seq (.drw [[],[0],[],[1,2],[3],[],[5],[],[6,7],[8],[4,9]] [gF 53 2 1,gL 54 53,gM 55 5,gI 56 3 54 55,gU 57 3 56,gF 58 3 1,gL 59 58,gM 60 5,gI 61 3 59 60,gU 62 3 61,O1 (.eqs 63 true (.st [.str,(.int .i64),(.int .i64)]) 57 62)]) (.cond 63 (.seq (.ops [gA 4 cF]) .ret) .skip))) (.ops [gM 51 5,gB 52 .add 51 (cI 1),gA 5 52])))))) (.seq (.seq (.ops [gA 6 (cI 0)]) (.block 2 (.loop (kr [4,7,8,9] 64 70) (.seq (.seq (.ops [gM 64 6,gF 65 2 2,gL 66 65,gN 67 66,gB 68 .lss 64 67]) (.cond 68 .skip (.exit 2))) (.seq (.block 3 (.seq (.drw [[],[0],[],[1,2],[3],[],[5],[],[6,7],[8],[],[],[10,4,0,1,2,3,11],[11,9,12,0,1,2,3,4,5,6,7,8,10]] [gF 71 2 2,gL 72 71,gM 73 6,gI 74 5 72 73,gU 75 5 74,gF 76 3 2,gL 77 76,gM 78 6,gI 79 5 77 78,gU 80 5 79,O1 (.alloc 7 (.one (.i (.agg [(.str []),(.str []),(.str []),(.str []),(.list [])])))),O1 (.alloc 8 (.one (.i (.agg [(.str []),(.str []),(.str []),(.str []),(.list [])])))),gS 5 7 75,gS 5 8 80]) (.seq (.seq (.ops [gF 81 7 0,gL 82 81,gF 83 8 0,gL 84 83,gB 85 .neq 82 84,gM 86 85,qf 86 (iG 87 7 1 1),qf 86 (iL 88 87),qf 86 (iG 89 8 1 1),qf 86 (iL 90 89),qf 86 (iB 91 .neq 88 90),gP 92 86 cT 91,gM 93 92,qf 93 (iG 94 7 2 2),qf 93 (iL 95 94),qf 93 (iG 96 8 2 2),qf 93 (iL 97 96),qf 93 (iB 98 .neq 95 97),gP 99 93 cT 98,gM 100 99,qf 100 (iG 101 7 3 3),qf 100 (iL 102 101),qf 100 (iG 103 8 3 3),qf 100 (iL 104 103),qf 100 (iB 105 .neq 102 104),gP 106 100 cT 105,gM 107 106,qf 107 (iG 108 7 4 4),qf 107 (iL 109 108),qf 107 (iN 110 109),qf 107 (iG 111 8 4 4),qf 107 (iL 112 111),qf 107 (iN 113 112),qf 107 (iB 114 .neq 110 113),gP 115 107 cT 114]) (.cond 115 (.seq (.ops [gA 4 cF]) .ret) .skip)) (.seq (.ops [gA 9 (cI 0)]) (.block 4 (.loop (kr [4] 116 18) (.seq (.seq (.ops [gM 116 9,gF 117 7 4,gL 118 117,gN 119 118,gB 120 .lss 116 119]) (.cond 120 .skip (.exit 4))) (.seq (.block 5 (.seq (.drw [[],[0],[],[1,2],[3],[],[5],[],[6,7],[8],[4,9]] [gF 123 7 4,gL 124 123,gM 125 9,gI 126 1 124 125,gL 127 126,gF 128 8 4,gL 129 128,gM 130 9,gI 131 1 129 130,gL 132 131,gB 133 .neq 127 132]) (.cond 133 (.seq (.ops [gA 4 cF]) .ret) .skip))) (.ops [gM 121 9,gB 122 .add 121 (cI 1),gA 9 122]))))))))) (.ops [gM 69 6,gB 70 .add 69 (cI 1),gA 6 70])))))) (.seq (.seq (.ops [gA 10 (cI 0)]) (.block 6 (.loop (kr [4,11,12,13] 134 56) (.seq (.seq (.ops [gM 134 10,gF 135 2 3,gL 136 135,gN 137 136,gB 138 .lss 134 137]) (.cond 138 .skip (.exit 6))) (.seq (.block 7 (.seq (.drw [[],[0],[],[1,2],[3],[],[5],[],[6,7],[8],[],[],[10,4,0,1,2,3,11],[11,9,12,0,1,2,3,4,5,6,7,8,10]] [gF 141 2 3,gL 142 141,gM 143 10,gI 144 3 142 143,gU 145 3 144,gF 146 3 3,gL 147 146,gM 148 10,gI 149 3 147 148,gU 150 3 149,O1 (.alloc 11 (.one (.i (.agg [(.str []),(.str []),(.list [])])))),O1 (.alloc 12 (.one (.i (.agg [(.str []),(.str []),(.list [])])))),gS 3 11 145,gS 3 12 150]) (.seq (.seq (.ops [gF 151 11 0,gL 152 151,gF 153 12 0,gL 154 153,gB 155 .neq 152 154,gM 156 155,qf 156 (iG 157 11 1 1),qf 156 (iL 158 157),qf 156 (iG 159 12 1 1),qf 156 (iL 160 159),qf 156 (iB 161 .neq 158 160),gP 162 156 cT 161,gM 163 162,qf 163 (iG 164 11 2 2),qf 163 (iL 165 164),qf 163 (iN 166 165),qf 163 (iG 167 12 2 2),qf 163 (iL 168 167),qf 163 (iN 169 168),qf 163 (iB 170 .neq 166 169),gP 171 163 cT 170]) (.cond 171 (.seq (.ops [gA 4 cF]) .ret) .skip)) (.seq (.ops [gA 13 (cI 0)]) (.block 8 (.loop (kr [4] 172 18) (.seq (.seq (.ops [gM 172 13,gF 173 11 2,gL 174 173,gN 175 174,gB 176 .lss 172 175]) (.cond 176 .skip (.exit 8))) (.seq (.block 9 (.seq (.drw [[],[0],[],[1,2],[3],[],[5],[],[6,7],[8],[4,9]] [gF 179 11 2,gL 180 179,gM 181 13,gI 182 4 180 181,gU 183 4 182,gF 184 12 2,gL 185 184,gM 186 13,gI 187 4 185 186,gU 188 4 187,O1 (.eqs 189 true (.st [(.st [.str,.str]),.bool,.bool]) 183 188)]) (.cond 189 (.seq (.ops [gA 4 cF]) .ret) .skip))) (.ops [gM 177 13,gB 178 .add 177 (cI 1),gA 13 178]))))))))) (.ops [gM 139 10,gB 140 .add 139 (cI 1),gA 10 140])))))) (.seq (.ops [gA 4 cT]) .ret))))))
theorem Q1:OF 11 190 Qm [.t 4]:=oF Tryz.func11 rfl Tryz.ntmps11 (by kernel_rfl) (by kernel_rfl)
abbrev K4:FuncId:=22
def J1:Stm:=(.seq (.ops [O1 (.box 2 0),gA 4 cF]) (.seq (.ops [gM 5 1,gF 6 2 0,gL 7 6,gB 8 .geq 5 7,gM 9 8,qt 9 (iG 10 2 1 1),qt 9 (iL 11 10),qt 9 (iB 12 .eql 11 (cS [])),qt 9 (iM 13 12),qf 13 (iM 14 1),qf 13 (iG 15 2 1 1),qf 13 (iL 16 15),qf 13 (iB 17 .lss 14 16),qt 9 (iP 18 13 cT 17),gP 19 9 18 cF,gA 4 19]) .ret))
theorem Kq:OF 22 20 J1 [.t 4]:=oF Tryz.func22 rfl Tryz.ntmps22 (by kernel_rfl) (by kernel_rfl)
abbrev Sx:FuncId:=23
def R2:Stm:=(.seq (.ops [O1 (.box 2 0),gA 4 cF]) (.seq (.seq (.ops [gF 5 2 1,gL 6 5,gB 7 .eql 6 (cS [])]) (.cond 7 (.seq (.ops [gM 8 1,gF 9 2 0,gL 10 9,gB 11 .geq 8 10,gA 4 11]) .ret) .skip)) (.seq (.ops [gM 12 1,gF 13 2 0,gL 14 13,gB 15 .geq 12 14,gM 16 15,qt 16 (iM 17 1),qt 16 (iG 18 2 1 1),qt 16 (iL 19 18),qt 16 (iB 20 .lss 17 19),gP 21 16 20 cF,gA 4 21]) .ret)))
theorem Sd:OF 23 22 R2 [.t 4]:=oF Tryz.func23 rfl Tryz.ntmps23 (by kernel_rfl) (by kernel_rfl)
abbrev Ad1:FuncId:=93
def Acz:Stm:=(.seq (.ops [O1 (.box 1 0),gA 2 cF]) (.seq (.ops [gF 3 1 0,gL 4 3,O1 (.len 5 true 4),gB 6 .leq 5 (cI 65),gM 7 6,qt 7 (iG 8 1 1 1),qt 7 (iL 9 8),qt 7 (.len 10 true 9),qt 7 (iB 11 .leq 10 (cI 65)),gP 12 7 11 cF,gM 13 12,qt 13 (iG 14 1 1 1),qt 13 (iL 15 14),qt 13 (iB 16 .eql 15 (cS [])),qt 13 (iM 17 16),qf 17 (iG 18 1 0 0),qf 17 (iL 19 18),qf 17 (iG 20 1 1 1),qf 17 (iL 21 20),qf 17 (iB 22 .lss 19 21),qt 13 (iP 23 17 cT 22),gP 24 13 23 cF,gA 2 24]) .ret))
theorem Ac8:OF 93 25 Acz [.t 2]:=oF Tryz.func93 rfl Tryz.ntmps93 (by kernel_rfl) (by kernel_rfl)
abbrev Ad0:FuncId:=97
def Acy:Stm:=(.seq (.ops [O1 (.box 3 1),gA 4 (.nils 34 2)]) (.seq (.ops [gM 10 0,.call none (some 11) 124 [(false,10)],gA 5 11]) (.seq (.seq (.ops [gU 12 2 3,.call none (some 13) 93 [(false,12)],gT 14 13]) (.cond 14 (.seq (.ops [gM 15 5,O1 (.mov 4 34 2 15)]) .ret) .skip)) (.seq (.ops [gA 6 (.nils 34 2)]) (.seq (.seq (.ops [gM 16 5,gN 17 16,gM 18 (cI 0)]) (.block 0 (.loop (kr [8,9,10,15] 19 46) (.seq (.ops [gB 19 .lss 18 17]) (.seq (.cond 19 .skip (.exit 0)) (.seq (.block 1 (.seq (.ops [gI 20 2 16 18,gU 21 2 20,O1 (.alloc 8 (.one (.i (.agg [(.str []),(.str [])])))),gS 2 8 21]) (.seq (.seq (.ops [gF 22 8 0,gL 23 22,gF 24 3 0,gL 25 24,gB 26 .lss 23 25]) (.cond 26 (.seq (.ops [gU 27 2 8,O1 (.alloc 9 (.one (.i (.agg [(.str []),(.str [])])))),gS 2 9 27]) (.seq (.seq (.ops [gF 28 9 1,gL 29 28,gF 30 3 0,gL 31 30,.call none (some 32) 125 [(false,29),(false,31)],gB 33 .gtr 32 (cI 0)]) (.cond 33 (.ops [gF 34 3 0,gL 35 34,gF 36 9 1,gS 1 36 35]) .skip)) (.ops [gM 37 6,gU 38 2 9,O1 (.bsl 39 34 2 (.agg [(.str []),(.str [])]) 1 [(0,38)]),O1 (.app 40 34 2 32 37 39),gA 6 40]))) .skip)) (.seq (.ops [gF 41 3 1,gL 42 41,gB 43 .neq 42 (cS []),gM 44 43,qt 44 (iG 45 8 1 1),qt 44 (iL 46 45),qt 44 (iG 47 3 1 1),qt 44 (iL 48 47),.call (some (44,true)) (some 49) 125 [(false,46),(false,48)],qt 44 (iB 50 .gtr 49 (cI 0)),gP 51 44 50 cF]) (.cond 51 (.ops [gM 52 6,gF 53 8 0,gL 54 53,gF 55 3 1,gL 56 55,O1 (.mm 57 true 54 56),gF 58 8 1,gL 59 58,O1 (.build 60 [(.str []),(.str [])] [(0,57),(1,59)]),O1 (.bsl 61 34 2 (.agg [(.str []),(.str [])]) 1 [(0,60)]),O1 (.app 62 34 2 32 52 61),gA 6 62]) .skip))))) (.ops [gB 63 .add 18 (cI 1),gM 18 63]))))))) (.seq (.ops [gM 64 6,O1 (.mov 4 34 2 64)]) .ret))))))
theorem Ac7:OF 97 65 Acy [.t 4]:=oF Tryz.func97 rfl Tryz.ntmps97 (by kernel_rfl) (by kernel_rfl)
abbrev Ad2:FuncId:=124
def Ac0:Stm:=(.seq (.ops [gA 2 (.nils 34 2)]) (.seq (.ops [gM 7 0,.call none (some 8) 138 [(false,7)],.call none (some 9) 137 [(true,8),(false,(.c (.fn 139)))],gA 0 9]) (.seq (.ops [gM 10 0,.call none (some 11) 140 [(true,10),(false,(.c (.fn 141)))]]) (.seq (.ops [gA 3 (.nils 34 2)]) (.seq (.seq (.ops [gM 12 0,gN 13 12,gM 14 (cI 0)]) (.block 0 (.loop (kr [5,6,7,10] 15 50) (.seq (.ops [gB 15 .lss 14 13]) (.seq (.cond 15 .skip (.exit 0)) (.seq (.block 1 (.seq (.ops [gI 16 2 12 14,gU 17 2 16,O1 (.alloc 5 (.one (.i (.agg [(.str []),(.str [])])))),gS 2 5 17]) (.seq (.ops [gM 18 3,gN 19 18,gA 6 19]) (.seq (.drw [[],[0],[1],[2],[2],[4,2],[3,5,2],[6,2],[7,2],[8,2],[9,2],[10],[10],[12,10],[11,13,10],[14,10],[15,10],[10],[17,10],[16,18,10],[10,19,2],[2,20]] [gM 20 6,gB 21 .eql 20 (cI 0),gM 22 21,qf 22 (iM 23 3),qf 22 (iM 24 6),qf 22 (iB 25 .sub 24 (cI 1)),qf 22 (iI 26 2 23 25),qf 22 (iG 27 26 1 1),qf 22 (iL 28 27),qf 22 (iB 29 .neq 28 (cS [])),qf 22 (iM 30 29),qt 30 (iM 31 3),qt 30 (iM 32 6),qt 30 (iB 33 .sub 32 (cI 1)),qt 30 (iI 34 2 31 33),qt 30 (iG 35 34 1 1),qt 30 (iL 36 35),qt 30 (iG 37 5 0 0),qt 30 (iL 38 37),qt 30 (iB 39 .lss 36 38),qf 22 (iP 40 30 39 cF),gP 41 22 cT 40]) (.cond 41 (.ops [gM 42 3,gU 43 2 5,O1 (.bsl 44 34 2 (.agg [(.str []),(.str [])]) 1 [(0,43)]),O1 (.app 45 34 2 32 42 44),gA 3 45]) (.seq (.drw [[],[0],[],[],[3],[2,4],[5],[6],[1,7],[8]] [gF 46 5 1,gL 47 46,gM 48 3,gM 49 6,gB 50 .sub 49 (cI 1),gI 51 2 48 50,gF 52 51 1,gL 53 52,.call none (some 54) 125 [(false,47),(false,53)],gB 55 .gtr 54 (cI 0)]) (.cond 55 (.ops [gM 56 3,gM 57 6,gB 58 .sub 57 (cI 1),gF 59 5 1,gL 60 59,gI 61 2 56 58,gF 62 61 1,gS 1 62 60]) .skip))))))) (.ops [gB 63 .add 14 (cI 1),gM 14 63]))))))) (.seq (.ops [gM 64 3,O1 (.mov 2 34 2 64)]) .ret))))))
theorem Ac9:OF 124 65 Ac0 [.t 2]:=oF Tryz.func124 rfl Tryz.ntmps124 (by kernel_rfl) (by kernel_rfl)
abbrev Ahj:FuncId:=125
def Aex:Stm:=(.seq (.ops [gA 4 (cI 0)]) (.seq (.block 0 (.seq (.ops [gM 6 0,gM 7 1,gB 8 .eql 6 7,gA 5 8]) (.cond 5 (.seq (.ops [gA 4 (cI 0)]) .ret) (.seq (.ops [gM 10 0,gB 11 .eql 10 (cS []),gA 9 11]) (.cond 9 (.seq (.ops [gA 4 (cI 1)]) .ret) (.seq (.ops [gM 13 1,gB 14 .eql 13 (cS []),gA 12 14]) (.cond 12 (.seq (.ops [gA 4 (cI (-1))]) .ret) .skip))))))) (.seq (.ops [gM 15 0,gM 16 1,.call none (some 17) 111 [(false,15),(false,16)],gA 4 17]) .ret)))
theorem Ae7:OF 125 18 Aex [.t 4]:=oF Tryz.func125 rfl Tryz.ntmps125 (by kernel_rfl) (by kernel_rfl)
abbrev Z0:FuncId:=139
def Yo:Stm:=(.seq (.ops [O1 (.box 1 0),gA 2 cF]) (.seq (.ops [gU 3 2 1,.call none (some 4) 93 [(false,3)],gT 5 4,gA 2 5]) .ret))
theorem Yv:OF 139 6 Yo [.t 2]:=oF Tryz.func139 rfl Tryz.ntmps139 (by kernel_rfl) (by kernel_rfl)

open Go.Proofs
theorem Hc (s:Sp):Fn Tryz.prog Ad1 [.v s.toI] (Is (.v (.bool (decide (Bj s)))) [.no]):=by
 refine Ac8 ?_ (by simp)
 repeat'((conv=>whnf);first|(apply aI<;>intro hb<;>first|exact absurd hb (by decide)|((try rw[hb]);(try simp only[Aa]at hb)))|(refine eI ?_ ?_;focus (and_intros<;>first|omega|exact rfl|(simp;done)))|(intro hfact))
 all_goals(try(conv=>whnf))
 all_goals(refine Done.mk ⟨SV.bool_congr ?_,by kernel_rfl⟩ (by kernel_rfl))
 all_goals(simp[Bj,Cu]at*;grind)
theorem T6 (s:Sp) (k:Ad):Fn Tryz.prog Sx [.v s.toI,.v (.str k)] (Is (.v (.bool (decide (SpH s k)))) [.no,.no]):=by
 refine Sd ?_ (by simp)
 repeat'((conv=>whnf);first|(apply aI<;>intro hb<;>first|exact absurd hb (by decide)|((try rw[hb]);(try simp only[Aa]at hb)))|(refine eI ?_ ?_;focus (and_intros<;>first|omega|exact rfl|(simp;done))))
 all_goals(try(conv=>whnf))
 all_goals(refine Done.mk ⟨SV.bool_congr ?_,by kernel_rfl⟩ (by kernel_rfl))
 all_goals(simp[SpH,Cu]at*;grind)
theorem Zg (k:Ad):Fn Tryz.prog Uu [.v (.str k)] (Is (.v (.bool false)) [.no]):=by
 refine Ut ?_ (by simp)
 (conv=>whnf)
 all_goals(try(conv=>whnf))
 exact Done.mk ⟨SV.bool_congr (by simp),by kernel_rfl⟩ (by kernel_rfl)
def cmpS (a b:Ad):Int:=if a<b then -1 else if b<a then 1 else 0
theorem Jg (a b:Ad):Fn Tryz.prog Sv [.v (.str a),.v (.str b)] (Is (.v (.int .i64 (cmpS a b))) [.no,.no]):=by
 refine Sb ?_ (by simp)
 repeat'((conv=>whnf);first|(apply aI<;>intro hb<;>first|exact absurd hb (by decide)|((try rw[hb]);(try simp only[Aa]at hb)))|(refine eI ?_ ?_;focus (and_intros<;>first|(intro _ hh;cases hh;done)|(simp;done)|decide))|(refine CallWp.mk ⟨_,Zg _,?_⟩;rintro _ _ ⟨rfl,rfl⟩))
 all_goals(try(conv=>whnf))
 all_goals(refine Done.mk ⟨congrArg (fun n=>SV.v (.int .i64 n)) ?_,by kernel_rfl⟩ (by kernel_rfl))
 all_goals(simp[cmpS,Cu]at* <;>grind)
def Fm (a b:Ad):Int:=if a=b then 0 else if a=[]then 1 else if b=[]then -1 else cmpS a b
theorem Kv (a b:Ad):Fn Tryz.prog Ahj [.v (.str a),.v (.str b)] (Is (.v (.int .i64 (Fm a b))) [.no,.no]):=by
 refine Ae7 ?_ (by simp)
 repeat'((conv=>whnf);first|(refine aI (fun hb=>?_) (fun hb=>?_)<;>((try rw[hb]);(try simp only[Aa]at hb);(try subst hb)))|(refine eI ?_ ?_;focus (and_intros<;>first|(intro _ hh;cases hh;done)|(simp;done)|decide))|(refine CallWp.mk ⟨_,Jg _ _,?_⟩;rintro _ _ ⟨rfl,rfl⟩))
 all_goals(try(conv=>whnf))
 all_goals(refine Done.mk ⟨congrArg (fun n=>SV.v (.int .i64 n)) ?_,by kernel_rfl⟩ (by kernel_rfl))
 all_goals(simp[Fm]at* <;>grind)
def SpIn (a b:Sp):Prop:=Bj a∧Bj b∧b.f≤a.f∧Fm a.t b.t≤0
instance (a b:Sp):Decidable (SpIn a b):=by unfold SpIn;infer_instance
set_option maxHeartbeats 1000000

open Go.Proofs
abbrev sps (l:List Sp):List I:=l.map Sp.toI
theorem J9 (l:List Sp):∀u∈sps l,u.size=2:=by
 intro u hu
 obtain⟨e,_,rfl⟩:=List.mem_map.1 hu
 rfl
theorem J8 {l:List Sp} {k:Nat} {e:Sp} (h:l[k]?=some e):(sps l)[k]?=some e.toI:=by simp[h]
theorem Aa0 (s:Sp):Fn Tryz.prog Z0 [.v s.toI] (Is (.v (.bool (!decide (Bj s)))) [.no]):=by
 refine Yv ?_ (by simp)
 repeat'((conv=>whnf);first|(refine eI ?_ ?_;focus (and_intros<;>first|omega|exact rfl|(intro _ hh;cases hh;done)|(simp;done)|decide))|(refine CallWp.mk ⟨_,Hc _,?_⟩;rintro _ _ ⟨rfl,rfl⟩))
 all_goals(try(conv=>whnf))
 exact Done.mk ⟨rfl,by kernel_rfl⟩ (by kernel_rfl)
theorem Ait (l:List Sp) (hl:l.length≤1000000):Fn Tryz.prog G5 [.v (.list (sps l))] (Is (.vec 34 2 (sps l)) [.no]):=by
 refine Gd ?_ (by simp)
 have h1:(([]:List I).length+(sps l).length)*32≤140737488355328:=by simp;omega
 have h2:([]:List I).length+(sps l).length≤maxLen:=by simp[maxLen];omega
 have h3:=J9 l
 repeat'((conv=>whnf);first|(refine aI (fun hb=>?_) (fun hb=>?_)<;>((try rw[hb]);(try subst hb)))|(refine eI ?_ ?_;focus (and_intros<;>first|omega|exact rfl|(simp;done)))|(intro hfact))
 all_goals(try(conv=>whnf))
 ·refine Done.mk ⟨congrArg (fun l=>SV.vec 34 2 l) ?_,by kernel_rfl⟩ (by kernel_rfl)
  simp_all
 ·exact Done.mk ⟨congrArg (fun l=>SV.vec 34 2 l) (List.nil_append _),by kernel_rfl⟩ (by kernel_rfl)
theorem Kn {e sz:Nat} {l:List I} {n:Nat} {u:I} (h:l[n]?=some u):(SV.vec e sz l).hit 0 [n]=some (n*sz+0,.item u):=by
 have:u.sub []=some (0,u):=by cases u<;>rfl
 simp[SV.hit,hitV,h,hitI,this]
def badB (s:Sp):Bool:= !decide (Bj s)
def idxF (p:Sp→Bool):Nat→List Sp→Int
 |_,[]=> -1
 |k,s::r=>if p s=true then k else idxF p (k+1) r
theorem Amj (l:List Sp) (hl:l.length≤1000000):Fn Tryz.prog Fh [.v (.list (sps l)),.v (.fn 139)] (Is (.v (.int .i64 (idxF badB 0 l))) [.no,.no]):=by
 refine E8 ?_ (by simp)
 have hmax:l.length≤maxLen:=by simp only[maxLen];omega
 repeat'((conv=>whnf);first|(refine eI ?_ ?_;focus (and_intros<;>exact rfl))|(intro hfact))
 all_goals(try(conv=>whnf))
 refine LoopWq.by (X:=Nat) (fun x=>[(8,.v (.int .i64 x))]) (fun x=>x≤l.length∧idxF badB x (l.drop x)=idxF badB 0 l) (fun x=>l.length - x)
  0 (by kernel_rfl) ⟨Nat.zero_le _,rfl⟩ ?_
 rintro k ⟨h1,h2⟩
 by_cases hk:k<l.length
 ·obtain⟨e,he⟩:∃e,l[k]?=some e:=⟨_,List.getElem?_eq_getElem hk⟩
  have hg:(sps l)[Int.toNat (k:Int)]?=some e.toI:=J8 he
  have hlt:¬decide ((k:Int)<((sps l).length:Int))=false:=by simp[hk]
  have hkl:Int.toNat (k:Int)<(sps l).length:=by simp[hk]
  have hke:l[k]=e:=by rw[List.getElem?_eq_getElem hk]at he;simpa using he
  rw[List.drop_eq_getElem_cons hk,hke]at h2
  repeat'((conv=>whnf);first|(apply aI<;>intro hb<;>first|exact absurd hb (by assumption)|((try rw[hb]);(try simp only[Aa]at hb)))|(refine eI ?_ ?_;focus (and_intros<;>first|omega|exact rfl|(intro _ hh;cases hh;done)|(simp;done)|decide))|((try dsimp only);rw[hg])|(refine CallWp.mk ⟨_,Aa0 _,?_⟩;rintro _ _ ⟨rfl,rfl⟩))
  all_goals(try(conv=>whnf))
  ·refine Done.mk ⟨congrArg (fun n=>SV.v (.int .i64 n)) ?_,by kernel_rfl⟩ (by kernel_rfl)
   rw[←h2,idxF,if_pos (by first|assumption|simp[badB, *])]
  ·refine Round.by (k+1) ?_ ?_ ?_
   ·rw[Ae hk hmax]
    show norm _ _=upd _ _
    kernel_rfl
   ·refine⟨hk,?_⟩
    rw[←h2,idxF,if_neg (by have:=hb;simp only[badB];simp at this ⊢;exact this)]
   ·show l.length - (k+1)<l.length - k
    omega
 ·have hlt:¬decide ((k:Int)<((sps l).length:Int))=true:=by simp;omega
  repeat'((conv=>whnf);(apply aI<;>intro hb<;>first|exact absurd hb (by assumption)|((try rw[hb]);(try simp only[Aa]at hb))))
  all_goals(try(conv=>whnf))
  refine Done.mk ⟨congrArg (fun n=>SV.v (.int .i64 n)) ?_,by kernel_rfl⟩ (by kernel_rfl)
  rw[←h2,List.drop_eq_nil_of_le (by omega)]
  rfl
set_option maxHeartbeats 8000000

open Go.Proofs
structure Ten where
 (name:Ad) (mb ks:Int)
 deriving DecidableEq
structure Gra where
 (sp:Sp) (r w:Bool)
 deriving DecidableEq
structure Usr where
 (name ten salt hash:Ad) (roles:List Ad)
 deriving DecidableEq
structure Rol where
 (name ten:Ad) (grants:List Gra)
 deriving DecidableEq
structure Roll where
 (rev:Int) (tens:List Ten) (usrs:List Usr) (rols:List Rol)
 deriving DecidableEq
abbrev Ten.toI (t:Ten):I:=.agg [.str t.name,.int .i64 t.mb,.int .i64 t.ks]
abbrev Gra.toI (g:Gra):I:=.agg [g.sp.toI,.bool g.r,.bool g.w]
abbrev Usr.toI (u:Usr):I:=.agg [.str u.name,.str u.ten,.str u.salt,.str u.hash,.list (strs u.roles)]
abbrev Rol.toI (x:Rol):I:=.agg [.str x.name,.str x.ten,.list (x.grants.map Gra.toI)]
abbrev Roll.toI (r:Roll):I:=.agg [.int .i64 r.rev,.list (r.tens.map Ten.toI),.list (r.usrs.map Usr.toI),.list (r.rols.map Rol.toI)]
def findAt {α:Type} (p:α→Bool):Nat→List α→Int
 |_,[]=> -1
 |k,a::r=>if p a then k else findAt p (k+1) r
abbrev Roll.tenAt (r:Roll) (n:Ad):Int:=findAt (fun t:Ten=>decide (t.name=n)) 0 r.tens
abbrev Roll.usrAt (r:Roll) (n:Ad):Int:=findAt (fun t:Usr=>decide (t.name=n)) 0 r.usrs
abbrev Roll.rolAt (r:Roll) (n:Ad):Int:=findAt (fun t:Rol=>decide (t.name=n)) 0 r.rols

open Go.Proofs
def B2 {α:Type} (gt:α→Bool) (x:α):List α→List α
 | []=>[x]
 |a::r=>if gt a then x::a::r else a::B2 gt x r
theorem F5 {α:Type} (gt:α→Bool) (x:α):∀l:List α,(B2 gt x l).length=l.length+1
 | []=>rfl
 |a::r=>by
  unfold B2
  split
  ·simp
  ·simp[F5 gt x r]
theorem Yg (e x:Gra):(decide (e.sp.f=x.sp.f)&&(decide (e.sp.t=x.sp.t)&&true)&&(decide (e.r=x.r)&&(decide (e.w=x.w)&&true)))=decide (e=x):=by
 obtain⟨⟨a,b⟩,c,d⟩:=e
 obtain⟨⟨a',b'⟩,c',d'⟩:=x
 simp only[Bool.and_true]
 by_cases h1:a=a'<;>by_cases h2:b=b'<;>by_cases h3:c=c'<;>by_cases h4:d=d'<;>simp[h1,h2,h3,h4]

open Go.Proofs
abbrev Usr.toD (u:Usr):D:=.st [.it (.str u.name),.it (.str u.ten),.it (.str u.salt),.it (.str u.hash),.vec B3 1 ((u.roles.map I.str).map D.it)]
abbrev Rol.toD (x:Rol):D:=.st [.it (.str x.name),.it (.str x.ten),.vec Bt 4 ((x.grants.map Gra.toI).map D.it)]
abbrev Roll.toD (r:Roll):D:=.st [.it (.int .i64 r.rev),.vec Ax 3 ((r.tens.map Ten.toI).map D.it),.vec Ar 5 (r.usrs.map Usr.toD),.vec Aq 3 (r.rols.map Rol.toD)]
structure Roll.Small (r:Roll):Prop where
 hT:r.tens.length≤1000
 hU:r.usrs.length≤1000
 hX:r.rols.length≤1000
 hR:∀u∈r.usrs,u.roles.length≤1000
 hG:∀x∈r.rols,x.grants.length≤1000

def Bu:SV→Option SV
 | .own _ t=>match t.toI with
   |some y=>some (.v y)
   |none=>none
 | .tupd l=>match toIs l with
   |some r=>some (.tup (r.map F.i))
   |none=>none
 | .v x=>some (.v x)
 |_=>none
theorem Ai8 {G:Mem} {y:I} {v:Value} (h:RepI G y v.cells.toList) (hv:valOf y.isAgg v=true):RepV G y v:=by
 unfold RepV
 cases hx:y.isAgg with
 |true=>
  rw[hx]at hv
  obtain⟨a',rfl⟩:=Gi hv
  rw[if_pos rfl]
  exact⟨a',rfl,h⟩
 |false=>
  rw[hx]at hv
  rw[B8 hv]at h
  rw[if_neg (by simp)]
  exact h
theorem Abv {G G':Mem} {σ:Lab} {w:World} {s:Nat} (hG:G.le G'):∀{l:List D} {r:List I} {cs:List Value} {bs:List Nat} {j:Nat},RepVs G w l cs bs→toIs l=some r→(∀b∈bs,G' b=w.heap[b]?)→RepTup G' σ w s j (r.map F.i) cs
 | [],r,cs,bs,j,h,hr,_=>by
   simp only[toIs,Option.some.injEq]at hr
   subst hr
   simp only[RepVs]at h
   simp[RepTup,h.1]
 |d::l,r,cs,bs,j,h,hr,hb=>by
  simp only[toIs]at hr
  split at hr
  ·rename_i x hx
   split at hr
   ·rename_i r' hr'
    cases hr
    simp only[RepVs]at h
    obtain⟨v,c',b,b',rfl,rfl,hv,h1,h2⟩:=h
    simp only[List.map_cons,RepTup]
    refine⟨v,c',rfl,Ai8 (RepD.toI hG h1 hx fun b hb'=>hb b (by simp[hb'])) ?_,Abv hG h2 hr' fun b hb'=>hb b (by simp[hb'])⟩
    rw[(toI_shape hx).2];exact hv
   ·cases hr
  ·cases hr
theorem Fn.frz {P:Program} {f:FuncId} {args:List SV} {Post Post':SV→List SV→Prop} (h:Fn P f args Post) (hP:∀r az,Post r az→∃r',Bu r=some r'∧Post' r' az):Fn P f args Post':=by
 intro G σ Fr w cargs hok hsz hin
 refine(h G σ Fr w cargs hok hsz hin).mono ?_
 rintro e w' ⟨r,az,c,G1,σ1,rfl,hp,hG,hok1,hroot,hrep,hlen,has⟩
 obtain⟨r',hfr,hp'⟩:=hP r az hp
 let G2:Mem:=fun b=>match σ1 b with
  |some (s,_)=>if s=args.length then w'.heap[b]? else G1 b
  |none=>G1 b
 let σ2:Lab:=fun b=>match σ1 b with
  |some (s,k)=>if s=args.length then none else some (s,k)
  |none=>none
 have hG2n:∀b k,σ1 b=some (args.length,k)→G2 b=w'.heap[b]?:=by
  intro b k hb
  simp only[G2,hb,if_true]
 have hG2o:∀b,(∀k,σ1 b≠some (args.length,k))→G2 b=G1 b:=by
  intro b hb
  simp only[G2]
  split
  ·rename_i s k hs
   split
   ·rename_i hsn;subst hsn;exact absurd hs (hb k)
   ·rfl
  ·rfl
 have hle:G1.le G2:=by
  intro b o hb
  rw[hG2o b]
  ·exact hb
  ·intro k hk
   rw[(hok1.own b _ hk).1]at hb
   cases hb
 have hσ2:∀b s k,σ2 b=some (s,k)→σ1 b=some (s,k)∧s≠args.length:=by
  intro b s k hb
  simp only[σ2]at hb
  split at hb
  ·rename_i s' k' hs
   split at hb
   ·cases hb
   ·rename_i hne;cases hb;exact⟨hs,hne⟩
  ·cases hb
 have hok2:WOk G2 σ2 Fr ⟨w,0, #[]⟩ w':=by
  refine⟨?_,?_,?_,hok1.frame,hok1.os,hok1.tape,hok1.output,hok1.size,?_,Amb.mono hle hok1.amb⟩
  ·intro b o hb
   by_cases hk:∃k,σ1 b=some (args.length,k)
   ·obtain⟨k,hk⟩:=hk
    rw[hG2n b k hk]at hb;exact hb
   ·rw[hG2o b (fun k hk'=>hk ⟨k,hk'⟩)]at hb
    exact hok1.fixed b o hb
  ·rintro b ⟨s,k⟩ hb
   obtain⟨h1,h2⟩:=hσ2 b s k hb
   obtain⟨h3,h4,h5⟩:=hok1.own b _ h1
   refine⟨?_,h4,h5⟩
   rw[hG2o b (fun k' hk'=>?_)]
   ·exact h3
   ·rw[h1]at hk';cases hk';exact h2 rfl
  ·rintro b b' ⟨s,k⟩ hb hb'
   exact hok1.inj b b' _ (hσ2 b s k hb).1 (hσ2 b' s k hb').1
  ·intro b o hb
   by_cases hk:∃k,σ1 b=some (args.length,k)
   ·obtain⟨k,hk⟩:=hk
    rw[(hok1.own b _ hk).2.1]at hb;cases hb
   ·rw[hG2o b (fun k hk'=>hk ⟨k,hk'⟩)]
    exact hok1.apart b o hb
 have hasn:∀i sv,az[i]?=some sv→sv.root=none∧RepOwn G2 σ2 w' i sv (cargs.getD i undef):=by
  intro i sv hi
  obtain⟨h1,h2⟩:=has i sv hi
  refine⟨h1,RepOwn.tr h2 hle fun b k hb=>⟨?_,rfl⟩⟩
  have hil:i<args.length:=by
   have:=(List.getElem?_eq_some_iff.1 hi).1
   omega
  simp only[σ2,hb]
  rw[if_neg (by omega)]
 refine⟨r',az,c,G2,σ2,rfl,hp',hG.trans hle,hok2,?_,?_,hlen,hasn⟩
 ·unfold Bu at hfr
  split at hfr
  ·split at hfr
   ·cases hfr;rfl
   ·cases hfr
  ·split at hfr
   ·cases hfr;rfl
   ·cases hfr
  ·cases hfr;rfl
  ·cases hfr
 ·unfold Bu at hfr
  split at hfr
  ·rename_i inv t
   split at hfr
   ·rename_i y hy
    cases hfr
    obtain⟨bs,h1,h2,h3,h4⟩:=(show OwnD G1 σ1 w' args.length t c from hrep)
    refine Ai8 (RepD.toI hle h1 hy fun b hb=>?_) (by rw[(toI_shape hy).2];exact h2)
    obtain⟨k,hk⟩:=h4 b hb
    exact hG2n b k hk
   ·cases hfr
  ·rename_i l
   split at hfr
   ·rename_i r0 hr0
    cases hfr
    obtain⟨a,bs,h0,h1,h3,h4⟩:=(show OwnT G1 σ1 w' args.length l c from hrep)
    refine⟨a,h0,Abv hle h1 hr0 fun b hb=>?_⟩
    obtain⟨k,hk⟩:=h4 b hb
    exact hG2n b k hk
   ·cases hfr
  ·cases hfr
   exact RepV.mono hle hrep
  ·cases hfr

mutual
def Frz:D→D→Prop
 |d,.it y=>d.toI=some y
 | .st l,.st l'=>Frzs l l'
 | .vec e sz l,.vec e' sz' l'=>e=e'∧sz=sz'∧Frzs l l'
 | .ptr d,.ptr d'=>Frz d d'
 |_,_=>False
def Frzs:List D→List D→Prop
 | [],[]=>True
 |d::l,d'::l'=>Frz d d'∧Frzs l l'
 |_,_=>False
end
theorem W9:∀{l l':List D},Frzs l l'→l'.length=l.length
 | [],[],_=>rfl
 |d::l,d'::l',h=>by simp only[Frzs]at h;simp[W9 h.2]
 | [],_::_,h=>by simp[Frzs]at h
 |_::_,[],h=>by simp[Frzs]at h
mutual
theorem frz_shape:∀{d d':D},Frz d d'→d'.size=d.size∧d'.isAgg=d.isAgg
 |d,.it y,h=>by simp only[Frz]at h;exact toI_shape h
 | .st l,.st l',h=>by simp only[Frz]at h;exact⟨frzs_shape h,rfl⟩
 | .vec e sz l,.vec e' sz' l',h=>⟨rfl,rfl⟩
 | .ptr d,.ptr d',h=>⟨rfl,rfl⟩
 | .it _,.st _,h=>by simp[Frz]at h
 | .it _,.vec _ _ _,h=>by simp[Frz]at h
 | .it _,.ptr _,h=>by simp[Frz]at h
 | .it _,.map _ _,h=>by simp[Frz]at h
 | .st _,.vec _ _ _,h=>by simp[Frz]at h
 | .st _,.ptr _,h=>by simp[Frz]at h
 | .st _,.map _ _,h=>by simp[Frz]at h
 | .vec _ _ _,.st _,h=>by simp[Frz]at h
 | .vec _ _ _,.ptr _,h=>by simp[Frz]at h
 | .vec _ _ _,.map _ _,h=>by simp[Frz]at h
 | .ptr _,.st _,h=>by simp[Frz]at h
 | .ptr _,.vec _ _ _,h=>by simp[Frz]at h
 | .ptr _,.map _ _,h=>by simp[Frz]at h
 | .map _ _,.st _,h=>by simp[Frz]at h
 | .map _ _,.vec _ _ _,h=>by simp[Frz]at h
 | .map _ _,.ptr _,h=>by simp[Frz]at h
 | .map _ _,.map _ _,h=>by simp[Frz]at h
theorem frzs_shape:∀{l l':List D},Frzs l l'→dsizes l'=dsizes l
 | [],[],_=>rfl
 |d::l,d'::l',h=>by simp only[Frzs]at h;simp[dsizes,(frz_shape h.1).1,frzs_shape h.2]
 | [],_::_,h=>by simp[Frzs]at h
 |_::_,[],h=>by simp[Frzs]at h
end
theorem Abb {sz:Nat}:∀{l l':List D},Frzs l l'→(∀x∈l,x.size=sz)→∀x∈l',x.size=sz
 | [],[],_,_=>by simp
 |d::l,d'::l',h,hs=>by
  simp only[Frzs]at h
  intro x hx
  rcases List.mem_cons.1 hx with rfl|hx
  ·rw[(frz_shape h.1).1];exact hs d (List.mem_cons_self ..)
  ·exact Abb h.2 (fun y hy=>hs y (List.mem_cons_of_mem _ hy)) x hx
 | [],_::_,h,_=>by simp[Frzs]at h
 |_::_,[],h,_=>by simp[Frzs]at h
mutual
theorem Frz.rep {G:Mem} {w:World}:∀{d d':D} {cs:List Value} {bs:List Nat},Frz d d'→RepD G w d cs bs→bs.Nodup→
 ∃bs':List Nat,bs'.Sublist bs∧∀G':Mem,G.le G'→(∀b∈bs,b ∉ bs'→G' b=w.heap[b]?)→RepD G' w d' cs bs'
 |d,.it y,cs,bs,h,hr,hn=>by
  simp only[Frz]at h
  refine⟨[],by simp,fun G' hG hb=>?_⟩
  simp only[RepD]
  exact⟨RepD.toI hG hr h fun b hb1=>hb b hb1 (by simp),trivial⟩
 | .st l,.st l',cs,bs,h,hr,hn=>by
   simp only[Frz]at h
   simp only[RepD]at hr
   obtain⟨bs',h1,h2⟩:=Frzs.rep h hr hn
   exact⟨bs',h1,fun G' hG hb=>by simp only[RepD];exact h2 G' hG hb⟩
 | .vec e sz l,.vec e' sz' l',cs,bs,h,hr,hn=>by
   simp only[Frz]at h
   obtain⟨rfl,rfl,h⟩:=h
   simp only[RepD]at hr
   rcases hr with⟨rfl,rfl,rfl⟩|⟨g,off,cap,cur,xs,b0,rfl,h1,h1',h2,h3,h4,h5,h6,h7,rfl⟩
   ·have:l'=[]:=by have:=W9 h;simpa using this
    subst this
    exact⟨[],by simp,fun G' hG hb=>by simp[RepD]⟩
   ·obtain⟨bs',k1,k2⟩:=Frzs.rep h h6 (List.nodup_cons.1 hn).2
    have hlen:=W9 h
    refine⟨g::bs',by simpa using k1,fun G' hG hb=>?_⟩
    simp only[RepD]
    refine .inr ⟨g,off,cap,cur,xs,bs',by rw[hlen],h1,h1',by omega,h3,h4,by rw[hlen];exact h5,k2 G' hG fun b hb1 hb2=>?_,Abb h h7,rfl⟩
    refine hb b (by simp[hb1]) fun hb3=>?_
    rcases List.mem_cons.1 hb3 with rfl|hb3
    ·exact(List.nodup_cons.1 hn).1 hb1
    ·exact hb2 hb3
 | .ptr d,.ptr d',cs,bs,h,hr,hn=>by
   simp only[Frz]at h
   simp only[RepD]at hr
   obtain⟨g,cells,ty,b0,rfl,h1,h2,rfl⟩:=hr
   obtain⟨bs',k1,k2⟩:=Frz.rep h h2 (List.nodup_cons.1 hn).2
   refine⟨g::bs',by simpa using k1,fun G' hG hb=>?_⟩
   simp only[RepD]
   refine⟨g,cells,ty,bs',rfl,h1,k2 G' hG fun b hb1 hb2=>?_,rfl⟩
   refine hb b (by simp[hb1]) fun hb3=>?_
   rcases List.mem_cons.1 hb3 with rfl|hb3
   ·exact(List.nodup_cons.1 hn).1 hb1
   ·exact hb2 hb3
 | .it _,.st _,_,_,h,_,_=>by simp[Frz]at h
 | .it _,.vec _ _ _,_,_,h,_,_=>by simp[Frz]at h
 | .it _,.ptr _,_,_,h,_,_=>by simp[Frz]at h
 | .it _,.map _ _,_,_,h,_,_=>by simp[Frz]at h
 | .st _,.vec _ _ _,_,_,h,_,_=>by simp[Frz]at h
 | .st _,.ptr _,_,_,h,_,_=>by simp[Frz]at h
 | .st _,.map _ _,_,_,h,_,_=>by simp[Frz]at h
 | .vec _ _ _,.st _,_,_,h,_,_=>by simp[Frz]at h
 | .vec _ _ _,.ptr _,_,_,h,_,_=>by simp[Frz]at h
 | .vec _ _ _,.map _ _,_,_,h,_,_=>by simp[Frz]at h
 | .ptr _,.st _,_,_,h,_,_=>by simp[Frz]at h
 | .ptr _,.vec _ _ _,_,_,h,_,_=>by simp[Frz]at h
 | .ptr _,.map _ _,_,_,h,_,_=>by simp[Frz]at h
 | .map _ _,.st _,_,_,h,_,_=>by simp[Frz]at h
 | .map _ _,.vec _ _ _,_,_,h,_,_=>by simp[Frz]at h
 | .map _ _,.ptr _,_,_,h,_,_=>by simp[Frz]at h
 | .map _ _,.map _ _,_,_,h,_,_=>by simp[Frz]at h
theorem Frzs.rep {G:Mem} {w:World}:∀{l l':List D} {cs:List Value} {bs:List Nat},Frzs l l'→RepDs G w l cs bs→bs.Nodup→
 ∃bs':List Nat,bs'.Sublist bs∧∀G':Mem,G.le G'→(∀b∈bs,b ∉ bs'→G' b=w.heap[b]?)→RepDs G' w l' cs bs'
 | [],[],cs,bs,_,hr,_=>by
   simp only[RepDs]at hr
   obtain⟨rfl,rfl⟩:=hr
   exact⟨[],by simp,fun G' hG hb=>by simp[RepDs]⟩
 |d::l,d'::l',cs,bs,h,hr,hn=>by
  simp only[Frzs]at h
  simp only[RepDs]at hr
  obtain⟨c,c',b,b',rfl,rfl,h1,h2⟩:=hr
  rw[List.nodup_append]at hn
  obtain⟨n1,n2,n3⟩:=hn
  obtain⟨bs1,k1,k2⟩:=Frz.rep h.1 h1 n1
  obtain⟨bs2,k3,k4⟩:=Frzs.rep h.2 h2 n2
  refine⟨bs1++bs2,List.Sublist.append k1 k3,fun G' hG hb=>?_⟩
  simp only[RepDs]
  refine⟨c,c',bs1,bs2,rfl,rfl,k2 G' hG fun x hx1 hx2=>?_,k4 G' hG fun x hx1 hx2=>?_⟩
  ·refine hb x (by simp[hx1]) fun hx3=>?_
   rcases List.mem_append.1 hx3 with hx3|hx3
   ·exact hx2 hx3
   ·exact n3 x hx1 x (k3.subset hx3) rfl
  ·refine hb x (by simp[hx1]) fun hx3=>?_
   rcases List.mem_append.1 hx3 with hx3|hx3
   ·exact n3 x (k1.subset hx3) x hx1 rfl
   ·exact hx2 hx3
 | [],_::_,_,_,h,_,_=>by simp[Frzs]at h
 |_::_,[],_,_,h,_,_=>by simp[Frzs]at h
end
theorem Fn.part {P:Program} {f:FuncId} {args:List SV} {Post Post':SV→List SV→Prop} (h:Fn P f args Post) (hP:∀r az,Post r az→∃inv d d',r= .own inv d∧Frz d d'∧Post' (.own [] d') az):Fn P f args Post':=by
 intro G σ Fr w cargs hok hsz hin
 refine(h G σ Fr w cargs hok hsz hin).mono ?_
 rintro e w' ⟨r,az,c,G1,σ1,rfl,hp,hG,hok1,hroot,hrep,hlen,has⟩
 obtain⟨inv,d,d',rfl,hfr,hp'⟩:=hP r az hp
 obtain⟨bs,h1,h2,h3,h4⟩:=(show OwnD G1 σ1 w' args.length d c from hrep)
 obtain⟨bs',k1,k2⟩:=hfr.rep h1 h3
 let G2:Mem:=fun b=>if b∈bs∧b ∉ bs' then w'.heap[b]? else G1 b
 let σ2:Lab:=fun b=>if b∈bs∧b ∉ bs' then none else σ1 b
 have hle:G1.le G2:=by
  intro b o hb
  simp only[G2]
  split
  ·rename_i hc
   obtain⟨k,hk⟩:=h4 b hc.1
   rw[(hok1.own b _ hk).1]at hb
   cases hb
  ·exact hb
 have hσ2:∀b lab,σ2 b=some lab→σ1 b=some lab∧¬(b∈bs∧b ∉ bs'):=by
  intro b lab hb
  simp only[σ2]at hb
  split at hb
  ·cases hb
  ·rename_i hc;exact⟨hb,hc⟩
 have hok2:WOk G2 σ2 Fr ⟨w,0, #[]⟩ w':=by
  refine⟨?_,?_,?_,hok1.frame,hok1.os,hok1.tape,hok1.output,hok1.size,?_,Amb.mono hle hok1.amb⟩
  ·intro b o hb
   simp only[G2]at hb
   split at hb
   ·exact hb
   ·exact hok1.fixed b o hb
  ·intro b lab hb
   obtain⟨q1,q2⟩:=hσ2 b lab hb
   obtain⟨q3,q4,q5⟩:=hok1.own b lab q1
   refine⟨?_,q4,q5⟩
   simp only[G2]
   rw[if_neg q2]
   exact q3
  ·intro b b' lab hb hb'
   exact hok1.inj b b' lab (hσ2 b lab hb).1 (hσ2 b' lab hb').1
  ·intro b o hb
   simp only[G2]
   split
   ·rename_i hc
    obtain⟨k,hk⟩:=h4 b hc.1
    rw[(hok1.own b _ hk).2.1]at hb
    cases hb
   ·exact hok1.apart b o hb
 refine⟨.own [] d',az,c,G2,σ2,rfl,hp',hG.trans hle,hok2,rfl,?_,hlen,?_⟩
 ·refine⟨bs',k2 G2 hle fun b q1 q2=>?_,by rw[(frz_shape hfr).2];exact h2,h3.sublist k1,fun b hb=>?_⟩
  ·simp only[G2]
   rw[if_pos ⟨q1,q2⟩]
  ·obtain⟨k,hk⟩:=h4 b (k1.subset hb)
   refine⟨k,?_⟩
   simp only[σ2]
   rw[if_neg (fun hc=>hc.2 hb)]
   exact hk
 ·intro i sv hi
  obtain⟨q1,q2⟩:=has i sv hi
  refine⟨q1,RepOwn.tr q2 hle fun b k hb=>⟨?_,rfl⟩⟩
  have hil:i<args.length:=by
   have:=(List.getElem?_eq_some_iff.1 hi).1
   omega
  simp only[σ2]
  rw[if_neg]
  ·exact hb
  ·rintro⟨hc,_⟩
   obtain⟨k',hk'⟩:=h4 b hc
   rw[hb]at hk'
   cases hk'
   exact Nat.lt_irrefl _ hil
set_option maxHeartbeats 40000000

open Go.Proofs
structure Cmd where
 (client seq:Int) (token:Ad) (kind:Int) (name other word salt:Ad) (bytes keys:Int) (grant:Gra) (rev:Int) (ifs thn els:List I)
abbrev Cmd.toI (c:Cmd):I:=.agg [.int .i64 c.client,.int .i64 c.seq,.str c.token,.int .i64 c.kind,.str c.name,.str c.other,.str c.word,.str c.salt,.int .i64 c.bytes,.int .i64 c.keys,c.grant.toI,.int .i64 c.rev,.list c.ifs,.list c.thn,.list c.els]
def IsF (x:List I) (outs:List SV) (r:SV) (as1:List SV):Prop:=Bu r=some (.tup (x.map F.i))∧as1=outs
theorem Fn.isF {P:Program} {f:FuncId} {args:List SV} {x:List I} {outs:List SV} (h:Fn P f args (IsF x outs)):Fn P f args (Is (.tup (x.map F.i)) outs):=
 Fn.frz h fun _ _ ⟨h1,h2⟩=>⟨_,h1,rfl,h2⟩
theorem Gh (l:List Usr):toIs (l.map Usr.toD)=some (l.map Usr.toI):=Xu (fun x=>by simp[D.toI,toIs,Aj, -List.map_map]) l
theorem B6 (l:List Rol):toIs (l.map Rol.toD)=some (l.map Rol.toI):=Xu (fun x=>by simp[D.toI,toIs,Aj, -List.map_map]) l
def Du (r:Roll) (c:Cmd):Roll × Int:=
 if r.usrAt c.name<0 then(r,16)
 else match r.usrs[(r.usrAt c.name).toNat]? with
 |none=>(r,16)
 |some u=>
  if c.kind=14 then
   if u.roles.any (fun e=>decide (e=c.other))then({r with rev:=r.rev+1,usrs:=r.usrs.set (r.usrAt c.name).toNat {u with roles:=u.roles.filter fun e=> !decide (e=c.other)}},0)
   else(r,16)
  else if r.rolAt c.other<0 then(r,16)
  else match r.rols[(r.rolAt c.other).toNat]? with
   |none=>(r,16)
   |some x=>
    if x.ten≠u.ten then(r,18)
    else if u.roles.any (fun e=>decide (e=c.other))then(r,15)
    else if 4≤(u.roles.length:Int)then(r,17)
    else({r with rev:=r.rev+1,usrs:=r.usrs.set (r.usrAt c.name).toNat {u with roles:=B2 (fun e=>decide (c.other<e)) c.other u.roles}},0)
theorem Bf {l:List I} {j:Nat} {y:I}:toIs ((l.map D.it).set j (D.it y))=some (l.set j y):=by
 rw[←List.map_set]
 exact Aj _

open Go.Proofs
theorem sz18 (e:Cmd):e.toI.size=18:=by kernel_rfl
theorem Ar9 (e:Cmd):e.toI.size=(I.agg [.int .i64 0,.int .i64 0,.str [],.int .i64 0,.str [],.str [],.str [],.str [],.int .i64 0,.int .i64 0,.agg [.agg [.str [],.str []],.bool false,.bool false],.int .i64 0,.list [],.list [],.list []]).size:=
 Eq.trans (sz18 e) (Eq.symm (by kernel_rfl))
theorem Asa (e:Cmd):((I.agg [.int .i64 0,.int .i64 0,.str [],.int .i64 0,.str [],.str [],.str [],.str [],.int .i64 0,.int .i64 0,.agg [.agg [.str [],.str []],.bool false,.bool false],.int .i64 0,.list [],.list [],.list []]).put [] e.toI).size=18:=by kernel_rfl
theorem Asb (e:Cmd):((I.agg [.int .i64 0,.int .i64 0,.str [],.int .i64 0,.str [],.str [],.str [],.str [],.int .i64 0,.int .i64 0,.agg [.agg [.str [],.str []],.bool false,.bool false],.int .i64 0,.list [],.list [],.list []]).put [] e.toI).isAgg=true:=by kernel_rfl
end Go.Ab
