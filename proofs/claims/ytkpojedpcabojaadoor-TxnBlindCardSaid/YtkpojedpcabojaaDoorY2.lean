/- Lemmas -/
import Derived.Test.YtkpojedpcabojaaDoorNW
set_option linter.unusedVariables false
set_option linter.unusedSimpArgs false
set_option maxRecDepth 100000
namespace Go.Ab
open Go.Proofs
abbrev Atn:FuncId:=16
abbrev Kb:FuncId:=50
def Hn:Stm:=(sO [gA 0 cF] (sO [gC 6 19 [],gA 1 6] (sO [gM 7 1,gC 8 20 [(true,7),nL (cS [116])]] (sO [gM 9 1,O1 (.build 10 [(.str []),(.str []),(.bool false)] [(0,(cS [97])),(1,(cS [49]))]),O1 (.bsl 11 38 3 (.agg [(.str []),(.str []),(.bool false)]) 1 [(0,10)]),gC 12 24 [(true,9),nL (cS [116]),nL 11]] (sO [gM 14 1,O1 (.build 15 [(.str []),(.int .i64 0),(.int .i64 0),(.str [])] [(0,(cS [97])),(1,(cI 1)),(3,(cS [49]))]),O1 (.bsl 16 149 4 (.agg [(.str []),(.int .i64 0),(.int .i64 0),(.str [])]) 1 [(0,15)]),O1 (.build 17 [(.int .i64 0),(.agg [(.str []),(.str [])]),(.str []),(.str []),(.int .i64 0),(.int .i64 0)] [(0,(cI 2)),(2,(cS [98])),(3,(cS [50]))]),O1 (.build 18 [(.int .i64 0),(.agg [(.str []),(.str [])]),(.str []),(.str []),(.int .i64 0),(.int .i64 0)] [(0,(cI 3))]),O1 (.bsl 19 105 7 (.agg [(.int .i64 0),(.agg [(.str []),(.str [])]),(.str []),(.str []),(.int .i64 0),(.int .i64 0)]) 2 [(0,17),(1,18)]),gC 20 60 [(true,14),nL (cS [116]),nL 16,nL 19,nL (.Ahc 105 7)],gA 13 20,gE 21 13 0,gE 22 13 1,gE 23 13 2,gE 24 13 3,gA 2 21,gA 3 22,gA 4 23,gA 5 24] (sO [gM 25 5,gB 26 .eql 25 (cI 0),gM 27 26,qt 27 (iM 28 2),gP 29 27 28 cF,gM 30 29,qt 30 (iM 31 3),qt 30 (iN 32 31),qt 30 (iB 33 .eql 32 (cI 2)),gP 34 30 33 cF,gM 35 34,qt 35 (iM 36 3),qt 35 (iI 37 3 36 (cI 1)),qt 35 (iG 38 37 2 2),qt 35 (iL 39 38),qt 35 (iB 40 .eql 39 (cI 1)),gP 41 35 40 cF,gM 42 41,qt 42 (iM 43 4),qt 42 (iN 44 43),qt 42 (iB 45 .eql 44 (cI 2)),gP 46 42 45 cF,gM 47 46,qt 47 (iM 48 4),qt 47 (iI 49 3 48 (cI 1)),qt 47 (iU 50 3 49),qt 47 (.build 51 [(.str []),(.str []),(.bool false)] [(0,(cS [97])),(2,cT)]),qt 47 (.eqs 52 false (.st [.str,.str,.bool]) 50 51),gP 53 47 52 cF,gA 0 53] .ret))))))
theorem Hv:OF 50 54 Hn [.t 0]:=oF Tryd.func50 rfl Tryd.ntmps50 (by kernel_rfl) (by kernel_rfl)
abbrev Gt:FuncId:=51
def Ga:Stm:=(sO [O1 (.box 1 0),gA 2 cF] (sO [gF 10 1 0,gL 11 10,gN 12 11,gF 13 1 1,gL 14 13,gN 15 14,gB 16 .add 12 15,gF 17 1 2,gL 18 17,gN 19 18,gB 20 .add 16 19,gA 3 20] (.seq (sO [gM 21 3,gB 22 .gtr 21 (cI 60)] (cR 22 [gA 2 cT])) (.seq (sO [gF 23 1 0,gL 24 23,gN 25 24,gM 26 (cI 0)] (.block 0 (.loop [2,5,27,28,29,30,31,32,33,34,35,36,37,38,39,40,51] (sO [gB 27 .lss 26 25] (.seq (.cond 27 .skip (.exit 0)) (.seq (.block 1 (sO [gI 28 4 24 26,gU 29 4 28,O1 (.alloc 5 (.one (.i (.agg [(.str []),(.int .i64 0),(.int .i64 0),(.str [])])))),gS 4 5 29] (sO [gF 30 5 0,gL 31 30,O1 (.len 32 true 31),gB 33 .gtr 32 (cI 1000),gM 34 33,qf 34 (iG 35 5 3 3),qf 34 (iL 36 35),qf 34 (.len 37 true 36),qf 34 (iB 38 .gtr 37 (cI 1000)),gP 39 34 cT 38] (cR 39 [gA 2 cT])))) (.ops [gB 40 .add 26 (cI 1),gM 26 40]))))))) (.seq (sO [gF 41 1 1,gL 42 41,gF 43 1 2,gL 44 43,O1 (.bsl 45 85 1 (.list []) 2 [(0,42),(1,44)]),gN 46 45,gM 47 (cI 0)] (.block 2 (.loop (kr [2,7,9] 48 35) (sO [gB 48 .lss 47 46] (.seq (.cond 48 .skip (.exit 2)) (.seq (.block 3 (sO [gI 49 1 45 47,gL 50 49,gA 7 50] (sO [gM 51 7,gN 52 51,gM 53 (cI 0)] (.block 4 (.loop (kr [2,9] 54 28) (sO [gB 54 .lss 53 52] (.seq (.cond 54 .skip (.exit 4)) (.seq (.block 5 (sO [gI 55 7 51 53,gU 56 7 55,O1 (.alloc 9 (.one (.i (.agg [(.int .i64 0),(.agg [(.str []),(.str [])]),(.str []),(.str []),(.int .i64 0),(.int .i64 0)])))),gS 7 9 56] (sO [gG 57 9 2 3,gL 58 57,O1 (.len 59 true 58),gB 60 .gtr 59 (cI 1000),gM 61 60,qf 61 (iG 62 9 3 4),qf 61 (iL 63 62),qf 61 (.len 64 true 63),qf 61 (iB 65 .gtr 64 (cI 1000)),gP 66 61 cT 65,gM 67 66,qf 67 (iG 68 9 1 1),qf 67 (iG 69 68 0 0),qf 67 (iL 70 69),qf 67 (.len 71 true 70),qf 67 (iB 72 .gtr 71 (cI 1000)),gP 73 67 cT 72,gM 74 73,qf 74 (iG 75 9 1 1),qf 74 (iG 76 75 1 1),qf 74 (iL 77 76),qf 74 (.len 78 true 77),qf 74 (iB 79 .gtr 78 (cI 1000)),gP 80 74 cT 79] (cR 80 [gA 2 cT])))) (.ops [gB 81 .add 53 (cI 1),gM 53 81]))))))))) (.ops [gB 82 .add 47 (cI 1),gM 47 82]))))))) (sO [gA 2 cF] .ret))))))
theorem Gn:OF 51 83 Ga [.t 2]:=oF Tryd.func51 rfl Tryd.ntmps51 (by kernel_rfl) (by kernel_rfl)
abbrev Aph:FuncId:=52
def Aov:Stm:=(sO [gA 6 cF] (.seq (.seq (sO [gM 11 0,gN 12 11,gB 13 .gtr 12 (cI 4),gM 14 13,qf 14 (iM 15 1),qf 14 (iN 16 15),qf 14 (iB 17 .gtr 16 (cI 8)),gP 18 14 cT 17,gM 19 18,qf 19 (iM 20 2),qf 19 (iN 21 20),qf 19 (iB 22 .gtr 21 (cI 8)),gP 23 19 cT 22] (cR 23 [gA 6 cF])) (.seq (sO [gM 24 0,gN 25 24,gM 26 (cI 0)] (.block 0 (.loop (kr [6,8,11,15,20] 27 32) (sO [gB 27 .lss 26 25] (.seq (.cond 27 .skip (.exit 0)) (.seq (.block 1 (sO [gI 28 4 24 26,gU 29 4 28,O1 (.alloc 8 (.one (.i (.agg [(.str []),(.int .i64 0),(.int .i64 0),(.str [])])))),gS 4 8 29] (sO [gF 30 8 0,gL 31 30,gC 32 86 [nL 31],gT 33 32,gM 34 33,qf 34 (iG 35 8 1 1),qf 34 (iL 36 35),qf 34 (iB 37 .lss 36 (cI 1)),gP 38 34 cT 37,gM 39 38,qf 39 (iG 40 8 1 1),qf 39 (iL 41 40),qf 39 (iB 42 .gtr 41 (cI 4)),gP 43 39 cT 42,gM 44 43,qf 44 (iG 45 8 2 2),qf 44 (iL 46 45),.call (some (44,false)) (some 47) 87 [nL 46],qf 44 (iT 48 47),gP 49 44 cT 48,gM 50 49,qf 50 (iG 51 8 3 3),qf 50 (iL 52 51),.call (some (50,false)) (some 53) 88 [nL 52],qf 50 (iT 54 53),gP 55 50 cT 54] (cR 55 [gA 6 cF])))) (.ops [gB 56 .add 26 (cI 1),gM 26 56]))))))) (.seq .skip (.seq (sO [gM 57 1,gM 58 2,O1 (.bsl 59 85 1 (.list []) 2 [(0,57),(1,58)]),gC 60 89 [nL 59],gN 61 60,gM 62 (cI 0)] (.block 2 (.loop (kr [6,10,11,15,20,24,57,58] 63 41) (sO [gB 63 .lss 62 61] (.seq (.cond 63 .skip (.exit 2)) (.seq (.block 3 (sO [gI 64 7 60 62,gU 65 7 64,O1 (.alloc 10 (.one (.i (.agg [(.int .i64 0),(.agg [(.str []),(.str [])]),(.str []),(.str []),(.int .i64 0),(.int .i64 0)])))),gS 7 10 65] (.seq (sO [gF 66 10 0,gL 67 66] (.block 4 (sO [gB 69 .eql 67 (cI 1),gA 68 69] (.cond 68 (sO [gF 70 10 1,gU 71 2 70,gC 72 34 [nL 71],gM 73 72,qt 73 (iG 74 10 4 5),qt 73 (iL 75 74),.call (some (73,true)) (some 76) 87 [nL 75],gP 77 73 76 cF,gM 78 77,qt 78 (iG 79 10 5 6),qt 78 (iL 80 79),qt 78 (iB 81 .geq 80 (cI 0)),gP 82 78 81 cF,gM 83 82,qt 83 (iG 84 10 5 6),qt 83 (iL 85 84),qt 83 (iB 86 .leq 85 (cI 16)),gP 87 83 86 cF] (.cond 87 (.exit 3) .skip)) (sO [gB 89 .eql 67 (cI 2),gA 88 89] (.cond 88 (sO [gG 90 10 2 3,gL 91 90,gC 92 86 [nL 91],gM 93 92,qt 93 (iG 94 10 3 4),qt 93 (iL 95 94),.call (some (93,true)) (some 96) 88 [nL 95],gP 97 93 96 cF] (.cond 97 (.exit 3) .skip)) (sO [gB 99 .eql 67 (cI 3),gA 98 99] (.cond 98 (sO [gF 100 10 1,gU 101 2 100,gC 102 34 [nL 101]] (.cond 102 (.exit 3) .skip)) .skip)))))))) (sO [gA 6 cF] .ret)))) (.ops [gB 103 .add 62 (cI 1),gM 62 103]))))))) (sO [gA 6 cT] .ret))))) .skip))
theorem Ao4:OF 52 104 Aov [.t 6]:=oF Tryd.func52 rfl Tryd.ntmps52 (by kernel_rfl) (by kernel_rfl)
abbrev Apg:FuncId:=55
def Aou:Stm:=(sO [gA 6 (.Ahc 54 2)] (sO [gA 7 (.Ahc 54 2)] (.seq (sO [gM 12 0,gN 13 12,gM 14 (cI 0)] (.block 0 (.loop [9,15,16,17,18,19,20,21,22,23,24,25,26,37,43] (sO [gB 15 .lss 14 13] (.seq (.cond 15 .skip (.exit 0)) (.seq (.block 1 (sO [gI 16 4 12 14,gU 17 4 16,O1 (.alloc 9 (.one (.i (.agg [(.str []),(.int .i64 0),(.int .i64 0),(.str [])])))),gS 4 9 17] (.ops [gM 18 7,gF 19 9 0,gL 20 19,gC 21 77 [nL 20],O1 (.bsl 22 54 2 (.agg [(.str []),(.str [])]) 1 [(0,21)]),O1 (.app 23 54 2 32 18 22),gA 7 23]))) (.ops [gB 24 .add 14 (cI 1),gM 14 24]))))))) (.seq (sO [gM 25 1,gM 26 2,O1 (.bsl 27 85 1 (.list []) 2 [(0,25),(1,26)]),gC 28 89 [nL 27],gN 29 28,gM 30 (cI 0)] (.block 2 (.loop (kr [11,12,18,25,26] 31 13) (sO [gB 31 .lss 30 29] (.seq (.cond 31 .skip (.exit 2)) (.seq (.block 3 (sO [gI 32 7 28 30,gU 33 7 32,O1 (.alloc 11 (.one (.i (.agg [(.int .i64 0),(.agg [(.str []),(.str [])]),(.str []),(.str []),(.int .i64 0),(.int .i64 0)])))),gS 7 11 33] (sO [gF 34 11 0,gL 35 34,gB 36 .eql 35 (cI 1)] (.cond 36 (.ops [gM 37 7,gF 38 11 1,gU 39 2 38,O1 (.bsl 40 54 2 (.agg [(.str []),(.str [])]) 1 [(0,39)]),O1 (.app 41 54 2 32 37 40),gA 7 41]) .skip)))) (.ops [gB 42 .add 30 (cI 1),gM 30 42]))))))) (sO [gM 43 7,O1 (.mov 6 54 2 43)] .ret)))))
theorem A9q:OFV 55 44 Aou 6:=oFV Tryd.func55 rfl Tryd.ntmps55 (by kernel_rfl) (by kernel_rfl) (by decide)
abbrev Aoi:FuncId:=57
def Aoa:Stm:=(sO [gA 4 (.Ahc 54 2)] (sO [gA 5 (.Ahc 54 2)] (.seq (sO [gM 8 0,gM 9 1,O1 (.bsl 10 85 1 (.list []) 2 [(0,8),(1,9)]),gC 11 89 [nL 10],gN 12 11,gM 13 (cI 0)] (.block 0 (.loop (kr [7,8,9] 14 22) (sO [gB 14 .lss 13 12] (.seq (.cond 14 .skip (.exit 0)) (.seq (.block 1 (sO [gI 15 7 11 13,gU 16 7 15,O1 (.alloc 7 (.one (.i (.agg [(.int .i64 0),(.agg [(.str []),(.str [])]),(.str []),(.str []),(.int .i64 0),(.int .i64 0)])))),gS 7 7 16] (sO [gF 17 7 0,gL 18 17] (.block 2 (sO [gB 20 .eql 18 (cI 2),gA 19 20] (.cond 19 (.ops [gM 21 5,gG 22 7 2 3,gL 23 22,gC 24 77 [nL 23],O1 (.bsl 25 54 2 (.agg [(.str []),(.str [])]) 1 [(0,24)]),O1 (.app 26 54 2 32 21 25),gA 5 26]) (sO [gB 28 .eql 18 (cI 3),gA 27 28] (.cond 27 (.ops [gM 29 5,gF 30 7 1,gU 31 2 30,O1 (.bsl 32 54 2 (.agg [(.str []),(.str [])]) 1 [(0,31)]),O1 (.app 33 54 2 32 29 32),gA 5 33]) .skip)))))))) (.ops [gB 34 .add 13 (cI 1),gM 13 34]))))))) (sO [gM 35 5,O1 (.mov 4 54 2 35)] .ret))))
theorem Aob:OF 57 36 Aoa [.t 4]:=oF Tryd.func57 rfl Tryd.ntmps57 (by kernel_rfl) (by kernel_rfl)
abbrev Auw:FuncId:=59
abbrev F4:FuncId:=60
def Aqm:Stm:=(sO [gA 10 cF,gA 11 (.Ahc 102 3),gA 12 (.Ahc 38 3),gA 13 (cI 0)] (.seq (.block 0 (sO [gM 28 0,gC 29 47 [(true,28)],gM 30 1,gC 31 93 [nL 29,nL 30],gT 32 31,gA 27 32] (.cond 27 (sO [gA 10 cF,gA 11 (.Ahc 102 3),gA 12 (.Ahc 38 3),gA 13 (cI 16)] .ret) (sO [gM 34 2,gM 35 3,gM 36 4,gC 37 52 [nL 34,nL 35,nL 36],gT 38 37,gA 33 38] (cR 33 [gA 10 cF,gA 11 (.Ahc 102 3),gA 12 (.Ahc 38 3),gA 13 (cI 1)]))))) (sO [gM 39 0,gM 40 1,gM 41 2,gC 42 94 [(true,39),nL 40,nL 41],gA 14 42] (sO [gM 43 4,O1 (.mov 15 105 7 43)] (.seq (sO [gM 44 14] (.cond 44 (.ops [gM 45 3,O1 (.mov 15 105 7 45)]) .skip)) (sO [gA 16 (.Ahc 102 3)] (sO [gA 17 (.Ahc 38 3)] (.seq (sO [gM 46 15,gN 47 46,gM 48 (cI 0)] (.block 1 (.loop [10,11,12,13,19,20,21,22,23,24,26,34,35,36,41,43,45,49,50,51,52,53,54,55,56,57,58,59,60,61,62,63,64,65,66,67,68,69,70,71,72,73,74,75,76,77,78,79,80,81,82,83,84,85,86,87,88,89,90,91,92,93,94,95,96,97,98,99,100,101,102,103,104,105,106,107,108,109,110,111,112,113,114,115,117,118] (sO [gB 49 .lss 48 47] (.seq (.cond 49 .skip (.exit 1)) (.seq (.block 2 (sO [gI 50 7 46 48,gU 51 7 50,O1 (.alloc 19 (.one (.i (.agg [(.int .i64 0),(.agg [(.str []),(.str [])]),(.str []),(.str []),(.int .i64 0),(.int .i64 0)])))),gS 7 19 51] (sO [O1 (.alloc 20 (.one (.i (.agg [(.list []),(.bool false),(.int .i64 0)]))))] (.seq (sO [gF 52 19 0,gL 53 52] (.block 3 (sO [gB 55 .eql 53 (cI 1),gA 54 55] (.cond 54 (sO [gG 56 19 5 6,gL 57 56,gA 21 57] (.seq (sO [gM 58 21,gB 59 .eql 58 (cI 0)] (.cond 59 (.ops [gA 21 (cI 16)]) .skip)) (sO [gM 61 0,gM 62 1,gF 63 19 1,gU 64 2 63,gG 65 19 4 5,gL 66 65,gM 67 21,gC 68 33 [(true,61),nL 62,nL 64,nL 66,nL 67],gA 60 68,gE 69 60 0,gE 70 60 1,gE 71 60 2,gA 22 69,gA 23 70,gA 24 71] (.seq (sO [gM 72 24,gB 73 .neq 72 (cI 0)] (cR 73 [gM 74 24,gA 10 cF,gA 11 (.Ahc 102 3),gA 12 (.Ahc 38 3),gA 13 74])) (.ops [gM 75 22,gM 76 23,gF 77 20 0,gS 1 77 75,gF 78 20 1,gS 1 78 76]))))) (sO [gB 80 .eql 53 (cI 2),gA 79 80] (.cond 79 (.ops [gM 81 17,gG 82 19 2 3,gL 83 82,gG 84 19 3 4,gL 85 84,O1 (.build 86 [(.str []),(.str []),(.bool false)] [(0,83),(1,85)]),O1 (.bsl 87 38 3 (.agg [(.str []),(.str []),(.bool false)]) 1 [(0,86)]),O1 (.app 88 38 3 40 81 87),gA 17 88]) (sO [gB 90 .eql 53 (cI 3),gA 89 90] (.cond 89 (sO [gM 91 0,gM 92 1,gF 93 19 1,gU 94 2 93,gC 95 95 [(true,91),nL 92,nL 94],gN 96 95,gM 97 (cI 0)] (.block 4 (.loop [26,34,35,36,41,43,45,75,81,98,99,100,101,102,103,104,105,106,107,108,109,110,111,117,118] (sO [gB 98 .lss 97 96] (.seq (.cond 98 .skip (.exit 4)) (.seq (.block 5 (sO [gI 99 1 95 97,gL 100 99,gA 26 100] (sO [gM 101 17,gM 102 26,O1 (.build 103 [(.str []),(.str []),(.bool false)] [(0,102),(2,cT)]),O1 (.bsl 104 38 3 (.agg [(.str []),(.str []),(.bool false)]) 1 [(0,103)]),O1 (.app 105 38 3 40 101 104),gA 17 105] (.ops [gF 106 20 2,gL 107 106,gB 108 .add 107 (cI 1),gF 109 20 2,gS 1 109 108])))) (.ops [gB 110 .add 97 (cI 1),gM 97 110]))))))) .skip)))))))) (.ops [gM 111 16,gU 112 3 20,O1 (.bsl 113 102 3 (.agg [(.list []),(.bool false),(.int .i64 0)]) 1 [(0,112)]),O1 (.app 114 102 3 40 111 113),gA 16 114]))))) (.ops [gB 115 .add 48 (cI 1),gM 48 115]))))))) (sO [gM 116 14,gM 117 16,gM 118 17,gA 10 116,O1 (.mov 11 102 3 117),O1 (.mov 12 38 3 118),gA 13 (cI 0)] .ret)))))))))
theorem Ajw:OF 60 119 Aqm [.t 10,.t 11,.t 12,.t 13]:=oF Tryd.func60 rfl Tryd.ntmps60 (by kernel_rfl) (by kernel_rfl)
abbrev Api:FuncId:=86
def Aow:Stm:=(sO [gA 2 cF] (sO [gM 3 0,O1 (.len 4 true 3),gB 5 .geq 4 (cI 1),gM 6 5,qt 6 (iM 7 0),qt 6 (.len 8 true 7),qt 6 (iB 9 .leq 8 (cI 64)),gP 10 6 9 cF,gA 2 10] .ret))
theorem Ao5:OF 86 11 Aow [.t 2]:=oF Tryd.func86 rfl Tryd.ntmps86 (by kernel_rfl) (by kernel_rfl)
abbrev Apj:FuncId:=87
def Aox:Stm:=(sO [gA 2 cF] (sO [gM 3 0,gB 4 .geq 3 (cI 0),gM 5 4,qt 5 (iM 6 0),qt 5 (iB 7 .leq 6 (cI 1099511627776)),gP 8 5 7 cF,gA 2 8] .ret))
theorem Ao6:OF 87 9 Aox [.t 2]:=oF Tryd.func87 rfl Tryd.ntmps87 (by kernel_rfl) (by kernel_rfl)
abbrev An9:FuncId:=88
def Ani:Stm:=(sO [gA 2 cF] (sO [gM 3 0,O1 (.len 4 true 3),gB 5 .leq 4 (cI 256),gA 2 5] .ret))
theorem Ank:OF 88 6 Ani [.t 2]:=oF Tryd.func88 rfl Tryd.ntmps88 (by kernel_rfl) (by kernel_rfl)
abbrev Apf:FuncId:=94
def Aot:Stm:=(sO [gA 6 cF] (.seq (sO [gM 14 2,gN 15 14,gM 16 (cI 0)] (.block 0 (.loop (kr [6,8,9,10,11,12,13] 17 70) (sO [gB 17 .lss 16 15] (.seq (.cond 17 .skip (.exit 0)) (.seq (.block 1 (sO [gI 18 4 14 16,gU 19 4 18,O1 (.alloc 8 (.one (.i (.agg [(.str []),(.int .i64 0),(.int .i64 0),(.str [])])))),gS 4 8 19] (sO [gM 21 0,gM 22 1,gF 23 8 0,gL 24 23,gC 25 77 [nL 24],gC 26 33 [(true,21),nL 22,nL 25,nL (cI 0),nL (cI 1)],gA 20 26,gE 27 20 0,gE 28 20 1,gE 29 20 2,gA 9 27,gA 10 28,gA 11 29] (sO [gM 30 9,gN 31 30,gB 32 .gtr 31 (cI 0),gA 12 32] (sO [gA 13 cF] (.seq (sO [gF 33 8 1,gL 34 33] (.block 2 (sO [gB 36 .eql 34 (cI 1),gA 35 36] (.cond 35 (.drw [0,1,3,7,15,31,3,67,255,511,1023] [gM 37 12,gM 38 37,qt 38 (iM 39 9),qt 38 (iI 40 4 39 (cI 0)),qt 38 (iG 41 40 1 1),qt 38 (iL 42 41),qt 38 (iG 43 8 3 3),qt 38 (iL 44 43),qt 38 (iB 45 .eql 42 44),gP 46 38 45 cF,gA 13 46]) (sO [gB 48 .eql 34 (cI 2),gA 47 48] (.cond 47 (.ops [gM 49 12,gT 50 49,gA 13 50]) (sO [gB 52 .eql 34 (cI 3),gA 51 52] (.cond 51 (.drw [0,1,3,7,15,31,3,67,255,511,1023,2047,4095,8191,16383,32767,65535,131071,262143,524287] [gM 53 12,gM 54 53,qt 54 (iM 55 9),qt 54 (iI 56 4 55 (cI 0)),qt 54 (iG 57 56 3 3),qt 54 (iL 58 57),qt 54 (iG 59 8 2 2),qt 54 (iL 60 59),qt 54 (iB 61 .eql 58 60),gP 62 54 61 cF,gM 63 62,qf 63 (iM 64 12),qf 63 (iT 65 64),qf 63 (iM 66 65),qt 66 (iG 67 8 2 2),qt 66 (iL 68 67),qt 66 (iB 69 .eql 68 (cI 0)),qf 63 (iP 70 66 69 cF),gP 71 63 cT 70,gA 13 71]) (sO [gB 73 .eql 34 (cI 4),gA 72 73] (.cond 72 (.drw [0,1,3,7,15,31,3,67,255,511,1023] [gM 74 12,gM 75 74,qt 75 (iM 76 9),qt 75 (iI 77 4 76 (cI 0)),qt 75 (iG 78 77 3 3),qt 75 (iL 79 78),qt 75 (iG 80 8 2 2),qt 75 (iL 81 80),qt 75 (iB 82 .lss 79 81),gP 83 75 82 cF,gA 13 83]) .skip)))))))))) (sO [gM 84 13,gT 85 84] (cR 85 [gA 6 cF])))))))) (.ops [gB 86 .add 16 (cI 1),gM 16 86]))))))) (sO [gA 6 cT] .ret)))
theorem Ao2:OF 94 87 Aot [.t 6]:=oF Tryd.func94 rfl Tryd.ntmps94 (by kernel_rfl) (by kernel_rfl)
abbrev Aqg:FuncId:=95
def Apq:Stm:=(sO [O1 (.box 5 2),gA 6 (.Ahc 9 1)] (sO [gA 7 (.Ahc 9 1)] (.seq (sO [gA 8 cT] (.block 0 (.loop (kr [9] 11 27) (.seq (sO [gM 12 8] (.cond 12 .skip (.exit 0))) (.block 1 (sO [gA 9 (.Ahc 67 4)] (sO [gM 14 0,gM 15 1,gU 16 2 5,gC 17 33 [(true,14),nL 15,nL 16,nL (cI 0),nL (cI 16)],gA 13 17,gE 18 13 0,gE 19 13 1,gE 20 13 2,gA 9 18,gA 8 19] (sO [gM 21 9,gN 22 21,gM 23 (cI 0)] (.block 2 (.loop (kr [11] 24 14) (sO [gB 24 .lss 23 22] (.seq (.cond 24 .skip (.exit 2)) (.seq (.block 3 (sO [gI 25 4 21 23,gU 26 4 25,O1 (.alloc 11 (.one (.i (.agg [(.str []),(.str []),(.int .i64 0),(.int .i64 0)])))),gS 4 11 26] (sO [gM 27 7,gF 28 11 0,gL 29 28,O1 (.bsl 30 9 1 (.str []) 1 [(0,29)]),O1 (.app 31 9 1 16 27 30),gA 7 31] (.ops [gF 32 11 0,gL 33 32,gB 34 .add 33 (cS [0]),gF 35 5 0,gS 1 35 34])))) (.ops [gB 36 .add 23 (cI 1),gM 23 36])))))))))))))) (sO [gM 37 7,O1 (.mov 6 9 1 37)] .ret))))
theorem Apu:OF 95 38 Apq [.t 6]:=oF Tryd.func95 rfl Tryd.ntmps95 (by kernel_rfl) (by kernel_rfl)
set_option maxHeartbeats 40000000

open Go.Proofs
theorem Ae1:Fn Tryd.prog Ec [sP ⟨[],[]⟩,.v (.str [116])] (Is (.v (ti 0)) [sP aw1,.no]):=by
 have h:=Aa1 [116];rw[show D9 [116]=true by rfl]at h
 exact Aa2 ⟨[],[]⟩ [116] true h

open Go.Proofs
theorem Air{m:Nat}{s:Cn}(h:Akb m s)(hm:m≤80000)(n:Az)(cs:List Ef)(hn:n.length≤1000)(hcs:cs.length≤1000):
 Fn Tryd.prog Da [sP s,.v (.str n),.v (.list (cs.map Ef.Bx))] (Is (.tup [.i (ti (s.Acg n cs).2.1),.i (ti (s.Acg n cs).2.2)]) [sP (s.Acg n cs).1,.no,.no]):=by
 unfold Cn.Acg;cases hf:s.fi n with
 |none=>exact Ai8 s n cs hf
 |some i=>
  dsimp only;cases hF:K6 cs []with
  |none=>exact Aji s n cs i hf hcs none rfl hF
  |some F=>
   have hrv:=h.rv n;exact R4 Aep Aex s n cs i hf hn hcs (h.lb.mono hm) ((h.tb n).mono hm) (by omega) F (some F) rfl hF _ rfl
theorem Bfi{m:Nat}{s:Cn}(h:Akb m s)(hm:m≤80000)(n:Az)(rev:Int):
 Fn Tryd.prog Axb [sP s,.v (.str n),.v (ti rev)] (Is (.v (ti (s.Anu n rev).2)) [sP (s.Anu n rev).1,.no,.no]):=by
 unfold Cn.Anu;cases hf:s.fi n with
 |none=>exact Bai s n rev hf
 |some i=>
  dsimp only;by_cases he:s.Aw1 n rev=0
  ·rw[if_pos he];obtain⟨e1,e2,e3⟩:=Aht he;have hrv:=h.rv n;exact Bah s n rev i hf (h.lb.mono hm) ⟨e1,e2,e3,by omega⟩ _ rfl
  ·rw[if_neg he];exact Bcr s n rev i hf he
theorem Aff{m:Nat}{s:Cn}(h:Akb m s)(hm:m≤80000)(n:Az)(hn:n.length≤1000)(x:Sp)(rev most:Int):
 Fn Tryd.prog C9 [sP s,.v (.str n),.v x.Bx,.v (ti rev),.v (ti most)] (Is (.tup [.i (.list ((s.An4 n x rev most).1.map Pr.Bx)),.i (.bool (s.An4 n x rev most).2.1),.i (ti (s.An4 n x rev most).2.2)]) [sP s,.no,.no,.no,.no]):=by
 have hrv:=h.rv n;exact Ai5 ofC s (h.bd hm) n (by omega) x rev most (by omega)
theorem B8{n:Az}{x:Sp}{rev most:Int}:∀{l:List Zk} {out:List Pr},(out.length:Int)≤most→((Ep n x rev most l out).1.length:Int)≤most
 | [],out,h=>h
 |p::r,out,h=>by
  unfold Ep;split
  ·exact h
  ·split
   ·exact B8 h
   ·split
    ·exact B8 h
    ·split
     ·exact h
     ·exact B8 (by simp;omega)
theorem Be8(s:Cn)(n:Az)(x:Sp)(rev most:Int):(s.An4 n x rev most).1.length≤16:=by
 unfold Cn.An4;split
 ·simp
 ·split
  ·simp
  ·rename_i h;have h:SpR x∧0≤rev∧1≤most∧most≤16:=Classical.not_not.1 h;split
   ·simp
   ·split
    ·simp
    ·have:=B8 (n:=n) (x:=x) (rev:=if rev=0 then(s.Zp n).rev else rev) (l:=s.l.drop (Km (Kh (B7 n [])) s.l)) (out:=[]) (most:=most) (by simp;omega)
     dsimp only;omega

open Go.Proofs
def Opn.hd(j:Nat)(o:Opn):Prop:=100≤j∨40<o.l.length∨1000<o.n.length∨1000<o.x.f.length∨1000<o.x.t.length
instance(j:Nat)(o:Opn):Decidable (o.hd j):=by unfold Opn.hd;infer_instance
def Ef.big(c:Ef):Prop:=1000<c.key.length∨1000<c.val.length
instance(c:Ef):Decidable c.big:=by unfold Ef.big;infer_instance
def cGo:List Ef→Bool
 | []=>false
 |c::r=>if c.big then true else cGo r

open Go.Proofs
def Bzg:Cn:=⟨[([116],Ax5),([117],Ax5)],[]⟩
theorem Ai9:(Cn.mk [] []).Aqk (D9 [116]) [116]=(⟨[([116],Ax5)],[]⟩,0):=by
 rw[show D9 [116]=true by rfl];rfl
theorem Aja:(Cn.mk [([116],Ax5)] []).Aqk (D9 [117]) [117]=(Bzg,0):=by
 rw[show D9 [117]=true by rfl];rfl
theorem inv2:Akb 0 Bzg:=by
 have h1:=Ajr.open (nm:=D9 [116]) [116] Aha;rw[Ai9]at h1;have h2:=h1.open (nm:=D9 [117]) [117] Aha;rw[Aja]at h2;exact h2

open Go.Proofs
theorem Ar6{k k':Az}(h:k<k'):¬k'<k++[0]:=fun h2=>by
 have h3:=Aik.1 ⟨Std.le_of_lt h,h2⟩;rw[h3]at h;exact absurd h (Af9 k)

open Go.Proofs
abbrev Bss:FuncId:=Am
abbrev Hi:FuncId:=Aj
theorem H6:A2z Tryd.prog Bss Hi 109:=A2z.of Hj
open Go.RowKit Go.Maps Go.Sort Go.Shelf in
theorem Gv:∀args w,(callFunc 111 args).run Tryd.prog w= .ok (.enter 111 args) w:=enters_of Tryd.func111 (by kernel_rfl) rfl
set_option maxHeartbeats 4000000 in
theorem Jg:Aym Tryd.prog Ju Hi 9:=by
 have h:=Aym.of Afh Hj Afi Adx Gv;exact h
def Cn.names(s:Cn):List Az:=Dc (s.sp.map (·.1))
theorem Fs(s:Cn)(hnd:(s.sp.map (·.1)).Nodup)(hl:s.sp.length≤1000):Fn Tryd.prog Bs [sP s] (Is (.v (.list (s.names.map I.str))) [sP s]):=by
 refine Dp ?_ (by simp)
 obtain⟨KS,hKS⟩:∃K,K=s.sp.map fun x=>I.str x.1:=⟨_,rfl⟩
 have Bid:∀x∈KS,∃s,x=I.str s:=fun x hx=>by rw[hKS]at hx;obtain⟨c,_,rfl⟩:=X4.1 hx;exact⟨_,rfl⟩
 have Bie:KS.length≤1000000:=by rw[hKS,Bh];omega
 have Bif:(KS.map Azp).Nodup:=by rw[hKS,List.map_map];exact hnd
 have hSI:Gq KS=s.names.map I.str:=by
  unfold Cn.names;rw[←Acr,hKS,List.map_map];rfl
 rw[←hSI];obtain⟨VS,hVS⟩:∃V,V=s.sp.map fun x=>D.ptr (.it x.2.Bx):=⟨_,rfl⟩
 obtain⟨L,hL⟩:∃V,V=s.l.map Zk.toD:=⟨_,rfl⟩;have hs:sP s= .own [] (.ptr (stD KS VS L)):=by rw[hKS,hVS,hL];rfl
 rw[hs];repeat'((conv=>whnf);first|((with_reducible refine Aw (by(with_reducible rfl)) (fun hb=>?_));(try rw[hb]);(try simp only[Aa]at hb))|((with_reducible refine Ac ?_ ?_);focus (and_intros<;>first|(exact Bid)|(exact Bie)|(exact Bif)|omega|(with_reducible rfl)|kernel_rfl|(simp;done)))|((refine Ad0 H6 ?_))|((refine Zo Jg ?_)))
 all_goals(try(conv=>whnf))
 (apply dKq<;>kernel_rfl)

open Go.Proofs
def Kv.toD(h:Kv):D:=.st [.it (.str h.key),.vec Bb 4 ((h.vs.map Fk.Bx).map D.it)]
theorem Kv.A96(h:Kv):h.toD.Bx=some h.Bx:=by
 simp only[Kv.toD,Kv.Bx,D.Bx,Js,Ad]

open Go.Proofs
def Aps(rev:Int):List Fk→Fk→Fk
 | [],v=>v
 |w::r,v=>Aps rev r (if w.rev≤rev then w else v)
theorem Bdu(vs:List Fk)(rev:Int)(hl:vs.length≤100000):Fn Tryd.prog A4c [.v (.list (vs.map Fk.Bx)),.v (ti rev)] (Is (.tup [.i (Aps rev vs Akw).Bx,.i (.bool (!(Aps rev vs Akw).gone))]) [.no,.no]):=by
 refine A3d ?_ (by simp)
 obtain⟨RES,Ajz⟩:∃R,Aps rev vs Akw=R:=⟨_,rfl⟩;rw[Ajz];repeat'((conv=>whnf);((with_reducible refine Ac ?_ ?_);focus (and_intros<;>first|omega|kernel_rfl)))
 all_goals(try(conv=>whnf))
 refine Afm.by (X:=Nat × Fk) (fun y=>[(7,.v (ti (y.1:Int))),(6,.box (T.one (F.i y.2.Bx)))]) (fun y=>y.1≤vs.length∧Aps rev (vs.drop y.1) y.2=RES) (fun y=>vs.length - y.1) (0,Akw) (by kernel_rfl) ⟨Cr _,Ajz⟩ ?_
 rintro⟨j,v⟩ ⟨hj,hR⟩;dsimp only at hj hR ⊢;have hw:IntKind.i64.wrap ((j:Int)+1)=((j+1:Nat):Int):=(Bf (by omega)).trans (by omega)
 by_cases hjl:j<vs.length
 case neg=>
  have h3:¬decide ((j:Int)<((vs.map Fk.Bx).length:Int))=true:=by simp;omega
  have h4:¬decide ((j:Int)<(vs.length:Int))=true:=by simp;omega
  rw[Db (by omega)]at hR
  have hR:v=RES:=hR;subst hR;obtain⟨vr,vm,vv,vg⟩:=v;repeat'((conv=>whnf);first|((with_reducible refine Aw (by(with_reducible exact Ak (by assumption))) (fun hb=>?_));(try rw[hb]);(try simp only[Aa]at hb))|((with_reducible refine Ac ?_ ?_);focus (and_intros<;>first|omega|(with_reducible rfl)|kernel_rfl|(simp;done)))|(with_reducible intro Cq)|((with_reducible refine Ai2.mkV ?_ ?_ ?_ (fun Cq=>?_));(focus (as_aux_lemma=>kernel_rfl));(focus (as_aux_lemma=>kernel_rfl));(focus (as_aux_lemma=>kernel_rfl));(try simp only[Bv,Bg,Dg,or_false,false_or,or_assoc,forall_eq_or_imp,forall_eq,false_implies,implies_true,forall_const,and_true,true_and]at Cq)))
  all_goals(try(conv=>whnf))
  (apply dKq<;>kernel_rfl)
 obtain⟨w,hwv⟩:∃x,vs[j]?=some x:=⟨_,Ae hjl⟩;have h3:¬decide ((j:Int)<((vs.map Fk.Bx).length:Int))=false:=by simp;omega
 have h4:¬decide ((j:Int)<(vs.length:Int))=false:=by simp;omega
 have hdr:vs.drop j=w::vs.drop (j+1):=by rw[Cc hjl];rw[Ae hjl]at hwv;cases hwv;rfl
 rw[hdr]at hR;simp only[Aps]at hR;by_cases hle:w.rev≤rev
 ·rw[if_pos hle]at hR;have hb:¬decide (w.rev≤rev)=false:=by simpa using hle
  repeat'((conv=>whnf);first|((with_reducible refine Ax (by(with_reducible exact Ai (by assumption))) (fun hb=>?_));(try rw[hb]);(try simp only[Aa]at hb))|((with_reducible refine Ac ?_ ?_);focus (and_intros<;>first|omega|(with_reducible rfl)|kernel_rfl))|(with_reducible intro Cq)|((try dsimp only);(rw[B6 hwv]))|(skip;rw[hw]))
  all_goals(try(conv=>whnf))
  refine Round.by (j+1,w) ?_ ⟨by omega,hR⟩ (by dsimp only;omega)
  try dsimp only
  show norm _ _=upd _ _
  kernel_rfl
 ·rw[if_neg hle]at hR;have hb:¬decide (w.rev≤rev)=true:=by simpa using hle
  repeat'((conv=>whnf);first|((with_reducible refine Ax (by(with_reducible exact Ai (by assumption))) (fun hb=>?_));(try rw[hb]);(try simp only[Aa]at hb))|((with_reducible refine Aw (by(with_reducible exact Ak (by assumption))) (fun hb=>?_));(try rw[hb]);(try simp only[Aa]at hb))|((with_reducible refine Ac ?_ ?_);focus (and_intros<;>first|omega|(with_reducible rfl)|kernel_rfl))|(with_reducible intro Cq)|((try dsimp only);(rw[B6 hwv]))|(skip;rw[hw]))
  all_goals(try(conv=>whnf))
  refine Round.by (j+1,v) ?_ ⟨by omega,hR⟩ (by dsimp only;omega)
  try dsimp only
  show norm _ _=upd _ _
  kernel_rfl

open Go.Proofs
def Bst(ks:List Kv):Prop:=ks.length≤100000∧∀h∈ks,h.key.length≤1000∧h.vs.length≤100000∧∀v∈h.vs,v.val.length≤1000
end Go.Ab
