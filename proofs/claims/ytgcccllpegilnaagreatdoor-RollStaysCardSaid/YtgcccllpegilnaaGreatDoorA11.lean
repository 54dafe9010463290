/- Lemmas -/
import Derived.Test.YtgcccllpegilnaaGreatDoorN0
set_option linter.unusedVariables false
set_option linter.unusedSimpArgs false
set_option maxRecDepth 100000
namespace Go.Ab
open Go.Proofs
abbrev Au:FuncId:=4
abbrev Ab7:FuncId:=8
def Aac:Stm:=(sO [gA 0 cF] (sO [gC 9 18 [nL (cS [115]),nL (cS [119])],gA 8 9,gE 10 8 0,gE 11 8 1,O1 (.alloc 1 (.one (.i (.agg [(.int .i64 0),(.list []),(.list []),(.list [])])))),gS 4 1 10,gA 2 11] (sO [gU 13 4 1,O1 (.build 14 [(.int .i64 0),(.int .i64 0),(.str []),(.int .i64 0),(.str []),(.str []),(.str []),(.str []),(.int .i64 0),(.int .i64 0),(.agg [(.agg [(.str []),(.str [])]),(.bool false),(.bool false)]),(.int .i64 0),(.list []),(.list []),(.list [])] [(3,(cI 4)),(4,(cS [116]))]),gC 15 19 [nL 13,nL 14],gA 12 15,gE 16 12 0,gE 17 12 1,gS 4 1 16,gA 3 17] (sO [gU 19 4 1,O1 (.build 20 [(.int .i64 0),(.int .i64 0),(.str []),(.int .i64 0),(.str []),(.str []),(.str []),(.str []),(.int .i64 0),(.int .i64 0),(.agg [(.agg [(.str []),(.str [])]),(.bool false),(.bool false)]),(.int .i64 0),(.list []),(.list []),(.list [])] [(3,(cI 4)),(4,(cS [117]))]),gC 21 19 [nL 19,nL 20],gA 18 21,gE 22 18 0,gE 23 18 1,gS 4 1 22,gA 4 23] (sO [gU 25 4 1,O1 (.build 26 [(.int .i64 0),(.int .i64 0),(.str []),(.int .i64 0),(.str []),(.str []),(.str []),(.str []),(.int .i64 0),(.int .i64 0),(.agg [(.agg [(.str []),(.str [])]),(.bool false),(.bool false)]),(.int .i64 0),(.list []),(.list []),(.list [])] [(3,(cI 6)),(4,(cS [120])),(5,(cS [116])),(6,(cS [112]))]),gC 27 19 [nL 25,nL 26],gA 24 27,gE 28 24 0,gE 29 24 1,gS 4 1 28,gA 5 29] (sO [gU 31 4 1,O1 (.build 32 [(.int .i64 0),(.int .i64 0),(.str []),(.int .i64 0),(.str []),(.str []),(.str []),(.str []),(.int .i64 0),(.int .i64 0),(.agg [(.agg [(.str []),(.str [])]),(.bool false),(.bool false)]),(.int .i64 0),(.list []),(.list []),(.list [])] [(3,(cI 9)),(4,(cS [121])),(5,(cS [117]))]),gC 33 19 [nL 31,nL 32],gA 30 33,gE 34 30 0,gE 35 30 1,gS 4 1 34,gA 6 35] (sO [gU 37 4 1,O1 (.build 38 [(.int .i64 0),(.int .i64 0),(.str []),(.int .i64 0),(.str []),(.str []),(.str []),(.str []),(.int .i64 0),(.int .i64 0),(.agg [(.agg [(.str []),(.str [])]),(.bool false),(.bool false)]),(.int .i64 0),(.list []),(.list []),(.list [])] [(3,(cI 13)),(4,(cS [120])),(5,(cS [121]))]),gC 39 19 [nL 37,nL 38],gA 36 39,gE 40 36 0,gE 41 36 1,gS 4 1 40,gA 7 41] (sO [gM 42 2,gM 43 42,qt 43 (iM 44 3),qt 43 (iB 45 .eql 44 (cI 0)),gP 46 43 45 cF,gM 47 46,qt 47 (iM 48 4),qt 47 (iB 49 .eql 48 (cI 0)),gP 50 47 49 cF,gM 51 50,qt 51 (iM 52 5),qt 51 (iB 53 .eql 52 (cI 0)),gP 54 51 53 cF,gM 55 54,qt 55 (iM 56 6),qt 55 (iB 57 .eql 56 (cI 0)),gP 58 55 57 cF,gM 59 58,qt 59 (iM 60 7),qt 59 (iB 61 .eql 60 (cI 18)),gP 62 59 61 cF,gM 63 62,qt 63 (iG 64 1 0 0),qt 63 (iL 65 64),qt 63 (iB 66 .eql 65 (cI 5)),gP 67 63 66 cF,gM 68 67,qt 68 (iU 69 4 1),.call (some (68,true)) (some 70) 28 [nL 69,nL (cS [120]),nL (cS [112])],gP 71 68 70 cF,gA 0 71] .ret))))))))
theorem Aap:OF 8 72 Aac [.t 0]:=oF Tryz.func8 rfl Tryz.ntmps8 (by kernel_rfl) (by kernel_rfl)
abbrev Ab8:FuncId:=9
def Aad:Stm:=(sO [gA 2 cF] (.seq (sO [gM 5 0,gN 6 5,gM 7 (cI 0)] (.block 0 (.loop (kr [2,3,4] 8 47) (sO [gB 8 .lss 7 6] (.seq (.cond 8 .skip (.exit 0)) (.seq (.block 1 (sO [gM 9 7,gI 10 18 5 7,gU 11 18 10,O1 (.alloc 4 (.one (.i (.agg [(.int .i64 0),(.int .i64 0),(.str []),(.int .i64 0),(.str []),(.str []),(.str []),(.str []),(.int .i64 0),(.int .i64 0),(.agg [(.agg [(.str []),(.str [])]),(.bool false),(.bool false)]),(.int .i64 0),(.list []),(.list []),(.list [])])))),gA 3 9,gS 18 4 11] (sO [gM 12 3,gB 13 .geq 12 (cI 80),gM 14 13,qf 14 (iG 15 4 4 4),qf 14 (iL 16 15),qf 14 (.len 17 true 16),qf 14 (iB 18 .gtr 17 (cI 1000)),gP 19 14 cT 18,gM 20 19,qf 20 (iG 21 4 5 5),qf 20 (iL 22 21),qf 20 (.len 23 true 22),qf 20 (iB 24 .gtr 23 (cI 1000)),gP 25 20 cT 24,gM 26 25,qf 26 (iG 27 4 6 6),qf 26 (iL 28 27),qf 26 (.len 29 true 28),qf 26 (iB 30 .gtr 29 (cI 1000)),gP 31 26 cT 30,gM 32 31,qf 32 (iG 33 4 7 7),qf 32 (iL 34 33),qf 32 (.len 35 true 34),qf 32 (iB 36 .gtr 35 (cI 1000)),gP 37 32 cT 36,gM 38 37,qf 38 (iG 39 4 10 10),qf 38 (iG 40 39 0 0),qf 38 (iG 41 40 0 0),qf 38 (iL 42 41),qf 38 (.len 43 true 42),qf 38 (iB 44 .gtr 43 (cI 1000)),gP 45 38 cT 44,gM 46 45,qf 46 (iG 47 4 10 10),qf 46 (iG 48 47 0 0),qf 46 (iG 49 48 1 1),qf 46 (iL 50 49),qf 46 (.len 51 true 50),qf 46 (iB 52 .gtr 51 (cI 1000)),gP 53 46 cT 52] (cR 53 [gA 2 cT])))) (.ops [gB 54 .add 7 (cI 1),gM 7 54]))))))) (sO [gA 2 cF] .ret)))
theorem Aaq:OF 9 55 Aad [.t 2]:=oF Tryz.func9 rfl Tryz.ntmps9 (by kernel_rfl) (by kernel_rfl)

open Go.Proofs
def Am:Stm:=(sO [gA 4 cF] (.seq (sO [gC 15 8 [],gT 16 15] (cR 16 [gA 4 cF])) (.seq (sO [gM 17 0,gC 18 9 [nL 17],gM 19 18,qf 19 (iM 20 1),.call (some (19,false)) (some 21) 9 [nL 20],gP 22 19 cT 21] (cR 22 [gA 4 cT])) (sO [gC 24 18 [nL (cS [115]),nL (cS [119])],gA 23 24,gE 25 23 0,gE 26 23 1,O1 (.alloc 5 (.one (.i (.agg [(.int .i64 0),(.list []),(.list []),(.list [])])))),gS 4 5 25,gA 6 26] (.seq (sO [gM 27 0,gN 28 27,gM 29 (cI 0)] (.block 0 (.loop [8,17,20,30,31,32,33,34,35,36,37,38,39,43] (sO [gB 30 .lss 29 28] (.seq (.cond 30 .skip (.exit 0)) (.seq (.block 1 (sO [gI 31 18 27 29,gU 32 18 31,O1 (.alloc 8 (.one (.i (.agg [(.int .i64 0),(.int .i64 0),(.str []),(.int .i64 0),(.str []),(.str []),(.str []),(.str []),(.int .i64 0),(.int .i64 0),(.agg [(.agg [(.str []),(.str [])]),(.bool false),(.bool false)]),(.int .i64 0),(.list []),(.list []),(.list [])])))),gS 18 8 32] (.ops [gU 34 4 5,gU 35 18 8,gC 36 19 [nL 34,nL 35],gA 33 36,gE 37 33 0,gE 38 33 1,gS 4 5 37]))) (.ops [gB 39 .add 29 (cI 1),gM 29 39]))))))) (sO [gU 40 4 5,gC 41 20 [nL 40],O1 (.alloc 9 (.one (.i (.agg [(.int .i64 0),(.list []),(.list []),(.list [])])))),gS 4 9 41] (sO [gU 42 4 5,O1 (.allocD 10 (.st [(.it (.int .i64 0)),(.vec 52 3 []),(.vec 43 5 []),(.vec 48 3 [])])),gS 4 10 42] (.seq (sO [gM 43 1,gN 44 43,gM 45 (cI 0)] (.block 2 (.loop (kr [12,13,14,17,20,27] 46 37) (sO [gB 46 .lss 45 44] (.seq (.cond 46 .skip (.exit 2)) (.seq (.block 3 (sO [gI 47 18 43 45,gU 48 18 47,O1 (.alloc 12 (.one (.i (.agg [(.int .i64 0),(.int .i64 0),(.str []),(.int .i64 0),(.str []),(.str []),(.str []),(.str []),(.int .i64 0),(.int .i64 0),(.agg [(.agg [(.str []),(.str [])]),(.bool false),(.bool false)]),(.int .i64 0),(.list []),(.list []),(.list [])])))),gS 18 12 48] (sO [O1 (.loadF 50 true 4 10),gU 51 18 12,gC 52 19 [nL 50,nL 51],gA 49 52,gE 53 49 0,gE 54 49 1,gS 4 10 53] (sO [gF 55 10 3,gL 56 55,gN 57 56,gM 58 (cI 0)] (.block 4 (.loop (kr [13,14,17,20,27,55,56] 59 23) (sO [gB 59 .lss 58 57] (.seq (.cond 59 .skip (.exit 4)) (.seq (.block 5 (sO [gM 60 58,gA 13 60] (sO [gF 61 10 3,gL 62 61,gM 63 13,gI 64 3 62 63,gF 65 64 2,gL 66 65,gN 67 66,gM 68 (cI 0)] (.block 6 (.loop (kr [14,17,20,27,61,62,64,65,66] 69 12) (sO [gB 69 .lss 68 67] (.seq (.cond 69 .skip (.exit 6)) (.seq (.block 7 (sO [gM 70 68,gA 14 70] (.ops [gF 71 10 3,gL 72 71,gM 73 13,gI 74 3 72 73,gF 75 74 2,gL 76 75,gM 77 14,gI 78 4 76 77,gG 79 78 1 2,gS 1 79 cT]))) (.ops [gB 80 .add 68 (cI 1),gM 68 80]))))))))) (.ops [gB 81 .add 58 (cI 1),gM 58 81])))))))))) (.ops [gB 82 .add 45 (cI 1),gM 45 82]))))))) (sO [gU 83 4 5,gU 84 4 9,gC 85 11 [nL 83,nL 84],gA 4 85] .ret)))))))))
theorem Ar:OF 4 86 Am [.t 4]:=oF Tryz.func4 rfl Tryz.ntmps4 (by kernel_rfl) (by kernel_rfl)

open Go.Proofs
abbrev Aea:FuncId:=11
def Ac5:Stm:=(sO [O1 (.box 2 0),O1 (.box 3 1),gA 4 cF] (.seq (sO [gF 14 2 0,gL 15 14,gF 16 3 0,gL 17 16,gB 18 .neq 15 17,gM 19 18,qf 19 (iG 20 2 1 1),qf 19 (iL 21 20),qf 19 (iN 22 21),qf 19 (iG 23 3 1 1),qf 19 (iL 24 23),qf 19 (iN 25 24),qf 19 (iB 26 .neq 22 25),gP 27 19 cT 26,gM 28 27,qf 28 (iG 29 2 2 2),qf 28 (iL 30 29),qf 28 (iN 31 30),qf 28 (iG 32 3 2 2),qf 28 (iL 33 32),qf 28 (iN 34 33),qf 28 (iB 35 .neq 31 34),gP 36 28 cT 35,gM 37 36,qf 37 (iG 38 2 3 3),qf 37 (iL 39 38),qf 37 (iN 40 39),qf 37 (iG 41 3 3 3),qf 37 (iL 42 41),qf 37 (iN 43 42),qf 37 (iB 44 .neq 40 43),gP 45 37 cT 44] (cR 45 [gA 4 cF])) (.seq (sO [gA 5 (cI 0)] (.block 0 (.loop (kr [4] 46 18) (.seq (sO [gM 46 5,gF 47 2 1,gL 48 47,gN 49 48,gB 50 .lss 46 49] (.cond 50 .skip (.exit 0))) (.seq (.block 1 (.seq (.drw [[],[0],[],[1,2],[3],[],[5],[],[6,7],[8],[4,9]] [gF 53 2 1,gL 54 53,gM 55 5,gI 56 3 54 55,gU 57 3 56,gF 58 3 1,gL 59 58,gM 60 5,gI 61 3 59 60,gU 62 3 61,O1 (.eqs 63 true (.st [.str,(.int .i64),(.int .i64)]) 57 62)]) (cR 63 [gA 4 cF]))) (.ops [gM 51 5,gB 52 .add 51 (cI 1),gA 5 52])))))) (.seq (sO [gA 6 (cI 0)] (.block 2 (.loop (kr [4,7,8,9] 64 70) (.seq (sO [gM 64 6,gF 65 2 2,gL 66 65,gN 67 66,gB 68 .lss 64 67] (.cond 68 .skip (.exit 2))) (.seq (.block 3 (.seq (.drw [[],[0],[],[1,2],[3],[],[5],[],[6,7],[8],[],[],[10,4,11],[9,12]] [gF 71 2 2,gL 72 71,gM 73 6,gI 74 5 72 73,gU 75 5 74,gF 76 3 2,gL 77 76,gM 78 6,gI 79 5 77 78,gU 80 5 79,O1 (.alloc 7 (.one (.i (.agg [(.str []),(.str []),(.str []),(.str []),(.list [])])))),O1 (.alloc 8 (.one (.i (.agg [(.str []),(.str []),(.str []),(.str []),(.list [])])))),gS 5 7 75,gS 5 8 80]) (.seq (sO [gF 81 7 0,gL 82 81,gF 83 8 0,gL 84 83,gB 85 .neq 82 84,gM 86 85,qf 86 (iG 87 7 1 1),qf 86 (iL 88 87),qf 86 (iG 89 8 1 1),qf 86 (iL 90 89),qf 86 (iB 91 .neq 88 90),gP 92 86 cT 91,gM 93 92,qf 93 (iG 94 7 2 2),qf 93 (iL 95 94),qf 93 (iG 96 8 2 2),qf 93 (iL 97 96),qf 93 (iB 98 .neq 95 97),gP 99 93 cT 98,gM 100 99,qf 100 (iG 101 7 3 3),qf 100 (iL 102 101),qf 100 (iG 103 8 3 3),qf 100 (iL 104 103),qf 100 (iB 105 .neq 102 104),gP 106 100 cT 105,gM 107 106,qf 107 (iG 108 7 4 4),qf 107 (iL 109 108),qf 107 (iN 110 109),qf 107 (iG 111 8 4 4),qf 107 (iL 112 111),qf 107 (iN 113 112),qf 107 (iB 114 .neq 110 113),gP 115 107 cT 114] (cR 115 [gA 4 cF])) (sO [gA 9 (cI 0)] (.block 4 (.loop (kr [4] 116 18) (.seq (sO [gM 116 9,gF 117 7 4,gL 118 117,gN 119 118,gB 120 .lss 116 119] (.cond 120 .skip (.exit 4))) (.seq (.block 5 (.seq (.drw [[],[0],[],[1,2],[3],[],[5],[],[6,7],[8],[4,9]] [gF 123 7 4,gL 124 123,gM 125 9,gI 126 1 124 125,gL 127 126,gF 128 8 4,gL 129 128,gM 130 9,gI 131 1 129 130,gL 132 131,gB 133 .neq 127 132]) (cR 133 [gA 4 cF]))) (.ops [gM 121 9,gB 122 .add 121 (cI 1),gA 9 122]))))))))) (.ops [gM 69 6,gB 70 .add 69 (cI 1),gA 6 70])))))) (.seq (sO [gA 10 (cI 0)] (.block 6 (.loop (kr [4,11,12,13] 134 56) (.seq (sO [gM 134 10,gF 135 2 3,gL 136 135,gN 137 136,gB 138 .lss 134 137] (.cond 138 .skip (.exit 6))) (.seq (.block 7 (.seq (.drw [[],[0],[],[1,2],[3],[],[5],[],[6,7],[8],[],[],[10,4,11],[9,12]] [gF 141 2 3,gL 142 141,gM 143 10,gI 144 3 142 143,gU 145 3 144,gF 146 3 3,gL 147 146,gM 148 10,gI 149 3 147 148,gU 150 3 149,O1 (.alloc 11 (.one (.i (.agg [(.str []),(.str []),(.list [])])))),O1 (.alloc 12 (.one (.i (.agg [(.str []),(.str []),(.list [])])))),gS 3 11 145,gS 3 12 150]) (.seq (sO [gF 151 11 0,gL 152 151,gF 153 12 0,gL 154 153,gB 155 .neq 152 154,gM 156 155,qf 156 (iG 157 11 1 1),qf 156 (iL 158 157),qf 156 (iG 159 12 1 1),qf 156 (iL 160 159),qf 156 (iB 161 .neq 158 160),gP 162 156 cT 161,gM 163 162,qf 163 (iG 164 11 2 2),qf 163 (iL 165 164),qf 163 (iN 166 165),qf 163 (iG 167 12 2 2),qf 163 (iL 168 167),qf 163 (iN 169 168),qf 163 (iB 170 .neq 166 169),gP 171 163 cT 170] (cR 171 [gA 4 cF])) (sO [gA 13 (cI 0)] (.block 8 (.loop (kr [4] 172 18) (.seq (sO [gM 172 13,gF 173 11 2,gL 174 173,gN 175 174,gB 176 .lss 172 175] (.cond 176 .skip (.exit 8))) (.seq (.block 9 (.seq (.drw [[],[0],[],[1,2],[3],[],[5],[],[6,7],[8],[4,9]] [gF 179 11 2,gL 180 179,gM 181 13,gI 182 4 180 181,gU 183 4 182,gF 184 12 2,gL 185 184,gM 186 13,gI 187 4 185 186,gU 188 4 187,O1 (.eqs 189 true (.st [(.st [.str,.str]),.bool,.bool]) 183 188)]) (cR 189 [gA 4 cF]))) (.ops [gM 177 13,gB 178 .add 177 (cI 1),gA 13 178]))))))))) (.ops [gM 139 10,gB 140 .add 139 (cI 1),gA 10 140])))))) (sO [gA 4 cT] .ret))))))
theorem Adm:OF 11 190 Ac5 [.t 4]:=oF Tryz.func11 rfl Tryz.ntmps11 (by kernel_rfl) (by kernel_rfl)
abbrev Jq:FuncId:=20
def Ac2:Stm:=(sO [O1 (.boxD 1 0),O1 (.allocD 2 (.st [(.it (.int .i64 0)),(.vec 52 3 []),(.vec 43 5 []),(.vec 48 3 [])]))] (.seq (.drw [[],[0],[],[],[3],[2,4],[1,5],[],[7,6]] [gF 8 1 0,gL 9 8,O1 (.empty 10 52 3),gF 11 1 1,gL 12 11,O1 (.app 13 52 3 32 10 12),O1 (.buildD 14 [(.it (.int .i64 0)),(.vec 52 3 []),(.vec 43 5 []),(.vec 48 3 [])] [(0,9),(1,13)]),O1 (.allocD 3 (.st [(.it (.int .i64 0)),(.vec 52 3 []),(.vec 43 5 []),(.vec 48 3 [])])),gS 4 3 14]) (.seq (sO [gA 4 (cI 0)] (.block 0 (.loop (kr [5] 15 23) (.seq (sO [gM 15 4,gF 16 1 2,gL 17 16,gN 18 17,gB 19 .lss 15 18] (.cond 19 .skip (.exit 0))) (.seq (.block 1 (sO [gF 22 1 2,gL 23 22,gM 24 4,gI 25 5 23 24,gU 26 5 25,O1 (.allocD 5 (.st [(.it (.str [])),(.it (.str [])),(.it (.str [])),(.it (.str [])),(.vec 9 1 [])])),gS 5 5 26] (sO [O1 (.empty 27 9 1),gF 28 5 4,gL 29 28,O1 (.app 30 9 1 16 27 29),gF 31 5 4,gS 1 31 30] (.ops [gF 32 3 2,gL 33 32,gU 34 5 5,O1 (.bslD 35 43 5 (.agg [(.str []),(.str []),(.str []),(.str []),(.list [])]) 1 [(0,34)]),O1 (.app 36 43 5 88 33 35),gF 37 3 2,gS 1 37 36])))) (.ops [gM 20 4,gB 21 .add 20 (cI 1),gA 4 21])))))) (.seq (sO [gA 6 (cI 0)] (.block 2 (.loop (kr [7] 38 23) (.seq (sO [gM 38 6,gF 39 1 3,gL 40 39,gN 41 40,gB 42 .lss 38 41] (.cond 42 .skip (.exit 2))) (.seq (.block 3 (sO [gF 45 1 3,gL 46 45,gM 47 6,gI 48 3 46 47,gU 49 3 48,O1 (.allocD 7 (.st [(.it (.str [])),(.it (.str [])),(.vec 36 4 [])])),gS 3 7 49] (sO [O1 (.empty 50 36 4),gF 51 7 2,gL 52 51,O1 (.app 53 36 4 40 50 52),gF 54 7 2,gS 1 54 53] (.ops [gF 55 3 3,gL 56 55,gU 57 3 7,O1 (.bslD 58 48 3 (.agg [(.str []),(.str []),(.list [])]) 1 [(0,57)]),O1 (.app 59 48 3 56 56 58),gF 60 3 3,gS 1 60 59])))) (.ops [gM 43 6,gB 44 .add 43 (cI 1),gA 6 44])))))) (sO [gU 61 4 3,gS 4 2 61] .ret)))))
theorem Aa1:OFD 20 62 Ac2 [.cell 2 true 4]:=oFD Tryz.func20 rfl Tryz.ntmps20 (by kernel_rfl) (by kernel_rfl)
abbrev Axf:FuncId:=93
def Av1:Stm:=(sO [O1 (.box 1 0),gA 2 cF] (sO [gF 3 1 0,gL 4 3,O1 (.len 5 true 4),gB 6 .leq 5 (cI 65),gM 7 6,qt 7 (iG 8 1 1 1),qt 7 (iL 9 8),qt 7 (.len 10 true 9),qt 7 (iB 11 .leq 10 (cI 65)),gP 12 7 11 cF,gM 13 12,qt 13 (iG 14 1 1 1),qt 13 (iL 15 14),qt 13 (iB 16 .eql 15 (cS [])),qt 13 (iM 17 16),qf 17 (iG 18 1 0 0),qf 17 (iL 19 18),qf 17 (iG 20 1 1 1),qf 17 (iL 21 20),qf 17 (iB 22 .lss 19 21),qt 13 (iP 23 17 cT 22),gP 24 13 23 cF,gA 2 24] .ret))
theorem Awb:OF 93 25 Av1 [.t 2]:=oF Tryz.func93 rfl Tryz.ntmps93 (by kernel_rfl) (by kernel_rfl)
abbrev Axe:FuncId:=97
def Av0:Stm:=(sO [O1 (.box 3 1),gA 4 (.nils 34 2)] (sO [gM 10 0,gC 11 124 [nL 10],gA 5 11] (.seq (sO [gU 12 2 3,gC 13 93 [nL 12],gT 14 13] (cR 14 [gM 15 5,O1 (.mov 4 34 2 15)])) (sO [gA 6 (.nils 34 2)] (.seq (sO [gM 16 5,gN 17 16,gM 18 (cI 0)] (.block 0 (.loop (kr [8,9,10,15] 19 46) (sO [gB 19 .lss 18 17] (.seq (.cond 19 .skip (.exit 0)) (.seq (.block 1 (sO [gI 20 2 16 18,gU 21 2 20,O1 (.alloc 8 (.one (.i (.agg [(.str []),(.str [])])))),gS 2 8 21] (.seq (sO [gF 22 8 0,gL 23 22,gF 24 3 0,gL 25 24,gB 26 .lss 23 25] (.cond 26 (sO [gU 27 2 8,O1 (.alloc 9 (.one (.i (.agg [(.str []),(.str [])])))),gS 2 9 27] (.seq (sO [gF 28 9 1,gL 29 28,gF 30 3 0,gL 31 30,gC 32 125 [nL 29,nL 31],gB 33 .gtr 32 (cI 0)] (.cond 33 (.ops [gF 34 3 0,gL 35 34,gF 36 9 1,gS 1 36 35]) .skip)) (.ops [gM 37 6,gU 38 2 9,O1 (.bsl 39 34 2 (.agg [(.str []),(.str [])]) 1 [(0,38)]),O1 (.app 40 34 2 32 37 39),gA 6 40]))) .skip)) (sO [gF 41 3 1,gL 42 41,gB 43 .neq 42 (cS []),gM 44 43,qt 44 (iG 45 8 1 1),qt 44 (iL 46 45),qt 44 (iG 47 3 1 1),qt 44 (iL 48 47),.call (some (44,true)) (some 49) 125 [nL 46,nL 48],qt 44 (iB 50 .gtr 49 (cI 0)),gP 51 44 50 cF] (.cond 51 (.ops [gM 52 6,gF 53 8 0,gL 54 53,gF 55 3 1,gL 56 55,O1 (.mm 57 true 54 56),gF 58 8 1,gL 59 58,O1 (.build 60 [(.str []),(.str [])] [(0,57),(1,59)]),O1 (.bsl 61 34 2 (.agg [(.str []),(.str [])]) 1 [(0,60)]),O1 (.app 62 34 2 32 52 61),gA 6 62]) .skip))))) (.ops [gB 63 .add 18 (cI 1),gM 18 63]))))))) (sO [gM 64 6,O1 (.mov 4 34 2 64)] .ret))))))
theorem Awa:OF 97 65 Av0 [.t 4]:=oF Tryz.func97 rfl Tryz.ntmps97 (by kernel_rfl) (by kernel_rfl)
abbrev Axg:FuncId:=124
def Av2:Stm:=(sO [gA 2 (.nils 34 2)] (sO [gM 7 0,gC 8 138 [nL 7],gC 9 137 [(true,8),nL (.c (.fn 139))],gA 0 9] (sO [gM 10 0,gC 11 140 [(true,10),nL (.c (.fn 141))]] (sO [gA 3 (.nils 34 2)] (.seq (sO [gM 12 0,gN 13 12,gM 14 (cI 0)] (.block 0 (.loop (kr [5,6,7,10] 15 50) (sO [gB 15 .lss 14 13] (.seq (.cond 15 .skip (.exit 0)) (.seq (.block 1 (sO [gI 16 2 12 14,gU 17 2 16,O1 (.alloc 5 (.one (.i (.agg [(.str []),(.str [])])))),gS 2 5 17] (sO [gM 18 3,gN 19 18,gA 6 19] (.seq (.drw [[],[0],[1],[2],[2],[4],[3,5],[6],[7],[8],[9],[10],[10],[12],[11,13],[14],[15],[10],[17],[16,18],[19],[20]] [gM 20 6,gB 21 .eql 20 (cI 0),gM 22 21,qf 22 (iM 23 3),qf 22 (iM 24 6),qf 22 (iB 25 .sub 24 (cI 1)),qf 22 (iI 26 2 23 25),qf 22 (iG 27 26 1 1),qf 22 (iL 28 27),qf 22 (iB 29 .neq 28 (cS [])),qf 22 (iM 30 29),qt 30 (iM 31 3),qt 30 (iM 32 6),qt 30 (iB 33 .sub 32 (cI 1)),qt 30 (iI 34 2 31 33),qt 30 (iG 35 34 1 1),qt 30 (iL 36 35),qt 30 (iG 37 5 0 0),qt 30 (iL 38 37),qt 30 (iB 39 .lss 36 38),qf 22 (iP 40 30 39 cF),gP 41 22 cT 40]) (.cond 41 (.ops [gM 42 3,gU 43 2 5,O1 (.bsl 44 34 2 (.agg [(.str []),(.str [])]) 1 [(0,43)]),O1 (.app 45 34 2 32 42 44),gA 3 45]) (.seq (.drw [[],[0],[],[],[3],[2,4],[5],[6],[1,7],[8]] [gF 46 5 1,gL 47 46,gM 48 3,gM 49 6,gB 50 .sub 49 (cI 1),gI 51 2 48 50,gF 52 51 1,gL 53 52,gC 54 125 [nL 47,nL 53],gB 55 .gtr 54 (cI 0)]) (.cond 55 (.ops [gM 56 3,gM 57 6,gB 58 .sub 57 (cI 1),gF 59 5 1,gL 60 59,gI 61 2 56 58,gF 62 61 1,gS 1 62 60]) .skip))))))) (.ops [gB 63 .add 14 (cI 1),gM 14 63]))))))) (sO [gM 64 3,O1 (.mov 2 34 2 64)] .ret))))))
theorem Awc:OF 124 65 Av2 [.t 2]:=oF Tryz.func124 rfl Tryz.ntmps124 (by kernel_rfl) (by kernel_rfl)
abbrev A2y:FuncId:=125
def Azu:Stm:=(sO [gA 4 (cI 0)] (.seq (.block 0 (sO [gM 6 0,gM 7 1,gB 8 .eql 6 7,gA 5 8] (.cond 5 (sO [gA 4 (cI 0)] .ret) (sO [gM 10 0,gB 11 .eql 10 (cS []),gA 9 11] (.cond 9 (sO [gA 4 (cI 1)] .ret) (sO [gM 13 1,gB 14 .eql 13 (cS []),gA 12 14] (cR 12 [gA 4 (cI (-1))]))))))) (sO [gM 15 0,gM 16 1,gC 17 111 [nL 15,nL 16],gA 4 17] .ret)))
theorem A0a:OF 125 18 Azu [.t 4]:=oF Tryz.func125 rfl Tryz.ntmps125 (by kernel_rfl) (by kernel_rfl)
abbrev Arv:FuncId:=139
def Aqf:Stm:=(sO [O1 (.box 1 0),gA 2 cF] (sO [gU 3 2 1,gC 4 93 [nL 3],gT 5 4,gA 2 5] .ret))
theorem Aqn:OF 139 6 Aqf [.t 2]:=oF Tryz.func139 rfl Tryz.ntmps139 (by kernel_rfl) (by kernel_rfl)

open Go.Proofs
theorem Rz (s:Sp):Fn Tryz.prog Axf [.v s.toI] (Is (.v (.bool (decide (Dk s)))) [.no]):=by
 refine Awb ?_ (by simp)
 repeat'((conv=>whnf);first|(apply aI<;>intro hb<;>first|exact absurd hb (by decide)|((try rw[hb]);(try simp only[Ad]at hb)))|(refine eI ?_ ?_;focus (and_intros<;>first|omega|exact rfl|(simp;done)))|(intro hfact))
 all_goals(try(conv=>whnf))
 all_goals(refine Done.mk ⟨SV.bool_congr ?_,by kernel_rfl⟩ (by kernel_rfl))
 all_goals(simp[Dk,G5]at*;grind)
theorem Aq8 (k:Ai):Fn Tryz.prog Aiu [.v (.str k)] (Is (.v (.bool false)) [.no]):=by
 refine Ais ?_ (by simp)
 (conv=>whnf)
 all_goals(try(conv=>whnf))
 exact Done.mk ⟨SV.bool_congr (by simp),by kernel_rfl⟩ (by kernel_rfl)
def cmpS (a b:Ai):Int:=if a<b then -1 else if b<a then 1 else 0
theorem T1 (a b:Ai):Fn Tryz.prog Afx [.v (.str a),.v (.str b)] (Is (.v (.int .i64 (cmpS a b))) [.no,.no]):=by
 refine Afd ?_ (by simp)
 repeat'((conv=>whnf);first|(apply aI<;>intro hb<;>first|exact absurd hb (by decide)|((try rw[hb]);(try simp only[Ad]at hb)))|(refine eI ?_ ?_;focus (and_intros<;>first|(intro _ hh;cases hh;done)|(simp;done)|decide))|(refine CallWp.mk ⟨_,Aq8 _,?_⟩;rintro _ _ ⟨rfl,rfl⟩))
 all_goals(try(conv=>whnf))
 all_goals(refine Done.mk ⟨congrArg (fun n=>SV.v (.int .i64 n)) ?_,by kernel_rfl⟩ (by kernel_rfl))
 all_goals(simp[cmpS,G5]at* <;>grind)
def Nn (a b:Ai):Int:=if a=b then 0 else if a=[]then 1 else if b=[]then -1 else cmpS a b
theorem Wa (a b:Ai):Fn Tryz.prog A2y [.v (.str a),.v (.str b)] (Is (.v (.int .i64 (Nn a b))) [.no,.no]):=by
 refine A0a ?_ (by simp)
 repeat'((conv=>whnf);first|(refine aI (fun hb=>?_) (fun hb=>?_)<;>((try rw[hb]);(try simp only[Ad]at hb);(try subst hb)))|(refine eI ?_ ?_;focus (and_intros<;>first|(intro _ hh;cases hh;done)|(simp;done)|decide))|(refine CallWp.mk ⟨_,T1 _ _,?_⟩;rintro _ _ ⟨rfl,rfl⟩))
 all_goals(try(conv=>whnf))
 all_goals(refine Done.mk ⟨congrArg (fun n=>SV.v (.int .i64 n)) ?_,by kernel_rfl⟩ (by kernel_rfl))
 all_goals(simp[Nn]at* <;>grind)
def SpIn (a b:Sp):Prop:=Dk a∧Dk b∧b.f≤a.f∧Nn a.t b.t≤0
instance (a b:Sp):Decidable (SpIn a b):=by unfold SpIn;infer_instance
set_option maxHeartbeats 1000000

open Go.Proofs
abbrev sps (l:List Sp):List I:=l.map Sp.toI
theorem Vh (l:List Sp):∀u∈sps l,u.size=2:=by
 intro u hu
 obtain⟨e,_,rfl⟩:=List.mem_map.1 hu
 rfl
theorem Vg {l:List Sp} {k:Nat} {e:Sp} (h:l[k]?=some e):(sps l)[k]?=some e.toI:=by simp[h]
theorem Atj (s:Sp):Fn Tryz.prog Arv [.v s.toI] (Is (.v (.bool (!decide (Dk s)))) [.no]):=by
 refine Aqn ?_ (by simp)
 repeat'((conv=>whnf);first|(refine eI ?_ ?_;focus (and_intros<;>first|omega|exact rfl|(intro _ hh;cases hh;done)|(simp;done)|decide))|(refine CallWp.mk ⟨_,Rz _,?_⟩;rintro _ _ ⟨rfl,rfl⟩))
 all_goals(try(conv=>whnf))
 exact Done.mk ⟨rfl,by kernel_rfl⟩ (by kernel_rfl)
theorem A38 (l:List Sp) (hl:l.length≤1000000):Fn Tryz.prog Rc [.v (.list (sps l))] (Is (.vec 34 2 (sps l)) [.no]):=by
 refine P6 ?_ (by simp)
 have h1:(([]:List I).length+(sps l).length)*32≤140737488355328:=by simp;omega
 have h2:([]:List I).length+(sps l).length≤maxLen:=by simp[maxLen];omega
 have h3:=Vh l
 repeat'((conv=>whnf);first|(refine aI (fun hb=>?_) (fun hb=>?_)<;>((try rw[hb]);(try subst hb)))|(refine eI ?_ ?_;focus (and_intros<;>first|omega|exact rfl|(simp;done)))|(intro hfact))
 all_goals(try(conv=>whnf))
 ·refine Done.mk ⟨congrArg (fun l=>SV.vec 34 2 l) ?_,by kernel_rfl⟩ (by kernel_rfl)
  simp_all
 ·exact Done.mk ⟨congrArg (fun l=>SV.vec 34 2 l) (List.nil_append _),by kernel_rfl⟩ (by kernel_rfl)
theorem V1 {e sz:Nat} {l:List I} {n:Nat} {u:I} (h:l[n]?=some u):(SV.vec e sz l).hit 0 [n]=some (n*sz+0,.item u):=by
 have:u.sub []=some (0,u):=by cases u<;>rfl
 simp[SV.hit,hitV,h,hitI,this]
def badB (s:Sp):Bool:= !decide (Dk s)
def idxF (p:Sp→Bool):Nat→List Sp→Int
 |_,[]=> -1
 |k,s::r=>if p s=true then k else idxF p (k+1) r
theorem A8t (l:List Sp) (hl:l.length≤1000000):Fn Tryz.prog M7 [.v (.list (sps l)),.v (.fn 139)] (Is (.v (.int .i64 (idxF badB 0 l))) [.no,.no]):=by
 refine M0 ?_ (by simp)
 have hmax:l.length≤maxLen:=by simp only[maxLen];omega
 repeat'((conv=>whnf);first|(refine eI ?_ ?_;focus (and_intros<;>exact rfl))|(intro hfact))
 all_goals(try(conv=>whnf))
 refine LoopWq.by (X:=Nat) (fun x=>[(8,.v (.int .i64 x))]) (fun x=>x≤l.length∧idxF badB x (l.drop x)=idxF badB 0 l) (fun x=>l.length - x)
  0 (by kernel_rfl) ⟨Nat.zero_le _,rfl⟩ ?_
 rintro k ⟨h1,h2⟩
 by_cases hk:k<l.length
 ·obtain⟨e,he⟩:∃e,l[k]?=some e:=⟨_,List.getElem?_eq_getElem hk⟩
  have hg:(sps l)[Int.toNat (k:Int)]?=some e.toI:=Vg he
  have hlt:¬decide ((k:Int)<((sps l).length:Int))=false:=by simp[hk]
  have hkl:Int.toNat (k:Int)<(sps l).length:=by simp[hk]
  have hke:l[k]=e:=by rw[List.getElem?_eq_getElem hk]at he;simpa using he
  rw[List.drop_eq_getElem_cons hk,hke]at h2
  repeat'((conv=>whnf);first|(apply aI<;>intro hb<;>first|exact absurd hb (by assumption)|((try rw[hb]);(try simp only[Ad]at hb)))|(refine eI ?_ ?_;focus (and_intros<;>first|omega|exact rfl|(intro _ hh;cases hh;done)|(simp;done)|decide))|((try dsimp only);rw[hg])|(refine CallWp.mk ⟨_,Atj _,?_⟩;rintro _ _ ⟨rfl,rfl⟩))
  all_goals(try(conv=>whnf))
  ·refine Done.mk ⟨congrArg (fun n=>SV.v (.int .i64 n)) ?_,by kernel_rfl⟩ (by kernel_rfl)
   rw[←h2,idxF,if_pos (by first|assumption|simp[badB, *])]
  ·refine Round.by (k+1) ?_ ?_ ?_
   ·rw[Ak hk hmax]
    show norm _ _=upd _ _
    kernel_rfl
   ·refine⟨hk,?_⟩
    rw[←h2,idxF,if_neg (by have:=hb;simp only[badB];simp at this ⊢;exact this)]
   ·show l.length - (k+1)<l.length - k
    omega
 ·have hlt:¬decide ((k:Int)<((sps l).length:Int))=true:=by simp;omega
  repeat'((conv=>whnf);(apply aI<;>intro hb<;>first|exact absurd hb (by assumption)|((try rw[hb]);(try simp only[Ad]at hb))))
  all_goals(try(conv=>whnf))
  refine Done.mk ⟨congrArg (fun n=>SV.v (.int .i64 n)) ?_,by kernel_rfl⟩ (by kernel_rfl)
  rw[←h2,List.drop_eq_nil_of_le (by omega)]
  rfl
set_option maxHeartbeats 8000000

open Go.Proofs
structure Ten where
 (name:Ai) (mb ks:Int)
 deriving DecidableEq
structure Gra where
 (sp:Sp) (r w:Bool)
 deriving DecidableEq
structure Usr where
 (name ten salt hash:Ai) (roles:List Ai)
 deriving DecidableEq
structure Rol where
 (name ten:Ai) (grants:List Gra)
 deriving DecidableEq
structure Roll where
 (rev:Int) (tens:List Ten) (usrs:List Usr) (rols:List Rol)
 deriving DecidableEq
abbrev Ten.toI (t:Ten):I:=.agg [.str t.name,.int .i64 t.mb,.int .i64 t.ks]
abbrev Gra.toI (g:Gra):I:=.agg [g.sp.toI,.bool g.r,.bool g.w]
abbrev Usr.toI (u:Usr):I:=.agg [.str u.name,.str u.ten,.str u.salt,.str u.hash,.list (strs u.roles)]
abbrev Rol.toI (x:Rol):I:=.agg [.str x.name,.str x.ten,.list (x.grants.map Gra.toI)]
abbrev Roll.toI (r:Roll):I:=.agg [.int .i64 r.rev,.list (r.tens.map Ten.toI),.list (r.usrs.map Usr.toI),.list (r.rols.map Rol.toI)]
def findAt {α:Type} (p:α→Bool):Nat→List α→Int
 |_,[]=> -1
 |k,a::r=>if p a then k else findAt p (k+1) r
abbrev Roll.tenAt (r:Roll) (n:Ai):Int:=findAt (fun t:Ten=>decide (t.name=n)) 0 r.tens
abbrev Roll.usrAt (r:Roll) (n:Ai):Int:=findAt (fun t:Usr=>decide (t.name=n)) 0 r.usrs
abbrev Roll.rolAt (r:Roll) (n:Ai):Int:=findAt (fun t:Rol=>decide (t.name=n)) 0 r.rols

open Go.Proofs
def E8 {α:Type} (gt:α→Bool) (x:α):List α→List α
 | []=>[x]
 |a::r=>if gt a then x::a::r else a::E8 gt x r
theorem Px {α:Type} (gt:α→Bool) (x:α):∀l:List α,(E8 gt x l).length=l.length+1
 | []=>rfl
 |a::r=>by
  unfold E8
  split
  ·simp
  ·simp[Px gt x r]
theorem Api (e x:Gra):(decide (e.sp.f=x.sp.f)&&(decide (e.sp.t=x.sp.t)&&true)&&(decide (e.r=x.r)&&(decide (e.w=x.w)&&true)))=decide (e=x):=by
 obtain⟨⟨a,b⟩,c,d⟩:=e
 obtain⟨⟨a',b'⟩,c',d'⟩:=x
 simp only[Bool.and_true]
 by_cases h1:a=a'<;>by_cases h2:b=b'<;>by_cases h3:c=c'<;>by_cases h4:d=d'<;>simp[h1,h2,h3,h4]

open Go.Proofs
abbrev Usr.toD (u:Usr):D:=.st [.it (.str u.name),.it (.str u.ten),.it (.str u.salt),.it (.str u.hash),.vec Em 1 ((u.roles.map I.str).map D.it)]
abbrev Rol.toD (x:Rol):D:=.st [.it (.str x.name),.it (.str x.ten),.vec Ep 4 ((x.grants.map Gra.toI).map D.it)]
abbrev Roll.toD (r:Roll):D:=.st [.it (.int .i64 r.rev),.vec Cc 3 ((r.tens.map Ten.toI).map D.it),.vec B3 5 (r.usrs.map Usr.toD),.vec B2 3 (r.rols.map Rol.toD)]
structure Roll.Small (r:Roll):Prop where
 hT:r.tens.length≤1000
 hU:r.usrs.length≤1000
 hX:r.rols.length≤1000
 hR:∀u∈r.usrs,u.roles.length≤1000
 hG:∀x∈r.rols,x.grants.length≤1000
def X7 {α:Type} (s:List α) (e:α):List α ⊕ List α:=.inl (s++[e])
def Aoz {α:Type} (s:List α):List α:=s
theorem Ar2 {α:Type}:∀(l o:List α),runL X7 Aoz l o=o++l
 | [],o=>by simp[runL,Aoz]
 |a::r,o=>by rw[Kh];simp[X7,aft,Ar2 r]
theorem Bcb (r:Roll) (hs:r.Small):Fn Tryz.prog Jq [.v r.toI] (Is (.own [] r.toD) [.no]):=by
 refine Aa1 ?_ (by simp)
 obtain⟨b1,b2,b3,b4,b5⟩:=hs
 repeat'((conv=>whnf);first|(refine eI ?_ ?_;focus (and_intros<;>first|omega|exact rfl|exact size_map (fun _=>rfl)|(simp only[Az];omega)|(simp;done)))|((with_reducible apply Drawn.by0);(focus kernel_rfl);intro hfact;(try simp only[dRS]at hfact)))
 all_goals(try(conv=>whnf))
 have hm:r.usrs.length≤maxLen:=by simp only[maxLen];omega
 have hAns:runL X7 Aoz r.usrs []=r.usrs:=Ar2 _ _
 refine each (r.usrs) _ _ _ (fun k s=>[(3,.own [] (.ptr (.st [.it (.int .i64 r.rev),.vec Cc 3 ((r.tens.map Ten.toI).map D.it),.vec B3 5 (s.map Usr.toD),.vec B2 3 []]))),(4,.v (.int .i64 k))]) (fun k s=>s.length≤k) [] (by kernel_rfl) (by simp) hAns ?_ ?_<;>clear hAns
 ·rintro k s e he hk hi hA
  dsimp only at hi hA ⊢
  have hbl:=b4 e (List.mem_of_getElem? he)
  repeat'((conv=>whnf);first|(apply aI<;>intro hb<;>first|(exfalso;simp only[Az]at hb<;>omega)|((try rw[hb]);(try simp only[Ad]at hb)))|(refine eI ?_ ?_;focus (and_intros<;>first|omega|exact rfl|exact size_map (fun _=>rfl)|exact F5 rfl|(simp only[Az];omega)|(simp;done)))|(intro hfact)|((try dsimp only);first|rw[Av he]|rw[An he]|rw[Ap he]))
  all_goals(try(conv=>whnf))
  all_goals first
   |(simp[-List.append_assoc,X7, *]at hA
     first
     |(refine RoundE.aft hA ?_ ?_
       ·(try dsimp only);(try rw[Ak hk hm]);(try simp only[List.map_append,List.map_cons,List.map_nil])
        show norm _ _=upd _ _
        kernel_rfl
       ·first|trivial|omega|((try dsimp only);simp only[Az];omega)|((try dsimp only);(try simp at*);omega))
     |(refine Done.mk ⟨?_,by kernel_rfl⟩ (by kernel_rfl)
       have hA':=hA
       first|(rw[←hA'];first|rfl|kernel_rfl|(simp only[List.map_append,List.map_cons,List.map_nil];first|rfl|kernel_rfl))|(rw[←Ff hA'];first|rfl|kernel_rfl|(simp only[List.map_append,List.map_cons,List.map_nil];first|rfl|kernel_rfl))|(simp at hA' ⊢;simp[*];done))
    )
 ·rintro s k rfl hi hA
  dsimp only at hi hA ⊢
  repeat'((conv=>whnf);first|(apply aI<;>intro hb<;>first|(exfalso;simp only[Az]at hb<;>omega)|((try rw[hb]);(try simp only[Ad]at hb)))|(refine eI ?_ ?_;focus (and_intros<;>first|exact rfl|(simp;done)))|(intro hfact))
  all_goals(try(conv=>whnf))
  obtain rfl:s=r.usrs:=hA
  clear hm
  have hm:r.rols.length≤maxLen:=by simp only[maxLen];omega
  have hAns:runL X7 Aoz r.rols []=r.rols:=Ar2 _ _
  refine each (r.rols) _ _ _ (fun k s=>[(3,.own [] (.ptr (.st [.it (.int .i64 r.rev),.vec Cc 3 ((r.tens.map Ten.toI).map D.it),.vec B3 5 (r.usrs.map Usr.toD),.vec B2 3 (s.map Rol.toD)]))),(6,.v (.int .i64 k))]) (fun k s=>s.length≤k) [] (by kernel_rfl) (by simp) hAns ?_ ?_<;>clear hAns
  ·rintro k s e he hk hi hA
   dsimp only at hi hA ⊢
   have hbl:=b5 e (List.mem_of_getElem? he)
   repeat'((conv=>whnf);first|(apply aI<;>intro hb<;>first|(exfalso;simp only[Az]at hb<;>omega)|((try rw[hb]);(try simp only[Ad]at hb)))|(refine eI ?_ ?_;focus (and_intros<;>first|omega|exact rfl|exact size_map (fun _=>rfl)|exact F5 rfl|(simp only[Az];omega)|(simp;done)))|(intro hfact)|((try dsimp only);first|rw[Av he]|rw[An he]|rw[Ap he]))
   all_goals(try(conv=>whnf))
   all_goals first
    |(simp[-List.append_assoc,X7, *]at hA
      first
      |(refine RoundE.aft hA ?_ ?_
        ·(try dsimp only);(try rw[Ak hk hm]);(try simp only[List.map_append,List.map_cons,List.map_nil])
         show norm _ _=upd _ _
         kernel_rfl
        ·first|trivial|omega|((try dsimp only);simp only[Az];omega)|((try dsimp only);(try simp at*);omega))
      |(refine Done.mk ⟨?_,by kernel_rfl⟩ (by kernel_rfl)
        have hA':=hA
        first|(rw[←hA'];first|rfl|kernel_rfl|(simp only[List.map_append,List.map_cons,List.map_nil];first|rfl|kernel_rfl))|(rw[←Ff hA'];first|rfl|kernel_rfl|(simp only[List.map_append,List.map_cons,List.map_nil];first|rfl|kernel_rfl))|(simp at hA' ⊢;simp[*];done))
     )
  ·rintro s k rfl hi hA
   dsimp only at hi hA ⊢
   repeat'((conv=>whnf);first|(apply aI<;>intro hb<;>first|(exfalso;simp only[Az]at hb<;>omega)|((try rw[hb]);(try simp only[Ad]at hb)))|(refine eI ?_ ?_;focus (and_intros<;>first|omega|exact rfl|(simp;done)))|(intro hfact))
   all_goals(try(conv=>whnf))
   obtain rfl:s=r.rols:=hA
   (apply dK<;>kernel_rfl)
end Go.Ab
