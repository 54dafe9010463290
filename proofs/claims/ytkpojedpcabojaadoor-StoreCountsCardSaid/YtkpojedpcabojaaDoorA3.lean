/- Lemmas -/
import Derived.Test.YtkpojedpcabojaaDoorW0
set_option linter.unusedVariables false
set_option linter.unusedSimpArgs false
set_option maxRecDepth 100000
namespace Go.Ab
open Go.Proofs
abbrev Af1:FuncId:=25
def Ad6:Stm:=(sO [gA 4 (cI 0)] (.seq (sO [gM 8 1,gC 9 73 [nL 8],gT 10 9] (cR 10 [gA 4 (cI 5)])) (.seq (sO [gM 11 0,gM 12 1,gC 13 74 [(true,11),nL 12],gB 14 .geq 13 (cI 0)] (cR 14 [gA 4 (cI 15)])) (.seq (sO [gM 15 0,O1 (.nchk 16 15),gF 17 16 0,gL 18 17,gN 19 18,gB 20 .geq 19 (cI 8)] (cR 20 [gA 4 (cI 17)])) (sO [O1 (.empty 21 50 4),gA 5 21] (sO [gA 6 cF] (.seq (sO [gA 7 (cI 0)] (.block 0 (.loop [22,23,24,25,26,27,28,29,30,31,32,33,34,35,36,37,38,39,40,41,42,43,44,45,46,47,48,49,50,51,52,53,54,55,56,57,58,59,62,68] (.seq (sO [gM 22 7,gM 23 0,O1 (.nchk 24 23),gF 25 24 0,gL 26 25,gN 27 26,gB 28 .lss 22 27] (.cond 28 .skip (.exit 0))) (.seq (.block 1 (.seq (sO [gM 31 6,gT 32 31,gM 33 32,qt 33 (iM 34 1),qt 33 (iM 35 0),qt 33 (.nchk 36 35),qt 33 (iG 37 36 0 0),qt 33 (iL 38 37),qt 33 (iM 39 7),qt 33 (iI 40 4 38 39),qt 33 (iG 41 40 0 0),qt 33 (iL 42 41),qt 33 (iB 43 .lss 34 42),gP 44 33 43 cF] (.cond 44 (sO [gM 45 5,gM 46 1,O1 (.build 47 [(.str []),(.int .i64 0),(.int .i64 0),(.list [])] [(0,46)]),O1 (.bsl 48 50 4 (.agg [(.str []),(.int .i64 0),(.int .i64 0),(.list [])]) 1 [(0,47)]),O1 (.app 49 50 4 56 45 48),gA 5 49] (.ops [gA 6 cT])) .skip)) (.ops [gM 50 5,gM 51 0,O1 (.nchk 52 51),gF 53 52 0,gL 54 53,gM 55 7,gI 56 4 54 55,gU 57 4 56,O1 (.bsl 58 50 4 (.agg [(.str []),(.int .i64 0),(.int .i64 0),(.list [])]) 1 [(0,57)]),O1 (.app 59 50 4 56 50 58),gA 5 59]))) (.ops [gM 29 7,gB 30 .add 29 (cI 1),gA 7 30])))))) (.seq (sO [gM 60 6,gT 61 60] (.cond 61 (.ops [gM 62 5,gM 63 1,O1 (.build 64 [(.str []),(.int .i64 0),(.int .i64 0),(.list [])] [(0,63)]),O1 (.bsl 65 50 4 (.agg [(.str []),(.int .i64 0),(.int .i64 0),(.list [])]) 1 [(0,64)]),O1 (.app 66 50 4 56 62 65),gA 5 66]) .skip)) (sO [gM 67 0,gM 68 5,O1 (.nchk 69 67),gF 70 69 0,gS 1 70 68] (sO [gA 4 (cI 0)] .ret))))))))))
theorem Ad8:OF 25 71 Ad6 [.t 4]:=oF Tryd.func25 rfl Tryd.ntmps25 (by kernel_rfl) (by kernel_rfl)
abbrev Ab1:FuncId:=26
def Xn:Stm:=(sO [gA 6 (cI 0),gA 7 (cI 0)] (sO [gM 18 0,gM 19 1,gC 20 74 [(true,18),nL 19],gA 8 20] (.seq (sO [gM 21 8,gB 22 .lss 21 (cI 0)] (cR 22 [gA 6 (cI 0),gA 7 (cI 16)])) (.seq (sO [gA 9 (cI 0)] (.block 0 (.loop [6,7,23,24,25,26,27,28,29,30,31,32,33,34,35,36,37,38,39,40,41,42,43,44,45,46,47,48,49,50,51,52,53,54,55,56,57,58,59,60,61,71,79,86,91,112,133,147,159,172] (.seq (sO [gM 23 9,gM 24 2,gN 25 24,gB 26 .lss 23 25] (.cond 26 .skip (.exit 0))) (.seq (.block 1 (sO [gM 29 2,gM 30 9,gI 31 3 29 30,gF 32 31 0,gL 33 32,O1 (.len 34 true 33),gB 35 .lss 34 (cI 1),gM 36 35,qf 36 (iM 37 2),qf 36 (iM 38 9),qf 36 (iI 39 3 37 38),qf 36 (iG 40 39 0 0),qf 36 (iL 41 40),qf 36 (.len 42 true 41),qf 36 (iB 43 .gtr 42 (cI 64)),gP 44 36 cT 43,gM 45 44,qf 45 (iM 46 2),qf 45 (iM 47 9),qf 45 (iI 48 3 46 47),qf 45 (iG 49 48 2 2),qf 45 (iL 50 49),qf 45 (iT 51 50),qf 45 (iM 52 51),qt 52 (iM 53 2),qt 52 (iM 54 9),qt 52 (iI 55 3 53 54),qt 52 (iG 56 55 1 1),qt 52 (iL 57 56),qt 52 (.len 58 true 57),qt 52 (iB 59 .gtr 58 (cI 256)),qf 45 (iP 60 52 59 cF),gP 61 45 cT 60] (cR 61 [gA 6 (cI 0),gA 7 (cI 1)]))) (.ops [gM 27 9,gB 28 .add 27 (cI 1),gA 9 28])))))) (sO [gM 62 0,O1 (.nchk 63 62),gF 64 63 0,gL 65 64,gM 66 8,gI 67 4 65 66,gU 68 4 67,O1 (.alloc 10 (.one (.i (.agg [(.str []),(.int .i64 0),(.int .i64 0),(.list [])])))),gS 4 10 68] (sO [gU 69 4 10,O1 (.alloc 11 (.one (.i (.agg [(.str []),(.int .i64 0),(.int .i64 0),(.list [])])))),gS 4 11 69] (.seq (sO [gA 12 (cI 0)] (.block 2 (.loop (kr [13,14,15,16,17,24,29,37,46,53] 70 113) (.seq (sO [gM 70 12,gM 71 2,gN 72 71,gB 73 .lss 70 72] (.cond 73 .skip (.exit 2))) (.seq (.block 3 (sO [gA 13 cT] (.seq (sO [gM 76 12,gB 77 .add 76 (cI 1),gA 14 77] (.block 4 (.loop [24,29,37,46,53,71,78,79,80,81,82,83,84,85,86,87,88,89,90,91,92,93,94,95,96,97,112,133,147,159,172] (.seq (sO [gM 78 14,gM 79 2,gN 80 79,gB 81 .lss 78 80] (.cond 81 .skip (.exit 4))) (.seq (.block 5 (.drw [0,1,3,3,15,31,63,3,3,387,899,1923,4095,8191,16383] [gM 84 13,gM 85 84,qt 85 (iM 86 2),qt 85 (iM 87 14),qt 85 (iI 88 3 86 87),qt 85 (iG 89 88 0 0),qt 85 (iL 90 89),qt 85 (iM 91 2),qt 85 (iM 92 12),qt 85 (iI 93 3 91 92),qt 85 (iG 94 93 0 0),qt 85 (iL 95 94),qt 85 (iB 96 .neq 90 95),gP 97 85 96 cF,gA 13 97])) (.ops [gM 82 14,gB 83 .add 82 (cI 1),gA 14 83])))))) (sO [O1 (.build 98 [(.int .i64 0),(.int .i64 0),(.str []),(.bool false)] [(3,cT)]),O1 (.alloc 15 (.one (.i (.agg [(.int .i64 0),(.int .i64 0),(.str []),(.bool false)])))),gS 4 15 98] (.seq (sO [gA 16 (cI 0)] (.block 6 (.loop [24,29,37,46,53,71,79,86,91,99,100,101,102,103,104,105,106,107,108,109,110,111,112,113,114,115,116,117,118,119,120,121,122,123,124,125,126,127,128,129,133,147,159,172] (.seq (sO [gM 99 16,gF 100 10 3,gL 101 100,gN 102 101,gB 103 .lss 99 102] (.cond 103 .skip (.exit 6))) (.seq (.block 7 (.seq (.drw [0,1,0,7,15,31,0,0,192,448,960,2047] [gF 106 10 3,gL 107 106,gM 108 16,gI 109 2 107 108,gF 110 109 0,gL 111 110,gM 112 2,gM 113 12,gI 114 3 112 113,gF 115 114 0,gL 116 115,gB 117 .eql 111 116]) (.cond 117 (.drw [0,1,0,7,15,31,0,64,255,511,1023,1023,2047] [gF 119 10 3,gL 120 119,gM 121 16,gI 122 2 120 121,gF 123 122 1,gL 124 123,gF 125 10 1,gL 126 125,gC 127 75 [nL 124,nL 126],gA 118 127,gE 128 118 0,gE 129 118 1,gS 4 15 128]) .skip))) (.ops [gM 104 16,gB 105 .add 104 (cI 1),gA 16 105])))))) (.seq (sO [gM 130 13,gT 131 130,gM 132 131,qf 132 (iM 133 2),qf 132 (iM 134 12),qf 132 (iI 135 3 133 134),qf 132 (iG 136 135 2 2),qf 132 (iL 137 136),qf 132 (iM 138 137),qt 138 (iG 139 15 3 3),qt 138 (iL 140 139),qf 132 (iP 141 138 140 cF),gP 142 132 cT 141] (.cond 142 (.exit 3) .skip)) (sO [gF 143 10 1,gL 144 143,gB 145 .add 144 (cI 1),O1 (.build 146 [(.int .i64 0),(.int .i64 0),(.str []),(.bool false)] [(0,145),(3,cT)]),O1 (.alloc 17 (.one (.i (.agg [(.int .i64 0),(.int .i64 0),(.str []),(.bool false)])))),gS 4 17 146] (.seq (sO [gM 147 2,gM 148 12,gI 149 3 147 148,gF 150 149 2,gL 151 150,gT 152 151] (.cond 152 (.seq (.drw [0,1,3,0,8,24,0,0,192,448,960,2047,4095] [gF 153 10 1,gL 154 153,gB 155 .add 154 (cI 1),gF 156 10 1,gL 157 156,gB 158 .add 157 (cI 1),gM 159 2,gM 160 12,gI 161 3 159 160,gF 162 161 1,gL 163 162,O1 (.build 164 [(.int .i64 0),(.int .i64 0),(.str []),(.bool false)] [(0,155),(1,158),(2,163)]),gS 4 17 164]) (sO [gF 165 15 3,gL 166 165,gT 167 166] (.cond 167 (.ops [gF 168 15 1,gL 169 168,gF 170 17 1,gS 1 170 169]) .skip))) .skip)) (.seq (.drw [0,0,0,6,14,30,0,127,255] [gU 171 4 11,gM 172 2,gM 173 12,gI 174 3 172 173,gF 175 174 0,gL 176 175,gU 177 4 17,gC 178 76 [nL 171,nL 176,nL 177],gS 4 11 178]) (.ops [gF 179 10 1,gL 180 179,gB 181 .add 180 (cI 1),gF 182 11 1,gS 1 182 181])))))))))) (.ops [gM 74 12,gB 75 .add 74 (cI 1),gA 12 75])))))) (.seq (.drw [0,1,3,7,0,0,63,127] [gM 183 0,O1 (.nchk 184 183),gF 185 184 0,gL 186 185,gM 187 8,gU 188 4 11,gI 189 4 186 187,gS 4 189 188]) (sO [gF 190 11 1,gL 191 190,gA 6 191,gA 7 (cI 0)] .ret)))))))))
theorem Abz:OF 26 192 Xn [.t 6,.t 7]:=oF Tryd.func26 rfl Tryd.ntmps26 (by kernel_rfl) (by kernel_rfl)
abbrev Af4:FuncId:=37
def Af2:Stm:=(sO [gA 4 cF] (.seq (sO [gM 6 0,gN 7 6,gM 8 1,gN 9 8,gB 10 .neq 7 9] (cR 10 [gA 4 cF])) (.seq (sO [gA 5 (cI 0)] (.block 0 (.loop (kr [4,6,8] 11 15) (.seq (sO [gM 11 5,gM 12 0,gN 13 12,gB 14 .lss 11 13] (.cond 14 .skip (.exit 0))) (.seq (.block 1 (.seq (.drw [0,0,3,7,0,0,48,112,255] [gM 17 0,gM 18 5,gI 19 4 17 18,gU 20 4 19,gM 21 1,gM 22 5,gI 23 4 21 22,gU 24 4 23,O1 (.eqs 25 true (.st [.str,.str,(.int .i64),(.int .i64)]) 20 24)]) (cR 25 [gA 4 cF]))) (.ops [gM 15 5,gB 16 .add 15 (cI 1),gA 5 16])))))) (sO [gA 4 cT] .ret))))
theorem Af3:OF 37 26 Af2 [.t 4]:=oF Tryd.func37 rfl Tryd.ntmps37 (by kernel_rfl) (by kernel_rfl)
abbrev Agm:FuncId:=73
def Agg:Stm:=(sO [gA 2 cF] (sO [gA 3 (cI 0)] (.seq (sO [gA 4 (cI 0)] (.block 0 (.loop (kr [2] 5 67) (.seq (sO [gM 7 4,gM 8 0,O1 (.len 9 true 8),gB 10 .lss 7 9] (.cond 10 .skip (.exit 0))) (.block 1 (sO [gM 11 0,gM 12 4,O1 (.slc 13 true 1 11 (some 12) none),gC 14 103 [nL 13],gA 5 14] (.seq (sO [gM 15 5,gB 16 .eql 15 (cI 0)] (cR 16 [gA 2 cF])) (sO [gM 17 0,gM 18 4,O1 (.sidx 19 17 18),gA 6 19] (.seq (sO [gM 20 5,gB 21 .eql 20 (cI 1),gM 22 21,qt 22 (iM 23 6),qt 22 (iB 24 .geq 23 (.c (.int .u8 97))),qt 22 (iM 25 24),qt 25 (iM 26 6),qt 25 (iB 27 .leq 26 (.c (.int .u8 122))),qt 22 (iP 28 25 27 cF),qt 22 (iM 29 28),qf 29 (iM 30 6),qf 29 (iB 31 .geq 30 (.c (.int .u8 48))),qf 29 (iM 32 31),qt 32 (iM 33 6),qt 32 (iB 34 .leq 33 (.c (.int .u8 57))),qf 29 (iP 35 32 34 cF),qt 22 (iP 36 29 cT 35),qt 22 (iM 37 36),qf 37 (iM 38 6),qf 37 (iB 39 .eql 38 (.c (.int .u8 95))),qt 22 (iP 40 37 cT 39),qt 22 (iM 41 40),qf 41 (iM 42 6),qf 41 (iB 43 .eql 42 (.c (.int .u8 45))),qf 41 (iM 44 43),qt 44 (iM 45 4),qt 44 (iB 46 .gtr 45 (cI 0)),qf 41 (iP 47 44 46 cF),qt 22 (iP 48 41 cT 47),qt 22 (iT 49 48),gP 50 22 49 cF,gM 51 50,qf 51 (iM 52 5),qf 51 (iB 53 .gtr 52 (cI 1)),qf 51 (iM 54 53),qt 54 (iM 55 0),qt 54 (iM 56 4),qt 54 (iM 57 4),qt 54 (iM 58 5),qt 54 (iB 59 .add 57 58),qt 54 (.slc 60 true 1 55 (some 56) (some 59)),.call (some (54,true)) (some 61) 104 [nL 60],qt 54 (iT 62 61),qf 51 (iP 63 54 62 cF),gP 64 51 cT 63] (cR 64 [gA 2 cF])) (sO [gM 65 4,gM 66 5,gB 67 .add 65 66,gA 4 67] (sO [gM 68 3,gB 69 .add 68 (cI 1),gA 3 69] (sO [gM 70 3,gB 71 .gtr 70 (cI 24)] (cR 71 [gA 2 cF]))))))))))))) (sO [gM 72 3,gB 73 .gtr 72 (cI 0),gA 2 73] .ret))))
theorem Agi:OF 73 74 Agg [.t 2]:=oF Tryd.func73 rfl Tryd.ntmps73 (by kernel_rfl) (by kernel_rfl)
abbrev Af0:FuncId:=74
def Ad3:Stm:=(sO [gA 4 (cI 0)] (.seq (sO [gA 5 (cI 0)] (.block 0 (.loop (kr [4] 6 20) (.seq (sO [gM 6 5,gM 7 0,O1 (.nchk 8 7),gF 9 8 0,gL 10 9,gN 11 10,gB 12 .lss 6 11] (.cond 12 .skip (.exit 0))) (.seq (.block 1 (sO [gM 15 0,O1 (.nchk 16 15),gF 17 16 0,gL 18 17,gM 19 5,gI 20 4 18 19,gF 21 20 0,gL 22 21,gM 23 1,gB 24 .eql 22 23] (cR 24 [gM 25 5,gA 4 25]))) (.ops [gM 13 5,gB 14 .add 13 (cI 1),gA 5 14])))))) (sO [gA 4 (cI (-1))] .ret)))
theorem Ad7:OF 74 26 Ad3 [.t 4]:=oF Tryd.func74 rfl Tryd.ntmps74 (by kernel_rfl) (by kernel_rfl)
abbrev Ab0:FuncId:=81
def Vi:Stm:=(sO [O1 (.box 7 2),gA 10 (.nils 67 4),gA 11 cF,gA 12 (cI 0)] (sO [gM 16 0,gM 17 1,gC 18 74 [(true,16),nL 17],gA 13 18] (.seq (sO [gM 19 13,gB 20 .lss 19 (cI 0)] (cR 20 [gA 10 (.nils 67 4),gA 11 cF,gA 12 (cI 16)])) (sO [gM 21 0,O1 (.nchk 22 21),gF 23 22 0,gL 24 23,gM 25 13,gI 26 4 24 25,gU 27 4 26,O1 (.alloc 14 (.one (.i (.agg [(.str []),(.int .i64 0),(.int .i64 0),(.list [])])))),gS 4 14 27] (.seq (sO [gU 28 2 7,gC 29 109 [nL 28],gT 30 29,gM 31 30,qf 31 (iM 32 3),qf 31 (iB 33 .lss 32 (cI 0)),gP 34 31 cT 33,gM 35 34,qf 35 (iM 36 4),qf 35 (iB 37 .lss 36 (cI 1)),gP 38 35 cT 37,gM 39 38,qf 39 (iM 40 4),qf 39 (iB 41 .gtr 40 (cI 16)),gP 42 39 cT 41] (cR 42 [gA 10 (.nils 67 4),gA 11 cF,gA 12 (cI 1)])) (.seq (sO [gM 43 3,gF 44 14 1,gL 45 44,gB 46 .gtr 43 45] (cR 46 [gA 10 (.nils 67 4),gA 11 cF,gA 12 (cI 13)])) (.seq (sO [gM 47 3,gB 48 .gtr 47 (cI 0),gM 49 48,qt 49 (iM 50 3),qt 49 (iG 51 14 2 2),qt 49 (iL 52 51),qt 49 (iB 53 .lss 50 52),gP 54 49 53 cF] (cR 54 [gA 10 (.nils 67 4),gA 11 cF,gA 12 (cI 14)])) (.seq (sO [gM 55 3,gB 56 .eql 55 (cI 0)] (.cond 56 (.ops [gF 57 14 1,gL 58 57,gA 3 58]) .skip)) (sO [gU 59 4 14,gU 60 2 7,gM 61 3,gC 62 110 [nL 59,nL 60,nL 61],gA 15 62] (.seq (sO [gM 63 15,gN 64 63,gM 65 4,gB 66 .gtr 64 65] (cR 66 [gM 67 15,gM 68 4,O1 (.slc 69 false 4 67 none (some 68)),gA 10 69,gA 11 cT,gA 12 (cI 0)])) (sO [gM 70 15,O1 (.mov 10 67 4 70),gA 11 cF,gA 12 (cI 0)] .ret)))))))))))
theorem Aby:OF 81 71 Vi [.t 10,.t 11,.t 12]:=oF Tryd.func81 rfl Tryd.ntmps81 (by kernel_rfl) (by kernel_rfl)
abbrev Nf:FuncId:=82
def Ms:Stm:=(sO [gA 6 (cI 0)] (sO [gM 15 0,gM 16 1,gC 17 74 [(true,15),nL 16],gA 7 17] (.seq (sO [gM 18 7,gB 19 .lss 18 (cI 0)] (cR 19 [gA 6 (cI 16)])) (sO [gM 20 0,O1 (.nchk 21 20),gF 22 21 0,gL 23 22,gM 24 7,gI 25 4 23 24,gU 26 4 25,O1 (.alloc 8 (.one (.i (.agg [(.str []),(.int .i64 0),(.int .i64 0),(.list [])])))),gS 4 8 26] (.seq (sO [gM 27 2,gB 28 .lss 27 (cI 0)] (cR 28 [gA 6 (cI 1)])) (.seq (sO [gM 29 2,gF 30 8 1,gL 31 30,gB 32 .gtr 29 31] (cR 32 [gA 6 (cI 13)])) (.seq (sO [gM 33 2,gF 34 8 2,gL 35 34,gB 36 .lss 33 35] (cR 36 [gA 6 (cI 14)])) (sO [O1 (.empty 37 130 2),gA 9 37] (.seq (sO [gA 10 (cI 0)] (.block 0 (.loop [11,12,13,14,38,39,40,41,42,43,44,45,46,47,48,49,50,51,52,53,54,55,56,57,58,59,60,61,62,63,64,65,66,67,68,69,70,71,72,73,74,75,76,77,78,79,80,81,82,83,84,85,86,87,88,89,90,91,92,93,94,95,96,97,98,99,100,101,102,103,104,105,106,107,108,109,110,111,112,113,114,116] (.seq (sO [gM 38 10,gF 39 8 3,gL 40 39,gN 41 40,gB 42 .lss 38 41] (.cond 42 .skip (.exit 0))) (.seq (.block 1 (sO [gF 45 8 3,gL 46 45,gM 47 10,gI 48 2 46 47,gF 49 48 0,gL 50 49,O1 (.build 51 [(.str []),(.list [])] [(0,50)]),O1 (.alloc 11 (.one (.i (.agg [(.str []),(.list [])])))),gS 2 11 51] (sO [gF 53 8 3,gL 54 53,gM 55 10,gI 56 2 54 55,gF 57 56 1,gL 58 57,gM 59 2,gC 60 75 [nL 58,nL 59],gA 52 60,gE 61 52 0,gE 62 52 1,O1 (.alloc 12 (.one (.i (.agg [(.int .i64 0),(.int .i64 0),(.str []),(.bool false)])))),gS 4 12 61,gA 13 62] (.seq (sO [gM 63 13] (.cond 63 (.ops [gF 64 11 1,gL 65 64,gU 66 4 12,O1 (.bsl 67 125 4 (.agg [(.int .i64 0),(.int .i64 0),(.str []),(.bool false)]) 1 [(0,66)]),O1 (.app 68 125 4 40 65 67),gF 69 11 1,gS 1 69 68]) .skip)) (.seq (sO [gA 14 (cI 0)] (.block 2 (.loop [70,71,72,73,74,75,76,77,78,79,80,81,82,83,84,85,86,87,88,89,90,91,92,93,94,95,96,97,98,99,100,101,102,103,104,105,106,111,116] (.seq (sO [gM 70 14,gF 71 8 3,gL 72 71,gM 73 10,gI 74 2 72 73,gF 75 74 1,gL 76 75,gN 77 76,gB 78 .lss 70 77] (.cond 78 .skip (.exit 2))) (.seq (.block 3 (sO [gF 81 8 3,gL 82 81,gM 83 10,gI 84 2 82 83,gF 85 84 1,gL 86 85,gM 87 14,gI 88 4 86 87,gF 89 88 0,gL 90 89,gM 91 2,gB 92 .gtr 90 91] (.cond 92 (.drw [0,1,0,4,0,28,60,124,0,508,1020,2044,4095,8191,16383] [gF 93 11 1,gL 94 93,gF 95 8 3,gL 96 95,gM 97 10,gI 98 2 96 97,gF 99 98 1,gL 100 99,gM 101 14,gI 102 4 100 101,gU 103 4 102,O1 (.bsl 104 125 4 (.agg [(.int .i64 0),(.int .i64 0),(.str []),(.bool false)]) 1 [(0,103)]),O1 (.app 105 125 4 40 94 104),gF 106 11 1,gS 1 106 105]) .skip))) (.ops [gM 79 14,gB 80 .add 79 (cI 1),gA 14 80])))))) (sO [gF 107 11 1,gL 108 107,gN 109 108,gB 110 .gtr 109 (cI 0)] (.cond 110 (.ops [gM 111 9,gU 112 2 11,O1 (.bsl 113 130 2 (.agg [(.str []),(.list [])]) 1 [(0,112)]),O1 (.app 114 130 2 40 111 113),gA 9 114]) .skip))))))) (.ops [gM 43 10,gB 44 .add 43 (cI 1),gA 10 44])))))) (sO [gM 115 2,gM 116 9,gF 117 8 2,gS 1 117 115,gF 118 8 3,gS 1 118 116] (.seq (.drw [0,1,3,7,0,0,63,127] [gM 119 0,O1 (.nchk 120 119),gF 121 120 0,gL 122 121,gM 123 7,gU 124 4 8,gI 125 4 122 123,gS 4 125 124]) (sO [gA 6 (cI 0)] .ret))))))))))))
theorem Na:OF 82 126 Ms [.t 6]:=oF Tryd.func82 rfl Tryd.ntmps82 (by kernel_rfl) (by kernel_rfl)
abbrev Mo:FuncId:=103
def Ago:Stm:=(sO [gA 2 (cI 0)] (.seq (sO [gM 3 0,gC 4 123 [nL 3,nL (cI 0),nL (.c (.int .u8 0)),nL (.c (.int .u8 127))]] (cR 4 [gA 2 (cI 1)])) (.seq (sO [gM 5 0,gC 6 123 [nL 5,nL (cI 0),nL (.c (.int .u8 194)),nL (.c (.int .u8 223))],gM 7 6,qt 7 (iM 8 0),.call (some (7,true)) (some 9) 124 [nL 8,nL (cI 1),nL (cI 1)],gP 10 7 9 cF] (cR 10 [gA 2 (cI 2)])) (.seq (sO [gM 11 0,gC 12 124 [nL 11,nL (cI 1),nL (cI 2)]] (.cond 12 (sO [gM 13 0,gC 14 123 [nL 13,nL (cI 0),nL (.c (.int .u8 224)),nL (.c (.int .u8 224))],gM 15 14,qt 15 (iM 16 0),.call (some (15,true)) (some 17) 123 [nL 16,nL (cI 1),nL (.c (.int .u8 160)),nL (.c (.int .u8 191))],gP 18 15 17 cF,gM 19 18,qf 19 (iM 20 0),.call (some (19,false)) (some 21) 123 [nL 20,nL (cI 0),nL (.c (.int .u8 225)),nL (.c (.int .u8 236))],gP 22 19 cT 21,gM 23 22,qf 23 (iM 24 0),.call (some (23,false)) (some 25) 123 [nL 24,nL (cI 0),nL (.c (.int .u8 237)),nL (.c (.int .u8 237))],qf 23 (iM 26 25),qt 26 (iM 27 0),.call (some (26,true)) (some 28) 123 [nL 27,nL (cI 1),nL (.c (.int .u8 128)),nL (.c (.int .u8 159))],qf 23 (iP 29 26 28 cF),gP 30 23 cT 29,gM 31 30,qf 31 (iM 32 0),.call (some (31,false)) (some 33) 123 [nL 32,nL (cI 0),nL (.c (.int .u8 238)),nL (.c (.int .u8 239))],gP 34 31 cT 33] (cR 34 [gA 2 (cI 3)])) .skip)) (.seq (sO [gM 35 0,gC 36 124 [nL 35,nL (cI 1),nL (cI 3)]] (.cond 36 (sO [gM 37 0,gC 38 123 [nL 37,nL (cI 0),nL (.c (.int .u8 240)),nL (.c (.int .u8 240))],gM 39 38,qt 39 (iM 40 0),.call (some (39,true)) (some 41) 123 [nL 40,nL (cI 1),nL (.c (.int .u8 144)),nL (.c (.int .u8 191))],gP 42 39 41 cF,gM 43 42,qf 43 (iM 44 0),.call (some (43,false)) (some 45) 123 [nL 44,nL (cI 0),nL (.c (.int .u8 241)),nL (.c (.int .u8 243))],gP 46 43 cT 45,gM 47 46,qf 47 (iM 48 0),.call (some (47,false)) (some 49) 123 [nL 48,nL (cI 0),nL (.c (.int .u8 244)),nL (.c (.int .u8 244))],qf 47 (iM 50 49),qt 50 (iM 51 0),.call (some (50,true)) (some 52) 123 [nL 51,nL (cI 1),nL (.c (.int .u8 128)),nL (.c (.int .u8 143))],qf 47 (iP 53 50 52 cF),gP 54 47 cT 53] (cR 54 [gA 2 (cI 4)])) .skip)) (sO [gA 2 (cI 0)] .ret))))))
theorem Agr:OF 103 55 Ago [.t 2]:=oF Tryd.func103 rfl Tryd.ntmps103 (by kernel_rfl) (by kernel_rfl)
abbrev Agd:FuncId:=104
def Af9:Stm:=(sO [gA 2 cF] (.seq (sO [gM 3 0,O1 (.len 4 true 3),gB 5 .eql 4 (cI 1)] (cR 5 [gM 6 0,O1 (.sidx 7 6 (cI 0)),gB 8 .geq 7 (.c (.int .u8 32)),gM 9 8,qt 9 (iM 10 0),qt 9 (.sidx 11 10 (cI 0)),qt 9 (iB 12 .leq 11 (.c (.int .u8 126))),gP 13 9 12 cF,gM 14 13,qt 14 (iM 15 0),qt 14 (.sidx 16 15 (cI 0)),qt 14 (iB 17 .neq 16 (.c (.int .u8 92))),gP 18 14 17 cF,gA 2 18])) (.seq (sO [gM 19 0,O1 (.len 20 true 19),gB 21 .eql 20 (cI 2),gM 22 21,qt 22 (iM 23 0),qt 22 (.sidx 24 23 (cI 0)),qt 22 (iB 25 .eql 24 (.c (.int .u8 194))),gP 26 22 25 cF] (cR 26 [gM 27 0,O1 (.sidx 28 27 (cI 1)),gB 29 .geq 28 (.c (.int .u8 161)),gA 2 29])) (sO [gM 30 0,O1 (.len 31 true 30),gB 32 .gtr 31 (cI 1),gA 2 32] .ret))))
theorem Agb:OF 104 33 Af9 [.t 2]:=oF Tryd.func104 rfl Tryd.ntmps104 (by kernel_rfl) (by kernel_rfl)
abbrev Age:FuncId:=123
def Aga:Stm:=(sO [gA 8 cF] (sO [gM 9 1,gM 10 0,O1 (.len 11 true 10),gB 12 .lss 9 11,gM 13 12,qt 13 (iM 14 0),qt 13 (iM 15 1),qt 13 (.sidx 16 14 15),qt 13 (iM 17 2),qt 13 (iB 18 .geq 16 17),gP 19 13 18 cF,gM 20 19,qt 20 (iM 21 0),qt 20 (iM 22 1),qt 20 (.sidx 23 21 22),qt 20 (iM 24 3),qt 20 (iB 25 .leq 23 24),gP 26 20 25 cF,gA 8 26] .ret))
theorem Agc:OF 123 27 Aga [.t 8]:=oF Tryd.func123 rfl Tryd.ntmps123 (by kernel_rfl) (by kernel_rfl)
abbrev Agv:FuncId:=124
def Agp:Stm:=(sO [gA 6 cF] (.seq (sO [gA 7 (cI 0)] (.block 0 (.loop (kr [6] 8 11) (.seq (sO [gM 8 7,gM 9 2,gB 10 .lss 8 9] (.cond 10 .skip (.exit 0))) (.seq (.block 1 (sO [gM 13 0,gM 14 1,gM 15 7,gB 16 .add 14 15,gC 17 123 [nL 13,nL 16,nL (.c (.int .u8 128)),nL (.c (.int .u8 191))],gT 18 17] (cR 18 [gA 6 cF]))) (.ops [gM 11 7,gB 12 .add 11 (cI 1),gA 7 12])))))) (sO [gA 6 cT] .ret)))
theorem Ags:OF 124 19 Agp [.t 6]:=oF Tryd.func124 rfl Tryd.ntmps124 (by kernel_rfl) (by kernel_rfl)
set_option maxHeartbeats 4000000

open Go.Proofs
def A8 (s:Az) (k lo hi:Int):Bool:=match s[k.toNat]? with
 |some c=>decide (lo≤(c.toNat:Int)∧(c.toNat:Int)≤hi)
 |none=>false
theorem Ahk (s:Az) (k lo hi:Int) (h0:0≤k):Fn Tryd.prog Age [.v (.str s),.v (.int .i64 k),.v (.int .u8 lo),.v (.int .u8 hi)] (Is (.v (.bool (A8 s k lo hi))) [.no,.no,.no,.no]):=by
 refine Agc ?_ (by simp)
 by_cases hk:k.toNat<s.length
 ·obtain⟨c,hc⟩:∃c,s[k.toNat]?=some c:=⟨_,List.getElem?_eq_getElem hk⟩
  have hlt:¬decide (k<(s.length:Int))=false:=by simp;omega
  repeat'((conv=>whnf);first|(refine aI (fun hb=>?_) (fun hb=>?_)<;>first|(exact absurd hb (by first|assumption|decide))|((try rw[hb]);(try simp only[Aa]at hb)))|(refine eI ?_ ?_;focus (and_intros<;>first|omega|exact rfl))|(intro hfact)|((try dsimp only);rw[hc]))
  all_goals(try(conv=>whnf))
  all_goals(refine Done.mk ⟨SV.bool_congr ?_,by kernel_rfl⟩ (by kernel_rfl))
  all_goals(simp only[A8,hc];simp at*;first|done|omega|grind)
 ·have hlt:¬decide (k<(s.length:Int))=true:=by simp;omega
  repeat'((conv=>whnf);first|(refine aI (fun hb=>?_) (fun hb=>?_)<;>first|(exact absurd hb (by first|assumption|decide))|((try rw[hb]);(try simp only[Aa]at hb)))|(refine eI ?_ ?_;focus (and_intros<;>exact rfl))|(intro hfact))
  all_goals(try(conv=>whnf))
  refine Done.mk ⟨SV.bool_congr ?_,by kernel_rfl⟩ (by kernel_rfl)
  simp[A8,List.getElem?_eq_none (show s.length≤k.toNat by omega)]
def Fv (s:Az) (k n:Nat):Bool:=(List.range n).all fun i=>A8 s ((k+i:Nat):Int) 128 191
theorem Ahc (s:Az) (k n:Nat) (hk:k≤10) (hn:n≤10):Fn Tryd.prog Agv [.v (.str s),.v (.int .i64 k),.v (.int .i64 n)] (Is (.v (.bool (Fv s k n))) [.no,.no,.no]):=by
 refine Ags ?_ (by simp)
 (skip)
 all_goals(try(conv=>whnf))
 refine LoopWq.by (X:=Nat) (fun x=>[(7,.v (.int .i64 x))]) (fun x=>x≤n∧Fv s k x=true) (fun x=>n - x) 0 (by kernel_rfl) ⟨Nat.zero_le _,rfl⟩ ?_
 rintro x ⟨h1,h2⟩
 by_cases hx:x<n
 ·have hlt:¬decide ((x:Int)<(n:Int))=false:=by simp[hx]
  have hw:IntKind.i64.wrap ((k:Int)+(x:Int))=((k+x:Nat):Int):=by
   rw[show(k:Int)+(x:Int)=((k+x:Nat):Int)by omega];exact Bf (by omega)
  have hs:=Ahk s ((k+x:Nat):Int) 128 191 (by omega)
  repeat'((conv=>whnf);first|(refine aI (fun hb=>?_) (fun hb=>?_)<;>first|(exact absurd hb (by assumption))|((try rw[hb]);(try simp only[Aa]at hb)))|(refine eI ?_ ?_;focus (and_intros<;>first|(intro _ hh;cases hh;done)|(simp;done)|decide))|((try dsimp only);rw[hw])|(refine CallWp.mk ⟨_,hs,?_⟩;rintro _ _ ⟨rfl,rfl⟩))
  all_goals(try(conv=>whnf))
  ·rename_i hb
   refine Done.mk ⟨SV.bool_congr ?_,by kernel_rfl⟩ (by kernel_rfl)
   try simp only[Bool.not_eq_true']at hb
   symm
   simp only[Fv,List.all_eq_false,List.mem_range]
   exact⟨x,hx,by rw[hb];decide⟩
  ·rename_i hb
   refine Round.by (x+1) ?_ ⟨hx,?_⟩ (by omega)
   ·rw[Dk hx (by simp only[maxLen];omega)]
    show norm _ _=upd _ _
    kernel_rfl
   ·unfold Fv at h2 ⊢
    rw[List.range_succ,List.all_append,h2]
    try simp only[Bool.not_eq_false']at hb
    simp only[List.all_cons,List.all_nil,Bool.and_true,Bool.true_and];exact hb
 ·have hlt:¬decide ((x:Int)<(n:Int))=true:=by simp;omega
  have:x=n:=by omega
  subst this
  repeat'((conv=>whnf);(refine aI (fun hb=>?_) (fun hb=>?_)<;>first|(exact absurd hb (by assumption))|((try rw[hb]);(try simp only[Aa]at hb))))
  all_goals(try(conv=>whnf))
  refine Done.mk ⟨SV.bool_congr ?_,by kernel_rfl⟩ (by kernel_rfl)
  exact h2.symm
def G9 (s:Az):Int:=
 if A8 s 0 0 127 then 1
 else if(A8 s 0 194 223&&Fv s 1 1)then 2
 else if(Fv s 1 2&&((A8 s 0 224 224&&A8 s 1 160 191)||A8 s 0 225 236||(A8 s 0 237 237&&A8 s 1 128 159)||A8 s 0 238 239))then 3
 else if(Fv s 1 3&&((A8 s 0 240 240&&A8 s 1 144 191)||A8 s 0 241 243||(A8 s 0 244 244&&A8 s 1 128 143)))then 4
 else 0
theorem Ajg (s:Az):Fn Tryd.prog Mo [.v (.str s)] (Is (.v (.int .i64 (G9 s))) [.no]):=by
 refine Agr ?_ (by simp)
 have t1:=Ahc s 1 1 (by omega) (by omega)
 have t2:=Ahc s 1 2 (by omega) (by omega)
 have t3:=Ahc s 1 3 (by omega) (by omega)
 repeat'((conv=>whnf);first|(refine aI (fun hb=>?_) (fun hb=>?_)<;>first|(exact absurd hb (by decide))|((try rw[hb]);(try simp only[Aa]at hb)))|(refine eI ?_ ?_;focus (and_intros<;>first|(intro _ hh;cases hh;done)|(simp;done)|decide))|(refine CallWp.mk ⟨_,Ahk _ _ _ _ (by omega),?_⟩;rintro _ _ ⟨rfl,rfl⟩)|(refine CallWp.mk ⟨_,t1,?_⟩;rintro _ _ ⟨rfl,rfl⟩)|(refine CallWp.mk ⟨_,t2,?_⟩;rintro _ _ ⟨rfl,rfl⟩)|(refine CallWp.mk ⟨_,t3,?_⟩;rintro _ _ ⟨rfl,rfl⟩))
 all_goals(try(conv=>whnf))
 all_goals(refine Done.mk ⟨congrArg (fun n=>SV.v (.int .i64 n)) ?_,by kernel_rfl⟩ (by kernel_rfl))
 all_goals(unfold G9;simp at*;grind)

open Go.Proofs
def E8 (s:Az):Bool:=match s with
 | []=>false
 | [c]=>decide (32≤(c.toNat:Int))&&decide ((c.toNat:Int)≤126)&& !decide ((c.toNat:Int)=92)
 | [c,d]=>if(c.toNat:Int)=194 then decide (161≤(d.toNat:Int))else true
 |_=>true
theorem Aip (s:Az):Fn Tryd.prog Agd [.v (.str s)] (Is (.v (.bool (E8 s))) [.no]):=by
 refine Agb ?_ (by simp)
 rcases s with _|⟨c,_|⟨d,_|⟨e,r⟩⟩⟩
 ·repeat'((conv=>whnf);first|(refine aI (fun hb=>?_) (fun hb=>?_)<;>first|(exact absurd hb (by decide))|((try rw[hb]);(try simp only[Aa]at hb)))|(refine eI ?_ ?_;focus (and_intros<;>exact rfl))|(intro hfact))
  all_goals(try(conv=>whnf))
  exact Done.mk ⟨rfl,by kernel_rfl⟩ (by kernel_rfl)
 ·have h1:¬decide ((([c]:Az).length:Int)=1)=false:=by simp
  repeat'((conv=>whnf);first|(refine aI (fun hb=>?_) (fun hb=>?_)<;>first|(exact absurd hb (by first|assumption|decide))|((try rw[hb]);(try simp only[Aa]at hb)))|(refine eI ?_ ?_;focus (and_intros<;>first|omega|exact rfl))|(intro hfact))
  all_goals(try(conv=>whnf))
  all_goals(refine Done.mk ⟨SV.bool_congr ?_,by kernel_rfl⟩ (by kernel_rfl))
  all_goals(simp[E8]at*;grind)
 ·have h1:¬decide ((([c,d]:Az).length:Int)=1)=true:=by simp
  have h2:¬decide ((([c,d]:Az).length:Int)=2)=false:=by simp
  have h3:¬decide (1<(([c,d]:Az).length:Int))=false:=by simp
  repeat'((conv=>whnf);first|(refine aI (fun hb=>?_) (fun hb=>?_)<;>first|(exact absurd hb (by assumption))|((try rw[hb]);(try simp only[Aa]at hb)))|(refine eI ?_ ?_;focus (and_intros<;>first|omega|exact rfl))|(intro hfact))
  all_goals(try(conv=>whnf))
  all_goals(refine Done.mk ⟨SV.bool_congr ?_,by kernel_rfl⟩ (by kernel_rfl))
  all_goals(simp[E8]at*;grind)
 ·have h1:¬decide (((c::d::e::r:Az).length:Int)=1)=true:=by simp;omega
  have h2:¬decide (((c::d::e::r:Az).length:Int)=2)=true:=by simp;omega
  repeat'((conv=>whnf);first|(refine aI (fun hb=>?_) (fun hb=>?_)<;>first|(exact absurd hb (by assumption))|((try rw[hb]);(try simp only[Aa]at hb)))|(refine eI ?_ ?_;focus (and_intros<;>exact rfl))|(intro hfact))
  all_goals(try(conv=>whnf))
  all_goals(refine Done.mk ⟨SV.bool_congr ?_,by kernel_rfl⟩ (by kernel_rfl))
  all_goals(simp[E8]at*;try grind)

open Go.Proofs
theorem Ahz {s:Az} {k:Nat} {lo hi:Int} (h:A8 s k lo hi=true):k<s.length:=by
 unfold A8 at h
 split at h
 ·rename_i c hc
  have:=(List.getElem?_eq_some_iff.1 hc).1
  simpa using this
 ·cases h
theorem Ahs {s:Az} {k n:Nat} (h:Fv s k n=true) (hn:0<n):k+n≤s.length:=by
 simp only[Fv,List.all_eq_true,List.mem_range]at h
 have:=Ahz (h (n - 1) (by omega))
 omega
theorem Ajn (s:Az):0≤G9 s∧G9 s≤s.length:=by
 unfold G9
 split
 ·rename_i h;have:=Ahz (k:=0) h;omega
 split
 ·rename_i h;simp only[Bool.and_eq_true]at h;have:=Ahs h.2 (by omega);omega
 split
 ·rename_i h;simp only[Bool.and_eq_true]at h;have:=Ahs h.1 (by omega);omega
 split
 ·rename_i h;simp only[Bool.and_eq_true]at h;have:=Ahs h.1 (by omega);omega
 omega
def badR (k:Nat) (c:Int) (at':Nat) (piece:Az):Bool:=
 (decide (k=1)&& !((decide (97≤c)&&decide (c≤122))||(decide (48≤c)&&decide (c≤57))||decide (c=95)||(decide (c=45)&&decide (0<at'))))
 ||(decide (1<k)&& !E8 piece)
def Ey:Nat→Az→Nat→Nat→Bool
 |0,_,_,_=>false
 |f+1,s,at',n=>match s[at']? with
  |none=>decide (0<n)
  |some c=>
   let k:=(G9 (s.drop at')).toNat
   if k=0 then false
   else if badR k c.toNat at' ((s.drop at').take k)=true then false
   else if 24<n+1 then false
   else Ey f s (at'+k) (n+1)
def D9 (s:Az):Bool:=Ey (s.length+1) s 0 0
theorem Ajf (s:Az):Fn Tryd.prog Agm [.v (.str s)] (Is (.v (.bool (D9 s))) [.no]):=by
 refine Agi ?_ (by simp)
 (skip)
 all_goals(try(conv=>whnf))
 refine LoopWq.by (X:=Nat × Nat × Nat) (fun x=>[(3,.v (.int .i64 x.2.2)),(4,.v (.int .i64 x.2.1))]) (fun x=>Ey x.1 s x.2.1 x.2.2=D9 s∧s.length<x.1+x.2.1∧x.2.1≤s.length∧x.2.2≤24) (fun x=>s.length - x.2.1)
  (s.length+1,0,0) (by kernel_rfl) ⟨rfl,by dsimp only;omega,Nat.zero_le _,Nat.zero_le _⟩ ?_
 rintro⟨f,p,n⟩ ⟨h1,h2,h3,h4⟩
 dsimp only at h1 h2 h3 h4 ⊢
 obtain⟨f,rfl⟩:∃g,f=g+1:=⟨f - 1,by omega⟩
 by_cases hp:p<s.length
 case neg=>
  have hlt:¬decide ((p:Int)<(s.length:Int))=true:=by simp;omega
  repeat'((conv=>whnf);first|(refine aI (fun hb=>?_) (fun hb=>?_)<;>first|(exact absurd hb (by assumption))|((try rw[hb]);(try simp only[Aa]at hb)))|(refine eI ?_ ?_;focus (and_intros<;>exact rfl))|(intro hfact))
  all_goals(try(conv=>whnf))
  refine Done.mk ⟨SV.bool_congr ?_,by kernel_rfl⟩ (by kernel_rfl)
  rw[←h1,Ey,List.getElem?_eq_none (by omega)]
  simp
 obtain⟨c,hc⟩:∃c,s[p]?=some c:=⟨_,List.getElem?_eq_getElem hp⟩
 have hg:s[Int.toNat (p:Int)]?=some c:=hc
 have hlt:¬decide ((p:Int)<(s.length:Int))=false:=by simp[hp]
 have hsz:=Ajn (s.drop p)
 have hs:=Ajg (s.drop p)
 rw[Ey,hc]at h1
 dsimp only at h1
 obtain⟨k,hk⟩:∃k:Nat,G9 (s.drop p)=k:=⟨(G9 (s.drop p)).toNat,by omega⟩
 rw[hk]at hs h1 hsz
 have hs':Fn Tryd.prog Mo [.v (.str ((s.take s.length).drop p))] (Is (.v (.int .i64 k)) [.no]):=by rw[List.take_length];exact hs
 rw[List.length_drop]at hsz
 simp only[Int.toNat_natCast]at h1
 have hw:s.length≤maxLen→IntKind.i64.wrap ((p:Int)+(k:Int))=((p+k:Nat):Int):=fun hm=>by
  rw[show(p:Int)+(k:Int)=((p+k:Nat):Int)by omega];exact Bf (by simp only[maxLen]at hm;omega)
 have hwn:IntKind.i64.wrap ((n:Int)+1)=((n+1:Nat):Int):=Dk (n:=25) (by omega) (by simp only[maxLen];omega)
 have hpc:((s.drop p).take k)=(s.take (p+k)).drop p:=by rw[List.drop_take];congr 1;omega
 have hit:=Aip ((s.take (p+k)).drop p)
 have hpk:((p+k:Nat):Int)≤(s.length:Int):=by omega
 have hpp:(p:Int)≤((p+k:Nat):Int):=by omega
 rw[hpc]at h1
 obtain⟨b,hb0⟩:∃b,E8 ((s.take (p+k)).drop p)=b:=⟨_,rfl⟩
 rw[hb0]at hit
 unfold badR at h1
 rw[hb0]at h1
 rcases Nat.lt_or_ge k 1 with hk0|hk0
 ·have n1:¬decide ((k:Int)=0)=false:=by simp;omega
  rw[if_pos (by omega)]at h1
  repeat'((conv=>whnf);first|(refine aI (fun hb=>?_) (fun hb=>?_)<;>first|(exact absurd hb (by assumption))|((try rw[hb]);(try simp only[Aa]at hb)))|(refine eI ?_ ?_;focus (and_intros<;>first|omega|exact rfl|(intro _ hh;cases hh;done)|(simp;done)|decide))|(intro hfact)|(refine CallWp.mk ⟨_,hs',?_⟩;rintro _ _ ⟨rfl,rfl⟩))
  all_goals(try(conv=>whnf))
  exact Done.mk ⟨SV.bool_congr h1,by kernel_rfl⟩ (by kernel_rfl)
 rw[if_neg (by omega)]at h1
 have n1:¬decide ((k:Int)=0)=true:=by simp;omega
 rcases Nat.lt_or_ge 1 k with hk1|hk1
 ·have n2:¬decide ((k:Int)=1)=true:=by simp;omega
  have n3:¬decide (1<(k:Int))=false:=by simp;omega
  repeat'((conv=>whnf);first|(refine aI (fun hb=>?_) (fun hb=>?_)<;>first|(exact absurd hb (by first|assumption|decide))|((try rw[hb]);(try simp only[Aa]at hb);(try subst hb)))|(refine eI ?_ ?_;focus (and_intros<;>first|omega|exact rfl|(intro _ hh;cases hh;done)|(simp;done)|decide))|(intro hfact)|((try dsimp only);rw[hg])|(refine CallWp.mk ⟨_,hs',?_⟩;rintro _ _ ⟨rfl,rfl⟩)|(refine CallWp.mk ⟨_,hit,?_⟩;rintro _ _ ⟨rfl,rfl⟩)|((try dsimp only);rw[hw (by assumption)])|(skip;rw[hwn]))
  all_goals(try(conv=>whnf))
  all_goals first
   |(refine Done.mk ⟨SV.bool_congr ?_,by kernel_rfl⟩ (by kernel_rfl);rw[←h1];simp at*;grind)
   |(refine Round.by (f,p+k,n+1) ?_ ⟨?_,by dsimp only;omega,by dsimp only;omega,?_⟩ (by dsimp only;omega)
     ·dsimp only
      show norm _ _=upd _ _
      kernel_rfl
     ·dsimp only
      rw[←h1];simp at*;grind
     ·dsimp only
      simp at*;omega)
 ·have n2:¬decide ((k:Int)=1)=false:=by simp;omega
  have n3:¬decide (1<(k:Int))=true:=by simp;omega
  repeat'((conv=>whnf);first|(refine aI (fun hb=>?_) (fun hb=>?_)<;>first|(exact absurd hb (by first|assumption|decide))|(exfalso;((simp only[LENS]at hb<;>omega)))|((try rw[hb]);(try simp only[Aa]at hb)))|(refine eI ?_ ?_;focus (and_intros<;>first|omega|exact rfl|(intro _ hh;cases hh;done)|(simp;done)|decide))|(intro hfact)|((try dsimp only);rw[hg])|(refine CallWp.mk ⟨_,hs',?_⟩;rintro _ _ ⟨rfl,rfl⟩)|(skip;rw[hw (by assumption)])|(skip;rw[hwn]))
  all_goals(try(conv=>whnf))
  all_goals first
   |(refine Done.mk ⟨SV.bool_congr ?_,by kernel_rfl⟩ (by kernel_rfl);rw[←h1];simp at*;grind)
   |(refine Round.by (f,p+k,n+1) ?_ ⟨?_,by dsimp only;omega,by dsimp only;omega,?_⟩ (by dsimp only;omega)
     ·dsimp only
      show norm _ _=upd _ _
      kernel_rfl
     ·dsimp only
      rw[←h1];simp at*;grind
     ·dsimp only
      simp at*;omega)
end Go.Ab
