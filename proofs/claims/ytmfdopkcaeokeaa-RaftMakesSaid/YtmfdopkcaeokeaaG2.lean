/- Lemmas -/
import Derived.Test.YtmfdopkcaeokeaaS6
set_option linter.unusedVariables false
set_option linter.unusedSimpArgs false
set_option maxRecDepth 100000
namespace Go.Ab
open Go.Proofs
def Bv:Stm:=(sO [gA 4 (cI 1)] (.block 0 (.loop (kr [] 5 20) (.seq (sO [gM 5 4,gM 6 0,O1 (.nchk 7 6),gF 8 7 1,gL 9 8,gB 10 .leq 5 9] (.cond 10 .skip (.exit 0))) (.seq (.block 1 (sO [gM 13 4,gM 14 0,O1 (.nchk 15 14),gF 16 15 0,gL 17 16,gB 18 .neq 13 17,gM 19 18,qt 19 (iM 20 1),qt 19 (iM 21 4),.yld (some (19,true)) (some 22) 20 [21],qt 19 (iT 23 22),gP 24 19 23 cF] (.cond 24 .ret .skip))) (.ops [gM 11 4,gB 12 .add 11 (cI 1),gA 4 12]))))))
abbrev E0:FuncId:=11
def Th:Stm:=(sO [O1 (.alloc 6 (.one (.i (.agg [(.int .i64 0),(.int .i64 0),(.int .i64 0),(.int .i64 0),(.int .i64 0),(.int .i64 0),(.int .i64 0),(.agg [(.int .i64 0),(.int .i64 0),(.list [])]),(.str []),(.int .i64 0),(.int .i64 0),(.arr 1 (List.replicate 8 (.bool false))),(.arr 1 (List.replicate 8 (.int .i64 0))),(.arr 1 (List.replicate 8 (.int .i64 0))),(.arr 1 (List.replicate 8 (.int .i64 0))),(.int .i64 0),(.list [])])))),gA 7 cF] (.seq (sO [gM 8 1,gB 9 .lss 8 (cI 1),gM 10 9,qf 10 (iM 11 1),qf 10 (iB 12 .gtr 11 (cI 7)),gP 13 10 cT 12,gM 14 13,qf 14 (iM 15 0),qf 14 (iB 16 .lss 15 (cI 1)),gP 17 14 cT 16,gM 18 17,qf 18 (iM 19 0),qf 18 (iM 20 1),qf 18 (iB 21 .gtr 19 20),gP 22 18 cT 21,gM 23 22,qf 23 (iM 24 2),qf 23 (iB 25 .lss 24 (cI 2)),gP 26 23 cT 25,gM 27 26,qf 27 (iM 28 2),qf 27 (iB 29 .gtr 28 (cI 1000)),gP 30 27 cT 29] (.cond 30 (sO [O1 (.build 31 [(.int .i64 0),(.int .i64 0),(.int .i64 0),(.int .i64 0),(.int .i64 0),(.int .i64 0),(.int .i64 0),(.agg [(.int .i64 0),(.int .i64 0),(.list [])]),(.str []),(.int .i64 0),(.int .i64 0),(.arr 1 (List.replicate 8 (.bool false))),(.arr 1 (List.replicate 8 (.int .i64 0))),(.arr 1 (List.replicate 8 (.int .i64 0))),(.arr 1 (List.replicate 8 (.int .i64 0))),(.int .i64 0),(.list [])] []),gS 47 6 31,gA 7 cF] .ret) .skip)) (sO [gM 32 0,gM 33 1,gM 34 2,O1 (.build 35 [(.int .i64 0),(.int .i64 0),(.int .i64 0),(.int .i64 0),(.int .i64 0),(.int .i64 0),(.int .i64 0),(.agg [(.int .i64 0),(.int .i64 0),(.list [])]),(.str []),(.int .i64 0),(.int .i64 0),(.arr 1 (List.replicate 8 (.bool false))),(.arr 1 (List.replicate 8 (.int .i64 0))),(.arr 1 (List.replicate 8 (.int .i64 0))),(.arr 1 (List.replicate 8 (.int .i64 0))),(.int .i64 0),(.list [])] [(0,32),(1,33),(2,34)]),gS 47 6 35,gA 7 cT] .ret)))
theorem Ts:OF 11 36 Th [.cell 6 true 47,.t 7]:=oF Try.func11 rfl Try.ntmps11 (by kernel_rfl) (by kernel_rfl)
abbrev Cu:FuncId:=20
def L9:Stm:=(sO [O1 (.boxD 1 0),O1 (.allocD 2 (.st [(.it (.int .i64 0)),(.it (.int .i64 0)),(.it (.int .i64 0)),(.it (.int .i64 0)),(.it (.int .i64 0)),(.it (.int .i64 0)),(.it (.int .i64 0)),(.st [(.it (.int .i64 0)),(.it (.int .i64 0)),(.vec 60 3 [])]),(.it (.str [])),(.it (.int .i64 0)),(.it (.int .i64 0)),(.it (.arr 1 (List.replicate 8 (.bool false)))),(.it (.arr 1 (List.replicate 8 (.int .i64 0)))),(.it (.arr 1 (List.replicate 8 (.int .i64 0)))),(.it (.arr 1 (List.replicate 8 (.int .i64 0)))),(.it (.int .i64 0)),(.vec 62 3 [])])),O1 (.allocD 3 (.st [(.vec 92 2 []),(.vec 62 3 [])]))] (sO [O1 (.allocD 4 (.st [(.vec 92 2 []),(.vec 62 3 [])]))] (.seq (sO [gF 8 1 5,gL 9 8,gB 10 .eql 9 (cI 2)] (.cond 10 (sO [gC 11 40 [(true,1)]] (sO [gC 12 41 [(true,1),(true,4)]] (.seq (.drw [0,0,1,7] [gU 13 47 1,gU 14 2 4,gS 47 2 13,gS 2 3 14]) .ret))) .skip)) (sO [gG 15 1 10 12,gL 16 15,gB 17 .add 16 (cI 1),gG 18 1 10 12,gS 1 18 17] (.seq (sO [gG 19 1 10 12,gL 20 19,gF 21 1 2,gL 22 21,gB 23 .lss 20 22,gM 24 23,qf 24 (iG 25 1 3 3),qf 24 (iL 26 25),qf 24 (iB 27 .geq 26 (cI 1099511627776)),gP 28 24 cT 27] (.cond 28 (.seq (.drw [0,0,1,7] [gU 29 47 1,gU 30 2 4,gS 47 2 29,gS 2 3 30]) .ret) .skip)) (sO [gF 31 1 3,gL 32 31,gB 33 .add 32 (cI 1),gC 34 42 [(true,1),nL 33]] (sO [gF 35 1 0,gL 36 35,gF 37 1 4,gS 1 37 36,gF 38 1 5,gS 1 38 (cI 1),gG 39 1 10 12,gS 1 39 (cI 0)] (sO [gF 40 1 0,gL 41 40,gG 42 1 11 13,O1 (.aaddr 43 1 8 42 41),gS 1 43 cT] (.seq (sO [gF 44 1 1,gL 45 44,gB 46 .eql 45 (cI 1)] (.cond 46 (sO [gC 47 43 [(true,1),(true,4)]] (.seq (.drw [0,0,1,7] [gU 48 47 1,gU 49 2 4,gS 47 2 48,gS 2 3 49]) .ret)) .skip)) (sO [gF 51 1 7,gU 52 3 51,gC 53 24 [nL 52],gA 50 53,gE 54 50 0,gE 55 50 1,O1 (.alloc 5 (.one (.i (.int .i64 0)))),O1 (.alloc 6 (.one (.i (.int .i64 0)))),gS 1 5 54,gS 1 6 55] (.seq (sO [O1 (.mkm 56 44 [1] [])] (.block 0 (.rngF 56 44 25 70 [57] Bv (.ops [gA 7 57]) (.block 1 (.ops [gM 58 7,gF 59 1 0,gL 60 59,gF 61 1 3,gL 62 61,gL 63 5,gL 64 6,O1 (.build 65 [(.int .i64 0),(.int .i64 0),(.int .i64 0),(.int .i64 0)] [(0,60),(1,62),(2,63),(3,64)]),O1 (.mkI 66 113 65),gC 67 45 [(true,4),nL 58,nL 66]]))))) (.seq (.drw [0,0,1,7] [gU 68 47 1,gU 69 2 4,gS 47 2 68,gS 2 3 69]) .ret))))))))))))
theorem K9:OFD 20 70 L9 [.cell 2 true 47,.cell 3 true 2]:=oFD Try.func20 rfl Try.ntmps20 (by kernel_rfl) (by kernel_rfl)
abbrev C5:FuncId:=23
def J0:Stm:=(sO [O1 (.boxD 2 0),O1 (.allocD 4 (.st [(.it (.int .i64 0)),(.it (.int .i64 0)),(.it (.int .i64 0)),(.it (.int .i64 0)),(.it (.int .i64 0)),(.it (.int .i64 0)),(.it (.int .i64 0)),(.st [(.it (.int .i64 0)),(.it (.int .i64 0)),(.vec 60 3 [])]),(.it (.str [])),(.it (.int .i64 0)),(.it (.int .i64 0)),(.it (.arr 1 (List.replicate 8 (.bool false)))),(.it (.arr 1 (List.replicate 8 (.int .i64 0)))),(.it (.arr 1 (List.replicate 8 (.int .i64 0)))),(.it (.arr 1 (List.replicate 8 (.int .i64 0)))),(.it (.int .i64 0)),(.vec 62 3 [])])),gA 5 (cI 0),O1 (.allocD 6 (.st [(.vec 92 2 []),(.vec 62 3 [])]))] (sO [O1 (.allocD 7 (.st [(.vec 92 2 []),(.vec 62 3 [])]))] (sO [gF 15 2 7,gU 16 3 15,gC 17 18 [nL 16],gA 14 17,gE 18 14 0,gE 19 14 1,gA 8 18,gA 9 19] (sO [gF 21 2 7,gU 22 3 21,gC 23 24 [nL 22],gA 20 23,gE 24 20 0,gE 25 20 1,gA 10 24,gA 11 25] (.seq (sO [gF 26 2 5,gL 27 26,gB 28 .neq 27 (cI 2),gM 29 28,qf 29 (iM 30 10),qf 29 (iM 31 8),qf 29 (iB 32 .sub 30 31),qf 29 (iB 33 .geq 32 (cI 200)),gP 34 29 cT 33,gM 35 34,qf 35 (iM 36 1),qf 35 (iB 37 .eql 36 (cS [])),gP 38 35 cT 37] (.cond 38 (.seq (.drw [0,0,1,5,15] [gU 39 47 2,gU 40 2 7,gS 47 4 39,gA 5 (cI 0),gS 2 6 40]) .ret) .skip)) (sO [gF 42 2 7,gU 43 3 42,gF 44 2 3,gL 45 44,gM 46 1,gC 47 46 [nL 43,nL 45,nL 46],gA 41 47,gE 48 41 0,gE 49 41 1,O1 (.allocD 12 (.st [(.it (.int .i64 0)),(.it (.int .i64 0)),(.vec 60 3 [])])),gS 3 12 48,gA 13 49] (.seq (sO [gM 50 13,gT 51 50] (.cond 51 (.seq (.drw [0,0,1,5,15] [gU 52 47 2,gU 53 2 7,gS 47 4 52,gA 5 (cI 0),gS 2 6 53]) .ret) .skip)) (sO [gU 54 3 12,gF 55 2 7,gS 3 55 54] (sO [gC 56 41 [(true,2),(true,7)]] (sO [gC 57 47 [(true,2),(true,7)]] (.seq (.drw [0,0,2,0,1,23,63] [gU 58 47 2,gM 59 10,gB 60 .add 59 (cI 1),gU 61 2 7,gS 47 4 58,gA 5 60,gS 2 6 61]) .ret)))))))))))
theorem Je:OFD 23 62 J0 [.cell 4 true 47,.t 5,.cell 6 true 2]:=oFD Try.func23 rfl Try.ntmps23 (by kernel_rfl) (by kernel_rfl)
abbrev L8:FuncId:=40
def K5:Stm:=(.ops [gM 2 0,gM 3 0,O1 (.nchk 4 3),gG 5 4 15 45,gL 6 5,gB 7 .add 6 (cI 1),O1 (.mm 8 false 7 (cI 1099511627776)),O1 (.nchk 9 2),gG 10 9 15 45,gS 1 10 8])
theorem K8:OF 40 11 K5 []:=oF Try.func40 rfl Try.ntmps40 (by kernel_rfl) (by kernel_rfl)
abbrev Kn:FuncId:=41
def J1:Stm:=(sO [O1 (.box 2 0),O1 (.box 3 1)] (sO [gL 5 2,O1 (.mkm 6 44 [5] [])] (.block 0 (.rngF 6 44 25 12 [7] Bv (.ops [gA 4 7]) (.block 1 (.ops [gL 8 2,gM 9 4,gL 10 3,gC 11 57 [(true,8),nL 9,(true,10)]]))))))
theorem J5:OF 41 12 J1 []:=oF Try.func41 rfl Try.ntmps41 (by kernel_rfl) (by kernel_rfl)
abbrev Kr:FuncId:=42
def Kp:Stm:=(sO [gM 4 0,gM 5 0,gM 6 1,O1 (.nchk 7 4),gF 8 7 3,gS 1 8 6,O1 (.nchk 9 5),gF 10 9 4,gS 1 10 (cI 0)] (sO [gM 11 0,gC 12 58 [(true,11)]] (.ops [gM 13 0,gM 14 0,O1 (.nchk 15 13),gF 16 15 6,gS 1 16 (cI 0),O1 (.nchk 17 14),gG 18 17 16 46,gS 1 18 (.c (.list []))])))
theorem Kq:OF 42 19 Kp []:=oF Try.func42 rfl Try.ntmps42 (by kernel_rfl) (by kernel_rfl)
abbrev M0:FuncId:=43
def Ma:Stm:=(sO [O1 (.box 2 0)] (.seq (.drw [0,1,3,7,0,16,48,112,255,511,1023,1023,0,6143,16383] [gL 11 2,O1 (.nchk 12 11),gF 13 12 7,gU 14 3 13,gL 15 2,O1 (.nchk 16 15),gF 17 16 3,gL 18 17,gC 19 46 [nL 14,nL 18,nL (cS [])],gA 10 19,gE 20 10 0,gE 21 10 1,O1 (.allocD 4 (.st [(.it (.int .i64 0)),(.it (.int .i64 0)),(.vec 60 3 [])])),gS 3 4 20,gA 5 21]) (.seq (sO [gM 22 5,gT 23 22] (.cond 23 (sO [gL 24 2,O1 (.nchk 25 24),gF 26 25 4,gL 27 26,gA 6 27] (.seq (.drw [0,0,2,6,14,31] [gL 28 2,gL 29 2,O1 (.nchk 30 29),gF 31 30 3,gL 32 31,gC 33 42 [(true,28),nL 32]]) (sO [gL 34 2,gM 35 6,O1 (.nchk 36 34),gF 37 36 4,gS 1 37 35] .ret))) .skip)) (sO [gL 38 2,gU 39 3 4,O1 (.nchk 40 38),gF 41 40 7,gS 3 41 39] (.seq (.drw [0,0,0,0,8,24,56,121,249,505,1019,2043,4091,8191,16383,32767] [gL 42 2,gL 43 2,gL 44 2,gL 45 2,O1 (.nchk 46 45),gF 47 46 0,gL 48 47,O1 (.nchk 49 42),gF 50 49 5,gS 1 50 (cI 2),O1 (.nchk 51 43),gF 52 51 6,gS 1 52 48,O1 (.nchk 53 44),gG 54 53 16 46,gS 1 54 (.c (.list []))]) (sO [gU 56 3 4,gC 57 24 [nL 56],gA 55 57,gE 58 55 0,gE 59 55 1,O1 (.alloc 7 (.one (.i (.int .i64 0)))),gS 1 7 58,gA 8 59] (.seq (sO [gL 60 2,O1 (.mkm 61 44 [60] [])] (.block 0 (.rngF 61 44 25 87 [62] Bv (.ops [gA 9 62]) (.block 1 (.drw [0,0,0,0,0,0,0,1,129,451,963,4,2052,8143,16335,16,32784,131071,262143] [gL 63 2,gM 64 9,gL 65 2,gM 66 9,gL 67 2,gM 68 9,gL 69 7,O1 (.nchk 70 63),gG 71 70 12 21,O1 (.aaddr 72 1 8 71 64),gS 1 72 69,O1 (.nchk 73 65),gG 74 73 13 29,O1 (.aaddr 75 1 8 74 66),gS 1 75 (cI 0),O1 (.nchk 76 67),gG 77 76 14 37,O1 (.aaddr 78 1 8 77 68),gS 1 78 (cI 0)]))))) (sO [gL 79 2,gC 80 40 [(true,79)]] (sO [gL 81 2,gM 82 1,gC 83 41 [(true,81),(true,82)]] (.ops [gL 84 2,gM 85 1,gC 86 47 [(true,84),(true,85)]]))))))))))
theorem Mh:OF 43 87 Ma []:=oF Try.func43 rfl Try.ntmps43 (by kernel_rfl) (by kernel_rfl)
abbrev Qt:FuncId:=45
def Pk:Stm:=(.ops [gM 6 0,gM 7 0,O1 (.nchk 8 7),gF 9 8 0,gL 10 9,gM 11 1,gM 12 2,O1 (.build 13 [(.int .i64 0),.nili] [(0,11),(1,12)]),O1 (.bslD 14 92 2 (.agg [(.int .i64 0),.nili]) 1 [(0,13)]),O1 (.app 15 92 2 24 10 14),O1 (.nchk 16 6),gF 17 16 0,gS 1 17 15])
theorem Pu:OF 45 18 Pk []:=oF Try.func45 rfl Try.ntmps45 (by kernel_rfl) (by kernel_rfl)
abbrev M1:FuncId:=47
def Mb:Stm:=(sO [O1 (.box 2 0)] (sO [gL 17 2,O1 (.nchk 18 17),gF 19 18 7,gU 20 3 19,gC 21 24 [nL 20],gA 16 21,gE 22 16 0,gE 23 16 1,gA 4 22,gA 5 23] (.seqc [0,3,4,5,6,7,8,9,10,11,12,13,14,16,17,18,19,20,21,22,23,24,25,26,27,28,29,30,31,32,33,34,35,36,37,38,39,40,41,42,43,44,45,46,47,48,49,50,51,52,53,54,55,56,57,58,59,60,61,62,63,64,65,66,67,68,69,70,71,72,73,74,75,76,77,78,79,92,93,94,95,96,97,98,99,100,101,102,103,104,105,106,107,108,109,110,111,112,113] (sO [gM 24 4,O1 (.alloc 6 (.one (.i (.int .i64 0)))),gS 1 6 24] (.block 0 (.loop (kr [0,3,4,5,7,8,9,11,12,13,14,16,17,18,19,20,21,22,23,24,25,26,27,28,29,30,31,32,33,34,35,36,37,38,39,40,41,42,43,44,45,46,47,48,49,61,62,63,64,65,66,67,68,69,70,71,72,73,74,75,76,77,78,79] 92 22) (.seq (.seq (.drw [0,0,2,6,14,31] [gL 25 6,gL 26 2,O1 (.nchk 27 26),gG 28 27 9 11,gL 29 28,gB 30 .gtr 25 29]) (.cond 30 .skip (.exit 0))) (.seq (.block 1 (.seq (.seq (.drw [0,1,3,7,0,31,63,127,127,255,1023] [gL 34 2,O1 (.nchk 35 34),gF 36 35 7,gU 37 3 36,gL 38 6,gC 39 38 [nL 37,nL 38],gA 33 39,gE 40 33 0,gE 41 33 1,gA 7 40,gA 8 41]) (sO [gM 42 7,gL 43 2,O1 (.nchk 44 43),gF 45 44 3,gL 46 45,gB 47 .neq 42 46] (.cond 47 (.exit 0) .skip))) (sO [O1 (.alloc 9 (.one (.i (.int .i64 0)))),gS 1 9 (cI 1)] (.seq (sO [gL 48 2,O1 (.mkm 49 44 [48] [])] (.block 2 (.rngF 49 44 25 114 [50] Bv (.ops [gA 10 50]) (.block 3 (.seq (.drw [0,0,1,5,15,31,0,127] [gL 51 2,gM 52 10,O1 (.nchk 53 51),gG 54 53 13 29,O1 (.aaddr 55 1 8 54 52),gL 56 55,gL 57 6,gB 58 .geq 56 57]) (.cond 58 (.ops [gL 59 9,gB 60 .add 59 (cI 1),gS 1 9 60]) .skip)))))) (sO [gL 61 2,gL 62 9,gC 63 59 [(true,61),nL 62]] (.cond 63 (sO [gL 64 2,gL 65 6,O1 (.nchk 66 64),gG 67 66 9 11,gS 1 67 65] (.exit 0)) .skip)))))) (.seq (sO [gL 68 6] (.ops [O1 (.alloc 6 (.one (.i (.int .i64 0)))),gS 1 6 68])) (.ops [gL 31 6,gB 32 .sub 31 (cI 1),gS 1 6 32]))))))) (sO [gA 11 (.nils 62 3)] (.seq (sO [gL 69 2,O1 (.nchk 70 69),gG 71 70 16 46,gL 72 71,gN 73 72,gM 74 (cI 0)] (.block 4 (.loop (kr [0,3,4,5,6,7,8,9,10,12,13,14,16,17,18,19,20,21,22,23,24,25,26,27,28,29,30,31,32,33,34,35,36,37,38,39,40,41,42,43,44,45,46,47,48,49,50,51,52,53,54,55,56,57,58,59,60,61,62,63,64,65,66,67,68,69,70,71,75,76,77,78,79] 92 22) (sO [gB 75 .lss 74 73] (.seq (.cond 75 .skip (.exit 4)) (.seq (.block 5 (sO [gI 76 3 72 74,gU 77 3 76,O1 (.alloc 13 (.one (.i (.agg [(.int .i64 0),(.int .i64 0),(.int .i64 0)])))),gS 3 13 77] (sO [O1 (.alloc 14 (.one (.i (.int .i64 0)))),gS 1 14 (cI 1)] (.seq (sO [gL 78 2,O1 (.mkm 79 44 [78] [])] (.block 6 (.rngF 79 44 25 114 [80] Bv (.ops [gA 15 80]) (.block 7 (.seq (.drw [0,0,1,5,15,31,0,64,255] [gL 81 2,gM 82 15,O1 (.nchk 83 81),gG 84 83 14 37,O1 (.aaddr 85 1 8 84 82),gL 86 85,gF 87 13 2,gL 88 87,gB 89 .geq 86 88]) (.cond 89 (.ops [gL 90 14,gB 91 .add 90 (cI 1),gS 1 14 91]) .skip)))))) (sO [gL 92 2,gL 93 14,gC 94 59 [(true,92),nL 93]] (.cond 94 (.drw [0,0,2,6,14,0,32,126,255,511,1023] [gM 95 1,gM 96 1,O1 (.nchk 97 96),gF 98 97 1,gL 99 98,gU 100 3 13,O1 (.bsl 101 62 3 (.agg [(.int .i64 0),(.int .i64 0),(.int .i64 0)]) 1 [(0,100)]),O1 (.app 102 62 3 24 99 101),O1 (.nchk 103 95),gF 104 103 1,gS 1 104 102]) (.ops [gM 105 11,gU 106 3 13,O1 (.bsl 107 62 3 (.agg [(.int .i64 0),(.int .i64 0),(.int .i64 0)]) 1 [(0,106)]),O1 (.app 108 62 3 24 105 107),gA 11 108]))))))) (.ops [gB 109 .add 74 (cI 1),gM 74 109]))))))) (.ops [gL 110 2,gM 111 11,O1 (.nchk 112 110),gG 113 112 16 46,gS 1 113 111]))))))
theorem Mi:OF 47 114 Mb []:=oF Try.func47 rfl Try.ntmps47 (by kernel_rfl) (by kernel_rfl)
abbrev M4:FuncId:=57
def Me:Stm:=(sO [gM 11 0,O1 (.nchk 12 11),gF 13 12 7,gU 14 3 13,gC 15 18 [nL 14],gA 10 15,gE 16 10 0,gE 17 10 1,gA 6 16,gA 7 17] (.seq (sO [gM 18 0,gM 19 1,O1 (.nchk 20 18),gG 21 20 12 21,O1 (.aaddr 22 1 8 21 19),gL 23 22,gM 24 6,gB 25 .leq 23 24] (.cond 25 (.seq (.drw [0,0,0,4,12,28,0,64,192,448,0,0,0,4096,12288,28672,0,65536,196608,458752,1048572,2097148,4194303] [gM 26 2,gM 27 1,gM 28 0,O1 (.nchk 29 28),gF 30 29 0,gL 31 30,gM 32 0,O1 (.nchk 33 32),gF 34 33 3,gL 35 34,gM 36 6,gM 37 7,gM 38 0,O1 (.nchk 39 38),gG 40 39 15 45,gL 41 40,gM 42 0,O1 (.nchk 43 42),gG 44 43 8 10,gL 45 44,O1 (.build 46 [(.int .i64 0),(.int .i64 0),(.int .i64 0),(.int .i64 0),(.int .i64 0),(.str [])] [(0,31),(1,35),(2,36),(3,37),(4,41),(5,45)]),O1 (.mkI 47 122 46),gC 48 45 [(true,26),nL 27,nL 47]]) .ret) .skip)) (.seq (.drw [0,1,3,7,0,0,16,80,240,496,1008,2047,4095,8191,8191,16383,65535] [gM 50 0,O1 (.nchk 51 50),gF 52 51 7,gU 53 3 52,gM 54 0,gM 55 1,O1 (.nchk 56 54),gG 57 56 12 21,O1 (.aaddr 58 1 8 57 55),gL 59 58,gB 60 .sub 59 (cI 1),gC 61 38 [nL 53,nL 60],gA 49 61,gE 62 49 0,gE 63 49 1,gA 8 62,gA 9 63]) (.drw [0,0,0,4,12,28,0,64,192,448,0,0,1024,5120,15360,31744,64512,0,0,262144,786432,1835008,0,4194304,12582912,29360128,0,67108864,201326592,469762048,0,0,1073741824,5368709120,16106127360,33285996544,68652367872,137438953468,274877906940,549755813887] [gM 64 2,gM 65 1,gM 66 0,O1 (.nchk 67 66),gF 68 67 0,gL 69 68,gM 70 0,O1 (.nchk 71 70),gF 72 71 3,gL 73 72,gM 74 0,gM 75 1,O1 (.nchk 76 74),gG 77 76 12 21,O1 (.aaddr 78 1 8 77 75),gL 79 78,gB 80 .sub 79 (cI 1),gM 81 8,gM 82 0,O1 (.nchk 83 82),gG 84 83 9 11,gL 85 84,gM 86 0,O1 (.nchk 87 86),gG 88 87 15 45,gL 89 88,gM 90 0,O1 (.nchk 91 90),gF 92 91 7,gU 93 3 92,gM 94 0,gM 95 1,O1 (.nchk 96 94),gG 97 96 12 21,O1 (.aaddr 98 1 8 97 95),gL 99 98,gC 100 19 [nL 93,nL 99,nL (cI 8)],O1 (.build 101 [(.int .i64 0),(.int .i64 0),(.int .i64 0),(.int .i64 0),(.int .i64 0),(.int .i64 0),(.list [])] [(0,69),(1,73),(2,80),(3,81),(4,85),(5,89),(6,100)]),O1 (.mkI 102 118 101),gC 103 45 [(true,64),nL 65,nL 102]]))))
theorem Mm:OF 57 104 Me []:=oF Try.func57 rfl Try.ntmps57 (by kernel_rfl) (by kernel_rfl)
abbrev M3:FuncId:=58
def Md:Stm:=(.ops [gM 2 0,gM 3 0,O1 (.bldA 4 1 8 (.bool false) []),O1 (.nchk 5 2),gF 6 5 5,gS 1 6 (cI 0),O1 (.nchk 7 3),gG 8 7 11 13,gS 8 8 4])
theorem Mk:OF 58 9 Md []:=oF Try.func58 rfl Try.ntmps58 (by kernel_rfl) (by kernel_rfl)
abbrev Dv:FuncId:=59
def Mc:Stm:=(sO [gA 4 cF] (sO [gM 5 1,gB 6 .mul (cI 2) 5,gM 7 0,O1 (.nchk 8 7),gF 9 8 1,gL 10 9,gB 11 .gtr 6 10,gA 4 11] .ret))
theorem Mj:OF 59 12 Mc [.t 4]:=oF Try.func59 rfl Try.ntmps59 (by kernel_rfl) (by kernel_rfl)
set_option maxHeartbeats 40000000

open Go.Proofs
abbrev ti (n:Int):I:=.int .i64 n
def arr8 (f:Nat→I):List I:=[f 0,f 1,f 2,f 3,f 4,f 5,f 6,f 7]
theorem Ep (f:Nat→I) {i:Nat} (h:i<8):(arr8 f)[i]?=some (f i):=by
 match i,h with
 |0,_|1,_|2,_|3,_|4,_|5,_|6,_|7,_=>rfl
def upF {α:Type} (f:Nat→α) (i:Nat) (v:α):Nat→α:=fun j=>if j=i then v else f j
theorem S4 (f:Nat→I) {i:Nat} (v:I) (h:i<8):(arr8 f).set i v=arr8 (upF f i v):=by
 match i,h with
 |0,_|1,_|2,_|3,_|4,_|5,_|6,_|7,_=>rfl
theorem W4 {α β:Type} (g:α→β) (f:Nat→α) (i:Nat) (v:α):upF (fun j=>g (f j)) i (g v)=fun j=>g (upF f i v j):=by
 funext j;unfold upF;split<;>rfl
theorem C0 (f:Nat→I):(arr8 f).length=8:=rfl
structure Rdw where
 ctx:Int
 ix:Int
 rd:Int
 deriving DecidableEq,Inhabited
def Rdw.toI (r:Rdw):I:=.agg [ti r.ctx,ti r.ix,ti r.rd]
inductive Mg where
 |ask (f t i l:Int)
 |vote (f t:Int) (y:Bool)
 |app (f t i l c r:Int) (es:List Ent)
 |ack (f t i r:Int) (y:Bool)
 |shot (f t i l r:Int) (d:List UInt8)
 deriving DecidableEq,Inhabited
def Mg.ty:Mg→TypeId
 | .ask _ _ _ _=>Y2
 | .vote _ _ _=>W7
 | .app _ _ _ _ _ _ _=>Y1
 | .ack _ _ _ _ _=>Y0
 | .shot _ _ _ _ _ _=>W6
def Mg.body:Mg→I
 | .ask f t i l=>.agg [ti f,ti t,ti i,ti l]
 | .vote f t y=>.agg [ti f,ti t,.bool y]
 | .app f t i l c r es=>.agg [ti f,ti t,ti i,ti l,ti c,ti r,.list (es.map Ent.toI)]
 | .ack f t i r y=>.agg [ti f,ti t,ti i,ti r,.bool y]
 | .shot f t i l r d=>.agg [ti f,ti t,ti i,ti l,ti r,.str d]
def Mg.toI (m:Mg):I:=.ifc m.ty m.body
structure Tm where
 to:Int
 m:Mg
 deriving DecidableEq,Inhabited
def Tm.toI (x:Tm):I:=.agg [ti x.to,x.m.toI]
structure Ro where
 msgs:List Tm
 ready:List Rdw
 deriving Inhabited
def Ro.toD (o:Ro):D:=.st [.vec Ks 2 ((o.msgs.map Tm.toI).map D.it),.vec E2 3 ((o.ready.map Rdw.toI).map D.it)]
def Ro.toI (o:Ro):I:=.agg [.list (o.msgs.map Tm.toI),.list (o.ready.map Rdw.toI)]
structure Rn where
 id:Int
 size:Int
 tmo:Int
 term:Int
 vote:Int
 role:Int
 lead:Int
 lix:Int
 ltm:Int
 les:List Ent
 data:List UInt8
 com:Int
 wai:Int
 gr:Nat→Bool
 nx:Nat→Int
 mt:Nat→Int
 hd:Nat→Int
 rnd:Int
 reads:List Rdw
 deriving Inhabited
def Rn.toI (n:Rn):I:=.agg [ti n.id,ti n.size,ti n.tmo,ti n.term,ti n.vote,ti n.role,ti n.lead,logI n.lix n.ltm n.les,.str n.data,ti n.com,ti n.wai,
 .arr 1 (arr8 fun i=>.bool (n.gr i)),.arr 1 (arr8 fun i=>ti (n.nx i)),.arr 1 (arr8 fun i=>ti (n.mt i)),.arr 1 (arr8 fun i=>ti (n.hd i)),ti n.rnd,.list (n.reads.map Rdw.toI)]
def Rn.toD (n:Rn):D:=.it n.toI
abbrev nP (n:Rn):SV:=.own [] (.ptr (.it n.toI))
abbrev oP (o:Ro):SV:=.own [] (.ptr o.toD)
def Rn.roundM (n:Rn):Rn:={n with rnd:=min (Bp (n.rnd+1)) 1099511627776}
def Rn.restM (n:Rn):Rn:={n with role:=0,gr:=fun _=>false}
def Rn.followM (n:Rn) (t:Int):Rn:={n with term:=t,vote:=0,role:=0,gr:=fun _=>false,lead:=0,reads:=[]}
def Rn.mostM (n:Rn) (k:Int):Bool:=decide (n.size<Bp (2*k))
def Ro.sayM (o:Ro) (to:Int) (m:Mg):Ro:={o with msgs:=o.msgs++[⟨to,m⟩]}
theorem Qm (n:Rn):Fn Try.prog L8 [nP n] (Is (.tup []) [nP n.roundM]):=by
 refine K8 ?_ (by simp)
 repeat'((conv=>whnf);first
  |((with_reducible refine Ar (by first|(with_reducible assumption)|(with_reducible exact Bool.of_not_eq_false (by assumption))|(with_reducible exact Bool.of_not_eq_true (by assumption))|((with_reducible refine decide_eq_true ?_);first|(with_reducible assumption)|omega)|((with_reducible refine decide_eq_false ?_);first|(with_reducible assumption)|omega)|(with_reducible rfl)) (fun hb=>?_));(try rw[hb]);(try simp only[Aa,Bool.false_eq_true,Bool.true_eq_false]at hb);(try subst hb))
  |((with_reducible refine Aq (by first|(with_reducible assumption)|(with_reducible exact Bool.of_not_eq_false (by assumption))|(with_reducible exact Bool.of_not_eq_true (by assumption))|((with_reducible refine decide_eq_true ?_);first|(with_reducible assumption)|omega)|((with_reducible refine decide_eq_false ?_);first|(with_reducible assumption)|omega)|(with_reducible rfl)) (fun hb=>?_));(try rw[hb]);(try simp only[Aa,Bool.false_eq_true,Bool.true_eq_false]at hb);(try subst hb))
  |((with_reducible refine And.intro (fun hb=>?_) (fun hb=>?_))<;>first|(with_reducible exact absurd hb (by assumption))|(exact absurd hb (by decide))|(with_reducible exact absurd hb Bool.false_ne_true)|(with_reducible exact absurd hb.symm Bool.false_ne_true)|(exfalso;first|(simp only[Aj]at hb<;>omega)|omega)|((try rw[hb]);(try simp only[Aa,Bool.false_eq_true,Bool.true_eq_false]at hb);(try subst hb)))
  |((with_reducible refine Exists.intro ?_ ?_);focus (and_intros<;>first|omega|(with_reducible assumption)|(with_reducible rfl)|kernel_rfl|exact rfl|assumption|(intro _ hh;cases hh;done)|exact Ah (by rfl)|exact size_map (fun _=>rfl)|exact Ai rfl|exact take_size (fun _=>rfl)|exact Af rfl|exact Ae (fun _=>rfl)|exact Ad (fun _=>rfl)|(simp only[Aj];omega)|(simp;done)|decide))
  |(with_reducible intro hfact)
  |((with_reducible refine And.intro ?_ ?_);focus (first|(with_reducible rfl)|(exact rfl)|decide)))
 all_goals(try(conv=>whnf))
 (apply dKq<;>kernel_rfl)
theorem Aay (n:Rn):Fn Try.prog M3 [nP n] (Is (.tup []) [nP n.restM]):=by
 refine Mk ?_ (by simp)
 repeat'((conv=>whnf);first
  |((with_reducible refine Ar (by first|(with_reducible assumption)|(with_reducible exact Bool.of_not_eq_false (by assumption))|(with_reducible exact Bool.of_not_eq_true (by assumption))|((with_reducible refine decide_eq_true ?_);first|(with_reducible assumption)|omega)|((with_reducible refine decide_eq_false ?_);first|(with_reducible assumption)|omega)|(with_reducible rfl)) (fun hb=>?_));(try rw[hb]);(try simp only[Aa,Bool.false_eq_true,Bool.true_eq_false]at hb);(try subst hb))
  |((with_reducible refine Aq (by first|(with_reducible assumption)|(with_reducible exact Bool.of_not_eq_false (by assumption))|(with_reducible exact Bool.of_not_eq_true (by assumption))|((with_reducible refine decide_eq_true ?_);first|(with_reducible assumption)|omega)|((with_reducible refine decide_eq_false ?_);first|(with_reducible assumption)|omega)|(with_reducible rfl)) (fun hb=>?_));(try rw[hb]);(try simp only[Aa,Bool.false_eq_true,Bool.true_eq_false]at hb);(try subst hb))
  |((with_reducible refine And.intro (fun hb=>?_) (fun hb=>?_))<;>first|(with_reducible exact absurd hb (by assumption))|(exact absurd hb (by decide))|(with_reducible exact absurd hb Bool.false_ne_true)|(with_reducible exact absurd hb.symm Bool.false_ne_true)|(exfalso;first|(simp only[Aj]at hb<;>omega)|omega)|((try rw[hb]);(try simp only[Aa,Bool.false_eq_true,Bool.true_eq_false]at hb);(try subst hb)))
  |((with_reducible refine Exists.intro ?_ ?_);focus (and_intros<;>first|omega|(with_reducible assumption)|(with_reducible rfl)|kernel_rfl|exact rfl|assumption|(intro _ hh;cases hh;done)|exact Ah (by rfl)|exact size_map (fun _=>rfl)|exact Ai rfl|exact take_size (fun _=>rfl)|exact Af rfl|exact Ae (fun _=>rfl)|exact Ad (fun _=>rfl)|(simp only[Aj];omega)|(simp;done)|decide))
  |(with_reducible intro hfact)
  |((with_reducible refine And.intro ?_ ?_);focus (first|(with_reducible rfl)|(exact rfl)|decide)))
 all_goals(try(conv=>whnf))
 (apply dKq<;>kernel_rfl)
theorem My (n:Rn) (t:Int):Fn Try.prog Kr [nP n,.v (ti t)] (Is (.tup []) [nP (n.followM t),.no]):=by
 refine Kq ?_ (by simp)
 have h1:=Aay {n with term:=t,vote:=0}
 repeat'((conv=>whnf);first
  |((with_reducible refine Ar (by first|(with_reducible assumption)|(with_reducible exact Bool.of_not_eq_false (by assumption))|(with_reducible exact Bool.of_not_eq_true (by assumption))|((with_reducible refine decide_eq_true ?_);first|(with_reducible assumption)|omega)|((with_reducible refine decide_eq_false ?_);first|(with_reducible assumption)|omega)|(with_reducible rfl)) (fun hb=>?_));(try rw[hb]);(try simp only[Aa,Bool.false_eq_true,Bool.true_eq_false]at hb);(try subst hb))
  |((with_reducible refine Aq (by first|(with_reducible assumption)|(with_reducible exact Bool.of_not_eq_false (by assumption))|(with_reducible exact Bool.of_not_eq_true (by assumption))|((with_reducible refine decide_eq_true ?_);first|(with_reducible assumption)|omega)|((with_reducible refine decide_eq_false ?_);first|(with_reducible assumption)|omega)|(with_reducible rfl)) (fun hb=>?_));(try rw[hb]);(try simp only[Aa,Bool.false_eq_true,Bool.true_eq_false]at hb);(try subst hb))
  |((with_reducible refine And.intro (fun hb=>?_) (fun hb=>?_))<;>first|(with_reducible exact absurd hb (by assumption))|(exact absurd hb (by decide))|(with_reducible exact absurd hb Bool.false_ne_true)|(with_reducible exact absurd hb.symm Bool.false_ne_true)|(exfalso;first|(simp only[Aj]at hb<;>omega)|omega)|((try rw[hb]);(try simp only[Aa,Bool.false_eq_true,Bool.true_eq_false]at hb);(try subst hb)))
  |((with_reducible refine Exists.intro ?_ ?_);focus (and_intros<;>first|omega|(with_reducible assumption)|(with_reducible rfl)|kernel_rfl|exact rfl|assumption|(intro _ hh;cases hh;done)|exact Ah (by rfl)|exact size_map (fun _=>rfl)|exact Ai rfl|exact take_size (fun _=>rfl)|exact Af rfl|exact Ae (fun _=>rfl)|exact Ad (fun _=>rfl)|(simp only[Aj];omega)|(simp;done)|decide))
  |(with_reducible intro hfact)
  |((with_reducible refine And.intro ?_ ?_);focus (first|(with_reducible rfl)|(exact rfl)|decide))
  |((with_reducible refine CallWp.mk ?_);refine⟨_,h1,?_⟩;rintro _ _ ⟨rfl,rfl⟩))
 all_goals(try(conv=>whnf))
 (apply dKq<;>kernel_rfl)
theorem Sc (n:Rn) (k:Int):Fn Try.prog Dv [nP n,.v (ti k)] (Is (.v (.bool (n.mostM k))) [nP n,.no]):=by
 refine Mj ?_ (by simp)
 repeat'((conv=>whnf);first
  |((with_reducible refine Ar (by first|(with_reducible assumption)|(with_reducible exact Bool.of_not_eq_false (by assumption))|(with_reducible exact Bool.of_not_eq_true (by assumption))|((with_reducible refine decide_eq_true ?_);first|(with_reducible assumption)|omega)|((with_reducible refine decide_eq_false ?_);first|(with_reducible assumption)|omega)|(with_reducible rfl)) (fun hb=>?_));(try rw[hb]);(try simp only[Aa,Bool.false_eq_true,Bool.true_eq_false]at hb);(try subst hb))
  |((with_reducible refine Aq (by first|(with_reducible assumption)|(with_reducible exact Bool.of_not_eq_false (by assumption))|(with_reducible exact Bool.of_not_eq_true (by assumption))|((with_reducible refine decide_eq_true ?_);first|(with_reducible assumption)|omega)|((with_reducible refine decide_eq_false ?_);first|(with_reducible assumption)|omega)|(with_reducible rfl)) (fun hb=>?_));(try rw[hb]);(try simp only[Aa,Bool.false_eq_true,Bool.true_eq_false]at hb);(try subst hb))
  |((with_reducible refine And.intro (fun hb=>?_) (fun hb=>?_))<;>first|(with_reducible exact absurd hb (by assumption))|(exact absurd hb (by decide))|(with_reducible exact absurd hb Bool.false_ne_true)|(with_reducible exact absurd hb.symm Bool.false_ne_true)|(exfalso;first|(simp only[Aj]at hb<;>omega)|omega)|((try rw[hb]);(try simp only[Aa,Bool.false_eq_true,Bool.true_eq_false]at hb);(try subst hb)))
  |((with_reducible refine Exists.intro ?_ ?_);focus (and_intros<;>first|omega|(with_reducible assumption)|(with_reducible rfl)|kernel_rfl|exact rfl|assumption|(intro _ hh;cases hh;done)|exact Ah (by rfl)|exact size_map (fun _=>rfl)|exact Ai rfl|exact take_size (fun _=>rfl)|exact Af rfl|exact Ae (fun _=>rfl)|exact Ad (fun _=>rfl)|(simp only[Aj];omega)|(simp;done)|decide))
  |(with_reducible intro hfact)
  |((with_reducible refine And.intro ?_ ?_);focus (first|(with_reducible rfl)|(exact rfl)|decide)))
 all_goals(try(conv=>whnf))
 (apply dKq<;>kernel_rfl)
theorem Ab7 (o:Ro) (to:Int) (m:Mg):(o.sayM to m).toD= .st [.vec Ks 2 ((o.msgs.map Tm.toI).map D.it++[D.it (Tm.toI ⟨to,m⟩)]),.vec E2 3 ((o.ready.map Rdw.toI).map D.it)]:=by
 simp[Ro.toD,Ro.sayM]
theorem Nv (o:Ro) (to:Int) (m:Mg) (h:o.msgs.length≤1000000):Fn Try.prog Qt [oP o,.v (ti to),.v m.toI] (Is (.tup []) [oP (o.sayM to m),.no,.no]):=by
 refine Pu ?_ (by simp)
 have hD:=Ab7 o to m
 repeat'((conv=>whnf);first
  |((with_reducible refine Ar (by first|(with_reducible assumption)|(with_reducible exact Bool.of_not_eq_false (by assumption))|(with_reducible exact Bool.of_not_eq_true (by assumption))|((with_reducible refine decide_eq_true ?_);first|(with_reducible assumption)|omega)|((with_reducible refine decide_eq_false ?_);first|(with_reducible assumption)|omega)|(with_reducible rfl)) (fun hb=>?_));(try rw[hb]);(try simp only[Aa,Bool.false_eq_true,Bool.true_eq_false]at hb);(try subst hb))
  |((with_reducible refine Aq (by first|(with_reducible assumption)|(with_reducible exact Bool.of_not_eq_false (by assumption))|(with_reducible exact Bool.of_not_eq_true (by assumption))|((with_reducible refine decide_eq_true ?_);first|(with_reducible assumption)|omega)|((with_reducible refine decide_eq_false ?_);first|(with_reducible assumption)|omega)|(with_reducible rfl)) (fun hb=>?_));(try rw[hb]);(try simp only[Aa,Bool.false_eq_true,Bool.true_eq_false]at hb);(try subst hb))
  |((with_reducible refine And.intro (fun hb=>?_) (fun hb=>?_))<;>first|(with_reducible exact absurd hb (by assumption))|(exact absurd hb (by decide))|(with_reducible exact absurd hb Bool.false_ne_true)|(with_reducible exact absurd hb.symm Bool.false_ne_true)|(exfalso;first|(simp only[Aj]at hb<;>omega)|omega)|((try rw[hb]);(try simp only[Aa,Bool.false_eq_true,Bool.true_eq_false]at hb);(try subst hb)))
  |((with_reducible refine Exists.intro ?_ ?_);focus (and_intros<;>first|omega|(with_reducible assumption)|(with_reducible rfl)|kernel_rfl|exact rfl|assumption|(intro _ hh;cases hh;done)|exact Ah (by rfl)|exact size_map (fun _=>rfl)|exact Ai rfl|exact take_size (fun _=>rfl)|exact Af rfl|exact Ae (fun _=>rfl)|exact Ad (fun _=>rfl)|(simp only[Aj];omega)|(simp;done)|decide))
  |(with_reducible intro hfact)
  |((with_reducible refine And.intro ?_ ?_);focus (first|(with_reducible rfl)|(exact rfl)|decide)))
 all_goals(try(conv=>whnf))
 rw[show oP (o.sayM to m)= .own [] (.ptr (o.sayM to m).toD)from rfl,hD]
 (apply dKq<;>kernel_rfl)

open Go.Proofs
def Rn.sendM (n:Rn) (p:Nat) (o:Ro):Ro:=
 if n.nx p≤n.lix then o.sayM p (.shot n.id n.term n.lix n.ltm n.rnd n.data)
 else o.sayM p (.app n.id n.term (Bp (n.nx p - 1)) (Ds n.lix n.ltm n.les (Bp (n.nx p - 1))).1 n.com n.rnd (Jw n.lix n.les (n.nx p) 8))
theorem Aa0 (n:Rn) (hR:Right n.lix n.ltm n.les) (p:Nat) (hp:p<8) (o:Ro) (h:o.msgs.length≤1000000):
 Fn Try.prog M4 [nP n,.v (ti p),oP o] (Is (.tup []) [nP n,.no,oP (n.sendM p o)]):=by
 refine Mm ?_ (by simp)
 have hx:=Ep (fun i=>ti (n.nx i)) hp
 by_cases hc:n.nx p≤n.lix
 ·rw[show n.sendM p o=o.sayM p (.shot n.id n.term n.lix n.ltm n.rnd n.data)from if_pos hc]
  have hs:=Nv o p (.shot n.id n.term n.lix n.ltm n.rnd n.data) h
  repeat'((conv=>whnf);first
   |((with_reducible refine Ar (by first|(with_reducible assumption)|(with_reducible exact Bool.of_not_eq_false (by assumption))|(with_reducible exact Bool.of_not_eq_true (by assumption))|((with_reducible refine decide_eq_true ?_);first|(with_reducible assumption)|omega)|((with_reducible refine decide_eq_false ?_);first|(with_reducible assumption)|omega)|(with_reducible rfl)) (fun hb=>?_));(try rw[hb]);(try simp only[Aa,Bool.false_eq_true,Bool.true_eq_false]at hb);(try subst hb))
   |((with_reducible refine Aq (by first|(with_reducible assumption)|(with_reducible exact Bool.of_not_eq_false (by assumption))|(with_reducible exact Bool.of_not_eq_true (by assumption))|((with_reducible refine decide_eq_true ?_);first|(with_reducible assumption)|omega)|((with_reducible refine decide_eq_false ?_);first|(with_reducible assumption)|omega)|(with_reducible rfl)) (fun hb=>?_));(try rw[hb]);(try simp only[Aa,Bool.false_eq_true,Bool.true_eq_false]at hb);(try subst hb))
   |((with_reducible refine And.intro (fun hb=>?_) (fun hb=>?_))<;>first|(with_reducible exact absurd hb (by assumption))|(exact absurd hb (by decide))|(with_reducible exact absurd hb Bool.false_ne_true)|(with_reducible exact absurd hb.symm Bool.false_ne_true)|(exfalso;first|(simp only[Aj]at hb<;>omega)|omega)|((try rw[hb]);(try simp only[Aa,Bool.false_eq_true,Bool.true_eq_false]at hb);(try subst hb)))
   |((with_reducible refine Exists.intro ?_ ?_);focus (and_intros<;>first|omega|(with_reducible assumption)|(with_reducible rfl)|kernel_rfl|exact rfl|assumption|(intro _ hh;cases hh;done)|exact Ah (by rfl)|exact size_map (fun _=>rfl)|exact Ai rfl|exact take_size (fun _=>rfl)|exact Af rfl|exact Ae (fun _=>rfl)|exact Ad (fun _=>rfl)|(simp only[Aj];omega)|(simp;done)|decide))
   |(with_reducible intro hfact)
   |((with_reducible refine And.intro ?_ ?_);focus (first|(with_reducible rfl)|(exact rfl)|decide))
   |((with_reducible apply Drawn.by0);(focus kernel_rfl);intro hfact;(try simp only[dRS]at hfact))
   |((with_reducible refine CallWp.mk ?_);refine⟨_,(Hm _ _ _),?_⟩;rintro _ _ ⟨rfl,rfl⟩)
   |((with_reducible refine CallIs.mk ?_);refine⟨_,_,hs,?_⟩)
   |((first|with_reducible apply Hn|with_reducible apply Ho);(focus (simp only[D.at,D.put,D.kid,D.setKid,List.cons_append,List.nil_append,List.append,List.getElem?_cons_zero,List.getElem?_cons_succ,Int.toNat_natCast,List.getElem?_set_self',Option.map_eq_map,Option.map_some,List.set_cons_zero,List.set_cons_succ,List.set_set,Function.const_apply,List.map_cons,List.map_nil,mkSt,Be,D.toI,toIs,Bd,List.getElem?_map,List.length_map,List.length_set,hx,Rn.toI]<;>exact rfl)))
   |((first|with_reducible apply D1|with_reducible apply D0);(focus rfl);(focus (simp only[D.at,D.put,D.kid,D.setKid,List.cons_append,List.nil_append,List.append,List.getElem?_cons_zero,List.getElem?_cons_succ,Int.toNat_natCast,List.getElem?_set_self',Option.map_eq_map,Option.map_some,List.set_cons_zero,List.set_cons_succ,List.set_set,Function.const_apply,List.map_cons,List.map_nil,mkSt,Be,D.toI,toIs,Bd,List.getElem?_map,List.length_map,List.length_set,hx,Rn.toI]<;>exact rfl));(try(focus exact rfl))))
  all_goals(try(conv=>whnf))
  (apply dKq<;>kernel_rfl)
 ·rw[show n.sendM p o=o.sayM p (.app n.id n.term (Bp (n.nx p - 1)) (Ds n.lix n.ltm n.les (Bp (n.nx p - 1))).1 n.com n.rnd (Jw n.lix n.les (n.nx p) 8))from if_neg hc]
  have hs:=Nv o p (.app n.id n.term (Bp (n.nx p - 1)) (Ds n.lix n.ltm n.les (Bp (n.nx p - 1))).1 n.com n.rnd (Jw n.lix n.les (n.nx p) 8)) h
  have ht:=Sd n.lix n.ltm n.les (Bp (n.nx p - 1)) hR
  have hf:=Sa n.lix n.ltm n.les (n.nx p) 8 hR
  repeat'((conv=>whnf);first
   |((with_reducible refine Ar (by first|(with_reducible assumption)|(with_reducible exact Bool.of_not_eq_false (by assumption))|(with_reducible exact Bool.of_not_eq_true (by assumption))|((with_reducible refine decide_eq_true ?_);first|(with_reducible assumption)|omega)|((with_reducible refine decide_eq_false ?_);first|(with_reducible assumption)|omega)|(with_reducible rfl)) (fun hb=>?_));(try rw[hb]);(try simp only[Aa,Bool.false_eq_true,Bool.true_eq_false]at hb);(try subst hb))
   |((with_reducible refine Aq (by first|(with_reducible assumption)|(with_reducible exact Bool.of_not_eq_false (by assumption))|(with_reducible exact Bool.of_not_eq_true (by assumption))|((with_reducible refine decide_eq_true ?_);first|(with_reducible assumption)|omega)|((with_reducible refine decide_eq_false ?_);first|(with_reducible assumption)|omega)|(with_reducible rfl)) (fun hb=>?_));(try rw[hb]);(try simp only[Aa,Bool.false_eq_true,Bool.true_eq_false]at hb);(try subst hb))
   |((with_reducible refine And.intro (fun hb=>?_) (fun hb=>?_))<;>first|(with_reducible exact absurd hb (by assumption))|(exact absurd hb (by decide))|(with_reducible exact absurd hb Bool.false_ne_true)|(with_reducible exact absurd hb.symm Bool.false_ne_true)|(exfalso;first|(simp only[Aj]at hb<;>omega)|omega)|((try rw[hb]);(try simp only[Aa,Bool.false_eq_true,Bool.true_eq_false]at hb);(try subst hb)))
   |((with_reducible refine Exists.intro ?_ ?_);focus (and_intros<;>first|omega|(with_reducible assumption)|(with_reducible rfl)|kernel_rfl|exact rfl|assumption|(intro _ hh;cases hh;done)|exact Ah (by rfl)|exact size_map (fun _=>rfl)|exact Ai rfl|exact take_size (fun _=>rfl)|exact Af rfl|exact Ae (fun _=>rfl)|exact Ad (fun _=>rfl)|(simp only[Aj];omega)|(simp;done)|decide))
   |(with_reducible intro hfact)
   |((with_reducible refine And.intro ?_ ?_);focus (first|(with_reducible rfl)|(exact rfl)|decide))
   |((with_reducible apply Drawn.by0);(focus kernel_rfl);intro hfact;(try simp only[dRS]at hfact))
   |((with_reducible refine CallWp.mk ?_);refine⟨_,(Hm _ _ _),?_⟩;rintro _ _ ⟨rfl,rfl⟩)
   |((with_reducible refine CallIs.mk ?_);refine⟨_,_,ht,?_⟩)
   |((with_reducible refine CallIs.mk ?_);refine⟨_,_,hf,?_⟩)
   |((with_reducible refine CallIs.mk ?_);refine⟨_,_,hs,?_⟩)
   |((first|with_reducible apply Hn|with_reducible apply Ho);(focus (simp only[D.at,D.put,D.kid,D.setKid,List.cons_append,List.nil_append,List.append,List.getElem?_cons_zero,List.getElem?_cons_succ,Int.toNat_natCast,List.getElem?_set_self',Option.map_eq_map,Option.map_some,List.set_cons_zero,List.set_cons_succ,List.set_set,Function.const_apply,List.map_cons,List.map_nil,mkSt,Be,D.toI,toIs,Bd,List.getElem?_map,List.length_map,List.length_set,hx,Rn.toI]<;>exact rfl)))
   |((first|with_reducible apply D1|with_reducible apply D0);(focus rfl);(focus (simp only[D.at,D.put,D.kid,D.setKid,List.cons_append,List.nil_append,List.append,List.getElem?_cons_zero,List.getElem?_cons_succ,Int.toNat_natCast,List.getElem?_set_self',Option.map_eq_map,Option.map_some,List.set_cons_zero,List.set_cons_succ,List.set_set,Function.const_apply,List.map_cons,List.map_nil,mkSt,Be,D.toI,toIs,Bd,List.getElem?_map,List.length_map,List.length_set,hx,Rn.toI]<;>exact rfl));(try(focus exact rfl))))
  all_goals(try(conv=>whnf))
  (apply dKq<;>kernel_rfl)
end Go.Ab
