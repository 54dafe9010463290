/- One text of the proof whose last text says what is proved. -/
import Derived.Test.YtoombangidlpjaaA0
set_option linter.unusedVariables false
set_option linter.unusedSimpArgs false
set_option maxRecDepth 100000
namespace Go.Ab
open Go.Proofs
/-- exchequer/exchequerref15.Do · parameters [api.Roll, api.Cmd] -/
abbrev F_exchequerref15_Do' : FuncId := 17
def ir_exchequerref15_Do' : Stm :=
 (.seq
 (.ops [
 O1 (.boxD 2 (.t 0)), O1 (.boxD 3 (.t 1)), O1 (.allocD 4 (.st [(.it (.int .i64 0)), (.vec 75 3 []), (.vec 59 5 []), (.vec 56 3 [])])), O1 (.asg 5 (.c (.int .i64 0)))])
 (.seq
 (.ops [
 O1 (.load 19 true 4 (.t 2)), .call none (some 20) 29 [(false, (.t 19))], O1 (.allocD 6 (.st [(.it (.int .i64 0)), (.vec 75 3 []), (.vec 59 5 []), (.vec 56 3 [])])), O1 (.store 4 (.t 6) (.t 20))])
 (.seq
 (.ops [
 O1 (.faddr 21 (.t 6) 0 0), O1 (.load 22 false 1 (.t 21)), O1 (.bin 23 .add (.t 22) (.c (.int .i64 1))), O1 (.faddr 24 (.t 6) 0 0), O1 (.store 1 (.t 24) (.t 23))])
 (.seq
 (.seq
 (.ops [
 O1 (.faddr 25 (.t 3) 3 3), O1 (.load 26 false 1 (.t 25)), O1 (.bin 27 .lss (.t 26) (.c (.int .i64 4))), O1 (.mv 28 (.t 27)), .op (some (28, false)) (.faddr 29 (.t 3) 3 3), .op (some (28, false)) (.load 30 false 1 (.t 29)), .op (some (28, false)) (.bin 31 .gtr (.t 30) (.c (.int .i64 14))), O1 (.pick 32 (.t 28) (.c (.bool true)) (.t 31))])
 (.cond (.t 32)
 (.seq
 (.ops [
 O1 (.load 33 true 4 (.t 2)), O1 (.store 4 (.t 4) (.t 33)), O1 (.asg 5 (.c (.int .i64 1)))])
 .ret)
 .skip))
 (.seq
 (.seq
 (.ops [
 O1 (.faddr 34 (.t 2) 0 0), O1 (.load 35 false 1 (.t 34)), O1 (.bin 36 .geq (.t 35) (.c (.int .i64 1099511627776)))])
 (.cond (.t 36)
 (.seq
 (.ops [
 O1 (.load 37 true 4 (.t 2)), O1 (.store 4 (.t 4) (.t 37)), O1 (.asg 5 (.c (.int .i64 17)))])
 .ret)
 .skip))
 (.seq
 (.drw [[], [], [1], [0, 2], [], [], [5], [4, 6, 3], [], [], [9], [8, 10, 7], [3, 11, 0, 1, 2], [7, 12, 0, 1, 2, 3, 4, 5, 6], [11, 13, 0, 1, 2, 3, 4, 5, 6, 7, 8, 9, 10, 12]] [
 O1 (.load 38 true 4 (.t 2)), O1 (.faddr 39 (.t 3) 5 5), O1 (.load 40 false 1 (.t 39)), .call none (some 41) 30 [(false, (.t 38)), (false, (.t 40))], O1 (.load 42 true 4 (.t 2)), O1 (.faddr 43 (.t 3) 4 4), O1 (.load 44 false 1 (.t 43)), .call none (some 45) 19 [(false, (.t 42)), (false, (.t 44))], O1 (.load 46 true 4 (.t 2)), O1 (.faddr 47 (.t 3) 4 4), O1 (.load 48 false 1 (.t 47)), .call none (some 49) 18 [(false, (.t 46)), (false, (.t 48))], O1 (.asg 7 (.t 41)), O1 (.asg 8 (.t 45)), O1 (.asg 9 (.t 49))])
 (.seq
 (.seq
 (.ops [
 O1 (.faddr 50 (.t 3) 3 3), O1 (.load 51 false 1 (.t 50)), O1 (.bin 52 .eql (.t 51) (.c (.int .i64 4))), O1 (.mv 53 (.t 52)), .op (some (53, false)) (.faddr 54 (.t 3) 3 3), .op (some (53, false)) (.load 55 false 1 (.t 54)), .op (some (53, false)) (.bin 56 .eql (.t 55) (.c (.int .i64 5))), O1 (.pick 57 (.t 53) (.c (.bool true)) (.t 56))])
 (.cond (.t 57)
 (.seq
 (.ops [
 O1 (.load 58 true 4 (.t 2)), O1 (.faddr 59 (.t 3) 4 4), O1 (.load 60 false 1 (.t 59)), .call none (some 61) 30 [(false, (.t 58)), (false, (.t 60))], O1 (.asg 10 (.t 61))])
 (.seq
 (.seq
 (.ops [
 O1 (.faddr 62 (.t 3) 3 3), O1 (.load 63 false 1 (.t 62)), O1 (.bin 64 .eql (.t 63) (.c (.int .i64 4))), O1 (.mv 65 (.t 64)), .op (some (65, true)) (.faddr 66 (.t 3) 4 4), .op (some (65, true)) (.load 67 false 1 (.t 66)), .call (some (65, true)) (some 68) 31 [(false, (.t 67))], .op (some (65, true)) (.not 69 (.t 68)), O1 (.pick 70 (.t 65) (.t 69) (.c (.bool false)))])
 (.cond (.t 70)
 (.seq
 (.ops [
 O1 (.load 71 true 4 (.t 2)), O1 (.store 4 (.t 4) (.t 71)), O1 (.asg 5 (.c (.int .i64 5)))])
 .ret)
 .skip))
 (.seq
 (.seq
 (.ops [
 O1 (.faddr 72 (.t 3) 8 8), O1 (.load 73 false 1 (.t 72)), .call none (some 74) 32 [(false, (.t 73))], O1 (.not 75 (.t 74)), O1 (.mv 76 (.t 75)), .op (some (76, false)) (.faddr 77 (.t 3) 9 9), .op (some (76, false)) (.load 78 false 1 (.t 77)), .call (some (76, false)) (some 79) 32 [(false, (.t 78))], .op (some (76, false)) (.not 80 (.t 79)), O1 (.pick 81 (.t 76) (.c (.bool true)) (.t 80))])
 (.cond (.t 81)
 (.seq
 (.ops [
 O1 (.load 82 true 4 (.t 2)), O1 (.store 4 (.t 4) (.t 82)), O1 (.asg 5 (.c (.int .i64 1)))])
 .ret)
 .skip))
 (.seq
 (.ops [
 O1 (.faddr 83 (.t 3) 4 4), O1 (.load 84 false 1 (.t 83)), O1 (.faddr 85 (.t 3) 8 8), O1 (.load 86 false 1 (.t 85)), O1 (.faddr 87 (.t 3) 9 9), O1 (.load 88 false 1 (.t 87)), O1 (.build 89 [(.str []), (.int .i64 0), (.int .i64 0)] [(0, (.t 84)), (1, (.t 86)), (2, (.t 88))]), O1 (.alloc 11 (.one (.i (.agg [(.str []), (.int .i64 0), (.int .i64 0)])))), O1 (.store 3 (.t 11) (.t 89))])
 (.seq
 (.seq
 (.ops [
 O1 (.faddr 90 (.t 3) 3 3), O1 (.load 91 false 1 (.t 90)), O1 (.bin 92 .eql (.t 91) (.c (.int .i64 5)))])
 (.cond (.t 92)
 (.seq
 (.seq
 (.ops [
 O1 (.mv 93 (.t 10)), O1 (.bin 94 .lss (.t 93) (.c (.int .i64 0)))])
 (.cond (.t 94)
 (.seq
 (.ops [
 O1 (.load 95 true 4 (.t 2)), O1 (.store 4 (.t 4) (.t 95)), O1 (.asg 5 (.c (.int .i64 16)))])
 .ret)
 .skip))
 (.seq
 (.ops [
 O1 (.faddr 96 (.t 6) 1 1), O1 (.load 97 false 1 (.t 96)), O1 (.mv 98 (.t 10)), O1 (.load 99 true 3 (.t 11)), O1 (.iaddr 100 3 (.t 97) (.t 98)), O1 (.store 3 (.t 100) (.t 99))])
 (.seq
 (.ops [
 O1 (.load 101 true 4 (.t 6)), O1 (.store 4 (.t 4) (.t 101)), O1 (.asg 5 (.c (.int .i64 0)))])
 .ret)))
 .skip))
 (.seq
 (.seq
 (.ops [
 O1 (.mv 102 (.t 10)), O1 (.bin 103 .geq (.t 102) (.c (.int .i64 0)))])
 (.cond (.t 103)
 (.seq
 (.ops [
 O1 (.load 104 true 4 (.t 2)), O1 (.store 4 (.t 4) (.t 104)), O1 (.asg 5 (.c (.int .i64 15)))])
 .ret)
 .skip))
 (.seq
 (.seq
 (.ops [
 O1 (.faddr 105 (.t 2) 1 1), O1 (.load 106 false 1 (.t 105)), O1 (.len 107 false (.t 106)), O1 (.bin 108 .geq (.t 107) (.c (.int .i64 8)))])
 (.cond (.t 108)
 (.seq
 (.ops [
 O1 (.load 109 true 4 (.t 2)), O1 (.store 4 (.t 4) (.t 109)), O1 (.asg 5 (.c (.int .i64 17)))])
 .ret)
 .skip))
 (.seq
 (.ops [
 O1 (.faddr 110 (.t 6) 1 1), O1 (.load 111 false 1 (.t 110)), O1 (.load 112 true 3 (.t 11)), .call none (some 113) 33 [(false, (.t 111)), (false, (.t 112))], O1 (.faddr 114 (.t 6) 1 1), O1 (.store 1 (.t 114) (.t 113))])
 (.seq
 (.ops [
 O1 (.load 115 true 4 (.t 6)), O1 (.store 4 (.t 4) (.t 115)), O1 (.asg 5 (.c (.int .i64 0)))])
 .ret)))))))))
 .skip))
 (.seq
 (.seq
 (.ops [
 O1 (.faddr 116 (.t 3) 3 3), O1 (.load 117 false 1 (.t 116)), O1 (.bin 118 .eql (.t 117) (.c (.int .i64 6)))])
 (.cond (.t 118)
 (.seq
 (.seq
 (.ops [
 O1 (.faddr 119 (.t 3) 4 4), O1 (.load 120 false 1 (.t 119)), .call none (some 121) 31 [(false, (.t 120))], O1 (.not 122 (.t 121))])
 (.cond (.t 122)
 (.seq
 (.ops [
 O1 (.load 123 true 4 (.t 2)), O1 (.store 4 (.t 4) (.t 123)), O1 (.asg 5 (.c (.int .i64 5)))])
 .ret)
 .skip))
 (.seq
 (.seq
 (.ops [
 O1 (.faddr 124 (.t 3) 6 6), O1 (.load 125 false 1 (.t 124)), O1 (.len 126 true (.t 125)), O1 (.bin 127 .gtr (.t 126) (.c (.int .i64 64))), O1 (.mv 128 (.t 127)), .op (some (128, false)) (.faddr 129 (.t 3) 7 7), .op (some (128, false)) (.load 130 false 1 (.t 129)), .op (some (128, false)) (.len 131 true (.t 130)), .op (some (128, false)) (.bin 132 .gtr (.t 131) (.c (.int .i64 64))), O1 (.pick 133 (.t 128) (.c (.bool true)) (.t 132))])
 (.cond (.t 133)
 (.seq
 (.ops [
 O1 (.load 134 true 4 (.t 2)), O1 (.store 4 (.t 4) (.t 134)), O1 (.asg 5 (.c (.int .i64 2)))])
 .ret)
 .skip))
 (.seq
 (.seq
 (.ops [
 O1 (.mv 135 (.t 8)), O1 (.bin 136 .geq (.t 135) (.c (.int .i64 0)))])
 (.cond (.t 136)
 (.seq
 (.ops [
 O1 (.load 137 true 4 (.t 2)), O1 (.store 4 (.t 4) (.t 137)), O1 (.asg 5 (.c (.int .i64 15)))])
 .ret)
 .skip))
 (.seq
 (.seq
 (.ops [
 O1 (.mv 138 (.t 7)), O1 (.bin 139 .lss (.t 138) (.c (.int .i64 0)))])
 (.cond (.t 139)
 (.seq
 (.ops [
 O1 (.load 140 true 4 (.t 2)), O1 (.store 4 (.t 4) (.t 140)), O1 (.asg 5 (.c (.int .i64 16)))])
 .ret)
 .skip))
 (.seq
 (.seq
 (.ops [
 O1 (.faddr 141 (.t 2) 2 2), O1 (.load 142 false 1 (.t 141)), O1 (.len 143 false (.t 142)), O1 (.bin 144 .geq (.t 143) (.c (.int .i64 16)))])
 (.cond (.t 144)
 (.seq
 (.ops [
 O1 (.load 145 true 4 (.t 2)), O1 (.store 4 (.t 4) (.t 145)), O1 (.asg 5 (.c (.int .i64 17)))])
 .ret)
 .skip))
 (.seq
 (.drw [[], [0], [], [2], [], [4], [], [6], [], [8], [], [10], [9, 11], [3, 5, 7, 12], [1, 13, 12], [0, 1, 2, 3, 4, 5, 6, 7, 8, 9, 10, 11, 12, 13, 14], [15, 14, 0, 1, 2, 3, 4, 5, 6, 7, 8, 9, 10, 11, 12, 13]] [
 O1 (.faddr 146 (.t 6) 2 2), O1 (.load 147 false 1 (.t 146)), O1 (.faddr 148 (.t 3) 4 4), O1 (.load 149 false 1 (.t 148)), O1 (.faddr 150 (.t 3) 5 5), O1 (.load 151 false 1 (.t 150)), O1 (.faddr 152 (.t 3) 7 7), O1 (.load 153 false 1 (.t 152)), O1 (.faddr 154 (.t 3) 7 7), O1 (.load 155 false 1 (.t 154)), O1 (.faddr 156 (.t 3) 6 6), O1 (.load 157 false 1 (.t 156)), .call none (some 158) 35 [(false, (.t 155)), (false, (.t 157))], O1 (.buildD 159 [(.it (.str [])), (.it (.str [])), (.it (.str [])), (.it (.str [])), (.vec 9 1 [])] [(0, (.t 149)), (1, (.t 151)), (2, (.t 153)), (3, (.t 158))]), .call none (some 160) 34 [(false, (.t 147)), (false, (.t 159))], O1 (.faddr 161 (.t 6) 2 2), O1 (.store 1 (.t 161) (.t 160))])
 (.seq
 (.ops [
 O1 (.load 162 true 4 (.t 6)), O1 (.store 4 (.t 4) (.t 162)), O1 (.asg 5 (.c (.int .i64 0)))])
 .ret)))))))
 .skip))
 (.seq
 (.seq
 (.ops [
 O1 (.faddr 163 (.t 3) 3 3), O1 (.load 164 false 1 (.t 163)), O1 (.bin 165 .eql (.t 164) (.c (.int .i64 7)))])
 (.cond (.t 165)
 (.seq
 (.seq
 (.ops [
 O1 (.faddr 166 (.t 3) 6 6), O1 (.load 167 false 1 (.t 166)), O1 (.len 168 true (.t 167)), O1 (.bin 169 .gtr (.t 168) (.c (.int .i64 64))), O1 (.mv 170 (.t 169)), .op (some (170, false)) (.faddr 171 (.t 3) 7 7), .op (some (170, false)) (.load 172 false 1 (.t 171)), .op (some (170, false)) (.len 173 true (.t 172)), .op (some (170, false)) (.bin 174 .gtr (.t 173) (.c (.int .i64 64))), O1 (.pick 175 (.t 170) (.c (.bool true)) (.t 174))])
 (.cond (.t 175)
 (.seq
 (.ops [
 O1 (.load 176 true 4 (.t 2)), O1 (.store 4 (.t 4) (.t 176)), O1 (.asg 5 (.c (.int .i64 2)))])
 .ret)
 .skip))
 (.seq
 (.seq
 (.ops [
 O1 (.mv 177 (.t 8)), O1 (.bin 178 .lss (.t 177) (.c (.int .i64 0)))])
 (.cond (.t 178)
 (.seq
 (.ops [
 O1 (.load 179 true 4 (.t 2)), O1 (.store 4 (.t 4) (.t 179)), O1 (.asg 5 (.c (.int .i64 16)))])
 .ret)
 .skip))
 (.seq
 (.drw [[], [0], [], [], [3], [], [], [6], [], [8], [], [10], [9, 11], [1, 2, 0, 6, 7, 12], [13, 0, 1, 2, 6, 7, 12], [14, 7, 12, 0, 1, 2, 6], [4, 5, 0, 1, 2, 3, 6, 7, 8, 9, 10, 11, 12, 13, 14, 15], [16, 0, 1, 2, 3, 4, 5, 6, 7, 8, 9, 10, 11, 12, 13, 14, 15], [17, 12, 15, 0, 1, 2, 3, 4, 5, 6, 7, 8, 9, 10, 11, 13, 14]] [
 O1 (.faddr 180 (.t 6) 2 2), O1 (.load 181 false 1 (.t 180)), O1 (.mv 182 (.t 8)), O1 (.faddr 183 (.t 6) 2 2), O1 (.load 184 false 1 (.t 183)), O1 (.mv 185 (.t 8)), O1 (.faddr 186 (.t 3) 7 7), O1 (.load 187 false 1 (.t 186)), O1 (.faddr 188 (.t 3) 7 7), O1 (.load 189 false 1 (.t 188)), O1 (.faddr 190 (.t 3) 6 6), O1 (.load 191 false 1 (.t 190)), .call none (some 192) 35 [(false, (.t 189)), (false, (.t 191))], O1 (.iaddr 193 5 (.t 181) (.t 182)), O1 (.faddr 194 (.t 193) 2 2), O1 (.store 1 (.t 194) (.t 187)), O1 (.iaddr 195 5 (.t 184) (.t 185)), O1 (.faddr 196 (.t 195) 3 3), O1 (.store 1 (.t 196) (.t 192))])
 (.seq
 (.ops [
 O1 (.load 197 true 4 (.t 6)), O1 (.store 4 (.t 4) (.t 197)), O1 (.asg 5 (.c (.int .i64 0)))])
 .ret))))
 .skip))
 (.seq
 (.seq
 (.ops [
 O1 (.faddr 198 (.t 3) 3 3), O1 (.load 199 false 1 (.t 198)), O1 (.bin 200 .eql (.t 199) (.c (.int .i64 8)))])
 (.cond (.t 200)
 (.seq
 (.seq
 (.ops [
 O1 (.mv 201 (.t 8)), O1 (.bin 202 .lss (.t 201) (.c (.int .i64 0)))])
 (.cond (.t 202)
 (.seq
 (.ops [
 O1 (.load 203 true 4 (.t 2)), O1 (.store 4 (.t 4) (.t 203)), O1 (.asg 5 (.c (.int .i64 16)))])
 .ret)
 .skip))
 (.seq
 (.seq
 (.ops [
 O1 (.faddr 204 (.t 3) 4 4), O1 (.load 205 false 1 (.t 204)), O1 (.bin 206 .eql (.t 205) (.c (.str [114, 111, 111, 116])))])
 (.cond (.t 206)
 (.seq
 (.ops [
 O1 (.load 207 true 4 (.t 2)), O1 (.store 4 (.t 4) (.t 207)), O1 (.asg 5 (.c (.int .i64 1)))])
 .ret)
 .skip))
 (.seq
 (.drw [[], [], [1], [], [2, 3], [0, 4], [], [6], [], [8], [7, 9], [5, 10], [0, 1, 2, 3, 4, 5, 6, 7, 8, 9, 10, 11], [12, 11, 0, 1, 2, 3, 4, 5, 6, 7, 8, 9, 10]] [
 O1 (.empty 208 59 5), O1 (.faddr 209 (.t 6) 2 2), O1 (.load 210 false 1 (.t 209)), O1 (.mv 211 (.t 8)), O1 (.slc 212 false 5 (.t 210) none (some (.t 211))), O1 (.app 213 59 5 88 (.t 208) (.t 212)), O1 (.faddr 214 (.t 6) 2 2), O1 (.load 215 false 1 (.t 214)), O1 (.mv 216 (.t 8)), O1 (.bin 217 .add (.t 216) (.c (.int .i64 1))), O1 (.slc 218 false 5 (.t 215) (some (.t 217)) none), O1 (.app 219 59 5 88 (.t 213) (.t 218)), O1 (.faddr 220 (.t 6) 2 2), O1 (.store 1 (.t 220) (.t 219))])
 (.seq
 (.ops [
 O1 (.load 221 true 4 (.t 6)), O1 (.store 4 (.t 4) (.t 221)), O1 (.asg 5 (.c (.int .i64 0)))])
 .ret))))
 .skip))
 (.seq
 (.seq
 (.ops [
 O1 (.faddr 222 (.t 3) 3 3), O1 (.load 223 false 1 (.t 222)), O1 (.bin 224 .eql (.t 223) (.c (.int .i64 9)))])
 (.cond (.t 224)
 (.seq
 (.seq
 (.ops [
 O1 (.faddr 225 (.t 3) 4 4), O1 (.load 226 false 1 (.t 225)), .call none (some 227) 31 [(false, (.t 226))], O1 (.not 228 (.t 227))])
 (.cond (.t 228)
 (.seq
 (.ops [
 O1 (.load 229 true 4 (.t 2)), O1 (.store 4 (.t 4) (.t 229)), O1 (.asg 5 (.c (.int .i64 5)))])
 .ret)
 .skip))
 (.seq
 (.seq
 (.ops [
 O1 (.mv 230 (.t 9)), O1 (.bin 231 .geq (.t 230) (.c (.int .i64 0)))])
 (.cond (.t 231)
 (.seq
 (.ops [
 O1 (.load 232 true 4 (.t 2)), O1 (.store 4 (.t 4) (.t 232)), O1 (.asg 5 (.c (.int .i64 15)))])
 .ret)
 .skip))
 (.seq
 (.seq
 (.ops [
 O1 (.mv 233 (.t 7)), O1 (.bin 234 .lss (.t 233) (.c (.int .i64 0)))])
 (.cond (.t 234)
 (.seq
 (.ops [
 O1 (.load 235 true 4 (.t 2)), O1 (.store 4 (.t 4) (.t 235)), O1 (.asg 5 (.c (.int .i64 16)))])
 .ret)
 .skip))
 (.seq
 (.seq
 (.ops [
 O1 (.faddr 236 (.t 2) 3 3), O1 (.load 237 false 1 (.t 236)), O1 (.len 238 false (.t 237)), O1 (.bin 239 .geq (.t 238) (.c (.int .i64 16)))])
 (.cond (.t 239)
 (.seq
 (.ops [
 O1 (.load 240 true 4 (.t 2)), O1 (.store 4 (.t 4) (.t 240)), O1 (.asg 5 (.c (.int .i64 17)))])
 .ret)
 .skip))
 (.seq
 (.ops [
 O1 (.faddr 241 (.t 6) 3 3), O1 (.load 242 false 1 (.t 241)), O1 (.faddr 243 (.t 3) 4 4), O1 (.load 244 false 1 (.t 243)), O1 (.faddr 245 (.t 3) 5 5), O1 (.load 246 false 1 (.t 245)), O1 (.buildD 247 [(.it (.str [])), (.it (.str [])), (.vec 45 4 [])] [(0, (.t 244)), (1, (.t 246))]), .call none (some 248) 36 [(false, (.t 242)), (false, (.t 247))], O1 (.faddr 249 (.t 6) 3 3), O1 (.store 1 (.t 249) (.t 248))])
 (.seq
 (.ops [
 O1 (.load 250 true 4 (.t 6)), O1 (.store 4 (.t 4) (.t 250)), O1 (.asg 5 (.c (.int .i64 0)))])
 .ret))))))
 .skip))
 (.seq
 (.seq
 (.ops [
 O1 (.faddr 251 (.t 3) 3 3), O1 (.load 252 false 1 (.t 251)), O1 (.bin 253 .geq (.t 252) (.c (.int .i64 13)))])
 (.cond (.t 253)
 (.seq
 (.ops [
 O1 (.load 254 true 4 (.t 2)), O1 (.load 255 true 4 (.t 6)), O1 (.load 256 true 18 (.t 3)), O1 (.mv 257 (.t 8)), .call none (some 258) 37 [(false, (.t 254)), (true, (.t 255)), (false, (.t 256)), (false, (.t 257))], O1 (.ext 259 (.t 258) 0), O1 (.ext 260 (.t 258) 1), O1 (.store 4 (.t 4) (.t 259)), O1 (.asg 5 (.t 260))])
 .ret)
 .skip))
 (.seq
 (.seq
 (.ops [
 O1 (.faddr 261 (.t 3) 3 3), O1 (.load 262 false 1 (.t 261)), O1 (.bin 263 .eql (.t 262) (.c (.int .i64 11))), O1 (.mv 264 (.t 263)), .op (some (264, true)) (.faddr 265 (.t 3) 10 10), .op (some (264, true)) (.load 266 true 4 (.t 265)), .call (some (264, true)) (some 267) 38 [(false, (.t 266))], .op (some (264, true)) (.not 268 (.t 267)), O1 (.pick 269 (.t 264) (.t 268) (.c (.bool false))), O1 (.mv 270 (.t 269)), .op (some (270, false)) (.faddr 271 (.t 3) 3 3), .op (some (270, false)) (.load 272 false 1 (.t 271)), .op (some (270, false)) (.bin 273 .eql (.t 272) (.c (.int .i64 12))), .op (some (270, false)) (.mv 274 (.t 273)), .op (some (274, true)) (.faddr 275 (.t 3) 10 10), .op (some (274, true)) (.faddr 276 (.t 275) 0 0), .op (some (274, true)) (.load 277 true 2 (.t 276)), .call (some (274, true)) (some 278) 39 [(false, (.t 277))], .op (some (274, true)) (.not 279 (.t 278)), .op (some (270, false)) (.pick 280 (.t 274) (.t 279) (.c (.bool false))), O1 (.pick 281 (.t 270) (.c (.bool true)) (.t 280))])
 (.cond (.t 281)
 (.seq
 (.ops [
 O1 (.load 282 true 4 (.t 2)), O1 (.store 4 (.t 4) (.t 282)), O1 (.asg 5 (.c (.int .i64 1)))])
 .ret)
 .skip))
 (.seq
 (.seq
 (.ops [
 O1 (.mv 283 (.t 9)), O1 (.bin 284 .lss (.t 283) (.c (.int .i64 0)))])
 (.cond (.t 284)
 (.seq
 (.ops [
 O1 (.load 285 true 4 (.t 2)), O1 (.store 4 (.t 4) (.t 285)), O1 (.asg 5 (.c (.int .i64 16)))])
 .ret)
 .skip))
 (.seq
 (.seq
 (.ops [
 O1 (.faddr 286 (.t 3) 3 3), O1 (.load 287 false 1 (.t 286)), O1 (.bin 288 .eql (.t 287) (.c (.int .i64 10)))])
 (.cond (.t 288)
 (.seq
 (.drw [[], [], [1], [], [2, 3], [0, 4], [], [6], [], [8], [7, 9], [5, 10], [0, 1, 2, 3, 4, 5, 6, 7, 8, 9, 10, 11], [12, 11, 0, 1, 2, 3, 4, 5, 6, 7, 8, 9, 10]] [
 O1 (.empty 289 56 3), O1 (.faddr 290 (.t 6) 3 3), O1 (.load 291 false 1 (.t 290)), O1 (.mv 292 (.t 9)), O1 (.slc 293 false 3 (.t 291) none (some (.t 292))), O1 (.app 294 56 3 56 (.t 289) (.t 293)), O1 (.faddr 295 (.t 6) 3 3), O1 (.load 296 false 1 (.t 295)), O1 (.mv 297 (.t 9)), O1 (.bin 298 .add (.t 297) (.c (.int .i64 1))), O1 (.slc 299 false 3 (.t 296) (some (.t 298)) none), O1 (.app 300 56 3 56 (.t 294) (.t 299)), O1 (.faddr 301 (.t 6) 3 3), O1 (.store 1 (.t 301) (.t 300))])
 (.seq
 (.seq
 (.ops [
 O1 (.asg 12 (.c (.int .i64 0)))])
 (.block 0
 (.loop [302, 303, 304, 305, 306, 307, 308, 309, 310, 311, 312, 313, 314, 315, 316, 317, 318, 319, 320, 321, 322, 333, 338, 360, 365, 376, 381, 385, 390, 396, 400, 404, 411]
 (.seq
 (.seq
 (.ops [
 O1 (.mv 302 (.t 12)), O1 (.faddr 303 (.t 6) 2 2), O1 (.load 304 false 1 (.t 303)), O1 (.len 305 false (.t 304)), O1 (.bin 306 .lss (.t 302) (.t 305))])
 (.cond (.t 306)
 .skip
 (.exit 0)))
 (.seq
 (.block 1
 (.drw [[], [0], [], [], [3], [], [4, 5], [6], [7], [], [9], [8, 10], [1, 2, 0, 3, 4, 5, 6, 7, 8, 9, 10, 11], [12, 0, 1, 2, 3, 4, 5, 6, 7, 8, 9, 10, 11], [13, 11, 0, 1, 2, 3, 4, 5, 6, 7, 8, 9, 10]] [
 O1 (.faddr 309 (.t 6) 2 2), O1 (.load 310 false 1 (.t 309)), O1 (.mv 311 (.t 12)), O1 (.faddr 312 (.t 6) 2 2), O1 (.load 313 false 1 (.t 312)), O1 (.mv 314 (.t 12)), O1 (.iaddr 315 5 (.t 313) (.t 314)), O1 (.faddr 316 (.t 315) 4 4), O1 (.load 317 false 1 (.t 316)), O1 (.faddr 318 (.t 3) 4 4), O1 (.load 319 false 1 (.t 318)), .call none (some 320) 40 [(false, (.t 317)), (false, (.t 319))], O1 (.iaddr 321 5 (.t 310) (.t 311)), O1 (.faddr 322 (.t 321) 4 4), O1 (.store 1 (.t 322) (.t 320))]))
 (.ops [
 O1 (.mv 307 (.t 12)), O1 (.bin 308 .add (.t 307) (.c (.int .i64 1))), O1 (.asg 12 (.t 308))]))))))
 (.seq
 (.ops [
 O1 (.load 323 true 4 (.t 6)), O1 (.store 4 (.t 4) (.t 323)), O1 (.asg 5 (.c (.int .i64 0)))])
 .ret)))
 .skip))
 (.seq
 (.ops [
 O1 (.faddr 324 (.t 2) 3 3), O1 (.load 325 false 1 (.t 324)), O1 (.mv 326 (.t 9)), O1 (.iaddr 327 3 (.t 325) (.t 326)), O1 (.faddr 328 (.t 327) 2 2), O1 (.load 329 false 1 (.t 328)), O1 (.asg 13 (.t 329))])
 (.seq
 (.seq
 (.ops [
 O1 (.faddr 330 (.t 3) 3 3), O1 (.load 331 false 1 (.t 330)), O1 (.bin 332 .eql (.t 331) (.c (.int .i64 11)))])
 (.cond (.t 332)
 (.seq
 (.seq
 (.ops [
 O1 (.mv 333 (.t 13)), O1 (.faddr 334 (.t 3) 10 10), O1 (.load 335 true 4 (.t 334)),
 .peek none (some 336) 41 [(false, (.t 333)), (false, (.t 335))]])
 (.cond (.t 336)
 (.seq
 (.ops [
 O1 (.load 337 true 4 (.t 2)), O1 (.store 4 (.t 4) (.t 337)), O1 (.asg 5 (.c (.int .i64 15)))])
 .ret)
 .skip))
 (.seq
 (.seq
 (.ops [
 O1 (.mv 338 (.t 13)), O1 (.len 339 false (.t 338)), O1 (.bin 340 .geq (.t 339) (.c (.int .i64 8)))])
 (.cond (.t 340)
 (.seq
 (.ops [
 O1 (.load 341 true 4 (.t 2)), O1 (.store 4 (.t 4) (.t 341)), O1 (.asg 5 (.c (.int .i64 17)))])
 .ret)
 .skip))
 (.seq
 (.drw [[], [0], [], [], [3], [], [4, 5], [6], [7], [], [9], [10], [8, 11], [1, 2, 0, 3, 4, 5, 6, 7, 8, 9, 10, 11, 12], [13, 0, 1, 2, 3, 4, 5, 6, 7, 8, 9, 10, 11, 12], [14, 12, 0, 1, 2, 3, 4, 5, 6, 7, 8, 9, 10, 11]] [
 O1 (.faddr 342 (.t 6) 3 3), O1 (.load 343 false 1 (.t 342)), O1 (.mv 344 (.t 9)), O1 (.faddr 345 (.t 6) 3 3), O1 (.load 346 false 1 (.t 345)), O1 (.mv 347 (.t 9)), O1 (.iaddr 348 3 (.t 346) (.t 347)), O1 (.faddr 349 (.t 348) 2 2), O1 (.load 350 false 1 (.t 349)), O1 (.faddr 351 (.t 3) 10 10), O1 (.load 352 true 4 (.t 351)), O1 (.bsl 353 45 4 (.agg [(.agg [(.str []), (.str [])]), (.bool false), (.bool false)]) 1 [(0, (.t 352))]), O1 (.app 354 45 4 40 (.t 350) (.t 353)), O1 (.iaddr 355 3 (.t 343) (.t 344)), O1 (.faddr 356 (.t 355) 2 2), O1 (.store 1 (.t 356) (.t 354))])
 (.seq
 (.ops [
 O1 (.load 357 true 4 (.t 6)), O1 (.store 4 (.t 4) (.t 357)), O1 (.asg 5 (.c (.int .i64 0)))])
 .ret))))
 .skip))
 (.seq
 (.ops [
 O1 (.empty 358 45 4), O1 (.asg 14 (.t 358))])
 (.seq
 (.seq
 (.ops [
 O1 (.asg 15 (.c (.int .i64 0)))])
 (.block 2
 (.loop [16, 17, 18, 333, 338, 359, 360, 361, 362, 363, 364, 365, 366, 367, 368, 369, 370, 371, 372, 373, 374, 375, 376, 377, 378, 379, 380, 381, 382, 383, 384, 385, 386, 387, 388, 389, 390, 391, 392, 393, 394, 395, 396, 397, 398, 399, 400, 401, 402, 403, 404, 411]
 (.seq
 (.seq
 (.ops [
 O1 (.mv 359 (.t 15)), O1 (.mv 360 (.t 13)), O1 (.len 361 false (.t 360)), O1 (.bin 362 .lss (.t 359) (.t 361))])
 (.cond (.t 362)
 .skip
 (.exit 2)))
 (.seq
 (.block 3
 (.seq
 (.drw [[], [], [0, 1], [2], [3], [4], [], [6], [7], [5, 8], [9, 0, 1, 2, 3, 4, 5, 6, 7, 8]] [
 O1 (.mv 365 (.t 13)), O1 (.mv 366 (.t 15)), O1 (.iaddr 367 4 (.t 365) (.t 366)), O1 (.faddr 368 (.t 367) 0 0), O1 (.load 369 true 2 (.t 368)), O1 (.bsl 370 41 2 (.agg [(.str []), (.str [])]) 1 [(0, (.t 369))]), O1 (.faddr 371 (.t 3) 10 10), O1 (.faddr 372 (.t 371) 0 0), O1 (.load 373 true 2 (.t 372)), .call none (some 374) 42 [(false, (.t 370)), (false, (.t 373))], O1 (.asg 16 (.t 374))])
 (.seq
 (.ops [
 O1 (.asg 17 (.c (.int .i64 0)))])
 (.block 4
 (.loop [18, 333, 338, 360, 365, 375, 376, 377, 378, 379, 380, 381, 382, 383, 384, 385, 386, 387, 388, 389, 390, 391, 392, 393, 394, 395, 396, 397, 398, 399, 400, 401, 402, 403, 404, 411]
 (.seq
 (.seq
 (.ops [
 O1 (.mv 375 (.t 17)), O1 (.mv 376 (.t 16)), O1 (.len 377 false (.t 376)), O1 (.bin 378 .lss (.t 375) (.t 377))])
 (.cond (.t 378)
 .skip
 (.exit 4)))
 (.seq
 (.block 5
 (.seq
 (.drw [[], [], [0, 1], [2], [], [], [4, 5], [6], [7], [], [], [9, 10], [11], [12], [3, 8, 13], [], [15, 14, 0, 1, 2, 3, 4, 5, 6, 7, 8, 9, 10, 11, 12, 13]] [
 O1 (.mv 381 (.t 16)), O1 (.mv 382 (.t 17)), O1 (.iaddr 383 2 (.t 381) (.t 382)), O1 (.load 384 true 2 (.t 383)), O1 (.mv 385 (.t 13)), O1 (.mv 386 (.t 15)), O1 (.iaddr 387 4 (.t 385) (.t 386)), O1 (.faddr 388 (.t 387) 1 2), O1 (.load 389 false 1 (.t 388)), O1 (.mv 390 (.t 13)), O1 (.mv 391 (.t 15)), O1 (.iaddr 392 4 (.t 390) (.t 391)), O1 (.faddr 393 (.t 392) 2 3), O1 (.load 394 false 1 (.t 393)), O1 (.build 395 [(.agg [(.str []), (.str [])]), (.bool false), (.bool false)] [(0, (.t 384)), (1, (.t 389)), (2, (.t 394))]), O1 (.alloc 18 (.one (.i (.agg [(.agg [(.str []), (.str [])]), (.bool false), (.bool false)])))), O1 (.store 4 (.t 18) (.t 395))])
 (.seq
 (.ops [
 O1 (.mv 396 (.t 14)), O1 (.load 397 true 4 (.t 18)),
 .peek none (some 398) 41 [(false, (.t 396)), (false, (.t 397))], O1 (.not 399 (.t 398))])
 (.cond (.t 399)
 (.ops [
 O1 (.mv 400 (.t 14)), O1 (.load 401 true 4 (.t 18)), O1 (.bsl 402 45 4 (.agg [(.agg [(.str []), (.str [])]), (.bool false), (.bool false)]) 1 [(0, (.t 401))]), O1 (.app 403 45 4 40 (.t 400) (.t 402)), O1 (.asg 14 (.t 403))])
 .skip))))
 (.ops [
 O1 (.mv 379 (.t 17)), O1 (.bin 380 .add (.t 379) (.c (.int .i64 1))), O1 (.asg 17 (.t 380))]))))))))
 (.ops [
 O1 (.mv 363 (.t 15)), O1 (.bin 364 .add (.t 363) (.c (.int .i64 1))), O1 (.asg 15 (.t 364))]))))))
 (.seq
 (.seq
 (.ops [
 O1 (.mv 404 (.t 14)), O1 (.len 405 false (.t 404)), O1 (.bin 406 .gtr (.t 405) (.c (.int .i64 8)))])
 (.cond (.t 406)
 (.seq
 (.ops [
 O1 (.load 407 true 4 (.t 2)), O1 (.store 4 (.t 4) (.t 407)), O1 (.asg 5 (.c (.int .i64 17)))])
 .ret)
 .skip))
 (.seq
 (.ops [
 O1 (.faddr 408 (.t 6) 3 3), O1 (.load 409 false 1 (.t 408)), O1 (.mv 410 (.t 9)), O1 (.mv 411 (.t 14)), O1 (.iaddr 412 3 (.t 409) (.t 410)), O1 (.faddr 413 (.t 412) 2 2), O1 (.store 1 (.t 413) (.t 411))])
 (.seq
 (.ops [
 O1 (.load 414 true 4 (.t 6)), O1 (.store 4 (.t 4) (.t 414)), O1 (.asg 5 (.c (.int .i64 0)))])
 .ret))))))))))))))))))))))
def rets_exchequerref15_Do' : List Ret := [.cell 4 true 4, .t 5]
theorem ofd_exchequerref15_Do' {args : List SV} {Post : SV → List SV → Prop} (h : wqFD Try.prog 415 ir_exchequerref15_Do' rets_exchequerref15_Do' args Post) (hn : args.length ≤ 415) : Fn Try.prog 17 args Post :=
 Fn.of_bodyD Try.func17 rfl Try.ntmps17 (by kernel_rfl) (by kernel_rfl) hn h
end Go.Ab
