/- One text of the proof whose last text says what is proved. -/
import Derived.Test.YtoombangidlpjaaProg
import Derived.KernelRfl
import Derived.Test.YtoombangidlpjaaAb19d
set_option linter.unusedVariables false
set_option linter.unusedSimpArgs false
set_option maxRecDepth 100000
namespace Go.Ab
open Go.Proofs
abbrev O1 (i : IOp) : Ao := .op none i
abbrev T_int64 : TypeId := 2
abbrev T_int : TypeId := 3
abbrev T_bool : TypeId := 4
abbrev T_uint8 : TypeId := 5
abbrev T_abi_BoundsErrorCode : TypeId := 6
abbrev T_runtime_boundsError : TypeId := 8
abbrev T_string : TypeId := 9
abbrev T_runtime_errorString : TypeId := 10
abbrev T_runtime_plainError : TypeId := 11
abbrev T_uintptr : TypeId := 12
abbrev T_runtime_errorAddressString : TypeId := 14
abbrev T_runtime_TypeAssertionError : TypeId := 15
abbrev T_runtime_PanicNilError : TypeId := 16
abbrev T_abi_Type : TypeId := 17
abbrev T_maps_unhashableTypeError : TypeId := 19
abbrev T_int32 : TypeId := 21
abbrev T_L_api_Cmd : TypeId := 22
abbrev T_L_api_Span : TypeId := 23
abbrev T_exchequerlaw16_Ask : TypeId := 25
abbrev T_L_api_Tenant : TypeId := 27
abbrev T_L_api_User : TypeId := 28
abbrev T_L_api_Role : TypeId := 29
abbrev T_api_Roll : TypeId := 31
abbrev T_L_bool : TypeId := 34
abbrev T_api_Span : TypeId := 41
abbrev T_api_Grant : TypeId := 45
abbrev T_L_api_Cmp : TypeId := 46
abbrev T_L_api_Do : TypeId := 47
abbrev T_api_Cmd : TypeId := 49
abbrev T_L_api_Grant : TypeId := 54
abbrev T_api_Role : TypeId := 56
abbrev T_L_string : TypeId := 57
abbrev T_api_User : TypeId := 59
abbrev T_L_L_api_Span : TypeId := 61
abbrev T_api_Tenant : TypeId := 75
abbrev T_uint : TypeId := 104
abbrev T_L_uint8 : TypeId := 109
abbrev T_uint64 : TypeId := 111
abbrev T_uint32 : TypeId := 112
abbrev T_L_uint32 : TypeId := 113
abbrev T_slices_sortedHint : TypeId := 117
abbrev T_slices_xorshift : TypeId := 126
abbrev T_0_runtime_PanicNilError : TypeId := 138
abbrev T_abi_TFlag : TypeId := 142
abbrev T_abi_Kind : TypeId := 143
abbrev T_abi_NameOff : TypeId := 146
abbrev T_abi_TypeOff : TypeId := 147
abbrev T_api_Cmp : TypeId := 151
abbrev T_api_Do : TypeId := 153
abbrev T_unsafe_Pointer : TypeId := 154
abbrev F_exchequerref15_Do : FuncId := 17
/-- exchequer/exchequerlaw16.AllowMays · parameters [[]api.Cmd, exchequerlaw16.Ask] -/
abbrev F_exchequerlaw16_AllowMays : FuncId := 3
def ir_exchequerlaw16_AllowMays : Stm :=
 (.seq
 (.ops [
 O1 (.box 3 (.t 1)), O1 (.asg 4 (.c (.bool false)))])
 (.seq
 (.seq
 (.ops [ .call none (some 9) 7 [], O1 (.not 10 (.t 9))])
 (.cond (.t 10)
 (.seq
 (.ops [
 O1 (.asg 4 (.c (.bool false)))])
 .ret)
 .skip))
 (.seq
 (.ops [
 O1 (.mv 12 (.t 0)), .call none (some 13) 8 [(false, (.t 12))], O1 (.asg 11 (.t 13)), O1 (.ext 14 (.t 11) 0), O1 (.ext 15 (.t 11) 1), O1 (.alloc 5 (.one (.i (.agg [(.int .i64 0), (.list []), (.list []), (.list [])])))), O1 (.store 4 (.t 5) (.t 14)), O1 (.asg 6 (.t 15))])
 (.seq
 (.seq
 (.ops [
 O1 (.mv 16 (.t 6)), O1 (.not 17 (.t 16)), O1 (.mv 18 (.t 17)), .op (some (18, false)) (.load 19 true 3 (.t 3)), .call (some (18, false)) (some 20) 9 [(false, (.t 19))], O1 (.pick 21 (.t 18) (.c (.bool true)) (.t 20))])
 (.cond (.t 21)
 (.seq
 (.ops [
 O1 (.asg 4 (.c (.bool true)))])
 .ret)
 .skip))
 (.seq
 (.seq
 (.ops [
 O1 (.bsl 22 4 1 (.bool false) 2 [(0, (.c (.bool false))), (1, (.c (.bool true)))]), O1 (.len 23 false (.t 22)), O1 (.mv 24 (.c (.int .i64 0)))])
 (.block 0
 (.loop [4, 8, 12, 25, 26, 27, 28, 29, 30, 31, 32, 33, 34, 35, 36, 37, 38, 39, 40, 41]
 (.seq
 (.ops [
 O1 (.bin 25 .lss (.t 24) (.t 23))])
 (.seq
 (.cond (.t 25)
 .skip
 (.exit 0))
 (.seq
 (.block 1
 (.seq
 (.ops [
 O1 (.iaddr 26 1 (.t 22) (.t 24)), O1 (.load 27 false 1 (.t 26)), O1 (.asg 8 (.t 27))])
 (.seq
 (.drw [[], [], [1], [], [0, 2, 3], [], [], [6], [], [5, 7, 8, 4], [9], [4, 10], [11]] [
 O1 (.load 28 true 4 (.t 5)), O1 (.faddr 29 (.t 3) 0 0), O1 (.load 30 false 1 (.t 29)), O1 (.mv 31 (.t 8)), .call none (some 32) 11 [(false, (.t 28)), (false, (.t 30)), (false, (.t 31))], O1 (.load 33 true 4 (.t 5)), O1 (.faddr 34 (.t 3) 0 0), O1 (.load 35 false 1 (.t 34)), O1 (.mv 36 (.t 8)), .call none (some 37) 13 [(false, (.t 33)), (false, (.t 35)), (false, (.t 36))], .call none (some 38) 12 [(false, (.t 37))], .call none (some 39) 10 [(false, (.t 32)), (false, (.t 38))], O1 (.not 40 (.t 39))])
 (.cond (.t 40)
 (.seq
 (.ops [
 O1 (.asg 4 (.c (.bool false)))])
 .ret)
 .skip))))
 (.ops [
 O1 (.bin 41 .add (.t 24) (.c (.int .i64 1))), O1 (.mv 24 (.t 41))])))))))
 (.seq
 (.drw [[], [], [1], [], [3], [], [5], [0, 2, 4, 6], [], [], [9], [], [11], [], [13], [8, 10, 12, 14, 7], [7, 15], [16, 15, 0, 1, 2, 3, 4, 5, 6, 7, 8, 9, 10, 11, 12, 13, 14]] [
 O1 (.load 42 true 4 (.t 5)), O1 (.faddr 43 (.t 3) 0 0), O1 (.load 44 false 1 (.t 43)), O1 (.faddr 45 (.t 3) 1 1), O1 (.load 46 false 1 (.t 45)), O1 (.faddr 47 (.t 3) 2 2), O1 (.load 48 false 1 (.t 47)), .call none (some 49) 14 [(false, (.t 42)), (false, (.t 44)), (false, (.t 46)), (false, (.t 48))], O1 (.load 50 true 4 (.t 5)), O1 (.faddr 51 (.t 3) 0 0), O1 (.load 52 false 1 (.t 51)), O1 (.faddr 53 (.t 3) 1 1), O1 (.load 54 false 1 (.t 53)), O1 (.faddr 55 (.t 3) 2 2), O1 (.load 56 false 1 (.t 55)), .call none (some 57) 15 [(false, (.t 50)), (false, (.t 52)), (false, (.t 54)), (false, (.t 56))], O1 (.eqs 58 false .bool (.t 49) (.t 57)), O1 (.asg 4 (.t 58))])
 .ret))))))
def rets_exchequerlaw16_AllowMays : List Ret := [.t 4]
/-- exchequer/exchequerlaw16.awake · parameters [] -/
abbrev F_exchequerlaw16_awake : FuncId := 7
def ir_exchequerlaw16_awake : Stm :=
 (.seq
 (.ops [
 O1 (.asg 0 (.c (.bool false)))])
 (.seq
 (.ops [ .call none (some 5) 20 [], O1 (.alloc 1 (.one (.i (.agg [(.int .i64 0), (.list []), (.list []), (.list [])])))), O1 (.store 4 (.t 1) (.t 5))])
 (.seq
 (.seq
 (.ops [
 O1 (.build 6 [(.str []), (.str [])] [(0, (.c (.str [97]))), (1, (.c (.str [99])))]), O1 (.build 7 [(.agg [(.str []), (.str [])]), (.bool false), (.bool false)] [(0, (.t 6)), (1, (.c (.bool true)))]), O1 (.build 8 [(.str []), (.str [])] [(0, (.c (.str [99]))), (1, (.c (.str [102])))]), O1 (.build 9 [(.agg [(.str []), (.str [])]), (.bool false), (.bool false)] [(0, (.t 8)), (1, (.c (.bool true)))]), O1 (.bsl 10 45 4 (.agg [(.agg [(.str []), (.str [])]), (.bool false), (.bool false)]) 2 [(0, (.t 7)), (1, (.t 9))]), O1 (.len 11 false (.t 10)), O1 (.mv 12 (.c (.int .i64 0)))])
 (.block 0
 (.loop [3, 13, 14, 15, 16, 17, 18, 19, 20, 21, 22, 23, 27, 31]
 (.seq
 (.ops [
 O1 (.bin 13 .lss (.t 12) (.t 11))])
 (.seq
 (.cond (.t 13)
 .skip
 (.exit 0))
 (.seq
 (.block 1
 (.seq
 (.ops [
 O1 (.iaddr 14 4 (.t 10) (.t 12)), O1 (.load 15 true 4 (.t 14)), O1 (.alloc 3 (.one (.i (.agg [(.agg [(.str []), (.str [])]), (.bool false), (.bool false)])))), O1 (.store 4 (.t 3) (.t 15))])
 (.ops [
 O1 (.load 17 true 4 (.t 1)), O1 (.load 18 true 4 (.t 3)), O1 (.build 19 [(.int .i64 0), (.int .i64 0), (.str []), (.int .i64 0), (.str []), (.str []), (.str []), (.str []), (.int .i64 0), (.int .i64 0), (.agg [(.agg [(.str []), (.str [])]), (.bool false), (.bool false)]), (.int .i64 0), (.list []), (.list []), (.list [])] [(3, (.c (.int .i64 11))), (4, (.c (.str [114, 97]))), (10, (.t 18))]), .call none (some 20) 17 [(false, (.t 17)), (false, (.t 19))], O1 (.asg 16 (.t 20)), O1 (.ext 21 (.t 16) 0), O1 (.ext 22 (.t 16) 1), O1 (.store 4 (.t 1) (.t 21))])))
 (.ops [
 O1 (.bin 23 .add (.t 12) (.c (.int .i64 1))), O1 (.mv 12 (.t 23))])))))))
 (.seq
 (.ops [
 O1 (.build 24 [(.str []), (.str [])] [(0, (.c (.str [98]))), (1, (.c (.str [101])))]), O1 (.bsl 25 41 2 (.agg [(.str []), (.str [])]) 1 [(0, (.t 24))]), O1 (.asg 4 (.t 25))])
 (.seq
 (.ops [
 O1 (.load 26 true 4 (.t 1)), O1 (.mv 27 (.t 4)), .call none (some 28) 14 [(false, (.t 26)), (false, (.c (.str [117, 97]))), (false, (.t 27)), (false, (.nils 41 2))], O1 (.mv 29 (.t 28)), .op (some (29, true)) (.load 30 true 4 (.t 1)), .op (some (29, true)) (.mv 31 (.t 4)), .call (some (29, true)) (some 32) 14 [(false, (.t 30)), (false, (.c (.str [117, 97]))), (false, (.nils 41 2)), (false, (.t 31))], .op (some (29, true)) (.not 33 (.t 32)), O1 (.pick 34 (.t 29) (.t 33) (.c (.bool false))), O1 (.mv 35 (.t 34)), .op (some (35, true)) (.load 36 true 4 (.t 1)), .call (some (35, true)) (some 37) 11 [(false, (.t 36)), (false, (.c (.str [117, 97]))), (false, (.c (.bool false)))], .op (some (35, true)) (.len 38 false (.t 37)), .op (some (35, true)) (.bin 39 .eql (.t 38) (.c (.int .i64 1))), O1 (.pick 40 (.t 35) (.t 39) (.c (.bool false))), O1 (.asg 0 (.t 40))])
 .ret)))))
def rets_exchequerlaw16_awake : List Ret := [.t 0]
theorem of_exchequerlaw16_awake {args : List SV} {Post : SV → List SV → Prop} (h : wqF Try.prog 41 ir_exchequerlaw16_awake rets_exchequerlaw16_awake args Post) (hn : args.length ≤ 41) : Fn Try.prog 7 args Post :=
 Fn.of_body' Try.func7 rfl Try.ntmps7 (by kernel_rfl) (by kernel_rfl) hn (wqF_wp h)
/-- exchequer/exchequerlaw16.behind · parameters [[]api.Cmd] -/
abbrev F_exchequerlaw16_behind : FuncId := 8
def ir_exchequerlaw16_behind : Stm :=
 (.seq
 (.ops [
 O1 (.alloc 2 (.one (.i (.agg [(.int .i64 0), (.list []), (.list []), (.list [])])))), O1 (.asg 3 (.c (.bool false)))])
 (.seq
 (.ops [ .call none (some 7) 20 [], O1 (.alloc 4 (.one (.i (.agg [(.int .i64 0), (.list []), (.list []), (.list [])])))), O1 (.store 4 (.t 4) (.t 7))])
 (.seq
 (.seq
 (.ops [
 O1 (.mv 8 (.t 0)), O1 (.len 9 false (.t 8)), O1 (.bin 10 .gtr (.t 9) (.c (.int .i64 80)))])
 (.cond (.t 10)
 (.seq
 (.ops [
 O1 (.load 11 true 4 (.t 4)), O1 (.store 4 (.t 2) (.t 11)), O1 (.asg 3 (.c (.bool false)))])
 .ret)
 .skip))
 (.seq
 (.seq
 (.ops [
 O1 (.mv 12 (.t 0)), O1 (.len 13 false (.t 12)), O1 (.mv 14 (.c (.int .i64 0)))])
 (.block 0
 (.loop [3, 6, 8, 15, 16, 17, 18, 19, 20, 21, 22, 23, 24, 25, 26, 27, 28, 29, 30, 31, 32, 33, 34, 35, 36, 37, 38, 39, 40, 41, 42, 43, 44, 45, 46, 47, 48, 49, 50, 51, 52, 53, 54, 55, 56, 57, 58, 59, 60, 61, 62, 63]
 (.seq
 (.ops [
 O1 (.bin 15 .lss (.t 14) (.t 13))])
 (.seq
 (.cond (.t 15)
 .skip
 (.exit 0))
 (.seq
 (.block 1
 (.seq
 (.ops [
 O1 (.iaddr 16 18 (.t 12) (.t 14)), O1 (.load 17 true 18 (.t 16)), O1 (.alloc 6 (.one (.i (.agg [(.int .i64 0), (.int .i64 0), (.str []), (.int .i64 0), (.str []), (.str []), (.str []), (.str []), (.int .i64 0), (.int .i64 0), (.agg [(.agg [(.str []), (.str [])]), (.bool false), (.bool false)]), (.int .i64 0), (.list []), (.list []), (.list [])])))), O1 (.store 18 (.t 6) (.t 17))])
 (.seq
 (.seq
 (.ops [
 O1 (.faddr 18 (.t 6) 4 4), O1 (.load 19 false 1 (.t 18)), O1 (.len 20 true (.t 19)), O1 (.bin 21 .gtr (.t 20) (.c (.int .i64 1000))), O1 (.mv 22 (.t 21)), .op (some (22, false)) (.faddr 23 (.t 6) 5 5), .op (some (22, false)) (.load 24 false 1 (.t 23)), .op (some (22, false)) (.len 25 true (.t 24)), .op (some (22, false)) (.bin 26 .gtr (.t 25) (.c (.int .i64 1000))), O1 (.pick 27 (.t 22) (.c (.bool true)) (.t 26)), O1 (.mv 28 (.t 27)), .op (some (28, false)) (.faddr 29 (.t 6) 6 6), .op (some (28, false)) (.load 30 false 1 (.t 29)), .op (some (28, false)) (.len 31 true (.t 30)), .op (some (28, false)) (.bin 32 .gtr (.t 31) (.c (.int .i64 1000))), O1 (.pick 33 (.t 28) (.c (.bool true)) (.t 32)), O1 (.mv 34 (.t 33)), .op (some (34, false)) (.faddr 35 (.t 6) 7 7), .op (some (34, false)) (.load 36 false 1 (.t 35)), .op (some (34, false)) (.len 37 true (.t 36)), .op (some (34, false)) (.bin 38 .gtr (.t 37) (.c (.int .i64 1000))), O1 (.pick 39 (.t 34) (.c (.bool true)) (.t 38)), O1 (.mv 40 (.t 39)), .op (some (40, false)) (.faddr 41 (.t 6) 10 10), .op (some (40, false)) (.faddr 42 (.t 41) 0 0), .op (some (40, false)) (.faddr 43 (.t 42) 0 0), .op (some (40, false)) (.load 44 false 1 (.t 43)), .op (some (40, false)) (.len 45 true (.t 44)), .op (some (40, false)) (.bin 46 .gtr (.t 45) (.c (.int .i64 1000))), O1 (.pick 47 (.t 40) (.c (.bool true)) (.t 46)), O1 (.mv 48 (.t 47)), .op (some (48, false)) (.faddr 49 (.t 6) 10 10), .op (some (48, false)) (.faddr 50 (.t 49) 0 0), .op (some (48, false)) (.faddr 51 (.t 50) 1 1), .op (some (48, false)) (.load 52 false 1 (.t 51)), .op (some (48, false)) (.len 53 true (.t 52)), .op (some (48, false)) (.bin 54 .gtr (.t 53) (.c (.int .i64 1000))), O1 (.pick 55 (.t 48) (.c (.bool true)) (.t 54))])
 (.cond (.t 55)
 (.seq
 (.ops [
 O1 (.load 56 true 4 (.t 4)), O1 (.store 4 (.t 2) (.t 56)), O1 (.asg 3 (.c (.bool false)))])
 .ret)
 .skip))
 (.ops [
 O1 (.load 58 true 4 (.t 4)), O1 (.load 59 true 18 (.t 6)), .call none (some 60) 17 [(false, (.t 58)), (false, (.t 59))], O1 (.asg 57 (.t 60)), O1 (.ext 61 (.t 57) 0), O1 (.ext 62 (.t 57) 1), O1 (.store 4 (.t 4) (.t 61))]))))
 (.ops [
 O1 (.bin 63 .add (.t 14) (.c (.int .i64 1))), O1 (.mv 14 (.t 63))])))))))
 (.seq
 (.ops [
 O1 (.load 64 true 4 (.t 4)), O1 (.store 4 (.t 2) (.t 64)), O1 (.asg 3 (.c (.bool true)))])
 .ret)))))
def rets_exchequerlaw16_behind : List Ret := [.cell 2 true 4, .t 3]
theorem of_exchequerlaw16_behind {args : List SV} {Post : SV → List SV → Prop} (h : wqF Try.prog 65 ir_exchequerlaw16_behind rets_exchequerlaw16_behind args Post) (hn : args.length ≤ 65) : Fn Try.prog 8 args Post :=
 Fn.of_body' Try.func8 rfl Try.ntmps8 (by kernel_rfl) (by kernel_rfl) hn (wqF_wp h)
/-- (exchequer/exchequerlaw16.Ask).great · parameters [exchequerlaw16.Ask] -/
abbrev F_exchequerlaw16_Ask_great : FuncId := 9
def ir_exchequerlaw16_Ask_great : Stm :=
 (.seq
 (.ops [
 O1 (.box 1 (.t 0)), O1 (.asg 2 (.c (.bool false)))])
 (.seq
 (.seq
 (.ops [
 O1 (.faddr 7 (.t 1) 0 0), O1 (.load 8 false 1 (.t 7)), O1 (.len 9 true (.t 8)), O1 (.bin 10 .gtr (.t 9) (.c (.int .i64 1000))), O1 (.mv 11 (.t 10)), .op (some (11, false)) (.faddr 12 (.t 1) 1 1), .op (some (11, false)) (.load 13 false 1 (.t 12)), .op (some (11, false)) (.len 14 false (.t 13)), .op (some (11, false)) (.bin 15 .gtr (.t 14) (.c (.int .i64 20))), O1 (.pick 16 (.t 11) (.c (.bool true)) (.t 15)), O1 (.mv 17 (.t 16)), .op (some (17, false)) (.faddr 18 (.t 1) 2 2), .op (some (17, false)) (.load 19 false 1 (.t 18)), .op (some (17, false)) (.len 20 false (.t 19)), .op (some (17, false)) (.bin 21 .gtr (.t 20) (.c (.int .i64 20))), O1 (.pick 22 (.t 17) (.c (.bool true)) (.t 21))])
 (.cond (.t 22)
 (.seq
 (.ops [
 O1 (.asg 2 (.c (.bool true)))])
 .ret)
 .skip))
 (.seq
 (.seq
 (.ops [
 O1 (.faddr 23 (.t 1) 1 1), O1 (.load 24 false 1 (.t 23)), O1 (.faddr 25 (.t 1) 2 2), O1 (.load 26 false 1 (.t 25)), O1 (.bsl 27 23 1 (.list []) 2 [(0, (.t 24)), (1, (.t 26))]), O1 (.len 28 false (.t 27)), O1 (.mv 29 (.c (.int .i64 0)))])
 (.block 0
 (.loop [2, 4, 6, 30, 31, 32, 33, 34, 35, 36, 37, 38, 39, 40, 41, 42, 43, 44, 45, 46, 47, 48, 49, 50]
 (.seq
 (.ops [
 O1 (.bin 30 .lss (.t 29) (.t 28))])
 (.seq
 (.cond (.t 30)
 .skip
 (.exit 0))
 (.seq
 (.block 1
 (.seq
 (.ops [
 O1 (.iaddr 31 1 (.t 27) (.t 29)), O1 (.load 32 false 1 (.t 31)), O1 (.asg 4 (.t 32))])
 (.seq
 (.ops [
 O1 (.mv 33 (.t 4)), O1 (.len 34 false (.t 33)), O1 (.mv 35 (.c (.int .i64 0)))])
 (.block 2
 (.loop [2, 6, 36, 37, 38, 39, 40, 41, 42, 43, 44, 45, 46, 47, 48, 49]
 (.seq
 (.ops [
 O1 (.bin 36 .lss (.t 35) (.t 34))])
 (.seq
 (.cond (.t 36)
 .skip
 (.exit 2))
 (.seq
 (.block 3
 (.seq
 (.ops [
 O1 (.iaddr 37 2 (.t 33) (.t 35)), O1 (.load 38 true 2 (.t 37)), O1 (.alloc 6 (.one (.i (.agg [(.str []), (.str [])])))), O1 (.store 2 (.t 6) (.t 38))])
 (.seq
 (.ops [
 O1 (.faddr 39 (.t 6) 0 0), O1 (.load 40 false 1 (.t 39)), O1 (.len 41 true (.t 40)), O1 (.bin 42 .gtr (.t 41) (.c (.int .i64 1000))), O1 (.mv 43 (.t 42)), .op (some (43, false)) (.faddr 44 (.t 6) 1 1), .op (some (43, false)) (.load 45 false 1 (.t 44)), .op (some (43, false)) (.len 46 true (.t 45)), .op (some (43, false)) (.bin 47 .gtr (.t 46) (.c (.int .i64 1000))), O1 (.pick 48 (.t 43) (.c (.bool true)) (.t 47))])
 (.cond (.t 48)
 (.seq
 (.ops [
 O1 (.asg 2 (.c (.bool true)))])
 .ret)
 .skip))))
 (.ops [
 O1 (.bin 49 .add (.t 35) (.c (.int .i64 1))), O1 (.mv 35 (.t 49))])))))))))
 (.ops [
 O1 (.bin 50 .add (.t 29) (.c (.int .i64 1))), O1 (.mv 29 (.t 50))])))))))
 (.seq
 (.ops [
 O1 (.asg 2 (.c (.bool false)))])
 .ret))))
def rets_exchequerlaw16_Ask_great : List Ret := [.t 2]
theorem of_exchequerlaw16_Ask_great {args : List SV} {Post : SV → List SV → Prop} (h : wqF Try.prog 51 ir_exchequerlaw16_Ask_great rets_exchequerlaw16_Ask_great args Post) (hn : args.length ≤ 51) : Fn Try.prog 9 args Post :=
 Fn.of_body' Try.func9 rfl Try.ntmps9 (by kernel_rfl) (by kernel_rfl) hn (wqF_wp h)
/-- exchequer/exchequerref05.Same · parameters [[]api.Span, []api.Span] -/
abbrev F_exchequerref05_Same : FuncId := 10
def ir_exchequerref05_Same : Stm :=
 (.seq
 (.ops [
 O1 (.asg 4 (.c (.bool false)))])
 (.seq
 (.seq
 (.ops [
 O1 (.mv 6 (.t 0)), O1 (.len 7 false (.t 6)), O1 (.mv 8 (.t 1)), O1 (.len 9 false (.t 8)), O1 (.bin 10 .neq (.t 7) (.t 9))])
 (.cond (.t 10)
 (.seq
 (.ops [
 O1 (.asg 4 (.c (.bool false)))])
 .ret)
 .skip))
 (.seq
 (.seq
 (.ops [
 O1 (.asg 5 (.c (.int .i64 0)))])
 (.block 0
 (.loop [4, 6, 8, 11, 12, 13, 14, 15, 16, 17, 18, 19, 20, 21, 22, 23, 24, 25]
 (.seq
 (.seq
 (.ops [
 O1 (.mv 11 (.t 5)), O1 (.mv 12 (.t 0)), O1 (.len 13 false (.t 12)), O1 (.bin 14 .lss (.t 11) (.t 13))])
 (.cond (.t 14)
 .skip
 (.exit 0)))
 (.seq
 (.block 1
 (.seq
 (.drw [[], [], [0, 1], [2], [], [], [4, 5], [6], [3, 7]] [
 O1 (.mv 17 (.t 0)), O1 (.mv 18 (.t 5)), O1 (.iaddr 19 2 (.t 17) (.t 18)), O1 (.load 20 true 2 (.t 19)), O1 (.mv 21 (.t 1)), O1 (.mv 22 (.t 5)), O1 (.iaddr 23 2 (.t 21) (.t 22)), O1 (.load 24 true 2 (.t 23)), O1 (.eqs 25 true (.st [.str, .str]) (.t 20) (.t 24))])
 (.cond (.t 25)
 (.seq
 (.ops [
 O1 (.asg 4 (.c (.bool false)))])
 .ret)
 .skip)))
 (.ops [
 O1 (.mv 15 (.t 5)), O1 (.bin 16 .add (.t 15) (.c (.int .i64 1))), O1 (.asg 5 (.t 16))]))))))
 (.seq
 (.ops [
 O1 (.asg 4 (.c (.bool true)))])
 .ret))))
def rets_exchequerref05_Same : List Ret := [.t 4]
theorem of_exchequerref05_Same {args : List SV} {Post : SV → List SV → Prop} (h : wqF Try.prog 26 ir_exchequerref05_Same rets_exchequerref05_Same args Post) (hn : args.length ≤ 26) : Fn Try.prog 10 args Post :=
 Fn.of_body' Try.func10 rfl Try.ntmps10 (by kernel_rfl) (by kernel_rfl) hn (wqF_wp h)
/-- exchequer/allow.Spans · parameters [api.Roll, string, bool] -/
abbrev F_allow_Spans : FuncId := 11
def ir_allow_Spans : Stm :=
 (.seq
 (.ops [
 O1 (.box 3 (.t 0)), O1 (.asg 6 (.nils 41 2))])
 (.seq
 (.ops [
 O1 (.load 17 true 4 (.t 3)), O1 (.mv 18 (.t 1)), .call none (some 19) 21 [(false, (.t 17)), (false, (.t 18))], O1 (.asg 16 (.t 19)), O1 (.ext 20 (.t 16) 0), O1 (.ext 21 (.t 16) 1), O1 (.alloc 7 (.one (.i (.agg [(.str []), (.str []), (.str []), (.str []), (.list [])])))), O1 (.store 5 (.t 7) (.t 20)), O1 (.asg 8 (.t 21))])
 (.seq
 (.ops [
 O1 (.asg 9 (.nils 41 2))])
 (.seq
 (.seq
 (.ops [
 O1 (.faddr 22 (.t 7) 4 4), O1 (.load 23 false 1 (.t 22)), O1 (.len 24 false (.t 23)), O1 (.mv 25 (.c (.int .i64 0)))])
 (.block 0
 (.loop [11, 12, 13, 15, 26, 27, 28, 29, 30, 31, 32, 33, 34, 35, 36, 37, 38, 39, 40, 41, 42, 43, 44, 45, 46, 47, 48, 49, 50, 51, 52, 53, 54, 55, 56, 57, 58, 59, 60, 61, 62]
 (.seq
 (.ops [
 O1 (.bin 26 .lss (.t 25) (.t 24))])
 (.seq
 (.cond (.t 26)
 .skip
 (.exit 0))
 (.seq
 (.block 1
 (.seq
 (.ops [
 O1 (.iaddr 27 1 (.t 23) (.t 25)), O1 (.load 28 false 1 (.t 27)), O1 (.asg 11 (.t 28))])
 (.seq
 (.ops [
 O1 (.load 30 true 4 (.t 3)), O1 (.mv 31 (.t 11)), .call none (some 32) 22 [(false, (.t 30)), (false, (.t 31))], O1 (.asg 29 (.t 32)), O1 (.ext 33 (.t 29) 0), O1 (.ext 34 (.t 29) 1), O1 (.alloc 12 (.one (.i (.agg [(.str []), (.str []), (.list [])])))), O1 (.store 3 (.t 12) (.t 33)), O1 (.asg 13 (.t 34))])
 (.seq
 (.ops [
 O1 (.faddr 35 (.t 12) 2 2), O1 (.load 36 false 1 (.t 35)), O1 (.len 37 false (.t 36)), O1 (.mv 38 (.c (.int .i64 0)))])
 (.block 2
 (.loop [15, 39, 40, 41, 42, 43, 44, 45, 46, 47, 48, 49, 50, 51, 52, 53, 54, 55, 56, 57, 58, 59, 60, 62]
 (.seq
 (.ops [
 O1 (.bin 39 .lss (.t 38) (.t 37))])
 (.seq
 (.cond (.t 39)
 .skip
 (.exit 2))
 (.seq
 (.block 3
 (.seq
 (.ops [
 O1 (.iaddr 40 4 (.t 36) (.t 38)), O1 (.load 41 true 4 (.t 40)), O1 (.alloc 15 (.one (.i (.agg [(.agg [(.str []), (.str [])]), (.bool false), (.bool false)])))), O1 (.store 4 (.t 15) (.t 41))])
 (.seq
 (.ops [
 O1 (.mv 42 (.t 2)), O1 (.mv 43 (.t 42)), .op (some (43, true)) (.faddr 44 (.t 15) 2 3), .op (some (43, true)) (.load 45 false 1 (.t 44)), O1 (.pick 46 (.t 43) (.t 45) (.c (.bool false))), O1 (.mv 47 (.t 46)), .op (some (47, false)) (.mv 48 (.t 2)), .op (some (47, false)) (.not 49 (.t 48)), .op (some (47, false)) (.mv 50 (.t 49)), .op (some (50, true)) (.faddr 51 (.t 15) 1 2), .op (some (50, true)) (.load 52 false 1 (.t 51)), .op (some (47, false)) (.pick 53 (.t 50) (.t 52) (.c (.bool false))), O1 (.pick 54 (.t 47) (.c (.bool true)) (.t 53))])
 (.cond (.t 54)
 (.ops [
 O1 (.mv 55 (.t 9)), O1 (.faddr 56 (.t 15) 0 0), O1 (.load 57 true 2 (.t 56)), O1 (.bsl 58 41 2 (.agg [(.str []), (.str [])]) 1 [(0, (.t 57))]), O1 (.app 59 41 2 32 (.t 55) (.t 58)), O1 (.asg 9 (.t 59))])
 .skip))))
 (.ops [
 O1 (.bin 60 .add (.t 38) (.c (.int .i64 1))), O1 (.mv 38 (.t 60))]))))))))))
 (.ops [
 O1 (.bin 61 .add (.t 25) (.c (.int .i64 1))), O1 (.mv 25 (.t 61))])))))))
 (.seq
 (.ops [
 O1 (.mv 62 (.t 9)), .call none (some 63) 23 [(false, (.t 62))], O1 (.asg 6 (.t 63))])
 .ret)))))
def rets_allow_Spans : List Ret := [.t 6]
theorem of_allow_Spans {args : List SV} {Post : SV → List SV → Prop} (h : wqF Try.prog 64 ir_allow_Spans rets_allow_Spans args Post) (hn : args.length ≤ 64) : Fn Try.prog 11 args Post :=
 Fn.of_body' Try.func11 rfl Try.ntmps11 (by kernel_rfl) (by kernel_rfl) hn (wqF_wp h)
/-- exchequer/exchequerref05.Union · parameters [[]api.Span] -/
abbrev F_exchequerref05_Union : FuncId := 12
def ir_exchequerref05_Union : Stm :=
 (.seq
 (.ops [
 O1 (.asg 2 (.nils 41 2))])
 (.seq
 (.ops [
 O1 (.mv 6 (.t 0)), .call none (some 7) 24 [(false, (.t 6))], O1 (.asg 3 (.t 7))])
 (.seq
 (.ops [
 O1 (.empty 8 4 1), O1 (.asg 4 (.t 8))])
 (.seq
 (.seq
 (.ops [
 O1 (.asg 5 (.c (.int .i64 0)))])
 (.block 0
 (.loop [6, 9, 10, 11, 12, 13, 14, 15, 16, 17, 18, 19, 20, 21, 22, 23, 24, 25]
 (.seq
 (.seq
 (.ops [
 O1 (.mv 9 (.t 5)), O1 (.mv 10 (.t 3)), O1 (.len 11 false (.t 10)), O1 (.bin 12 .lss (.t 9) (.t 11))])
 (.cond (.t 12)
 .skip
 (.exit 0)))
 (.seq
 (.block 1
 (.ops [
 O1 (.mv 15 (.t 4)), O1 (.mv 16 (.t 0)), O1 (.mv 17 (.t 3)), O1 (.mv 18 (.t 5)), O1 (.iaddr 19 1 (.t 17) (.t 18)), O1 (.load 20 false 1 (.t 19)), .call none (some 21) 25 [(false, (.t 16)), (false, (.t 20))], O1 (.bsl 22 4 1 (.bool false) 1 [(0, (.t 21))]), O1 (.app 23 4 1 1 (.t 15) (.t 22)), O1 (.asg 4 (.t 23))]))
 (.ops [
 O1 (.mv 13 (.t 5)), O1 (.bin 14 .add (.t 13) (.c (.int .i64 1))), O1 (.asg 5 (.t 14))]))))))
 (.seq
 (.ops [
 O1 (.mv 24 (.t 3)), O1 (.mv 25 (.t 4)), .call none (some 26) 26 [(false, (.t 24)), (false, (.t 25))], O1 (.asg 2 (.t 26))])
 .ret)))))
def rets_exchequerref05_Union : List Ret := [.t 2]
theorem of_exchequerref05_Union {args : List SV} {Post : SV → List SV → Prop} (h : wqF Try.prog 27 ir_exchequerref05_Union rets_exchequerref05_Union args Post) (hn : args.length ≤ 27) : Fn Try.prog 12 args Post :=
 Fn.of_body' Try.func12 rfl Try.ntmps12 (by kernel_rfl) (by kernel_rfl) hn (wqF_wp h)
/-- exchequer/exchequerref16.All · parameters [api.Roll, string, bool] -/
abbrev F_exchequerref16_All : FuncId := 13
def ir_exchequerref16_All : Stm :=
 (.seq
 (.ops [
 O1 (.box 3 (.t 0)), O1 (.asg 6 (.nils 41 2))])
 (.seq
 (.ops [
 O1 (.empty 13 41 2), O1 (.asg 7 (.t 13))])
 (.seq
 (.ops [
 O1 (.load 14 true 4 (.t 3)), O1 (.mv 15 (.t 1)), .call none (some 16) 19 [(false, (.t 14)), (false, (.t 15))], O1 (.asg 8 (.t 16))])
 (.seq
 (.seq
 (.ops [
 O1 (.mv 17 (.t 8)), O1 (.bin 18 .lss (.t 17) (.c (.int .i64 0)))])
 (.cond (.t 18)
 (.seq
 (.ops [
 O1 (.mv 19 (.t 7)), O1 (.mov 6 41 2 (.t 19))])
 .ret)
 .skip))
 (.seq
 (.seq
 (.ops [
 O1 (.asg 9 (.c (.int .i64 0)))])
 (.block 0
 (.loop [10, 11, 12, 19, 20, 21, 22, 23, 24, 25, 26, 27, 28, 29, 30, 31, 32, 33, 34, 35, 36, 37, 38, 39, 40, 41, 42, 43, 44, 45, 46, 47, 48, 49, 50, 51, 52, 53, 54, 55, 56, 57, 58, 59, 60, 61, 62, 63, 64, 65, 66, 67, 68, 69, 70, 71, 72, 73, 74, 75, 76, 77, 78, 79, 80, 81, 82]
 (.seq
 (.seq
 (.ops [
 O1 (.mv 20 (.t 9)), O1 (.faddr 21 (.t 3) 2 2), O1 (.load 22 false 1 (.t 21)), O1 (.mv 23 (.t 8)), O1 (.iaddr 24 5 (.t 22) (.t 23)), O1 (.faddr 25 (.t 24) 4 4), O1 (.load 26 false 1 (.t 25)), O1 (.len 27 false (.t 26)), O1 (.bin 28 .lss (.t 20) (.t 27))])
 (.cond (.t 28)
 .skip
 (.exit 0)))
 (.seq
 (.block 1
 (.seq
 (.drw [[], [], [1], [], [2, 3], [4], [5], [], [6, 7], [8], [0, 9], [10, 0, 1, 2, 3, 4, 5, 6, 7, 8, 9]] [
 O1 (.load 31 true 4 (.t 3)), O1 (.faddr 32 (.t 3) 2 2), O1 (.load 33 false 1 (.t 32)), O1 (.mv 34 (.t 8)), O1 (.iaddr 35 5 (.t 33) (.t 34)), O1 (.faddr 36 (.t 35) 4 4), O1 (.load 37 false 1 (.t 36)), O1 (.mv 38 (.t 9)), O1 (.iaddr 39 1 (.t 37) (.t 38)), O1 (.load 40 false 1 (.t 39)), .call none (some 41) 18 [(false, (.t 31)), (false, (.t 40))], O1 (.asg 10 (.t 41))])
 (.seq
 (.seq
 (.ops [
 O1 (.mv 42 (.t 10)), O1 (.bin 43 .lss (.t 42) (.c (.int .i64 0)))])
 (.cond (.t 43)
 (.exit 1)
 .skip))
 (.seq
 (.ops [
 O1 (.asg 11 (.c (.int .i64 0)))])
 (.block 2
 (.loop [12, 19, 44, 45, 46, 47, 48, 49, 50, 51, 52, 53, 54, 55, 56, 57, 58, 59, 60, 61, 62, 63, 64, 65, 66, 67, 68, 69, 70, 71, 72, 73, 74, 75, 76, 77, 78, 79, 80, 81, 82]
 (.seq
 (.seq
 (.ops [
 O1 (.mv 44 (.t 11)), O1 (.faddr 45 (.t 3) 3 3), O1 (.load 46 false 1 (.t 45)), O1 (.mv 47 (.t 10)), O1 (.iaddr 48 3 (.t 46) (.t 47)), O1 (.faddr 49 (.t 48) 2 2), O1 (.load 50 false 1 (.t 49)), O1 (.len 51 false (.t 50)), O1 (.bin 52 .lss (.t 44) (.t 51))])
 (.cond (.t 52)
 .skip
 (.exit 2)))
 (.seq
 (.block 3
 (.seq
 (.ops [
 O1 (.faddr 55 (.t 3) 3 3), O1 (.load 56 false 1 (.t 55)), O1 (.mv 57 (.t 10)), O1 (.iaddr 58 3 (.t 56) (.t 57)), O1 (.faddr 59 (.t 58) 2 2), O1 (.load 60 false 1 (.t 59)), O1 (.mv 61 (.t 11)), O1 (.iaddr 62 4 (.t 60) (.t 61)), O1 (.load 63 true 4 (.t 62)), O1 (.alloc 12 (.one (.i (.agg [(.agg [(.str []), (.str [])]), (.bool false), (.bool false)])))), O1 (.store 4 (.t 12) (.t 63))])
 (.seq
 (.ops [
 O1 (.mv 64 (.t 2)), O1 (.mv 65 (.t 64)), .op (some (65, true)) (.faddr 66 (.t 12) 2 3), .op (some (65, true)) (.load 67 false 1 (.t 66)), O1 (.pick 68 (.t 65) (.t 67) (.c (.bool false))), O1 (.mv 69 (.t 68)), .op (some (69, false)) (.mv 70 (.t 2)), .op (some (69, false)) (.not 71 (.t 70)), .op (some (69, false)) (.mv 72 (.t 71)), .op (some (72, true)) (.faddr 73 (.t 12) 1 2), .op (some (72, true)) (.load 74 false 1 (.t 73)), .op (some (69, false)) (.pick 75 (.t 72) (.t 74) (.c (.bool false))), O1 (.pick 76 (.t 69) (.c (.bool true)) (.t 75))])
 (.cond (.t 76)
 (.ops [
 O1 (.mv 77 (.t 7)), O1 (.faddr 78 (.t 12) 0 0), O1 (.load 79 true 2 (.t 78)), O1 (.bsl 80 41 2 (.agg [(.str []), (.str [])]) 1 [(0, (.t 79))]), O1 (.app 81 41 2 32 (.t 77) (.t 80)), O1 (.asg 7 (.t 81))])
 .skip))))
 (.ops [
 O1 (.mv 53 (.t 11)), O1 (.bin 54 .add (.t 53) (.c (.int .i64 1))), O1 (.asg 11 (.t 54))])))))))))
 (.ops [
 O1 (.mv 29 (.t 9)), O1 (.bin 30 .add (.t 29) (.c (.int .i64 1))), O1 (.asg 9 (.t 30))]))))))
 (.seq
 (.ops [
 O1 (.mv 82 (.t 7)), O1 (.mov 6 41 2 (.t 82))])
 .ret))))))
def rets_exchequerref16_All : List Ret := [.t 6]
theorem of_exchequerref16_All {args : List SV} {Post : SV → List SV → Prop} (h : wqF Try.prog 83 ir_exchequerref16_All rets_exchequerref16_All args Post) (hn : args.length ≤ 83) : Fn Try.prog 13 args Post :=
 Fn.of_body' Try.func13 rfl Try.ntmps13 (by kernel_rfl) (by kernel_rfl) hn (wqF_wp h)
/-- exchequer/allow.May · parameters [api.Roll, string, []api.Span, []api.Span] -/
abbrev F_allow_May : FuncId := 14
def ir_allow_May : Stm :=
 (.seq
 (.ops [
 O1 (.box 4 (.t 0)), O1 (.asg 8 (.c (.bool false)))])
 (.seq
 (.ops [
 O1 (.load 9 true 4 (.t 4)), O1 (.mv 10 (.t 1)), .call none (some 11) 11 [(false, (.t 9)), (false, (.t 10)), (false, (.c (.bool false)))], O1 (.mv 12 (.t 2)), .call none (some 13) 27 [(false, (.t 11)), (false, (.t 12))], O1 (.mv 14 (.t 13)), .op (some (14, true)) (.load 15 true 4 (.t 4)), .op (some (14, true)) (.mv 16 (.t 1)), .call (some (14, true)) (some 17) 11 [(false, (.t 15)), (false, (.t 16)), (false, (.c (.bool true)))], .op (some (14, true)) (.mv 18 (.t 3)), .call (some (14, true)) (some 19) 27 [(false, (.t 17)), (false, (.t 18))], O1 (.pick 20 (.t 14) (.t 19) (.c (.bool false))), O1 (.asg 8 (.t 20))])
 .ret))
def rets_allow_May : List Ret := [.t 8]
theorem of_allow_May {args : List SV} {Post : SV → List SV → Prop} (h : wqF Try.prog 21 ir_allow_May rets_allow_May args Post) (hn : args.length ≤ 21) : Fn Try.prog 14 args Post :=
 Fn.of_body' Try.func14 rfl Try.ntmps14 (by kernel_rfl) (by kernel_rfl) hn (wqF_wp h)
/-- exchequer/exchequerref16.May · parameters [api.Roll, string, []api.Span, []api.Span] -/
abbrev F_exchequerref16_May : FuncId := 15
def ir_exchequerref16_May : Stm :=
 (.seq
 (.ops [
 O1 (.box 4 (.t 0)), O1 (.asg 8 (.c (.bool false)))])
 (.seq
 (.seq
 (.ops [
 O1 (.asg 9 (.c (.int .i64 0)))])
 (.block 0
 (.loop [8, 11, 12, 13, 14, 15, 16, 17, 18, 19, 20, 21, 22, 23, 24, 25, 27, 35]
 (.seq
 (.seq
 (.ops [
 O1 (.mv 11 (.t 9)), O1 (.mv 12 (.t 2)), O1 (.len 13 false (.t 12)), O1 (.bin 14 .lss (.t 11) (.t 13))])
 (.cond (.t 14)
 .skip
 (.exit 0)))
 (.seq
 (.block 1
 (.seq
 (.drw [[], [], [0, 1], [], [], [3, 4], [5], [2, 6], [7]] [
 O1 (.load 17 true 4 (.t 4)), O1 (.mv 18 (.t 1)), .call none (some 19) 13 [(false, (.t 17)), (false, (.t 18)), (false, (.c (.bool false)))], O1 (.mv 20 (.t 2)), O1 (.mv 21 (.t 9)), O1 (.iaddr 22 2 (.t 20) (.t 21)), O1 (.load 23 true 2 (.t 22)), .call none (some 24) 28 [(false, (.t 19)), (false, (.t 23))], O1 (.not 25 (.t 24))])
 (.cond (.t 25)
 (.seq
 (.ops [
 O1 (.asg 8 (.c (.bool false)))])
 .ret)
 .skip)))
 (.ops [
 O1 (.mv 15 (.t 9)), O1 (.bin 16 .add (.t 15) (.c (.int .i64 1))), O1 (.asg 9 (.t 16))]))))))
 (.seq
 (.seq
 (.ops [
 O1 (.asg 10 (.c (.int .i64 0)))])
 (.block 2
 (.loop [8, 12, 20, 26, 27, 28, 29, 30, 31, 32, 33, 34, 35, 36, 37, 38, 39, 40]
 (.seq
 (.seq
 (.ops [
 O1 (.mv 26 (.t 10)), O1 (.mv 27 (.t 3)), O1 (.len 28 false (.t 27)), O1 (.bin 29 .lss (.t 26) (.t 28))])
 (.cond (.t 29)
 .skip
 (.exit 2)))
 (.seq
 (.block 3
 (.seq
 (.drw [[], [], [0, 1], [], [], [3, 4], [5], [2, 6], [7]] [
 O1 (.load 32 true 4 (.t 4)), O1 (.mv 33 (.t 1)), .call none (some 34) 13 [(false, (.t 32)), (false, (.t 33)), (false, (.c (.bool true)))], O1 (.mv 35 (.t 3)), O1 (.mv 36 (.t 10)), O1 (.iaddr 37 2 (.t 35) (.t 36)), O1 (.load 38 true 2 (.t 37)), .call none (some 39) 28 [(false, (.t 34)), (false, (.t 38))], O1 (.not 40 (.t 39))])
 (.cond (.t 40)
 (.seq
 (.ops [
 O1 (.asg 8 (.c (.bool false)))])
 .ret)
 .skip)))
 (.ops [
 O1 (.mv 30 (.t 10)), O1 (.bin 31 .add (.t 30) (.c (.int .i64 1))), O1 (.asg 10 (.t 31))]))))))
 (.seq
 (.ops [
 O1 (.asg 8 (.c (.bool true)))])
 .ret))))
def rets_exchequerref16_May : List Ret := [.t 8]
theorem of_exchequerref16_May {args : List SV} {Post : SV → List SV → Prop} (h : wqF Try.prog 41 ir_exchequerref16_May rets_exchequerref16_May args Post) (hn : args.length ≤ 41) : Fn Try.prog 15 args Post :=
 Fn.of_body' Try.func15 rfl Try.ntmps15 (by kernel_rfl) (by kernel_rfl) hn (wqF_wp h)
/-- exchequer/exchequerref05.Has · parameters [api.Span, string] -/
abbrev F_exchequerref05_Has : FuncId := 16
def ir_exchequerref05_Has : Stm :=
 (.seq
 (.ops [
 O1 (.box 2 (.t 0)), O1 (.asg 4 (.c (.bool false)))])
 (.seq
 (.seq
 (.ops [
 O1 (.faddr 5 (.t 2) 1 1), O1 (.load 6 false 1 (.t 5)), O1 (.bin 7 .eql (.t 6) (.c (.str [])))])
 (.cond (.t 7)
 (.seq
 (.ops [
 O1 (.mv 8 (.t 1)), O1 (.faddr 9 (.t 2) 0 0), O1 (.load 10 false 1 (.t 9)), O1 (.bin 11 .geq (.t 8) (.t 10)), O1 (.asg 4 (.t 11))])
 .ret)
 .skip))
 (.seq
 (.ops [
 O1 (.mv 12 (.t 1)), O1 (.faddr 13 (.t 2) 0 0), O1 (.load 14 false 1 (.t 13)), O1 (.bin 15 .geq (.t 12) (.t 14)), O1 (.mv 16 (.t 15)), .op (some (16, true)) (.mv 17 (.t 1)), .op (some (16, true)) (.faddr 18 (.t 2) 1 1), .op (some (16, true)) (.load 19 false 1 (.t 18)), .op (some (16, true)) (.bin 20 .lss (.t 17) (.t 19)), O1 (.pick 21 (.t 16) (.t 20) (.c (.bool false))), O1 (.asg 4 (.t 21))])
 .ret)))
def rets_exchequerref05_Has : List Ret := [.t 4]
theorem of_exchequerref05_Has {args : List SV} {Post : SV → List SV → Prop} (h : wqF Try.prog 22 ir_exchequerref05_Has rets_exchequerref05_Has args Post) (hn : args.length ≤ 22) : Fn Try.prog 16 args Post :=
 Fn.of_body' Try.func16 rfl Try.ntmps16 (by kernel_rfl) (by kernel_rfl) hn (wqF_wp h)
/-- exchequer/exchequerref15.Role · parameters [api.Roll, string] -/
abbrev F_exchequerref15_Role : FuncId := 18
def ir_exchequerref15_Role : Stm :=
 (.seq
 (.ops [
 O1 (.box 2 (.t 0)), O1 (.asg 4 (.c (.int .i64 0)))])
 (.seq
 (.seq
 (.ops [
 O1 (.asg 5 (.c (.int .i64 0)))])
 (.block 0
 (.loop [4, 6, 7, 8, 9, 10, 11, 12, 13, 14, 15, 16, 17, 18, 19, 20, 21]
 (.seq
 (.seq
 (.ops [
 O1 (.mv 6 (.t 5)), O1 (.faddr 7 (.t 2) 3 3), O1 (.load 8 false 1 (.t 7)), O1 (.len 9 false (.t 8)), O1 (.bin 10 .lss (.t 6) (.t 9))])
 (.cond (.t 10)
 .skip
 (.exit 0)))
 (.seq
 (.block 1
 (.seq
 (.ops [
 O1 (.faddr 13 (.t 2) 3 3), O1 (.load 14 false 1 (.t 13)), O1 (.mv 15 (.t 5)), O1 (.iaddr 16 3 (.t 14) (.t 15)), O1 (.faddr 17 (.t 16) 0 0), O1 (.load 18 false 1 (.t 17)), O1 (.mv 19 (.t 1)), O1 (.bin 20 .eql (.t 18) (.t 19))])
 (.cond (.t 20)
 (.seq
 (.ops [
 O1 (.mv 21 (.t 5)), O1 (.asg 4 (.t 21))])
 .ret)
 .skip)))
 (.ops [
 O1 (.mv 11 (.t 5)), O1 (.bin 12 .add (.t 11) (.c (.int .i64 1))), O1 (.asg 5 (.t 12))]))))))
 (.seq
 (.ops [
 O1 (.asg 4 (.c (.int .i64 (-1))))])
 .ret)))
def rets_exchequerref15_Role : List Ret := [.t 4]
theorem of_exchequerref15_Role {args : List SV} {Post : SV → List SV → Prop} (h : wqF Try.prog 22 ir_exchequerref15_Role rets_exchequerref15_Role args Post) (hn : args.length ≤ 22) : Fn Try.prog 18 args Post :=
 Fn.of_body' Try.func18 rfl Try.ntmps18 (by kernel_rfl) (by kernel_rfl) hn (wqF_wp h)
/-- exchequer/exchequerref15.User · parameters [api.Roll, string] -/
abbrev F_exchequerref15_User : FuncId := 19
def ir_exchequerref15_User : Stm :=
 (.seq
 (.ops [
 O1 (.box 2 (.t 0)), O1 (.asg 4 (.c (.int .i64 0)))])
 (.seq
 (.seq
 (.ops [
 O1 (.asg 5 (.c (.int .i64 0)))])
 (.block 0
 (.loop [4, 6, 7, 8, 9, 10, 11, 12, 13, 14, 15, 16, 17, 18, 19, 20, 21]
 (.seq
 (.seq
 (.ops [
 O1 (.mv 6 (.t 5)), O1 (.faddr 7 (.t 2) 2 2), O1 (.load 8 false 1 (.t 7)), O1 (.len 9 false (.t 8)), O1 (.bin 10 .lss (.t 6) (.t 9))])
 (.cond (.t 10)
 .skip
 (.exit 0)))
 (.seq
 (.block 1
 (.seq
 (.ops [
 O1 (.faddr 13 (.t 2) 2 2), O1 (.load 14 false 1 (.t 13)), O1 (.mv 15 (.t 5)), O1 (.iaddr 16 5 (.t 14) (.t 15)), O1 (.faddr 17 (.t 16) 0 0), O1 (.load 18 false 1 (.t 17)), O1 (.mv 19 (.t 1)), O1 (.bin 20 .eql (.t 18) (.t 19))])
 (.cond (.t 20)
 (.seq
 (.ops [
 O1 (.mv 21 (.t 5)), O1 (.asg 4 (.t 21))])
 .ret)
 .skip)))
 (.ops [
 O1 (.mv 11 (.t 5)), O1 (.bin 12 .add (.t 11) (.c (.int .i64 1))), O1 (.asg 5 (.t 12))]))))))
 (.seq
 (.ops [
 O1 (.asg 4 (.c (.int .i64 (-1))))])
 .ret)))
def rets_exchequerref15_User : List Ret := [.t 4]
theorem of_exchequerref15_User {args : List SV} {Post : SV → List SV → Prop} (h : wqF Try.prog 22 ir_exchequerref15_User rets_exchequerref15_User args Post) (hn : args.length ≤ 22) : Fn Try.prog 19 args Post :=
 Fn.of_body' Try.func19 rfl Try.ntmps19 (by kernel_rfl) (by kernel_rfl) hn (wqF_wp h)
/-- exchequer/exchequerlaw16.basis · parameters [] -/
abbrev F_exchequerlaw16_basis : FuncId := 20
def ir_exchequerlaw16_basis : Stm :=
 (.seq
 (.ops [
 O1 (.alloc 0 (.one (.i (.agg [(.int .i64 0), (.list []), (.list []), (.list [])]))))])
 (.seq
 (.ops [ .call none (some 6) 43 [(false, (.c (.str [115]))), (false, (.c (.str [119])))], O1 (.asg 5 (.t 6)), O1 (.ext 7 (.t 5) 0), O1 (.ext 8 (.t 5) 1), O1 (.alloc 1 (.one (.i (.agg [(.int .i64 0), (.list []), (.list []), (.list [])])))), O1 (.store 4 (.t 1) (.t 7)), O1 (.asg 2 (.t 8))])
 (.seq
 (.seq
 (.ops [
 O1 (.build 9 [(.int .i64 0), (.int .i64 0), (.str []), (.int .i64 0), (.str []), (.str []), (.str []), (.str []), (.int .i64 0), (.int .i64 0), (.agg [(.agg [(.str []), (.str [])]), (.bool false), (.bool false)]), (.int .i64 0), (.list []), (.list []), (.list [])] [(3, (.c (.int .i64 4))), (4, (.c (.str [116])))]), O1 (.build 10 [(.int .i64 0), (.int .i64 0), (.str []), (.int .i64 0), (.str []), (.str []), (.str []), (.str []), (.int .i64 0), (.int .i64 0), (.agg [(.agg [(.str []), (.str [])]), (.bool false), (.bool false)]), (.int .i64 0), (.list []), (.list []), (.list [])] [(3, (.c (.int .i64 6))), (4, (.c (.str [117, 97]))), (5, (.c (.str [116])))]), O1 (.build 11 [(.int .i64 0), (.int .i64 0), (.str []), (.int .i64 0), (.str []), (.str []), (.str []), (.str []), (.int .i64 0), (.int .i64 0), (.agg [(.agg [(.str []), (.str [])]), (.bool false), (.bool false)]), (.int .i64 0), (.list []), (.list []), (.list [])] [(3, (.c (.int .i64 9))), (4, (.c (.str [114, 97]))), (5, (.c (.str [116])))]), O1 (.build 12 [(.int .i64 0), (.int .i64 0), (.str []), (.int .i64 0), (.str []), (.str []), (.str []), (.str []), (.int .i64 0), (.int .i64 0), (.agg [(.agg [(.str []), (.str [])]), (.bool false), (.bool false)]), (.int .i64 0), (.list []), (.list []), (.list [])] [(3, (.c (.int .i64 13))), (4, (.c (.str [117, 97]))), (5, (.c (.str [114, 97])))]), O1 (.bsl 13 49 18 (.agg [(.int .i64 0), (.int .i64 0), (.str []), (.int .i64 0), (.str []), (.str []), (.str []), (.str []), (.int .i64 0), (.int .i64 0), (.agg [(.agg [(.str []), (.str [])]), (.bool false), (.bool false)]), (.int .i64 0), (.list []), (.list []), (.list [])]) 4 [(0, (.t 9)), (1, (.t 10)), (2, (.t 11)), (3, (.t 12))]), O1 (.len 14 false (.t 13)), O1 (.mv 15 (.c (.int .i64 0)))])
 (.block 0
 (.loop [4, 16, 17, 18, 19, 20, 21, 22, 23, 24, 25]
 (.seq
 (.ops [
 O1 (.bin 16 .lss (.t 15) (.t 14))])
 (.seq
 (.cond (.t 16)
 .skip
 (.exit 0))
 (.seq
 (.block 1
 (.seq
 (.ops [
 O1 (.iaddr 17 18 (.t 13) (.t 15)), O1 (.load 18 true 18 (.t 17)), O1 (.alloc 4 (.one (.i (.agg [(.int .i64 0), (.int .i64 0), (.str []), (.int .i64 0), (.str []), (.str []), (.str []), (.str []), (.int .i64 0), (.int .i64 0), (.agg [(.agg [(.str []), (.str [])]), (.bool false), (.bool false)]), (.int .i64 0), (.list []), (.list []), (.list [])])))), O1 (.store 18 (.t 4) (.t 18))])
 (.ops [
 O1 (.load 20 true 4 (.t 1)), O1 (.load 21 true 18 (.t 4)), .call none (some 22) 17 [(false, (.t 20)), (false, (.t 21))], O1 (.asg 19 (.t 22)), O1 (.ext 23 (.t 19) 0), O1 (.ext 24 (.t 19) 1), O1 (.store 4 (.t 1) (.t 23))])))
 (.ops [
 O1 (.bin 25 .add (.t 15) (.c (.int .i64 1))), O1 (.mv 15 (.t 25))])))))))
 (.seq
 (.ops [
 O1 (.load 26 true 4 (.t 1)), O1 (.store 4 (.t 0) (.t 26))])
 .ret))))
def rets_exchequerlaw16_basis : List Ret := [.cell 0 true 4]
theorem of_exchequerlaw16_basis {args : List SV} {Post : SV → List SV → Prop} (h : wqF Try.prog 27 ir_exchequerlaw16_basis rets_exchequerlaw16_basis args Post) (hn : args.length ≤ 27) : Fn Try.prog 20 args Post :=
 Fn.of_body' Try.func20 rfl Try.ntmps20 (by kernel_rfl) (by kernel_rfl) hn (wqF_wp h)
/-- exchequer/roll.User · parameters [api.Roll, string] -/
abbrev F_roll_User : FuncId := 21
def ir_roll_User : Stm :=
 (.seq
 (.ops [
 O1 (.box 2 (.t 0)), O1 (.alloc 4 (.one (.i (.agg [(.str []), (.str []), (.str []), (.str []), (.list [])])))), O1 (.asg 5 (.c (.bool false)))])
 (.seq
 (.ops [
 O1 (.faddr 9 (.t 2) 2 2), O1 (.load 10 false 1 (.t 9)), O1 (.mv 11 (.t 1)), .call none (some 12) 44 [(false, (.t 10)), (false, (.t 11)), (false, (.c (.fn 45)))], O1 (.asg 8 (.t 12)), O1 (.ext 13 (.t 8) 0), O1 (.ext 14 (.t 8) 1), O1 (.alloc 6 (.one (.i (.agg [(.str []), (.str []), (.str []), (.str []), (.list [])])))), O1 (.store 5 (.t 6) (.t 13)), O1 (.asg 7 (.t 14))])
 (.seq
 (.ops [
 O1 (.faddr 15 (.t 6) 4 4), O1 (.load 16 false 1 (.t 15)), .call none (some 17) 46 [(false, (.t 16))], O1 (.faddr 18 (.t 6) 4 4), O1 (.store 1 (.t 18) (.t 17))])
 (.seq
 (.ops [
 O1 (.load 19 true 5 (.t 6)), O1 (.mv 20 (.t 7)), O1 (.store 5 (.t 4) (.t 19)), O1 (.asg 5 (.t 20))])
 .ret))))
def rets_roll_User : List Ret := [.cell 4 true 5, .t 5]
theorem of_roll_User {args : List SV} {Post : SV → List SV → Prop} (h : wqF Try.prog 21 ir_roll_User rets_roll_User args Post) (hn : args.length ≤ 21) : Fn Try.prog 21 args Post :=
 Fn.of_body' Try.func21 rfl Try.ntmps21 (by kernel_rfl) (by kernel_rfl) hn (wqF_wp h)
/-- exchequer/roll.Role · parameters [api.Roll, string] -/
abbrev F_roll_Role : FuncId := 22
def ir_roll_Role : Stm :=
 (.seq
 (.ops [
 O1 (.box 2 (.t 0)), O1 (.alloc 4 (.one (.i (.agg [(.str []), (.str []), (.list [])])))), O1 (.asg 5 (.c (.bool false)))])
 (.seq
 (.ops [
 O1 (.faddr 9 (.t 2) 3 3), O1 (.load 10 false 1 (.t 9)), O1 (.mv 11 (.t 1)), .call none (some 12) 47 [(false, (.t 10)), (false, (.t 11)), (false, (.c (.fn 48)))], O1 (.asg 8 (.t 12)), O1 (.ext 13 (.t 8) 0), O1 (.ext 14 (.t 8) 1), O1 (.alloc 6 (.one (.i (.agg [(.str []), (.str []), (.list [])])))), O1 (.store 3 (.t 6) (.t 13)), O1 (.asg 7 (.t 14))])
 (.seq
 (.ops [
 O1 (.faddr 15 (.t 6) 2 2), O1 (.load 16 false 1 (.t 15)), .call none (some 17) 49 [(false, (.t 16))], O1 (.faddr 18 (.t 6) 2 2), O1 (.store 1 (.t 18) (.t 17))])
 (.seq
 (.ops [
 O1 (.load 19 true 3 (.t 6)), O1 (.mv 20 (.t 7)), O1 (.store 3 (.t 4) (.t 19)), O1 (.asg 5 (.t 20))])
 .ret))))
def rets_roll_Role : List Ret := [.cell 4 true 3, .t 5]
theorem of_roll_Role {args : List SV} {Post : SV → List SV → Prop} (h : wqF Try.prog 21 ir_roll_Role rets_roll_Role args Post) (hn : args.length ≤ 21) : Fn Try.prog 22 args Post :=
 Fn.of_body' Try.func22 rfl Try.ntmps22 (by kernel_rfl) (by kernel_rfl) hn (wqF_wp h)
/-- exchequer/span.Union · parameters [[]api.Span] -/
abbrev F_span_Union : FuncId := 23
def ir_span_Union : Stm :=
 (.seq
 (.ops [
 O1 (.asg 2 (.nils 41 2))])
 (.seq
 (.ops [
 O1 (.mv 7 (.t 0)), .call none (some 8) 51 [(false, (.t 7))], .call none (some 9) 50 [(true, (.t 8)), (false, (.c (.fn 52)))], O1 (.asg 0 (.t 9))])
 (.seq
 (.ops [
 O1 (.mv 10 (.t 0)), .call none (some 11) 54 [(true, (.t 10)), (false, (.c (.fn 55)))]])
 (.seq
 (.ops [
 O1 (.asg 3 (.nils 41 2))])
 (.seq
 (.seq
 (.ops [
 O1 (.mv 12 (.t 0)), O1 (.len 13 false (.t 12)), O1 (.mv 14 (.c (.int .i64 0)))])
 (.block 0
 (.loop [5, 6, 7, 10, 15, 16, 17, 18, 19, 20, 21, 22, 23, 24, 25, 26, 27, 28, 29, 30, 31, 32, 33, 34, 35, 36, 37, 38, 39, 40, 41, 42, 43, 44, 45, 46, 47, 48, 49, 50, 51, 52, 53, 54, 55, 56, 57, 58, 59, 60, 61, 62, 63, 64]
 (.seq
 (.ops [
 O1 (.bin 15 .lss (.t 14) (.t 13))])
 (.seq
 (.cond (.t 15)
 .skip
 (.exit 0))
 (.seq
 (.block 1
 (.seq
 (.ops [
 O1 (.iaddr 16 2 (.t 12) (.t 14)), O1 (.load 17 true 2 (.t 16)), O1 (.alloc 5 (.one (.i (.agg [(.str []), (.str [])])))), O1 (.store 2 (.t 5) (.t 17))])
 (.seq
 (.ops [
 O1 (.mv 18 (.t 3)), O1 (.len 19 false (.t 18)), O1 (.asg 6 (.t 19))])
 (.seq
 (.drw [[], [0], [1], [2], [2], [4, 2], [3, 5, 2], [6, 2], [7, 2], [8, 2], [9, 2], [10], [10], [12, 10], [11, 13, 10], [14, 10], [15, 10], [10], [17, 10], [16, 18, 10], [10, 19, 2], [2, 20]] [
 O1 (.mv 20 (.t 6)), O1 (.bin 21 .eql (.t 20) (.c (.int .i64 0))), O1 (.mv 22 (.t 21)), .op (some (22, false)) (.mv 23 (.t 3)), .op (some (22, false)) (.mv 24 (.t 6)), .op (some (22, false)) (.bin 25 .sub (.t 24) (.c (.int .i64 1))), .op (some (22, false)) (.iaddr 26 2 (.t 23) (.t 25)), .op (some (22, false)) (.faddr 27 (.t 26) 1 1), .op (some (22, false)) (.load 28 false 1 (.t 27)), .op (some (22, false)) (.bin 29 .neq (.t 28) (.c (.str []))), .op (some (22, false)) (.mv 30 (.t 29)), .op (some (30, true)) (.mv 31 (.t 3)), .op (some (30, true)) (.mv 32 (.t 6)), .op (some (30, true)) (.bin 33 .sub (.t 32) (.c (.int .i64 1))), .op (some (30, true)) (.iaddr 34 2 (.t 31) (.t 33)), .op (some (30, true)) (.faddr 35 (.t 34) 1 1), .op (some (30, true)) (.load 36 false 1 (.t 35)), .op (some (30, true)) (.faddr 37 (.t 5) 0 0), .op (some (30, true)) (.load 38 false 1 (.t 37)), .op (some (30, true)) (.bin 39 .lss (.t 36) (.t 38)), .op (some (22, false)) (.pick 40 (.t 30) (.t 39) (.c (.bool false))), O1 (.pick 41 (.t 22) (.c (.bool true)) (.t 40))])
 (.cond (.t 41)
 (.ops [
 O1 (.mv 42 (.t 3)), O1 (.load 43 true 2 (.t 5)), O1 (.bsl 44 41 2 (.agg [(.str []), (.str [])]) 1 [(0, (.t 43))]), O1 (.app 45 41 2 32 (.t 42) (.t 44)), O1 (.asg 3 (.t 45))])
 (.seq
 (.drw [[], [0], [], [], [3], [2, 4], [5], [6], [1, 7], [8]] [
 O1 (.faddr 46 (.t 5) 1 1), O1 (.load 47 false 1 (.t 46)), O1 (.mv 48 (.t 3)), O1 (.mv 49 (.t 6)), O1 (.bin 50 .sub (.t 49) (.c (.int .i64 1))), O1 (.iaddr 51 2 (.t 48) (.t 50)), O1 (.faddr 52 (.t 51) 1 1), O1 (.load 53 false 1 (.t 52)), .call none (some 54) 57 [(false, (.t 47)), (false, (.t 53))], O1 (.bin 55 .gtr (.t 54) (.c (.int .i64 0)))])
 (.cond (.t 55)
 (.ops [
 O1 (.mv 56 (.t 3)), O1 (.mv 57 (.t 6)), O1 (.bin 58 .sub (.t 57) (.c (.int .i64 1))), O1 (.faddr 59 (.t 5) 1 1), O1 (.load 60 false 1 (.t 59)), O1 (.iaddr 61 2 (.t 56) (.t 58)), O1 (.faddr 62 (.t 61) 1 1), O1 (.store 1 (.t 62) (.t 60))])
 .skip)))))))
 (.ops [
 O1 (.bin 63 .add (.t 14) (.c (.int .i64 1))), O1 (.mv 14 (.t 63))])))))))
 (.seq
 (.ops [
 O1 (.mv 64 (.t 3)), O1 (.mov 2 41 2 (.t 64))])
 .ret))))))
def rets_span_Union : List Ret := [.t 2]
theorem of_span_Union {args : List SV} {Post : SV → List SV → Prop} (h : wqF Try.prog 65 ir_span_Union rets_span_Union args Post) (hn : args.length ≤ 65) : Fn Try.prog 23 args Post :=
 Fn.of_body' Try.func23 rfl Try.ntmps23 (by kernel_rfl) (by kernel_rfl) hn (wqF_wp h)
/-- exchequer/exchequerref05.Ends · parameters [[]api.Span] -/
abbrev F_exchequerref05_Ends : FuncId := 24
def ir_exchequerref05_Ends : Stm :=
 (.seq
 (.ops [
 O1 (.asg 2 (.nils 9 1))])
 (.seq
 (.ops [
 O1 (.bsl 5 9 1 (.str []) 1 [(0, (.c (.str [])))]), O1 (.asg 3 (.t 5))])
 (.seq
 (.seq
 (.ops [
 O1 (.asg 4 (.c (.int .i64 0)))])
 (.block 0
 (.loop [6, 7, 8, 9, 10, 11, 12, 13, 14, 15, 16, 17, 18, 19, 20, 21, 22, 23, 24, 25, 26, 27, 28, 29, 30]
 (.seq
 (.seq
 (.ops [
 O1 (.mv 6 (.t 4)), O1 (.mv 7 (.t 0)), O1 (.len 8 false (.t 7)), O1 (.bin 9 .lss (.t 6) (.t 8))])
 (.cond (.t 9)
 .skip
 (.exit 0)))
 (.seq
 (.block 1
 (.seq
 (.ops [
 O1 (.mv 12 (.t 0)), O1 (.mv 13 (.t 4)), O1 (.iaddr 14 2 (.t 12) (.t 13)), O1 (.load 15 true 2 (.t 14)), .call none (some 16) 39 [(false, (.t 15))]])
 (.cond (.t 16)
 (.drw [[], [], [], [1, 2], [3], [4], [0, 5], [], [], [7, 8], [9], [10], [6, 11], [12, 0, 1, 2, 3, 4, 5, 6, 7, 8, 9, 10, 11]] [
 O1 (.mv 17 (.t 3)), O1 (.mv 18 (.t 0)), O1 (.mv 19 (.t 4)), O1 (.iaddr 20 2 (.t 18) (.t 19)), O1 (.faddr 21 (.t 20) 0 0), O1 (.load 22 false 1 (.t 21)), .call none (some 23) 58 [(false, (.t 17)), (false, (.t 22))], O1 (.mv 24 (.t 0)), O1 (.mv 25 (.t 4)), O1 (.iaddr 26 2 (.t 24) (.t 25)), O1 (.faddr 27 (.t 26) 1 1), O1 (.load 28 false 1 (.t 27)), .call none (some 29) 58 [(false, (.t 23)), (false, (.t 28))], O1 (.asg 3 (.t 29))])
 .skip)))
 (.ops [
 O1 (.mv 10 (.t 4)), O1 (.bin 11 .add (.t 10) (.c (.int .i64 1))), O1 (.asg 4 (.t 11))]))))))
 (.seq
 (.ops [
 O1 (.mv 30 (.t 3)), O1 (.mov 2 9 1 (.t 30))])
 .ret))))
def rets_exchequerref05_Ends : List Ret := [.t 2]
theorem of_exchequerref05_Ends {args : List SV} {Post : SV → List SV → Prop} (h : wqF Try.prog 31 ir_exchequerref05_Ends rets_exchequerref05_Ends args Post) (hn : args.length ≤ 31) : Fn Try.prog 24 args Post :=
 Fn.of_body' Try.func24 rfl Try.ntmps24 (by kernel_rfl) (by kernel_rfl) hn (wqF_wp h)
/-- exchequer/exchequerref05.any · parameters [[]api.Span, string] -/
abbrev F_exchequerref05_any : FuncId := 25
def ir_exchequerref05_any : Stm :=
 (.seq
 (.ops [
 O1 (.asg 4 (.c (.bool false)))])
 (.seq
 (.seq
 (.ops [
 O1 (.asg 5 (.c (.int .i64 0)))])
 (.block 0
 (.loop [4, 6, 7, 8, 9, 10, 11, 12, 13, 14, 15, 16, 17, 18, 19, 20, 21, 22, 23, 24]
 (.seq
 (.seq
 (.ops [
 O1 (.mv 6 (.t 5)), O1 (.mv 7 (.t 0)), O1 (.len 8 false (.t 7)), O1 (.bin 9 .lss (.t 6) (.t 8))])
 (.cond (.t 9)
 .skip
 (.exit 0)))
 (.seq
 (.block 1
 (.seq
 (.ops [
 O1 (.mv 12 (.t 0)), O1 (.mv 13 (.t 5)), O1 (.iaddr 14 2 (.t 12) (.t 13)), O1 (.load 15 true 2 (.t 14)), .call none (some 16) 39 [(false, (.t 15))], O1 (.mv 17 (.t 16)), .op (some (17, true)) (.mv 18 (.t 0)), .op (some (17, true)) (.mv 19 (.t 5)), .op (some (17, true)) (.iaddr 20 2 (.t 18) (.t 19)), .op (some (17, true)) (.load 21 true 2 (.t 20)), .op (some (17, true)) (.mv 22 (.t 1)), .call (some (17, true)) (some 23) 16 [(false, (.t 21)), (false, (.t 22))], O1 (.pick 24 (.t 17) (.t 23) (.c (.bool false)))])
 (.cond (.t 24)
 (.seq
 (.ops [
 O1 (.asg 4 (.c (.bool true)))])
 .ret)
 .skip)))
 (.ops [
 O1 (.mv 10 (.t 5)), O1 (.bin 11 .add (.t 10) (.c (.int .i64 1))), O1 (.asg 5 (.t 11))]))))))
 (.seq
 (.ops [
 O1 (.asg 4 (.c (.bool false)))])
 .ret)))
def rets_exchequerref05_any : List Ret := [.t 4]
theorem of_exchequerref05_any {args : List SV} {Post : SV → List SV → Prop} (h : wqF Try.prog 25 ir_exchequerref05_any rets_exchequerref05_any args Post) (hn : args.length ≤ 25) : Fn Try.prog 25 args Post :=
 Fn.of_body' Try.func25 rfl Try.ntmps25 (by kernel_rfl) (by kernel_rfl) hn (wqF_wp h)
/-- exchequer/exchequerref05.Made · parameters [[]string, []bool] -/
abbrev F_exchequerref05_Made : FuncId := 26
def ir_exchequerref05_Made : Stm :=
 (.seq
 (.ops [
 O1 (.asg 4 (.nils 41 2))])
 (.seq
 (.ops [
 O1 (.empty 8 41 2), O1 (.asg 5 (.t 8))])
 (.seq
 (.ops [
 O1 (.asg 6 (.c (.bool false)))])
 (.seq
 (.seq
 (.ops [
 O1 (.asg 7 (.c (.int .i64 0)))])
 (.block 0
 (.loop [9, 10, 11, 12, 13, 14, 15, 16, 17, 18, 19, 20, 21, 22, 23, 24, 25, 26, 27, 28, 29, 30, 31, 32, 33, 34, 35, 36, 37, 38, 39, 40, 41, 42, 43, 44, 45, 46, 47, 48, 49, 50, 51, 52, 53]
 (.seq
 (.seq
 (.ops [
 O1 (.mv 9 (.t 7)), O1 (.mv 10 (.t 0)), O1 (.len 11 false (.t 10)), O1 (.bin 12 .lss (.t 9) (.t 11))])
 (.cond (.t 12)
 .skip
 (.exit 0)))
 (.seq
 (.block 1
 (.seq
 (.seq
 (.ops [
 O1 (.mv 15 (.t 1)), O1 (.mv 16 (.t 7)), O1 (.iaddr 17 1 (.t 15) (.t 16)), O1 (.load 18 false 1 (.t 17)), O1 (.mv 19 (.t 18)), .op (some (19, true)) (.mv 20 (.t 6)), .op (some (19, true)) (.not 21 (.t 20)), O1 (.pick 22 (.t 19) (.t 21) (.c (.bool false)))])
 (.cond (.t 22)
 (.ops [
 O1 (.mv 23 (.t 5)), O1 (.mv 24 (.t 0)), O1 (.mv 25 (.t 7)), O1 (.iaddr 26 1 (.t 24) (.t 25)), O1 (.load 27 false 1 (.t 26)), O1 (.build 28 [(.str []), (.str [])] [(0, (.t 27))]), O1 (.bsl 29 41 2 (.agg [(.str []), (.str [])]) 1 [(0, (.t 28))]), O1 (.app 30 41 2 32 (.t 23) (.t 29)), O1 (.asg 5 (.t 30))])
 .skip))
 (.seq
 (.seq
 (.ops [
 O1 (.mv 31 (.t 1)), O1 (.mv 32 (.t 7)), O1 (.iaddr 33 1 (.t 31) (.t 32)), O1 (.load 34 false 1 (.t 33)), O1 (.not 35 (.t 34)), O1 (.mv 36 (.t 35)), .op (some (36, true)) (.mv 37 (.t 6)), O1 (.pick 38 (.t 36) (.t 37) (.c (.bool false)))])
 (.cond (.t 38)
 (.ops [
 O1 (.mv 39 (.t 5)), O1 (.mv 40 (.t 5)), O1 (.len 41 false (.t 40)), O1 (.bin 42 .sub (.t 41) (.c (.int .i64 1))), O1 (.mv 43 (.t 0)), O1 (.mv 44 (.t 7)), O1 (.iaddr 45 1 (.t 43) (.t 44)), O1 (.load 46 false 1 (.t 45)), O1 (.iaddr 47 2 (.t 39) (.t 42)), O1 (.faddr 48 (.t 47) 1 1), O1 (.store 1 (.t 48) (.t 46))])
 .skip))
 (.ops [
 O1 (.mv 49 (.t 1)), O1 (.mv 50 (.t 7)), O1 (.iaddr 51 1 (.t 49) (.t 50)), O1 (.load 52 false 1 (.t 51)), O1 (.asg 6 (.t 52))]))))
 (.ops [
 O1 (.mv 13 (.t 7)), O1 (.bin 14 .add (.t 13) (.c (.int .i64 1))), O1 (.asg 7 (.t 14))]))))))
 (.seq
 (.ops [
 O1 (.mv 53 (.t 5)), O1 (.mov 4 41 2 (.t 53))])
 .ret)))))
def rets_exchequerref05_Made : List Ret := [.t 4]
theorem of_exchequerref05_Made {args : List SV} {Post : SV → List SV → Prop} (h : wqF Try.prog 54 ir_exchequerref05_Made rets_exchequerref05_Made args Post) (hn : args.length ≤ 54) : Fn Try.prog 26 args Post :=
 Fn.of_body' Try.func26 rfl Try.ntmps26 (by kernel_rfl) (by kernel_rfl) hn (wqF_wp h)
/-- exchequer/allow.covered · parameters [[]api.Span, []api.Span] -/
abbrev F_allow_covered : FuncId := 27
def ir_allow_covered : Stm :=
 (.seq
 (.ops [
 O1 (.asg 4 (.c (.bool false)))])
 (.seq
 (.seq
 (.ops [
 O1 (.mv 7 (.t 1)), O1 (.len 8 false (.t 7)), O1 (.mv 9 (.c (.int .i64 0)))])
 (.block 0
 (.loop [4, 6, 10, 11, 12, 13, 14, 15, 16, 17]
 (.seq
 (.ops [
 O1 (.bin 10 .lss (.t 9) (.t 8))])
 (.seq
 (.cond (.t 10)
 .skip
 (.exit 0))
 (.seq
 (.block 1
 (.seq
 (.ops [
 O1 (.iaddr 11 2 (.t 7) (.t 9)), O1 (.load 12 true 2 (.t 11)), O1 (.alloc 6 (.one (.i (.agg [(.str []), (.str [])])))), O1 (.store 2 (.t 6) (.t 12))])
 (.seq
 (.ops [
 O1 (.mv 13 (.t 0)), O1 (.load 14 true 2 (.t 6)), .call none (some 15) 59 [(false, (.t 13)), (false, (.t 14))], O1 (.not 16 (.t 15))])
 (.cond (.t 16)
 (.seq
 (.ops [
 O1 (.asg 4 (.c (.bool false)))])
 .ret)
 .skip))))
 (.ops [
 O1 (.bin 17 .add (.t 9) (.c (.int .i64 1))), O1 (.mv 9 (.t 17))])))))))
 (.seq
 (.ops [
 O1 (.asg 4 (.c (.bool true)))])
 .ret)))
def rets_allow_covered : List Ret := [.t 4]
theorem of_allow_covered {args : List SV} {Post : SV → List SV → Prop} (h : wqF Try.prog 18 ir_allow_covered rets_allow_covered args Post) (hn : args.length ≤ 18) : Fn Try.prog 27 args Post :=
 Fn.of_body' Try.func27 rfl Try.ntmps27 (by kernel_rfl) (by kernel_rfl) hn (wqF_wp h)
/-- exchequer/exchequerref05.Covers · parameters [[]api.Span, api.Span] -/
abbrev F_exchequerref05_Covers : FuncId := 28
def ir_exchequerref05_Covers : Stm :=
 (.seq
 (.ops [
 O1 (.box 3 (.t 1)), O1 (.asg 4 (.c (.bool false)))])
 (.seq
 (.seq
 (.ops [
 O1 (.load 7 true 2 (.t 3)), .call none (some 8) 39 [(false, (.t 7))], O1 (.not 9 (.t 8))])
 (.cond (.t 9)
 (.seq
 (.ops [
 O1 (.asg 4 (.c (.bool false)))])
 .ret)
 .skip))
 (.seq
 (.drw [[], [], [0, 1], [], [3], [2, 4], [5], [6, 0, 1, 2, 3, 4, 5]] [
 O1 (.empty 10 41 2), O1 (.mv 11 (.t 0)), O1 (.app 12 41 2 32 (.t 10) (.t 11)), O1 (.load 13 true 2 (.t 3)), O1 (.bsl 14 41 2 (.agg [(.str []), (.str [])]) 1 [(0, (.t 13))]), O1 (.app 15 41 2 32 (.t 12) (.t 14)), .call none (some 16) 24 [(false, (.t 15))], O1 (.asg 5 (.t 16))])
 (.seq
 (.seq
 (.ops [
 O1 (.asg 6 (.c (.int .i64 0)))])
 (.block 0
 (.loop [4, 11, 17, 18, 19, 20, 21, 22, 23, 24, 25, 26, 27, 28, 29, 30, 31, 32, 33, 34, 35, 36, 37]
 (.seq
 (.seq
 (.ops [
 O1 (.mv 17 (.t 6)), O1 (.mv 18 (.t 5)), O1 (.len 19 false (.t 18)), O1 (.bin 20 .lss (.t 17) (.t 19))])
 (.cond (.t 20)
 .skip
 (.exit 0)))
 (.seq
 (.block 1
 (.seq
 (.drw [[], [], [], [1, 2], [3], [0, 4], [5], [6], [6], [6], [8, 9, 6], [10, 6], [7, 11, 6], [12, 6], [6, 13]] [
 O1 (.load 23 true 2 (.t 3)), O1 (.mv 24 (.t 5)), O1 (.mv 25 (.t 6)), O1 (.iaddr 26 1 (.t 24) (.t 25)), O1 (.load 27 false 1 (.t 26)), .call none (some 28) 16 [(false, (.t 23)), (false, (.t 27))], O1 (.mv 29 (.t 28)), .op (some (29, true)) (.mv 30 (.t 0)), .op (some (29, true)) (.mv 31 (.t 5)), .op (some (29, true)) (.mv 32 (.t 6)), .op (some (29, true)) (.iaddr 33 1 (.t 31) (.t 32)), .op (some (29, true)) (.load 34 false 1 (.t 33)), .call (some (29, true)) (some 35) 25 [(false, (.t 30)), (false, (.t 34))], .op (some (29, true)) (.not 36 (.t 35)), O1 (.pick 37 (.t 29) (.t 36) (.c (.bool false)))])
 (.cond (.t 37)
 (.seq
 (.ops [
 O1 (.asg 4 (.c (.bool false)))])
 .ret)
 .skip)))
 (.ops [
 O1 (.mv 21 (.t 6)), O1 (.bin 22 .add (.t 21) (.c (.int .i64 1))), O1 (.asg 6 (.t 22))]))))))
 (.seq
 (.ops [
 O1 (.asg 4 (.c (.bool true)))])
 .ret)))))
def rets_exchequerref05_Covers : List Ret := [.t 4]
theorem of_exchequerref05_Covers {args : List SV} {Post : SV → List SV → Prop} (h : wqF Try.prog 38 ir_exchequerref05_Covers rets_exchequerref05_Covers args Post) (hn : args.length ≤ 38) : Fn Try.prog 28 args Post :=
 Fn.of_body' Try.func28 rfl Try.ntmps28 (by kernel_rfl) (by kernel_rfl) hn (wqF_wp h)
/-- exchequer/exchequerref15.Copy · parameters [api.Roll] -/
abbrev F_exchequerref15_Copy : FuncId := 29
def ir_exchequerref15_Copy : Stm :=
 (.seq
 (.ops [
 O1 (.boxD 1 (.t 0)), O1 (.allocD 2 (.st [(.it (.int .i64 0)), (.vec 75 3 []), (.vec 59 5 []), (.vec 56 3 [])]))])
 (.seq
 (.drw [[], [0], [], [], [3], [2, 4], [1, 5], [], [7, 6, 5, 0, 1, 2, 3, 4]] [
 O1 (.faddr 8 (.t 1) 0 0), O1 (.load 9 false 1 (.t 8)), O1 (.empty 10 75 3), O1 (.faddr 11 (.t 1) 1 1), O1 (.load 12 false 1 (.t 11)), O1 (.app 13 75 3 32 (.t 10) (.t 12)), O1 (.buildD 14 [(.it (.int .i64 0)), (.vec 75 3 []), (.vec 59 5 []), (.vec 56 3 [])] [(0, (.t 9)), (1, (.t 13))]), O1 (.allocD 3 (.st [(.it (.int .i64 0)), (.vec 75 3 []), (.vec 59 5 []), (.vec 56 3 [])])), O1 (.store 4 (.t 3) (.t 14))])
 (.seq
 (.seq
 (.ops [
 O1 (.asg 4 (.c (.int .i64 0)))])
 (.block 0
 (.loop [5, 15, 16, 17, 18, 19, 20, 21, 22, 23, 24, 25, 26, 27, 28, 29, 30, 31, 32, 33, 34, 35, 36, 37]
 (.seq
 (.seq
 (.ops [
 O1 (.mv 15 (.t 4)), O1 (.faddr 16 (.t 1) 2 2), O1 (.load 17 false 1 (.t 16)), O1 (.len 18 false (.t 17)), O1 (.bin 19 .lss (.t 15) (.t 18))])
 (.cond (.t 19)
 .skip
 (.exit 0)))
 (.seq
 (.block 1
 (.seq
 (.ops [
 O1 (.faddr 22 (.t 1) 2 2), O1 (.load 23 false 1 (.t 22)), O1 (.mv 24 (.t 4)), O1 (.iaddr 25 5 (.t 23) (.t 24)), O1 (.load 26 true 5 (.t 25)), O1 (.allocD 5 (.st [(.it (.str [])), (.it (.str [])), (.it (.str [])), (.it (.str [])), (.vec 9 1 [])])), O1 (.store 5 (.t 5) (.t 26))])
 (.seq
 (.ops [
 O1 (.empty 27 9 1), O1 (.faddr 28 (.t 5) 4 4), O1 (.load 29 false 1 (.t 28)), O1 (.app 30 9 1 16 (.t 27) (.t 29)), O1 (.faddr 31 (.t 5) 4 4), O1 (.store 1 (.t 31) (.t 30))])
 (.ops [
 O1 (.faddr 32 (.t 3) 2 2), O1 (.load 33 false 1 (.t 32)), O1 (.load 34 true 5 (.t 5)), O1 (.bslD 35 59 5 (.agg [(.str []), (.str []), (.str []), (.str []), (.list [])]) 1 [(0, (.t 34))]), O1 (.app 36 59 5 88 (.t 33) (.t 35)), O1 (.faddr 37 (.t 3) 2 2), O1 (.store 1 (.t 37) (.t 36))]))))
 (.ops [
 O1 (.mv 20 (.t 4)), O1 (.bin 21 .add (.t 20) (.c (.int .i64 1))), O1 (.asg 4 (.t 21))]))))))
 (.seq
 (.seq
 (.ops [
 O1 (.asg 6 (.c (.int .i64 0)))])
 (.block 2
 (.loop [7, 38, 39, 40, 41, 42, 43, 44, 45, 46, 47, 48, 49, 50, 51, 52, 53, 54, 55, 56, 57, 58, 59, 60]
 (.seq
 (.seq
 (.ops [
 O1 (.mv 38 (.t 6)), O1 (.faddr 39 (.t 1) 3 3), O1 (.load 40 false 1 (.t 39)), O1 (.len 41 false (.t 40)), O1 (.bin 42 .lss (.t 38) (.t 41))])
 (.cond (.t 42)
 .skip
 (.exit 2)))
 (.seq
 (.block 3
 (.seq
 (.ops [
 O1 (.faddr 45 (.t 1) 3 3), O1 (.load 46 false 1 (.t 45)), O1 (.mv 47 (.t 6)), O1 (.iaddr 48 3 (.t 46) (.t 47)), O1 (.load 49 true 3 (.t 48)), O1 (.allocD 7 (.st [(.it (.str [])), (.it (.str [])), (.vec 45 4 [])])), O1 (.store 3 (.t 7) (.t 49))])
 (.seq
 (.ops [
 O1 (.empty 50 45 4), O1 (.faddr 51 (.t 7) 2 2), O1 (.load 52 false 1 (.t 51)), O1 (.app 53 45 4 40 (.t 50) (.t 52)), O1 (.faddr 54 (.t 7) 2 2), O1 (.store 1 (.t 54) (.t 53))])
 (.ops [
 O1 (.faddr 55 (.t 3) 3 3), O1 (.load 56 false 1 (.t 55)), O1 (.load 57 true 3 (.t 7)), O1 (.bslD 58 56 3 (.agg [(.str []), (.str []), (.list [])]) 1 [(0, (.t 57))]), O1 (.app 59 56 3 56 (.t 56) (.t 58)), O1 (.faddr 60 (.t 3) 3 3), O1 (.store 1 (.t 60) (.t 59))]))))
 (.ops [
 O1 (.mv 43 (.t 6)), O1 (.bin 44 .add (.t 43) (.c (.int .i64 1))), O1 (.asg 6 (.t 44))]))))))
 (.seq
 (.ops [
 O1 (.load 61 true 4 (.t 3)), O1 (.store 4 (.t 2) (.t 61))])
 .ret)))))
def rets_exchequerref15_Copy : List Ret := [.cell 2 true 4]
theorem ofd_exchequerref15_Copy {args : List SV} {Post : SV → List SV → Prop} (h : wqFD Try.prog 62 ir_exchequerref15_Copy rets_exchequerref15_Copy args Post) (hn : args.length ≤ 62) : Fn Try.prog 29 args Post :=
 Fn.of_bodyD Try.func29 rfl Try.ntmps29 (by kernel_rfl) (by kernel_rfl) hn h
/-- exchequer/exchequerref15.Tenant · parameters [api.Roll, string] -/
abbrev F_exchequerref15_Tenant : FuncId := 30
def ir_exchequerref15_Tenant : Stm :=
 (.seq
 (.ops [
 O1 (.box 2 (.t 0)), O1 (.asg 4 (.c (.int .i64 0)))])
 (.seq
 (.seq
 (.ops [
 O1 (.asg 5 (.c (.int .i64 0)))])
 (.block 0
 (.loop [4, 6, 7, 8, 9, 10, 11, 12, 13, 14, 15, 16, 17, 18, 19, 20, 21]
 (.seq
 (.seq
 (.ops [
 O1 (.mv 6 (.t 5)), O1 (.faddr 7 (.t 2) 1 1), O1 (.load 8 false 1 (.t 7)), O1 (.len 9 false (.t 8)), O1 (.bin 10 .lss (.t 6) (.t 9))])
 (.cond (.t 10)
 .skip
 (.exit 0)))
 (.seq
 (.block 1
 (.seq
 (.ops [
 O1 (.faddr 13 (.t 2) 1 1), O1 (.load 14 false 1 (.t 13)), O1 (.mv 15 (.t 5)), O1 (.iaddr 16 3 (.t 14) (.t 15)), O1 (.faddr 17 (.t 16) 0 0), O1 (.load 18 false 1 (.t 17)), O1 (.mv 19 (.t 1)), O1 (.bin 20 .eql (.t 18) (.t 19))])
 (.cond (.t 20)
 (.seq
 (.ops [
 O1 (.mv 21 (.t 5)), O1 (.asg 4 (.t 21))])
 .ret)
 .skip)))
 (.ops [
 O1 (.mv 11 (.t 5)), O1 (.bin 12 .add (.t 11) (.c (.int .i64 1))), O1 (.asg 5 (.t 12))]))))))
 (.seq
 (.ops [
 O1 (.asg 4 (.c (.int .i64 (-1))))])
 .ret)))
def rets_exchequerref15_Tenant : List Ret := [.t 4]
theorem of_exchequerref15_Tenant {args : List SV} {Post : SV → List SV → Prop} (h : wqF Try.prog 22 ir_exchequerref15_Tenant rets_exchequerref15_Tenant args Post) (hn : args.length ≤ 22) : Fn Try.prog 30 args Post :=
 Fn.of_body' Try.func30 rfl Try.ntmps30 (by kernel_rfl) (by kernel_rfl) hn (wqF_wp h)
/-- exchequer/exchequerref04.Right · parameters [string] -/
abbrev F_exchequerref04_Right : FuncId := 31
def ir_exchequerref04_Right : Stm :=
 (.seq
 (.ops [
 O1 (.asg 2 (.c (.bool false)))])
 (.seq
 (.ops [
 O1 (.asg 3 (.c (.int .i64 0)))])
 (.seq
 (.seq
 (.ops [
 O1 (.asg 4 (.c (.int .i64 0)))])
 (.block 0
 (.loop [2, 5, 6, 7, 8, 9, 10, 11, 12, 13, 14, 15, 16, 17, 18, 19, 20, 21, 22, 23, 24, 25, 26, 27, 28, 29, 30, 31, 32, 33, 34, 35, 36, 37, 38, 39, 40, 41, 42, 43, 44, 45, 46, 47, 48, 49, 50, 51, 52, 53, 54, 55, 56, 57, 58, 59, 60, 61, 62, 63, 64, 65, 66, 67, 68, 69, 70, 71]
 (.seq
 (.seq
 (.ops [
 O1 (.mv 7 (.t 4)), O1 (.mv 8 (.t 0)), O1 (.len 9 true (.t 8)), O1 (.bin 10 .lss (.t 7) (.t 9))])
 (.cond (.t 10)
 .skip
 (.exit 0)))
 (.block 1
 (.seq
 (.ops [
 O1 (.mv 11 (.t 0)), O1 (.mv 12 (.t 4)), O1 (.slc 13 true 1 (.t 11) (some (.t 12)) none), .call none (some 14) 60 [(false, (.t 13))], O1 (.asg 5 (.t 14))])
 (.seq
 (.seq
 (.ops [
 O1 (.mv 15 (.t 5)), O1 (.bin 16 .eql (.t 15) (.c (.int .i64 0)))])
 (.cond (.t 16)
 (.seq
 (.ops [
 O1 (.asg 2 (.c (.bool false)))])
 .ret)
 .skip))
 (.seq
 (.ops [
 O1 (.mv 17 (.t 0)), O1 (.mv 18 (.t 4)), O1 (.sidx 19 (.t 17) (.t 18)), O1 (.asg 6 (.t 19))])
 (.seq
 (.seq
 (.ops [
 O1 (.mv 20 (.t 5)), O1 (.bin 21 .eql (.t 20) (.c (.int .i64 1))), O1 (.mv 22 (.t 21)), .op (some (22, true)) (.mv 23 (.t 6)), .op (some (22, true)) (.bin 24 .geq (.t 23) (.c (.int .u8 97))), .op (some (22, true)) (.mv 25 (.t 24)), .op (some (25, true)) (.mv 26 (.t 6)), .op (some (25, true)) (.bin 27 .leq (.t 26) (.c (.int .u8 122))), .op (some (22, true)) (.pick 28 (.t 25) (.t 27) (.c (.bool false))), .op (some (22, true)) (.mv 29 (.t 28)), .op (some (29, false)) (.mv 30 (.t 6)), .op (some (29, false)) (.bin 31 .geq (.t 30) (.c (.int .u8 48))), .op (some (29, false)) (.mv 32 (.t 31)), .op (some (32, true)) (.mv 33 (.t 6)), .op (some (32, true)) (.bin 34 .leq (.t 33) (.c (.int .u8 57))), .op (some (29, false)) (.pick 35 (.t 32) (.t 34) (.c (.bool false))), .op (some (22, true)) (.pick 36 (.t 29) (.c (.bool true)) (.t 35)), .op (some (22, true)) (.mv 37 (.t 36)), .op (some (37, false)) (.mv 38 (.t 6)), .op (some (37, false)) (.bin 39 .eql (.t 38) (.c (.int .u8 95))), .op (some (22, true)) (.pick 40 (.t 37) (.c (.bool true)) (.t 39)), .op (some (22, true)) (.mv 41 (.t 40)), .op (some (41, false)) (.mv 42 (.t 6)), .op (some (41, false)) (.bin 43 .eql (.t 42) (.c (.int .u8 45))), .op (some (41, false)) (.mv 44 (.t 43)), .op (some (44, true)) (.mv 45 (.t 4)), .op (some (44, true)) (.bin 46 .gtr (.t 45) (.c (.int .i64 0))), .op (some (41, false)) (.pick 47 (.t 44) (.t 46) (.c (.bool false))), .op (some (22, true)) (.pick 48 (.t 41) (.c (.bool true)) (.t 47)), .op (some (22, true)) (.not 49 (.t 48)), O1 (.pick 50 (.t 22) (.t 49) (.c (.bool false))), O1 (.mv 51 (.t 50)), .op (some (51, false)) (.mv 52 (.t 5)), .op (some (51, false)) (.bin 53 .gtr (.t 52) (.c (.int .i64 1))), .op (some (51, false)) (.mv 54 (.t 53)), .op (some (54, true)) (.mv 55 (.t 0)), .op (some (54, true)) (.mv 56 (.t 4)), .op (some (54, true)) (.mv 57 (.t 4)), .op (some (54, true)) (.mv 58 (.t 5)), .op (some (54, true)) (.bin 59 .add (.t 57) (.t 58)), .op (some (54, true)) (.slc 60 true 1 (.t 55) (some (.t 56)) (some (.t 59))), .call (some (54, true)) (some 61) 61 [(false, (.t 60))], .op (some (54, true)) (.not 62 (.t 61)), .op (some (51, false)) (.pick 63 (.t 54) (.t 62) (.c (.bool false))), O1 (.pick 64 (.t 51) (.c (.bool true)) (.t 63))])
 (.cond (.t 64)
 (.seq
 (.ops [
 O1 (.asg 2 (.c (.bool false)))])
 .ret)
 .skip))
 (.seq
 (.ops [
 O1 (.mv 65 (.t 4)), O1 (.mv 66 (.t 5)), O1 (.bin 67 .add (.t 65) (.t 66)), O1 (.asg 4 (.t 67))])
 (.seq
 (.ops [
 O1 (.mv 68 (.t 3)), O1 (.bin 69 .add (.t 68) (.c (.int .i64 1))), O1 (.asg 3 (.t 69))])
 (.seq
 (.ops [
 O1 (.mv 70 (.t 3)), O1 (.bin 71 .gtr (.t 70) (.c (.int .i64 24)))])
 (.cond (.t 71)
 (.seq
 (.ops [
 O1 (.asg 2 (.c (.bool false)))])
 .ret)
 .skip)))))))))))))
 (.seq
 (.ops [
 O1 (.mv 72 (.t 3)), O1 (.bin 73 .gtr (.t 72) (.c (.int .i64 0))), O1 (.asg 2 (.t 73))])
 .ret))))
def rets_exchequerref04_Right : List Ret := [.t 2]
theorem of_exchequerref04_Right {args : List SV} {Post : SV → List SV → Prop} (h : wqF Try.prog 74 ir_exchequerref04_Right rets_exchequerref04_Right args Post) (hn : args.length ≤ 74) : Fn Try.prog 31 args Post :=
 Fn.of_body' Try.func31 rfl Try.ntmps31 (by kernel_rfl) (by kernel_rfl) hn (wqF_wp h)
/-- exchequer/exchequerref15.num · parameters [int] -/
abbrev F_exchequerref15_num : FuncId := 32
def ir_exchequerref15_num : Stm :=
 (.seq
 (.ops [
 O1 (.asg 2 (.c (.bool false)))])
 (.seq
 (.ops [
 O1 (.mv 3 (.t 0)), O1 (.bin 4 .geq (.t 3) (.c (.int .i64 0))), O1 (.mv 5 (.t 4)), .op (some (5, true)) (.mv 6 (.t 0)), .op (some (5, true)) (.bin 7 .leq (.t 6) (.c (.int .i64 1099511627776))), O1 (.pick 8 (.t 5) (.t 7) (.c (.bool false))), O1 (.asg 2 (.t 8))])
 .ret))
def rets_exchequerref15_num : List Ret := [.t 2]
theorem of_exchequerref15_num {args : List SV} {Post : SV → List SV → Prop} (h : wqF Try.prog 9 ir_exchequerref15_num rets_exchequerref15_num args Post) (hn : args.length ≤ 9) : Fn Try.prog 32 args Post :=
 Fn.of_body' Try.func32 rfl Try.ntmps32 (by kernel_rfl) (by kernel_rfl) hn (wqF_wp h)
/-- exchequer/exchequerref15.addTenant · parameters [[]api.Tenant, api.Tenant] -/
abbrev F_exchequerref15_addTenant : FuncId := 33
def ir_exchequerref15_addTenant : Stm :=
 (.seq
 (.ops [
 O1 (.box 3 (.t 1)), O1 (.asg 4 (.nils 75 3))])
 (.seq
 (.ops [
 O1 (.empty 8 75 3), O1 (.asg 5 (.t 8))])
 (.seq
 (.ops [
 O1 (.asg 6 (.c (.bool false)))])
 (.seq
 (.seq
 (.ops [
 O1 (.asg 7 (.c (.int .i64 0)))])
 (.block 0
 (.loop [9, 10, 11, 12, 13, 14, 15, 16, 17, 18, 19, 20, 21, 22, 23, 24, 25, 26, 27, 28, 29, 30, 31, 32, 33, 34, 35, 36, 37, 40, 44]
 (.seq
 (.seq
 (.ops [
 O1 (.mv 9 (.t 7)), O1 (.mv 10 (.t 0)), O1 (.len 11 false (.t 10)), O1 (.bin 12 .lss (.t 9) (.t 11))])
 (.cond (.t 12)
 .skip
 (.exit 0)))
 (.seq
 (.block 1
 (.seq
 (.seq
 (.drw [[], [0], [1], [2], [3, 2], [2], [2], [5, 6, 2], [7, 2], [8, 2], [4, 9, 2], [2, 10]] [
 O1 (.mv 15 (.t 6)), O1 (.not 16 (.t 15)), O1 (.mv 17 (.t 16)), .op (some (17, true)) (.faddr 18 (.t 3) 0 0), .op (some (17, true)) (.load 19 false 1 (.t 18)), .op (some (17, true)) (.mv 20 (.t 0)), .op (some (17, true)) (.mv 21 (.t 7)), .op (some (17, true)) (.iaddr 22 3 (.t 20) (.t 21)), .op (some (17, true)) (.faddr 23 (.t 22) 0 0), .op (some (17, true)) (.load 24 false 1 (.t 23)), .op (some (17, true)) (.bin 25 .lss (.t 19) (.t 24)), O1 (.pick 26 (.t 17) (.t 25) (.c (.bool false)))])
 (.cond (.t 26)
 (.seq
 (.ops [
 O1 (.mv 27 (.t 5)), O1 (.load 28 true 3 (.t 3)), O1 (.bsl 29 75 3 (.agg [(.str []), (.int .i64 0), (.int .i64 0)]) 1 [(0, (.t 28))]), O1 (.app 30 75 3 32 (.t 27) (.t 29)), O1 (.asg 5 (.t 30))])
 (.ops [
 O1 (.asg 6 (.c (.bool true)))]))
 .skip))
 (.ops [
 O1 (.mv 31 (.t 5)), O1 (.mv 32 (.t 0)), O1 (.mv 33 (.t 7)), O1 (.iaddr 34 3 (.t 32) (.t 33)), O1 (.load 35 true 3 (.t 34)), O1 (.bsl 36 75 3 (.agg [(.str []), (.int .i64 0), (.int .i64 0)]) 1 [(0, (.t 35))]), O1 (.app 37 75 3 32 (.t 31) (.t 36)), O1 (.asg 5 (.t 37))])))
 (.ops [
 O1 (.mv 13 (.t 7)), O1 (.bin 14 .add (.t 13) (.c (.int .i64 1))), O1 (.asg 7 (.t 14))]))))))
 (.seq
 (.seq
 (.ops [
 O1 (.mv 38 (.t 6)), O1 (.not 39 (.t 38))])
 (.cond (.t 39)
 (.ops [
 O1 (.mv 40 (.t 5)), O1 (.load 41 true 3 (.t 3)), O1 (.bsl 42 75 3 (.agg [(.str []), (.int .i64 0), (.int .i64 0)]) 1 [(0, (.t 41))]), O1 (.app 43 75 3 32 (.t 40) (.t 42)), O1 (.asg 5 (.t 43))])
 .skip))
 (.seq
 (.ops [
 O1 (.mv 44 (.t 5)), O1 (.mov 4 75 3 (.t 44))])
 .ret))))))
def rets_exchequerref15_addTenant : List Ret := [.t 4]
theorem of_exchequerref15_addTenant {args : List SV} {Post : SV → List SV → Prop} (h : wqF Try.prog 45 ir_exchequerref15_addTenant rets_exchequerref15_addTenant args Post) (hn : args.length ≤ 45) : Fn Try.prog 33 args Post :=
 Fn.of_body' Try.func33 rfl Try.ntmps33 (by kernel_rfl) (by kernel_rfl) hn (wqF_wp h)
/-- exchequer/exchequerref15.addUser · parameters [[]api.User, api.User] -/
abbrev F_exchequerref15_addUser : FuncId := 34
def ir_exchequerref15_addUser : Stm :=
 (.seq
 (.ops [
 O1 (.box 3 (.t 1)), O1 (.asg 4 (.nils 59 5))])
 (.seq
 (.ops [
 O1 (.empty 8 59 5), O1 (.asg 5 (.t 8))])
 (.seq
 (.ops [
 O1 (.asg 6 (.c (.bool false)))])
 (.seq
 (.seq
 (.ops [
 O1 (.asg 7 (.c (.int .i64 0)))])
 (.block 0
 (.loop [9, 10, 11, 12, 13, 14, 15, 16, 17, 18, 19, 20, 21, 22, 23, 24, 25, 26, 27, 28, 29, 30, 31, 32, 33, 34, 35, 36, 37, 40, 44]
 (.seq
 (.seq
 (.ops [
 O1 (.mv 9 (.t 7)), O1 (.mv 10 (.t 0)), O1 (.len 11 false (.t 10)), O1 (.bin 12 .lss (.t 9) (.t 11))])
 (.cond (.t 12)
 .skip
 (.exit 0)))
 (.seq
 (.block 1
 (.seq
 (.seq
 (.drw [[], [0], [1], [2], [3, 2], [2], [2], [5, 6, 2], [7, 2], [8, 2], [4, 9, 2], [2, 10]] [
 O1 (.mv 15 (.t 6)), O1 (.not 16 (.t 15)), O1 (.mv 17 (.t 16)), .op (some (17, true)) (.faddr 18 (.t 3) 0 0), .op (some (17, true)) (.load 19 false 1 (.t 18)), .op (some (17, true)) (.mv 20 (.t 0)), .op (some (17, true)) (.mv 21 (.t 7)), .op (some (17, true)) (.iaddr 22 5 (.t 20) (.t 21)), .op (some (17, true)) (.faddr 23 (.t 22) 0 0), .op (some (17, true)) (.load 24 false 1 (.t 23)), .op (some (17, true)) (.bin 25 .lss (.t 19) (.t 24)), O1 (.pick 26 (.t 17) (.t 25) (.c (.bool false)))])
 (.cond (.t 26)
 (.seq
 (.ops [
 O1 (.mv 27 (.t 5)), O1 (.load 28 true 5 (.t 3)), O1 (.bsl 29 59 5 (.agg [(.str []), (.str []), (.str []), (.str []), (.list [])]) 1 [(0, (.t 28))]), O1 (.app 30 59 5 88 (.t 27) (.t 29)), O1 (.asg 5 (.t 30))])
 (.ops [
 O1 (.asg 6 (.c (.bool true)))]))
 .skip))
 (.ops [
 O1 (.mv 31 (.t 5)), O1 (.mv 32 (.t 0)), O1 (.mv 33 (.t 7)), O1 (.iaddr 34 5 (.t 32) (.t 33)), O1 (.load 35 true 5 (.t 34)), O1 (.bsl 36 59 5 (.agg [(.str []), (.str []), (.str []), (.str []), (.list [])]) 1 [(0, (.t 35))]), O1 (.app 37 59 5 88 (.t 31) (.t 36)), O1 (.asg 5 (.t 37))])))
 (.ops [
 O1 (.mv 13 (.t 7)), O1 (.bin 14 .add (.t 13) (.c (.int .i64 1))), O1 (.asg 7 (.t 14))]))))))
 (.seq
 (.seq
 (.ops [
 O1 (.mv 38 (.t 6)), O1 (.not 39 (.t 38))])
 (.cond (.t 39)
 (.ops [
 O1 (.mv 40 (.t 5)), O1 (.load 41 true 5 (.t 3)), O1 (.bsl 42 59 5 (.agg [(.str []), (.str []), (.str []), (.str []), (.list [])]) 1 [(0, (.t 41))]), O1 (.app 43 59 5 88 (.t 40) (.t 42)), O1 (.asg 5 (.t 43))])
 .skip))
 (.seq
 (.ops [
 O1 (.mv 44 (.t 5)), O1 (.mov 4 59 5 (.t 44))])
 .ret))))))
def rets_exchequerref15_addUser : List Ret := [.t 4]
theorem of_exchequerref15_addUser {args : List SV} {Post : SV → List SV → Prop} (h : wqF Try.prog 45 ir_exchequerref15_addUser rets_exchequerref15_addUser args Post) (hn : args.length ≤ 45) : Fn Try.prog 34 args Post :=
 Fn.of_body' Try.func34 rfl Try.ntmps34 (by kernel_rfl) (by kernel_rfl) hn (wqF_wp h)
/-- exchequer/exchequerref15.Hash · parameters [string, string] -/
abbrev F_exchequerref15_Hash : FuncId := 35
def ir_exchequerref15_Hash : Stm :=
 (.seq
 (.ops [
 O1 (.asg 4 (.c (.str [])))])
 (.seq
 (.ops [
 O1 (.mv 7 (.t 0)), O1 (.mv 8 (.t 1)), O1 (.bsl 9 9 1 (.str []) 2 [(0, (.t 7)), (1, (.t 8))]), .call none (some 10) 63 [(false, (.t 9))], .call none (some 11) 62 [(false, (.t 10))], O1 (.asg 5 (.t 11))])
 (.seq
 (.seq
 (.ops [
 O1 (.asg 6 (.c (.int .i64 0)))])
 (.block 0
 (.loop [12, 13, 14, 15, 16, 17, 18, 19, 20]
 (.seq
 (.seq
 (.ops [
 O1 (.mv 12 (.t 6)), O1 (.bin 13 .lss (.t 12) (.c (.int .i64 8)))])
 (.cond (.t 13)
 .skip
 (.exit 0)))
 (.seq
 (.block 1
 (.ops [
 O1 (.mv 16 (.t 5)), O1 (.mv 17 (.t 0)), O1 (.bsl 18 9 1 (.str []) 2 [(0, (.t 16)), (1, (.t 17))]), .call none (some 19) 63 [(false, (.t 18))], .call none (some 20) 62 [(false, (.t 19))], O1 (.asg 5 (.t 20))]))
 (.ops [
 O1 (.mv 14 (.t 6)), O1 (.bin 15 .add (.t 14) (.c (.int .i64 1))), O1 (.asg 6 (.t 15))]))))))
 (.seq
 (.ops [
 O1 (.mv 21 (.t 5)), O1 (.asg 4 (.t 21))])
 .ret))))
def rets_exchequerref15_Hash : List Ret := [.t 4]
theorem of_exchequerref15_Hash {args : List SV} {Post : SV → List SV → Prop} (h : wqF Try.prog 22 ir_exchequerref15_Hash rets_exchequerref15_Hash args Post) (hn : args.length ≤ 22) : Fn Try.prog 35 args Post :=
 Fn.of_body' Try.func35 rfl Try.ntmps35 (by kernel_rfl) (by kernel_rfl) hn (wqF_wp h)
/-- exchequer/exchequerref15.addRole · parameters [[]api.Role, api.Role] -/
abbrev F_exchequerref15_addRole : FuncId := 36
def ir_exchequerref15_addRole : Stm :=
 (.seq
 (.ops [
 O1 (.box 3 (.t 1)), O1 (.asg 4 (.nils 56 3))])
 (.seq
 (.ops [
 O1 (.empty 8 56 3), O1 (.asg 5 (.t 8))])
 (.seq
 (.ops [
 O1 (.asg 6 (.c (.bool false)))])
 (.seq
 (.seq
 (.ops [
 O1 (.asg 7 (.c (.int .i64 0)))])
 (.block 0
 (.loop [9, 10, 11, 12, 13, 14, 15, 16, 17, 18, 19, 20, 21, 22, 23, 24, 25, 26, 27, 28, 29, 30, 31, 32, 33, 34, 35, 36, 37, 40, 44]
 (.seq
 (.seq
 (.ops [
 O1 (.mv 9 (.t 7)), O1 (.mv 10 (.t 0)), O1 (.len 11 false (.t 10)), O1 (.bin 12 .lss (.t 9) (.t 11))])
 (.cond (.t 12)
 .skip
 (.exit 0)))
 (.seq
 (.block 1
 (.seq
 (.seq
 (.drw [[], [0], [1], [2], [3, 2], [2], [2], [5, 6, 2], [7, 2], [8, 2], [4, 9, 2], [2, 10]] [
 O1 (.mv 15 (.t 6)), O1 (.not 16 (.t 15)), O1 (.mv 17 (.t 16)), .op (some (17, true)) (.faddr 18 (.t 3) 0 0), .op (some (17, true)) (.load 19 false 1 (.t 18)), .op (some (17, true)) (.mv 20 (.t 0)), .op (some (17, true)) (.mv 21 (.t 7)), .op (some (17, true)) (.iaddr 22 3 (.t 20) (.t 21)), .op (some (17, true)) (.faddr 23 (.t 22) 0 0), .op (some (17, true)) (.load 24 false 1 (.t 23)), .op (some (17, true)) (.bin 25 .lss (.t 19) (.t 24)), O1 (.pick 26 (.t 17) (.t 25) (.c (.bool false)))])
 (.cond (.t 26)
 (.seq
 (.ops [
 O1 (.mv 27 (.t 5)), O1 (.load 28 true 3 (.t 3)), O1 (.bsl 29 56 3 (.agg [(.str []), (.str []), (.list [])]) 1 [(0, (.t 28))]), O1 (.app 30 56 3 56 (.t 27) (.t 29)), O1 (.asg 5 (.t 30))])
 (.ops [
 O1 (.asg 6 (.c (.bool true)))]))
 .skip))
 (.ops [
 O1 (.mv 31 (.t 5)), O1 (.mv 32 (.t 0)), O1 (.mv 33 (.t 7)), O1 (.iaddr 34 3 (.t 32) (.t 33)), O1 (.load 35 true 3 (.t 34)), O1 (.bsl 36 56 3 (.agg [(.str []), (.str []), (.list [])]) 1 [(0, (.t 35))]), O1 (.app 37 56 3 56 (.t 31) (.t 36)), O1 (.asg 5 (.t 37))])))
 (.ops [
 O1 (.mv 13 (.t 7)), O1 (.bin 14 .add (.t 13) (.c (.int .i64 1))), O1 (.asg 7 (.t 14))]))))))
 (.seq
 (.seq
 (.ops [
 O1 (.mv 38 (.t 6)), O1 (.not 39 (.t 38))])
 (.cond (.t 39)
 (.ops [
 O1 (.mv 40 (.t 5)), O1 (.load 41 true 3 (.t 3)), O1 (.bsl 42 56 3 (.agg [(.str []), (.str []), (.list [])]) 1 [(0, (.t 41))]), O1 (.app 43 56 3 56 (.t 40) (.t 42)), O1 (.asg 5 (.t 43))])
 .skip))
 (.seq
 (.ops [
 O1 (.mv 44 (.t 5)), O1 (.mov 4 56 3 (.t 44))])
 .ret))))))
def rets_exchequerref15_addRole : List Ret := [.t 4]
theorem of_exchequerref15_addRole {args : List SV} {Post : SV → List SV → Prop} (h : wqF Try.prog 45 ir_exchequerref15_addRole rets_exchequerref15_addRole args Post) (hn : args.length ≤ 45) : Fn Try.prog 36 args Post :=
 Fn.of_body' Try.func36 rfl Try.ntmps36 (by kernel_rfl) (by kernel_rfl) hn (wqF_wp h)
/-- exchequer/exchequerref15.having · parameters [api.Roll, api.Roll, api.Cmd, int] -/
abbrev F_exchequerref15_having : FuncId := 37
def ir_exchequerref15_having : Stm :=
 (.seq
 (.ops [
 O1 (.boxD 4 (.t 0)), O1 (.boxD 5 (.t 1)), O1 (.boxD 6 (.t 2)), O1 (.allocD 8 (.st [(.it (.int .i64 0)), (.vec 75 3 []), (.vec 59 5 []), (.vec 56 3 [])])), O1 (.asg 9 (.c (.int .i64 0)))])
 (.seq
 (.seq
 (.ops [
 O1 (.mv 12 (.t 3)), O1 (.bin 13 .lss (.t 12) (.c (.int .i64 0)))])
 (.cond (.t 13)
 (.seq
 (.ops [
 O1 (.load 14 true 4 (.t 4)), O1 (.store 4 (.t 8) (.t 14)), O1 (.asg 9 (.c (.int .i64 16)))])
 .ret)
 .skip))
 (.seq
 (.ops [
 O1 (.faddr 15 (.t 4) 2 2), O1 (.load 16 false 1 (.t 15)), O1 (.mv 17 (.t 3)), O1 (.iaddr 18 5 (.t 16) (.t 17)), O1 (.faddr 19 (.t 18) 4 4), O1 (.load 20 false 1 (.t 19)), O1 (.asg 10 (.t 20))])
 (.seq
 (.seq
 (.ops [
 O1 (.faddr 21 (.t 6) 3 3), O1 (.load 22 false 1 (.t 21)), O1 (.bin 23 .eql (.t 22) (.c (.int .i64 14)))])
 (.cond (.t 23)
 (.seq
 (.seq
 (.ops [
 O1 (.mv 24 (.t 10)), O1 (.faddr 25 (.t 6) 5 5), O1 (.load 26 false 1 (.t 25)), .call none (some 27) 64 [(false, (.t 24)), (false, (.t 26))], O1 (.not 28 (.t 27))])
 (.cond (.t 28)
 (.seq
 (.ops [
 O1 (.load 29 true 4 (.t 4)), O1 (.store 4 (.t 8) (.t 29)), O1 (.asg 9 (.c (.int .i64 16)))])
 .ret)
 .skip))
 (.seq
 (.drw [[], [0], [], [], [3], [], [4, 5], [6], [7], [], [9], [8, 10], [1, 2, 0, 3, 4, 5, 6, 7, 8, 9, 10, 11], [12, 0, 1, 2, 3, 4, 5, 6, 7, 8, 9, 10, 11], [13, 11, 0, 1, 2, 3, 4, 5, 6, 7, 8, 9, 10]] [
 O1 (.faddr 30 (.t 5) 2 2), O1 (.load 31 false 1 (.t 30)), O1 (.mv 32 (.t 3)), O1 (.faddr 33 (.t 5) 2 2), O1 (.load 34 false 1 (.t 33)), O1 (.mv 35 (.t 3)), O1 (.iaddr 36 5 (.t 34) (.t 35)), O1 (.faddr 37 (.t 36) 4 4), O1 (.load 38 false 1 (.t 37)), O1 (.faddr 39 (.t 6) 5 5), O1 (.load 40 false 1 (.t 39)), .call none (some 41) 40 [(false, (.t 38)), (false, (.t 40))], O1 (.iaddr 42 5 (.t 31) (.t 32)), O1 (.faddr 43 (.t 42) 4 4), O1 (.store 1 (.t 43) (.t 41))])
 (.seq
 (.ops [
 O1 (.load 44 true 4 (.t 5)), O1 (.store 4 (.t 8) (.t 44)), O1 (.asg 9 (.c (.int .i64 0)))])
 .ret)))
 .skip))
 (.seq
 (.ops [
 O1 (.load 45 true 4 (.t 4)), O1 (.faddr 46 (.t 6) 5 5), O1 (.load 47 false 1 (.t 46)), .call none (some 48) 18 [(false, (.t 45)), (false, (.t 47))], O1 (.asg 11 (.t 48))])
 (.seq
 (.seq
 (.ops [
 O1 (.mv 49 (.t 11)), O1 (.bin 50 .lss (.t 49) (.c (.int .i64 0)))])
 (.cond (.t 50)
 (.seq
 (.ops [
 O1 (.load 51 true 4 (.t 4)), O1 (.store 4 (.t 8) (.t 51)), O1 (.asg 9 (.c (.int .i64 16)))])
 .ret)
 .skip))
 (.seq
 (.seq
 (.drw [[], [0], [], [1, 2], [3], [4], [], [6], [], [7, 8], [9], [10], [5, 11]] [
 O1 (.faddr 52 (.t 4) 3 3), O1 (.load 53 false 1 (.t 52)), O1 (.mv 54 (.t 11)), O1 (.iaddr 55 3 (.t 53) (.t 54)), O1 (.faddr 56 (.t 55) 1 1), O1 (.load 57 false 1 (.t 56)), O1 (.faddr 58 (.t 4) 2 2), O1 (.load 59 false 1 (.t 58)), O1 (.mv 60 (.t 3)), O1 (.iaddr 61 5 (.t 59) (.t 60)), O1 (.faddr 62 (.t 61) 1 1), O1 (.load 63 false 1 (.t 62)), O1 (.bin 64 .neq (.t 57) (.t 63))])
 (.cond (.t 64)
 (.seq
 (.ops [
 O1 (.load 65 true 4 (.t 4)), O1 (.store 4 (.t 8) (.t 65)), O1 (.asg 9 (.c (.int .i64 18)))])
 .ret)
 .skip))
 (.seq
 (.seq
 (.ops [
 O1 (.mv 66 (.t 10)), O1 (.faddr 67 (.t 6) 5 5), O1 (.load 68 false 1 (.t 67)), .call none (some 69) 64 [(false, (.t 66)), (false, (.t 68))]])
 (.cond (.t 69)
 (.seq
 (.ops [
 O1 (.load 70 true 4 (.t 4)), O1 (.store 4 (.t 8) (.t 70)), O1 (.asg 9 (.c (.int .i64 15)))])
 .ret)
 .skip))
 (.seq
 (.seq
 (.ops [
 O1 (.mv 71 (.t 10)), O1 (.len 72 false (.t 71)), O1 (.bin 73 .geq (.t 72) (.c (.int .i64 4)))])
 (.cond (.t 73)
 (.seq
 (.ops [
 O1 (.load 74 true 4 (.t 4)), O1 (.store 4 (.t 8) (.t 74)), O1 (.asg 9 (.c (.int .i64 17)))])
 .ret)
 .skip))
 (.seq
 (.drw [[], [0], [], [], [3], [], [4, 5], [6], [7], [], [9], [8, 10], [1, 2, 0, 3, 4, 5, 6, 7, 8, 9, 10, 11], [12, 0, 1, 2, 3, 4, 5, 6, 7, 8, 9, 10, 11], [13, 11, 0, 1, 2, 3, 4, 5, 6, 7, 8, 9, 10]] [
 O1 (.faddr 75 (.t 5) 2 2), O1 (.load 76 false 1 (.t 75)), O1 (.mv 77 (.t 3)), O1 (.faddr 78 (.t 5) 2 2), O1 (.load 79 false 1 (.t 78)), O1 (.mv 80 (.t 3)), O1 (.iaddr 81 5 (.t 79) (.t 80)), O1 (.faddr 82 (.t 81) 4 4), O1 (.load 83 false 1 (.t 82)), O1 (.faddr 84 (.t 6) 5 5), O1 (.load 85 false 1 (.t 84)), .call none (some 86) 65 [(false, (.t 83)), (false, (.t 85))], O1 (.iaddr 87 5 (.t 76) (.t 77)), O1 (.faddr 88 (.t 87) 4 4), O1 (.store 1 (.t 88) (.t 86))])
 (.seq
 (.ops [
 O1 (.load 89 true 4 (.t 5)), O1 (.store 4 (.t 8) (.t 89)), O1 (.asg 9 (.c (.int .i64 0)))])
 .ret)))))))))))
def rets_exchequerref15_having : List Ret := [.cell 8 true 4, .t 9]
theorem ofd_exchequerref15_having {args : List SV} {Post : SV → List SV → Prop} (h : wqFD Try.prog 90 ir_exchequerref15_having rets_exchequerref15_having args Post) (hn : args.length ≤ 90) : Fn Try.prog 37 args Post :=
 Fn.of_bodyD Try.func37 rfl Try.ntmps37 (by kernel_rfl) (by kernel_rfl) hn h
/-- exchequer/exchequerref15.Grant · parameters [api.Grant] -/
abbrev F_exchequerref15_Grant : FuncId := 38
def ir_exchequerref15_Grant : Stm :=
 (.seq
 (.ops [
 O1 (.box 1 (.t 0)), O1 (.asg 2 (.c (.bool false)))])
 (.seq
 (.ops [
 O1 (.faddr 3 (.t 1) 0 0), O1 (.load 4 true 2 (.t 3)), .call none (some 5) 39 [(false, (.t 4))], O1 (.mv 6 (.t 5)), .op (some (6, true)) (.faddr 7 (.t 1) 1 2), .op (some (6, true)) (.load 8 false 1 (.t 7)), .op (some (6, true)) (.mv 9 (.t 8)), .op (some (9, false)) (.faddr 10 (.t 1) 2 3), .op (some (9, false)) (.load 11 false 1 (.t 10)), .op (some (6, true)) (.pick 12 (.t 9) (.c (.bool true)) (.t 11)), O1 (.pick 13 (.t 6) (.t 12) (.c (.bool false))), O1 (.asg 2 (.t 13))])
 .ret))
def rets_exchequerref15_Grant : List Ret := [.t 2]
theorem of_exchequerref15_Grant {args : List SV} {Post : SV → List SV → Prop} (h : wqF Try.prog 14 ir_exchequerref15_Grant rets_exchequerref15_Grant args Post) (hn : args.length ≤ 14) : Fn Try.prog 38 args Post :=
 Fn.of_body' Try.func38 rfl Try.ntmps38 (by kernel_rfl) (by kernel_rfl) hn (wqF_wp h)
/-- exchequer/exchequerref05.Right · parameters [api.Span] -/
abbrev F_exchequerref05_Right : FuncId := 39
def ir_exchequerref05_Right : Stm :=
 (.seq
 (.ops [
 O1 (.box 1 (.t 0)), O1 (.asg 2 (.c (.bool false)))])
 (.seq
 (.seq
 (.ops [
 O1 (.faddr 3 (.t 1) 0 0), O1 (.load 4 false 1 (.t 3)), O1 (.len 5 true (.t 4)), O1 (.bin 6 .gtr (.t 5) (.c (.int .i64 65))), O1 (.mv 7 (.t 6)), .op (some (7, false)) (.faddr 8 (.t 1) 1 1), .op (some (7, false)) (.load 9 false 1 (.t 8)), .op (some (7, false)) (.len 10 true (.t 9)), .op (some (7, false)) (.bin 11 .gtr (.t 10) (.c (.int .i64 65))), O1 (.pick 12 (.t 7) (.c (.bool true)) (.t 11))])
 (.cond (.t 12)
 (.seq
 (.ops [
 O1 (.asg 2 (.c (.bool false)))])
 .ret)
 .skip))
 (.seq
 (.ops [
 O1 (.faddr 13 (.t 1) 1 1), O1 (.load 14 false 1 (.t 13)), O1 (.bin 15 .eql (.t 14) (.c (.str []))), O1 (.mv 16 (.t 15)), .op (some (16, false)) (.faddr 17 (.t 1) 1 1), .op (some (16, false)) (.load 18 false 1 (.t 17)), .op (some (16, false)) (.faddr 19 (.t 1) 0 0), .op (some (16, false)) (.load 20 false 1 (.t 19)), .op (some (16, false)) (.bin 21 .gtr (.t 18) (.t 20)), O1 (.pick 22 (.t 16) (.c (.bool true)) (.t 21)), O1 (.asg 2 (.t 22))])
 .ret)))
def rets_exchequerref05_Right : List Ret := [.t 2]
theorem of_exchequerref05_Right {args : List SV} {Post : SV → List SV → Prop} (h : wqF Try.prog 23 ir_exchequerref05_Right rets_exchequerref05_Right args Post) (hn : args.length ≤ 23) : Fn Try.prog 39 args Post :=
 Fn.of_body' Try.func39 rfl Try.ntmps39 (by kernel_rfl) (by kernel_rfl) hn (wqF_wp h)
/-- exchequer/exchequerref15.without · parameters [[]string, string] -/
abbrev F_exchequerref15_without : FuncId := 40
def ir_exchequerref15_without : Stm :=
 (.seq
 (.ops [
 O1 (.asg 4 (.nils 9 1))])
 (.seq
 (.ops [
 O1 (.empty 7 9 1), O1 (.asg 5 (.t 7))])
 (.seq
 (.seq
 (.ops [
 O1 (.asg 6 (.c (.int .i64 0)))])
 (.block 0
 (.loop [8, 9, 10, 11, 12, 13, 14, 15, 16, 17, 18, 19, 20, 21, 22, 23, 24, 25, 26, 27]
 (.seq
 (.seq
 (.ops [
 O1 (.mv 8 (.t 6)), O1 (.mv 9 (.t 0)), O1 (.len 10 false (.t 9)), O1 (.bin 11 .lss (.t 8) (.t 10))])
 (.cond (.t 11)
 .skip
 (.exit 0)))
 (.seq
 (.block 1
 (.seq
 (.ops [
 O1 (.mv 14 (.t 0)), O1 (.mv 15 (.t 6)), O1 (.iaddr 16 1 (.t 14) (.t 15)), O1 (.load 17 false 1 (.t 16)), O1 (.mv 18 (.t 1)), O1 (.bin 19 .neq (.t 17) (.t 18))])
 (.cond (.t 19)
 (.ops [
 O1 (.mv 20 (.t 5)), O1 (.mv 21 (.t 0)), O1 (.mv 22 (.t 6)), O1 (.iaddr 23 1 (.t 21) (.t 22)), O1 (.load 24 false 1 (.t 23)), O1 (.bsl 25 9 1 (.str []) 1 [(0, (.t 24))]), O1 (.app 26 9 1 16 (.t 20) (.t 25)), O1 (.asg 5 (.t 26))])
 .skip)))
 (.ops [
 O1 (.mv 12 (.t 6)), O1 (.bin 13 .add (.t 12) (.c (.int .i64 1))), O1 (.asg 6 (.t 13))]))))))
 (.seq
 (.ops [
 O1 (.mv 27 (.t 5)), O1 (.mov 4 9 1 (.t 27))])
 .ret))))
def rets_exchequerref15_without : List Ret := [.t 4]
theorem of_exchequerref15_without {args : List SV} {Post : SV → List SV → Prop} (h : wqF Try.prog 28 ir_exchequerref15_without rets_exchequerref15_without args Post) (hn : args.length ≤ 28) : Fn Try.prog 40 args Post :=
 Fn.of_body' Try.func40 rfl Try.ntmps40 (by kernel_rfl) (by kernel_rfl) hn (wqF_wp h)
/-- exchequer/exchequerref15.hasGrant · parameters [[]api.Grant, api.Grant] -/
abbrev F_exchequerref15_hasGrant : FuncId := 41
def ir_exchequerref15_hasGrant : Stm :=
 (.seq
 (.ops [
 O1 (.box 3 (.t 1)), O1 (.asg 4 (.c (.bool false)))])
 (.seq
 (.seq
 (.ops [
 O1 (.asg 5 (.c (.int .i64 0)))])
 (.block 0
 (.loop [4, 6, 7, 8, 9, 10, 11, 12, 13, 14, 15, 16, 17]
 (.seq
 (.seq
 (.ops [
 O1 (.mv 6 (.t 5)), O1 (.mv 7 (.t 0)), O1 (.len 8 false (.t 7)), O1 (.bin 9 .lss (.t 6) (.t 8))])
 (.cond (.t 9)
 .skip
 (.exit 0)))
 (.seq
 (.block 1
 (.seq
 (.drw [[], [], [0, 1], [2], [], [3, 4]] [
 O1 (.mv 12 (.t 0)), O1 (.mv 13 (.t 5)), O1 (.iaddr 14 4 (.t 12) (.t 13)), O1 (.load 15 true 4 (.t 14)), O1 (.load 16 true 4 (.t 3)), O1 (.eqs 17 false (.st [(.st [.str, .str]), .bool, .bool]) (.t 15) (.t 16))])
 (.cond (.t 17)
 (.seq
 (.ops [
 O1 (.asg 4 (.c (.bool true)))])
 .ret)
 .skip)))
 (.ops [
 O1 (.mv 10 (.t 5)), O1 (.bin 11 .add (.t 10) (.c (.int .i64 1))), O1 (.asg 5 (.t 11))]))))))
 (.seq
 (.ops [
 O1 (.asg 4 (.c (.bool false)))])
 .ret)))
def rets_exchequerref15_hasGrant : List Ret := [.t 4]
theorem of_exchequerref15_hasGrant {args : List SV} {Post : SV → List SV → Prop} (h : wqF Try.prog 18 ir_exchequerref15_hasGrant rets_exchequerref15_hasGrant args Post) (hn : args.length ≤ 18) : Fn Try.prog 41 args Post :=
 Fn.of_body' Try.func41 rfl Try.ntmps41 (by kernel_rfl) (by kernel_rfl) hn (wqF_wp h)
/-- exchequer/exchequerref05.Minus · parameters [[]api.Span, api.Span] -/
abbrev F_exchequerref05_Minus : FuncId := 42
def ir_exchequerref05_Minus : Stm :=
 (.seq
 (.ops [
 O1 (.box 3 (.t 1)), O1 (.asg 4 (.nils 41 2))])
 (.seq
 (.drw [[], [], [0, 1], [], [3], [2, 4], [5], [6, 0, 1, 2, 3, 4, 5]] [
 O1 (.empty 8 41 2), O1 (.mv 9 (.t 0)), O1 (.app 10 41 2 32 (.t 8) (.t 9)), O1 (.load 11 true 2 (.t 3)), O1 (.bsl 12 41 2 (.agg [(.str []), (.str [])]) 1 [(0, (.t 11))]), O1 (.app 13 41 2 32 (.t 10) (.t 12)), .call none (some 14) 24 [(false, (.t 13))], O1 (.asg 5 (.t 14))])
 (.seq
 (.ops [
 O1 (.empty 15 4 1), O1 (.asg 6 (.t 15))])
 (.seq
 (.seq
 (.ops [
 O1 (.asg 7 (.c (.int .i64 0)))])
 (.block 0
 (.loop [9, 16, 17, 18, 19, 20, 21, 22, 23, 24, 25, 26, 27, 28, 29, 30, 31, 32, 33, 34, 35, 36, 37, 38, 39, 40, 41, 42, 43, 44, 45]
 (.seq
 (.seq
 (.ops [
 O1 (.mv 16 (.t 7)), O1 (.mv 17 (.t 5)), O1 (.len 18 false (.t 17)), O1 (.bin 19 .lss (.t 16) (.t 18))])
 (.cond (.t 19)
 .skip
 (.exit 0)))
 (.seq
 (.block 1
 (.drw [[], [], [], [], [2, 3], [4], [1, 5], [6], [7], [8, 7], [9, 7], [10], [10], [10], [12, 13, 10], [14, 10], [11, 15, 10], [10, 16, 7], [17, 7], [7, 18], [19], [0, 20, 16], [21, 0, 1, 2, 3, 4, 5, 6, 7, 8, 9, 10, 11, 12, 13, 14, 15, 16, 17, 18, 19, 20]] [
 O1 (.mv 22 (.t 6)), O1 (.mv 23 (.t 0)), O1 (.mv 24 (.t 5)), O1 (.mv 25 (.t 7)), O1 (.iaddr 26 1 (.t 24) (.t 25)), O1 (.load 27 false 1 (.t 26)), .call none (some 28) 25 [(false, (.t 23)), (false, (.t 27))], O1 (.mv 29 (.t 28)), .op (some (29, true)) (.load 30 true 2 (.t 3)), .call (some (29, true)) (some 31) 39 [(false, (.t 30))], .op (some (29, true)) (.mv 32 (.t 31)), .op (some (32, true)) (.load 33 true 2 (.t 3)), .op (some (32, true)) (.mv 34 (.t 5)), .op (some (32, true)) (.mv 35 (.t 7)), .op (some (32, true)) (.iaddr 36 1 (.t 34) (.t 35)), .op (some (32, true)) (.load 37 false 1 (.t 36)), .call (some (32, true)) (some 38) 16 [(false, (.t 33)), (false, (.t 37))], .op (some (29, true)) (.pick 39 (.t 32) (.t 38) (.c (.bool false))), .op (some (29, true)) (.not 40 (.t 39)), O1 (.pick 41 (.t 29) (.t 40) (.c (.bool false))), O1 (.bsl 42 4 1 (.bool false) 1 [(0, (.t 41))]), O1 (.app 43 4 1 1 (.t 22) (.t 42)), O1 (.asg 6 (.t 43))]))
 (.ops [
 O1 (.mv 20 (.t 7)), O1 (.bin 21 .add (.t 20) (.c (.int .i64 1))), O1 (.asg 7 (.t 21))]))))))
 (.seq
 (.ops [
 O1 (.mv 44 (.t 5)), O1 (.mv 45 (.t 6)), .call none (some 46) 26 [(false, (.t 44)), (false, (.t 45))], O1 (.asg 4 (.t 46))])
 .ret)))))
def rets_exchequerref05_Minus : List Ret := [.t 4]
theorem of_exchequerref05_Minus {args : List SV} {Post : SV → List SV → Prop} (h : wqF Try.prog 47 ir_exchequerref05_Minus rets_exchequerref05_Minus args Post) (hn : args.length ≤ 47) : Fn Try.prog 42 args Post :=
 Fn.of_body' Try.func42 rfl Try.ntmps42 (by kernel_rfl) (by kernel_rfl) hn (wqF_wp h)
/-- exchequer/exchequerref15.New · parameters [string, string] -/
abbrev F_exchequerref15_New : FuncId := 43
def ir_exchequerref15_New : Stm :=
 (.seq
 (.ops [
 O1 (.alloc 4 (.one (.i (.agg [(.int .i64 0), (.list []), (.list []), (.list [])])))), O1 (.asg 5 (.c (.bool false)))])
 (.seq
 (.seq
 (.ops [
 O1 (.mv 6 (.t 0)), O1 (.len 7 true (.t 6)), O1 (.bin 8 .gtr (.t 7) (.c (.int .i64 64))), O1 (.mv 9 (.t 8)), .op (some (9, false)) (.mv 10 (.t 1)), .op (some (9, false)) (.len 11 true (.t 10)), .op (some (9, false)) (.bin 12 .gtr (.t 11) (.c (.int .i64 64))), O1 (.pick 13 (.t 9) (.c (.bool true)) (.t 12))])
 (.cond (.t 13)
 (.seq
 (.ops [
 O1 (.build 14 [(.int .i64 0), (.list []), (.list []), (.list [])] []), O1 (.store 4 (.t 4) (.t 14)), O1 (.asg 5 (.c (.bool false)))])
 .ret)
 .skip))
 (.seq
 (.ops [
 O1 (.mv 15 (.t 0)), O1 (.mv 16 (.t 0)), O1 (.mv 17 (.t 1)), .call none (some 18) 35 [(false, (.t 16)), (false, (.t 17))], O1 (.build 19 [(.str []), (.str []), (.str []), (.str []), (.list [])] [(0, (.c (.str [114, 111, 111, 116]))), (2, (.t 15)), (3, (.t 18))]), O1 (.bsl 20 59 5 (.agg [(.str []), (.str []), (.str []), (.str []), (.list [])]) 1 [(0, (.t 19))]), O1 (.build 21 [(.int .i64 0), (.list []), (.list []), (.list [])] [(0, (.c (.int .i64 1))), (2, (.t 20))]), O1 (.store 4 (.t 4) (.t 21)), O1 (.asg 5 (.c (.bool true)))])
 .ret)))
def rets_exchequerref15_New : List Ret := [.cell 4 true 4, .t 5]
theorem of_exchequerref15_New {args : List SV} {Post : SV → List SV → Prop} (h : wqF Try.prog 22 ir_exchequerref15_New rets_exchequerref15_New args Post) (hn : args.length ≤ 22) : Fn Try.prog 43 args Post :=
 Fn.of_body' Try.func43 rfl Try.ntmps43 (by kernel_rfl) (by kernel_rfl) hn (wqF_wp h)
/-- exchequer/roll.get[exchequer/api.User] · parameters [[]api.User, string, func(api.User) string] -/
abbrev F_roll_get_api_User : FuncId := 44
def ir_roll_get_api_User : Stm :=
 (.seq
 (.ops [
 O1 (.alloc 6 (.one (.i (.agg [(.str []), (.str []), (.str []), (.str []), (.list [])])))), O1 (.asg 7 (.c (.bool false)))])
 (.seq
 (.seq
 (.ops [
 O1 (.mv 11 (.t 0)), O1 (.len 12 false (.t 11)), O1 (.mv 13 (.c (.int .i64 0)))])
 (.block 0
 (.loop [7, 9, 14, 15, 16, 17, 18, 19, 20, 21, 22, 23]
 (.seq
 (.ops [
 O1 (.bin 14 .lss (.t 13) (.t 12))])
 (.seq
 (.cond (.t 14)
 .skip
 (.exit 0))
 (.seq
 (.block 1
 (.seq
 (.ops [
 O1 (.iaddr 15 5 (.t 11) (.t 13)), O1 (.load 16 true 5 (.t 15)), O1 (.alloc 9 (.one (.i (.agg [(.str []), (.str []), (.str []), (.str []), (.list [])])))), O1 (.store 5 (.t 9) (.t 16))])
 (.seq
 (.ops [
 O1 (.mv 17 (.t 2)), O1 (.load 18 true 5 (.t 9)),
 .dyn none (some 19) [45] (.t 17) [(false, (.t 18))], O1 (.mv 20 (.t 1)), O1 (.bin 21 .eql (.t 19) (.t 20))])
 (.cond (.t 21)
 (.seq
 (.ops [
 O1 (.load 22 true 5 (.t 9)), O1 (.store 5 (.t 6) (.t 22)), O1 (.asg 7 (.c (.bool true)))])
 .ret)
 .skip))))
 (.ops [
 O1 (.bin 23 .add (.t 13) (.c (.int .i64 1))), O1 (.mv 13 (.t 23))])))))))
 (.seq
 (.ops [
 O1 (.alloc 10 (.one (.i (.agg [(.str []), (.str []), (.str []), (.str []), (.list [])]))))])
 (.seq
 (.ops [
 O1 (.load 24 true 5 (.t 10)), O1 (.store 5 (.t 6) (.t 24)), O1 (.asg 7 (.c (.bool false)))])
 .ret))))
def rets_roll_get_api_User : List Ret := [.cell 6 true 5, .t 7]
theorem of_roll_get_api_User {args : List SV} {Post : SV → List SV → Prop} (h : wqF Try.prog 25 ir_roll_get_api_User rets_roll_get_api_User args Post) (hn : args.length ≤ 25) : Fn Try.prog 44 args Post :=
 Fn.of_body' Try.func44 rfl Try.ntmps44 (by kernel_rfl) (by kernel_rfl) hn (wqF_wp h)
/-- exchequer/roll.userName · parameters [api.User] -/
abbrev F_roll_userName : FuncId := 45
def ir_roll_userName : Stm :=
 (.seq
 (.ops [
 O1 (.box 1 (.t 0)), O1 (.asg 2 (.c (.str [])))])
 (.seq
 (.ops [
 O1 (.faddr 3 (.t 1) 0 0), O1 (.load 4 false 1 (.t 3)), O1 (.asg 2 (.t 4))])
 .ret))
def rets_roll_userName : List Ret := [.t 2]
theorem of_roll_userName {args : List SV} {Post : SV → List SV → Prop} (h : wqF Try.prog 5 ir_roll_userName rets_roll_userName args Post) (hn : args.length ≤ 5) : Fn Try.prog 45 args Post :=
 Fn.of_body' Try.func45 rfl Try.ntmps45 (by kernel_rfl) (by kernel_rfl) hn (wqF_wp h)
/-- slices.Clone[[]string,string] · parameters [[]string] -/
abbrev F_slices_Clone_L_string_string : FuncId := 46
def ir_slices_Clone_L_string_string : Stm :=
 (.seq
 (.ops [
 O1 (.asg 2 (.nils 9 1))])
 (.seq
 (.seq
 (.ops [
 O1 (.mv 3 (.t 0)), O1 (.isnil 4 false (.t 3))])
 (.cond (.t 4)
 (.seq
 (.ops [
 O1 (.asg 2 (.nils 9 1))])
 .ret)
 .skip))
 (.seq
 (.ops [
 O1 (.empty 5 9 1), O1 (.mv 6 (.t 0)), O1 (.app 7 9 1 16 (.t 5) (.t 6)), O1 (.asg 2 (.t 7))])
 .ret)))
def rets_slices_Clone_L_string_string : List Ret := [.t 2]
theorem ofv_slices_Clone_L_string_string {args : List SV} {Post : SV → List SV → Prop} (h : wqFV Try.prog 8 ir_slices_Clone_L_string_string 2 args Post) (hn : args.length ≤ 8) : Fn Try.prog 46 args Post :=
 Fn.of_vec Try.func46 rfl Try.ntmps46 (by kernel_rfl) (by kernel_rfl) (by decide) hn (wqFV_wp h)
/-- exchequer/roll.get[exchequer/api.Role] · parameters [[]api.Role, string, func(api.Role) string] -/
abbrev F_roll_get_api_Role : FuncId := 47
def ir_roll_get_api_Role : Stm :=
 (.seq
 (.ops [
 O1 (.alloc 6 (.one (.i (.agg [(.str []), (.str []), (.list [])])))), O1 (.asg 7 (.c (.bool false)))])
 (.seq
 (.seq
 (.ops [
 O1 (.mv 11 (.t 0)), O1 (.len 12 false (.t 11)), O1 (.mv 13 (.c (.int .i64 0)))])
 (.block 0
 (.loop [7, 9, 14, 15, 16, 17, 18, 19, 20, 21, 22, 23]
 (.seq
 (.ops [
 O1 (.bin 14 .lss (.t 13) (.t 12))])
 (.seq
 (.cond (.t 14)
 .skip
 (.exit 0))
 (.seq
 (.block 1
 (.seq
 (.ops [
 O1 (.iaddr 15 3 (.t 11) (.t 13)), O1 (.load 16 true 3 (.t 15)), O1 (.alloc 9 (.one (.i (.agg [(.str []), (.str []), (.list [])])))), O1 (.store 3 (.t 9) (.t 16))])
 (.seq
 (.ops [
 O1 (.mv 17 (.t 2)), O1 (.load 18 true 3 (.t 9)),
 .dyn none (some 19) [48] (.t 17) [(false, (.t 18))], O1 (.mv 20 (.t 1)), O1 (.bin 21 .eql (.t 19) (.t 20))])
 (.cond (.t 21)
 (.seq
 (.ops [
 O1 (.load 22 true 3 (.t 9)), O1 (.store 3 (.t 6) (.t 22)), O1 (.asg 7 (.c (.bool true)))])
 .ret)
 .skip))))
 (.ops [
 O1 (.bin 23 .add (.t 13) (.c (.int .i64 1))), O1 (.mv 13 (.t 23))])))))))
 (.seq
 (.ops [
 O1 (.alloc 10 (.one (.i (.agg [(.str []), (.str []), (.list [])]))))])
 (.seq
 (.ops [
 O1 (.load 24 true 3 (.t 10)), O1 (.store 3 (.t 6) (.t 24)), O1 (.asg 7 (.c (.bool false)))])
 .ret))))
def rets_roll_get_api_Role : List Ret := [.cell 6 true 3, .t 7]
theorem of_roll_get_api_Role {args : List SV} {Post : SV → List SV → Prop} (h : wqF Try.prog 25 ir_roll_get_api_Role rets_roll_get_api_Role args Post) (hn : args.length ≤ 25) : Fn Try.prog 47 args Post :=
 Fn.of_body' Try.func47 rfl Try.ntmps47 (by kernel_rfl) (by kernel_rfl) hn (wqF_wp h)
/-- exchequer/roll.roleName · parameters [api.Role] -/
abbrev F_roll_roleName : FuncId := 48
def ir_roll_roleName : Stm :=
 (.seq
 (.ops [
 O1 (.box 1 (.t 0)), O1 (.asg 2 (.c (.str [])))])
 (.seq
 (.ops [
 O1 (.faddr 3 (.t 1) 0 0), O1 (.load 4 false 1 (.t 3)), O1 (.asg 2 (.t 4))])
 .ret))
def rets_roll_roleName : List Ret := [.t 2]
theorem of_roll_roleName {args : List SV} {Post : SV → List SV → Prop} (h : wqF Try.prog 5 ir_roll_roleName rets_roll_roleName args Post) (hn : args.length ≤ 5) : Fn Try.prog 48 args Post :=
 Fn.of_body' Try.func48 rfl Try.ntmps48 (by kernel_rfl) (by kernel_rfl) hn (wqF_wp h)
/-- slices.Clone[[]exchequer/api.Grant,exchequer/api.Grant] · parameters [[]api.Grant] -/
abbrev F_slices_Clone_L_api_Grant_api_Grant : FuncId := 49
def ir_slices_Clone_L_api_Grant_api_Grant : Stm :=
 (.seq
 (.ops [
 O1 (.asg 2 (.nils 45 4))])
 (.seq
 (.seq
 (.ops [
 O1 (.mv 3 (.t 0)), O1 (.isnil 4 false (.t 3))])
 (.cond (.t 4)
 (.seq
 (.ops [
 O1 (.asg 2 (.nils 45 4))])
 .ret)
 .skip))
 (.seq
 (.ops [
 O1 (.empty 5 45 4), O1 (.mv 6 (.t 0)), O1 (.app 7 45 4 40 (.t 5) (.t 6)), O1 (.asg 2 (.t 7))])
 .ret)))
def rets_slices_Clone_L_api_Grant_api_Grant : List Ret := [.t 2]
theorem ofv_slices_Clone_L_api_Grant_api_Grant {args : List SV} {Post : SV → List SV → Prop} (h : wqFV Try.prog 8 ir_slices_Clone_L_api_Grant_api_Grant 2 args Post) (hn : args.length ≤ 8) : Fn Try.prog 49 args Post :=
 Fn.of_vec Try.func49 rfl Try.ntmps49 (by kernel_rfl) (by kernel_rfl) (by decide) hn (wqFV_wp h)
/-- slices.DeleteFunc[[]exchequer/api.Span,exchequer/api.Span] · parameters [[]api.Span, func(api.Span) bool] -/
abbrev F_slices_DeleteFunc_L_api_Span_api_Span : FuncId := 50
def ir_slices_DeleteFunc_L_api_Span_api_Span : Stm :=
 (.seq
 (.ops [
 O1 (.asg 4 (.nils 41 2))])
 (.seq
 (.ops [
 O1 (.mv 8 (.t 0)), O1 (.mv 9 (.t 1)),
 .peek none (some 10) 66 [(false, (.t 8)), (false, (.t 9))], O1 (.asg 5 (.t 10))])
 (.seq
 (.seq
 (.ops [
 O1 (.mv 11 (.t 5)), O1 (.bin 12 .eql (.t 11) (.c (.int .i64 (-1))))])
 (.cond (.t 12)
 (.seq
 (.ops [
 O1 (.mv 13 (.t 0)), O1 (.mov 4 41 2 (.t 13))])
 .ret)
 .skip))
 (.seq
 (.seq
 (.ops [
 O1 (.mv 14 (.t 5)), O1 (.bin 15 .add (.t 14) (.c (.int .i64 1))), O1 (.asg 6 (.t 15))])
 (.block 0
 (.loop [7, 8, 13, 16, 17, 18, 19, 20, 21, 22, 23, 24, 25, 26, 27, 28, 29, 30, 31, 32, 33, 34, 35, 36, 39]
 (.seq
 (.seq
 (.ops [
 O1 (.mv 16 (.t 6)), O1 (.mv 17 (.t 0)), O1 (.len 18 false (.t 17)), O1 (.bin 19 .lss (.t 16) (.t 18))])
 (.cond (.t 19)
 .skip
 (.exit 0)))
 (.seq
 (.block 1
 (.seq
 (.ops [
 O1 (.mv 22 (.t 0)), O1 (.mv 23 (.t 6)), O1 (.iaddr 24 2 (.t 22) (.t 23)), O1 (.load 25 true 2 (.t 24)), O1 (.alloc 7 (.one (.i (.agg [(.str []), (.str [])])))), O1 (.store 2 (.t 7) (.t 25))])
 (.seq
 (.ops [
 O1 (.mv 26 (.t 1)), O1 (.load 27 true 2 (.t 7)),
 .dyn none (some 28) [52, 71] (.t 26) [(false, (.t 27))], O1 (.not 29 (.t 28))])
 (.cond (.t 29)
 (.seq
 (.ops [
 O1 (.mv 30 (.t 0)), O1 (.mv 31 (.t 5)), O1 (.load 32 true 2 (.t 7)), O1 (.iaddr 33 2 (.t 30) (.t 31)), O1 (.store 2 (.t 33) (.t 32))])
 (.ops [
 O1 (.mv 34 (.t 5)), O1 (.bin 35 .add (.t 34) (.c (.int .i64 1))), O1 (.asg 5 (.t 35))]))
 .skip))))
 (.ops [
 O1 (.mv 20 (.t 6)), O1 (.bin 21 .add (.t 20) (.c (.int .i64 1))), O1 (.asg 6 (.t 21))]))))))
 (.seq
 (.ops [
 O1 (.mv 36 (.t 0)), O1 (.mv 37 (.t 5)), O1 (.sfx 38 2 (.t 36) (.t 37)), O1 (.clr none 2 (.agg [(.str []), (.str [])]) (.t 38))])
 (.seq
 (.ops [
 O1 (.mv 39 (.t 0)), O1 (.mv 40 (.t 5)), O1 (.slc 41 false 2 (.t 39) none (some (.t 40))), O1 (.mov 4 41 2 (.t 41))])
 .ret))))))
def rets_slices_DeleteFunc_L_api_Span_api_Span : List Ret := [.t 4]
theorem ofv_slices_DeleteFunc_L_api_Span_api_Span {args : List SV} {Post : SV → List SV → Prop} (h : wqFV Try.prog 42 ir_slices_DeleteFunc_L_api_Span_api_Span 4 args Post) (hn : args.length ≤ 42) : Fn Try.prog 50 args Post :=
 Fn.of_vec Try.func50 rfl Try.ntmps50 (by kernel_rfl) (by kernel_rfl) (by decide) hn (wqFV_wp h)
/-- slices.Clone[[]exchequer/api.Span,exchequer/api.Span] · parameters [[]api.Span] -/
abbrev F_slices_Clone_L_api_Span_api_Span : FuncId := 51
def ir_slices_Clone_L_api_Span_api_Span : Stm :=
 (.seq
 (.ops [
 O1 (.asg 2 (.nils 41 2))])
 (.seq
 (.seq
 (.ops [
 O1 (.mv 3 (.t 0)), O1 (.isnil 4 false (.t 3))])
 (.cond (.t 4)
 (.seq
 (.ops [
 O1 (.asg 2 (.nils 41 2))])
 .ret)
 .skip))
 (.seq
 (.ops [
 O1 (.empty 5 41 2), O1 (.mv 6 (.t 0)), O1 (.app 7 41 2 32 (.t 5) (.t 6)), O1 (.asg 2 (.t 7))])
 .ret)))
def rets_slices_Clone_L_api_Span_api_Span : List Ret := [.t 2]
theorem ofv_slices_Clone_L_api_Span_api_Span {args : List SV} {Post : SV → List SV → Prop} (h : wqFV Try.prog 8 ir_slices_Clone_L_api_Span_api_Span 2 args Post) (hn : args.length ≤ 8) : Fn Try.prog 51 args Post :=
 Fn.of_vec Try.func51 rfl Try.ntmps51 (by kernel_rfl) (by kernel_rfl) (by decide) hn (wqFV_wp h)
/-- exchequer/span.Union$1 · parameters [api.Span] -/
abbrev F_span_Union_1 : FuncId := 52
def ir_span_Union_1 : Stm :=
 (.seq
 (.ops [
 O1 (.box 1 (.t 0)), O1 (.asg 2 (.c (.bool false)))])
 (.seq
 (.ops [
 O1 (.load 3 true 2 (.t 1)), .call none (some 4) 53 [(false, (.t 3))], O1 (.not 5 (.t 4)), O1 (.asg 2 (.t 5))])
 .ret))
def rets_span_Union_1 : List Ret := [.t 2]
theorem of_span_Union_1 {args : List SV} {Post : SV → List SV → Prop} (h : wqF Try.prog 6 ir_span_Union_1 rets_span_Union_1 args Post) (hn : args.length ≤ 6) : Fn Try.prog 52 args Post :=
 Fn.of_body' Try.func52 rfl Try.ntmps52 (by kernel_rfl) (by kernel_rfl) hn (wqF_wp h)
/-- exchequer/span.Right · parameters [api.Span] -/
abbrev F_span_Right : FuncId := 53
def ir_span_Right : Stm :=
 (.seq
 (.ops [
 O1 (.box 1 (.t 0)), O1 (.asg 2 (.c (.bool false)))])
 (.seq
 (.ops [
 O1 (.faddr 3 (.t 1) 0 0), O1 (.load 4 false 1 (.t 3)), O1 (.len 5 true (.t 4)), O1 (.bin 6 .leq (.t 5) (.c (.int .i64 65))), O1 (.mv 7 (.t 6)), .op (some (7, true)) (.faddr 8 (.t 1) 1 1), .op (some (7, true)) (.load 9 false 1 (.t 8)), .op (some (7, true)) (.len 10 true (.t 9)), .op (some (7, true)) (.bin 11 .leq (.t 10) (.c (.int .i64 65))), O1 (.pick 12 (.t 7) (.t 11) (.c (.bool false))), O1 (.mv 13 (.t 12)), .op (some (13, true)) (.faddr 14 (.t 1) 1 1), .op (some (13, true)) (.load 15 false 1 (.t 14)), .op (some (13, true)) (.bin 16 .eql (.t 15) (.c (.str []))), .op (some (13, true)) (.mv 17 (.t 16)), .op (some (17, false)) (.faddr 18 (.t 1) 0 0), .op (some (17, false)) (.load 19 false 1 (.t 18)), .op (some (17, false)) (.faddr 20 (.t 1) 1 1), .op (some (17, false)) (.load 21 false 1 (.t 20)), .op (some (17, false)) (.bin 22 .lss (.t 19) (.t 21)), .op (some (13, true)) (.pick 23 (.t 17) (.c (.bool true)) (.t 22)), O1 (.pick 24 (.t 13) (.t 23) (.c (.bool false))), O1 (.asg 2 (.t 24))])
 .ret))
def rets_span_Right : List Ret := [.t 2]
theorem of_span_Right {args : List SV} {Post : SV → List SV → Prop} (h : wqF Try.prog 25 ir_span_Right rets_span_Right args Post) (hn : args.length ≤ 25) : Fn Try.prog 53 args Post :=
 Fn.of_body' Try.func53 rfl Try.ntmps53 (by kernel_rfl) (by kernel_rfl) hn (wqF_wp h)
/-- exchequer/span.Union$2 · parameters [api.Span, api.Span] -/
abbrev F_span_Union_2 : FuncId := 55
def ir_span_Union_2 : Stm :=
 (.seq
 (.ops [
 O1 (.box 2 (.t 0)), O1 (.box 3 (.t 1)), O1 (.asg 4 (.c (.int .i64 0)))])
 (.seq
 (.ops [
 O1 (.faddr 5 (.t 2) 0 0), O1 (.load 6 false 1 (.t 5)), O1 (.faddr 7 (.t 3) 0 0), O1 (.load 8 false 1 (.t 7)), .call none (some 9) 56 [(false, (.t 6)), (false, (.t 8))], O1 (.asg 4 (.t 9))])
 .ret))
def rets_span_Union_2 : List Ret := [.t 4]
theorem of_span_Union_2 {args : List SV} {Post : SV → List SV → Prop} (h : wqF Try.prog 10 ir_span_Union_2 rets_span_Union_2 args Post) (hn : args.length ≤ 10) : Fn Try.prog 55 args Post :=
 Fn.of_body' Try.func55 rfl Try.ntmps55 (by kernel_rfl) (by kernel_rfl) hn (wqF_wp h)
/-- cmp.Compare[string] · parameters [string, string] -/
abbrev F_cmp_Compare_string : FuncId := 56
def ir_cmp_Compare_string : Stm :=
 (.seq
 (.ops [
 O1 (.asg 4 (.c (.int .i64 0)))])
 (.seq
 (.ops [
 O1 (.mv 7 (.t 0)), .call none (some 8) 69 [(false, (.t 7))], O1 (.asg 5 (.t 8))])
 (.seq
 (.ops [
 O1 (.mv 9 (.t 1)), .call none (some 10) 69 [(false, (.t 9))], O1 (.asg 6 (.t 10))])
 (.seq
 (.seq
 (.ops [
 O1 (.mv 11 (.t 5))])
 (.cond (.t 11)
 (.seq
 (.seq
 (.ops [
 O1 (.mv 12 (.t 6))])
 (.cond (.t 12)
 (.seq
 (.ops [
 O1 (.asg 4 (.c (.int .i64 0)))])
 .ret)
 .skip))
 (.seq
 (.ops [
 O1 (.asg 4 (.c (.int .i64 (-1))))])
 .ret))
 .skip))
 (.seq
 (.seq
 (.ops [
 O1 (.mv 13 (.t 6))])
 (.cond (.t 13)
 (.seq
 (.ops [
 O1 (.asg 4 (.c (.int .i64 1)))])
 .ret)
 .skip))
 (.seq
 (.seq
 (.ops [
 O1 (.mv 14 (.t 0)), O1 (.mv 15 (.t 1)), O1 (.bin 16 .lss (.t 14) (.t 15))])
 (.cond (.t 16)
 (.seq
 (.ops [
 O1 (.asg 4 (.c (.int .i64 (-1))))])
 .ret)
 .skip))
 (.seq
 (.seq
 (.ops [
 O1 (.mv 17 (.t 0)), O1 (.mv 18 (.t 1)), O1 (.bin 19 .gtr (.t 17) (.t 18))])
 (.cond (.t 19)
 (.seq
 (.ops [
 O1 (.asg 4 (.c (.int .i64 1)))])
 .ret)
 .skip))
 (.seq
 (.ops [
 O1 (.asg 4 (.c (.int .i64 0)))])
 .ret))))))))
def rets_cmp_Compare_string : List Ret := [.t 4]
theorem of_cmp_Compare_string {args : List SV} {Post : SV → List SV → Prop} (h : wqF Try.prog 20 ir_cmp_Compare_string rets_cmp_Compare_string args Post) (hn : args.length ≤ 20) : Fn Try.prog 56 args Post :=
 Fn.of_body' Try.func56 rfl Try.ntmps56 (by kernel_rfl) (by kernel_rfl) hn (wqF_wp h)
/-- exchequer/span.ends · parameters [string, string] -/
abbrev F_span_ends : FuncId := 57
def ir_span_ends : Stm :=
 (.seq
 (.ops [
 O1 (.asg 4 (.c (.int .i64 0)))])
 (.seq
 (.block 0
 (.seq
 (.ops [
 O1 (.mv 6 (.t 0)), O1 (.mv 7 (.t 1)), O1 (.bin 8 .eql (.t 6) (.t 7)), O1 (.asg 5 (.t 8))])
 (.cond (.t 5)
 (.seq
 (.ops [
 O1 (.asg 4 (.c (.int .i64 0)))])
 .ret)
 (.seq
 (.ops [
 O1 (.mv 10 (.t 0)), O1 (.bin 11 .eql (.t 10) (.c (.str []))), O1 (.asg 9 (.t 11))])
 (.cond (.t 9)
 (.seq
 (.ops [
 O1 (.asg 4 (.c (.int .i64 1)))])
 .ret)
 (.seq
 (.ops [
 O1 (.mv 13 (.t 1)), O1 (.bin 14 .eql (.t 13) (.c (.str []))), O1 (.asg 12 (.t 14))])
 (.cond (.t 12)
 (.seq
 (.ops [
 O1 (.asg 4 (.c (.int .i64 (-1))))])
 .ret)
 .skip)))))))
 (.seq
 (.ops [
 O1 (.mv 15 (.t 0)), O1 (.mv 16 (.t 1)), .call none (some 17) 56 [(false, (.t 15)), (false, (.t 16))], O1 (.asg 4 (.t 17))])
 .ret)))
def rets_span_ends : List Ret := [.t 4]
theorem of_span_ends {args : List SV} {Post : SV → List SV → Prop} (h : wqF Try.prog 18 ir_span_ends rets_span_ends args Post) (hn : args.length ≤ 18) : Fn Try.prog 57 args Post :=
 Fn.of_body' Try.func57 rfl Try.ntmps57 (by kernel_rfl) (by kernel_rfl) hn (wqF_wp h)
/-- exchequer/exchequerref05.put · parameters [[]string, string] -/
abbrev F_exchequerref05_put : FuncId := 58
def ir_exchequerref05_put : Stm :=
 (.seq
 (.ops [
 O1 (.asg 4 (.nils 9 1))])
 (.seq
 (.ops [
 O1 (.empty 8 9 1), O1 (.asg 5 (.t 8))])
 (.seq
 (.ops [
 O1 (.asg 6 (.c (.bool false)))])
 (.seq
 (.seq
 (.ops [
 O1 (.asg 7 (.c (.int .i64 0)))])
 (.block 0
 (.loop [9, 10, 11, 12, 13, 14, 15, 16, 17, 18, 19, 20, 21, 22, 23, 24, 25, 26, 27, 28, 29, 30, 31, 32, 33, 34, 35, 36, 37, 38, 39, 40, 41, 44, 48]
 (.seq
 (.seq
 (.ops [
 O1 (.mv 9 (.t 7)), O1 (.mv 10 (.t 0)), O1 (.len 11 false (.t 10)), O1 (.bin 12 .lss (.t 9) (.t 11))])
 (.cond (.t 12)
 .skip
 (.exit 0)))
 (.seq
 (.block 1
 (.seq
 (.seq
 (.ops [
 O1 (.mv 15 (.t 6)), O1 (.not 16 (.t 15)), O1 (.mv 17 (.t 16)), .op (some (17, true)) (.mv 18 (.t 1)), .op (some (17, true)) (.mv 19 (.t 0)), .op (some (17, true)) (.mv 20 (.t 7)), .op (some (17, true)) (.iaddr 21 1 (.t 19) (.t 20)), .op (some (17, true)) (.load 22 false 1 (.t 21)), .op (some (17, true)) (.bin 23 .lss (.t 18) (.t 22)), O1 (.pick 24 (.t 17) (.t 23) (.c (.bool false)))])
 (.cond (.t 24)
 (.seq
 (.ops [
 O1 (.mv 25 (.t 5)), O1 (.mv 26 (.t 1)), O1 (.bsl 27 9 1 (.str []) 1 [(0, (.t 26))]), O1 (.app 28 9 1 16 (.t 25) (.t 27)), O1 (.asg 5 (.t 28))])
 (.ops [
 O1 (.asg 6 (.c (.bool true)))]))
 .skip))
 (.seq
 (.seq
 (.ops [
 O1 (.mv 29 (.t 0)), O1 (.mv 30 (.t 7)), O1 (.iaddr 31 1 (.t 29) (.t 30)), O1 (.load 32 false 1 (.t 31)), O1 (.mv 33 (.t 1)), O1 (.bin 34 .eql (.t 32) (.t 33))])
 (.cond (.t 34)
 (.ops [
 O1 (.asg 6 (.c (.bool true)))])
 .skip))
 (.ops [
 O1 (.mv 35 (.t 5)), O1 (.mv 36 (.t 0)), O1 (.mv 37 (.t 7)), O1 (.iaddr 38 1 (.t 36) (.t 37)), O1 (.load 39 false 1 (.t 38)), O1 (.bsl 40 9 1 (.str []) 1 [(0, (.t 39))]), O1 (.app 41 9 1 16 (.t 35) (.t 40)), O1 (.asg 5 (.t 41))]))))
 (.ops [
 O1 (.mv 13 (.t 7)), O1 (.bin 14 .add (.t 13) (.c (.int .i64 1))), O1 (.asg 7 (.t 14))]))))))
 (.seq
 (.seq
 (.ops [
 O1 (.mv 42 (.t 6)), O1 (.not 43 (.t 42))])
 (.cond (.t 43)
 (.ops [
 O1 (.mv 44 (.t 5)), O1 (.mv 45 (.t 1)), O1 (.bsl 46 9 1 (.str []) 1 [(0, (.t 45))]), O1 (.app 47 9 1 16 (.t 44) (.t 46)), O1 (.asg 5 (.t 47))])
 .skip))
 (.seq
 (.ops [
 O1 (.mv 48 (.t 5)), O1 (.mov 4 9 1 (.t 48))])
 .ret))))))
def rets_exchequerref05_put : List Ret := [.t 4]
theorem ofv_exchequerref05_put {args : List SV} {Post : SV → List SV → Prop} (h : wqFV Try.prog 49 ir_exchequerref05_put 4 args Post) (hn : args.length ≤ 49) : Fn Try.prog 58 args Post :=
 Fn.of_vec Try.func58 rfl Try.ntmps58 (by kernel_rfl) (by kernel_rfl) (by decide) hn (wqFV_wp h)
/-- exchequer/span.Covers · parameters [[]api.Span, api.Span] -/
abbrev F_span_Covers : FuncId := 59
def ir_span_Covers : Stm :=
 (.seq
 (.ops [
 O1 (.box 3 (.t 1)), O1 (.asg 4 (.c (.bool false)))])
 (.seq
 (.ops [
 O1 (.mv 5 (.t 0)), .call none (some 6) 23 [(false, (.t 5))], O1 (.mkf 7 71 [(.t 3)]), .call none (some 8) 70 [(false, (.t 6)), (false, (.t 7))], O1 (.asg 4 (.t 8))])
 .ret))
def rets_span_Covers : List Ret := [.t 4]
theorem of_span_Covers {args : List SV} {Post : SV → List SV → Prop} (h : wqF Try.prog 9 ir_span_Covers rets_span_Covers args Post) (hn : args.length ≤ 9) : Fn Try.prog 59 args Post :=
 Fn.of_body' Try.func59 rfl Try.ntmps59 (by kernel_rfl) (by kernel_rfl) hn (wqF_wp h)
/-- exchequer/exchequerref04.Size · parameters [string] -/
abbrev F_exchequerref04_Size : FuncId := 60
def ir_exchequerref04_Size : Stm :=
 (.seq
 (.ops [
 O1 (.asg 2 (.c (.int .i64 0)))])
 (.seq
 (.seq
 (.ops [
 O1 (.mv 3 (.t 0)), .call none (some 4) 73 [(false, (.t 3)), (false, (.c (.int .i64 0))), (false, (.c (.int .u8 0))), (false, (.c (.int .u8 127)))]])
 (.cond (.t 4)
 (.seq
 (.ops [
 O1 (.asg 2 (.c (.int .i64 1)))])
 .ret)
 .skip))
 (.seq
 (.seq
 (.ops [
 O1 (.mv 5 (.t 0)), .call none (some 6) 73 [(false, (.t 5)), (false, (.c (.int .i64 0))), (false, (.c (.int .u8 194))), (false, (.c (.int .u8 223)))], O1 (.mv 7 (.t 6)), .op (some (7, true)) (.mv 8 (.t 0)), .call (some (7, true)) (some 9) 74 [(false, (.t 8)), (false, (.c (.int .i64 1))), (false, (.c (.int .i64 1)))], O1 (.pick 10 (.t 7) (.t 9) (.c (.bool false)))])
 (.cond (.t 10)
 (.seq
 (.ops [
 O1 (.asg 2 (.c (.int .i64 2)))])
 .ret)
 .skip))
 (.seq
 (.seq
 (.ops [
 O1 (.mv 11 (.t 0)), .call none (some 12) 74 [(false, (.t 11)), (false, (.c (.int .i64 1))), (false, (.c (.int .i64 2)))]])
 (.cond (.t 12)
 (.seq
 (.ops [
 O1 (.mv 13 (.t 0)), .call none (some 14) 73 [(false, (.t 13)), (false, (.c (.int .i64 0))), (false, (.c (.int .u8 224))), (false, (.c (.int .u8 224)))], O1 (.mv 15 (.t 14)), .op (some (15, true)) (.mv 16 (.t 0)), .call (some (15, true)) (some 17) 73 [(false, (.t 16)), (false, (.c (.int .i64 1))), (false, (.c (.int .u8 160))), (false, (.c (.int .u8 191)))], O1 (.pick 18 (.t 15) (.t 17) (.c (.bool false))), O1 (.mv 19 (.t 18)), .op (some (19, false)) (.mv 20 (.t 0)), .call (some (19, false)) (some 21) 73 [(false, (.t 20)), (false, (.c (.int .i64 0))), (false, (.c (.int .u8 225))), (false, (.c (.int .u8 236)))], O1 (.pick 22 (.t 19) (.c (.bool true)) (.t 21)), O1 (.mv 23 (.t 22)), .op (some (23, false)) (.mv 24 (.t 0)), .call (some (23, false)) (some 25) 73 [(false, (.t 24)), (false, (.c (.int .i64 0))), (false, (.c (.int .u8 237))), (false, (.c (.int .u8 237)))], .op (some (23, false)) (.mv 26 (.t 25)), .op (some (26, true)) (.mv 27 (.t 0)), .call (some (26, true)) (some 28) 73 [(false, (.t 27)), (false, (.c (.int .i64 1))), (false, (.c (.int .u8 128))), (false, (.c (.int .u8 159)))], .op (some (23, false)) (.pick 29 (.t 26) (.t 28) (.c (.bool false))), O1 (.pick 30 (.t 23) (.c (.bool true)) (.t 29)), O1 (.mv 31 (.t 30)), .op (some (31, false)) (.mv 32 (.t 0)), .call (some (31, false)) (some 33) 73 [(false, (.t 32)), (false, (.c (.int .i64 0))), (false, (.c (.int .u8 238))), (false, (.c (.int .u8 239)))], O1 (.pick 34 (.t 31) (.c (.bool true)) (.t 33))])
 (.cond (.t 34)
 (.seq
 (.ops [
 O1 (.asg 2 (.c (.int .i64 3)))])
 .ret)
 .skip))
 .skip))
 (.seq
 (.seq
 (.ops [
 O1 (.mv 35 (.t 0)), .call none (some 36) 74 [(false, (.t 35)), (false, (.c (.int .i64 1))), (false, (.c (.int .i64 3)))]])
 (.cond (.t 36)
 (.seq
 (.ops [
 O1 (.mv 37 (.t 0)), .call none (some 38) 73 [(false, (.t 37)), (false, (.c (.int .i64 0))), (false, (.c (.int .u8 240))), (false, (.c (.int .u8 240)))], O1 (.mv 39 (.t 38)), .op (some (39, true)) (.mv 40 (.t 0)), .call (some (39, true)) (some 41) 73 [(false, (.t 40)), (false, (.c (.int .i64 1))), (false, (.c (.int .u8 144))), (false, (.c (.int .u8 191)))], O1 (.pick 42 (.t 39) (.t 41) (.c (.bool false))), O1 (.mv 43 (.t 42)), .op (some (43, false)) (.mv 44 (.t 0)), .call (some (43, false)) (some 45) 73 [(false, (.t 44)), (false, (.c (.int .i64 0))), (false, (.c (.int .u8 241))), (false, (.c (.int .u8 243)))], O1 (.pick 46 (.t 43) (.c (.bool true)) (.t 45)), O1 (.mv 47 (.t 46)), .op (some (47, false)) (.mv 48 (.t 0)), .call (some (47, false)) (some 49) 73 [(false, (.t 48)), (false, (.c (.int .i64 0))), (false, (.c (.int .u8 244))), (false, (.c (.int .u8 244)))], .op (some (47, false)) (.mv 50 (.t 49)), .op (some (50, true)) (.mv 51 (.t 0)), .call (some (50, true)) (some 52) 73 [(false, (.t 51)), (false, (.c (.int .i64 1))), (false, (.c (.int .u8 128))), (false, (.c (.int .u8 143)))], .op (some (47, false)) (.pick 53 (.t 50) (.t 52) (.c (.bool false))), O1 (.pick 54 (.t 47) (.c (.bool true)) (.t 53))])
 (.cond (.t 54)
 (.seq
 (.ops [
 O1 (.asg 2 (.c (.int .i64 4)))])
 .ret)
 .skip))
 .skip))
 (.seq
 (.ops [
 O1 (.asg 2 (.c (.int .i64 0)))])
 .ret))))))
def rets_exchequerref04_Size : List Ret := [.t 2]
theorem of_exchequerref04_Size {args : List SV} {Post : SV → List SV → Prop} (h : wqF Try.prog 55 ir_exchequerref04_Size rets_exchequerref04_Size args Post) (hn : args.length ≤ 55) : Fn Try.prog 60 args Post :=
 Fn.of_body' Try.func60 rfl Try.ntmps60 (by kernel_rfl) (by kernel_rfl) hn (wqF_wp h)
/-- exchequer/exchequerref04.itself · parameters [string] -/
abbrev F_exchequerref04_itself : FuncId := 61
def ir_exchequerref04_itself : Stm :=
 (.seq
 (.ops [
 O1 (.asg 2 (.c (.bool false)))])
 (.seq
 (.seq
 (.ops [
 O1 (.mv 3 (.t 0)), O1 (.len 4 true (.t 3)), O1 (.bin 5 .eql (.t 4) (.c (.int .i64 1)))])
 (.cond (.t 5)
 (.seq
 (.ops [
 O1 (.mv 6 (.t 0)), O1 (.sidx 7 (.t 6) (.c (.int .i64 0))), O1 (.bin 8 .geq (.t 7) (.c (.int .u8 32))), O1 (.mv 9 (.t 8)), .op (some (9, true)) (.mv 10 (.t 0)), .op (some (9, true)) (.sidx 11 (.t 10) (.c (.int .i64 0))), .op (some (9, true)) (.bin 12 .leq (.t 11) (.c (.int .u8 126))), O1 (.pick 13 (.t 9) (.t 12) (.c (.bool false))), O1 (.mv 14 (.t 13)), .op (some (14, true)) (.mv 15 (.t 0)), .op (some (14, true)) (.sidx 16 (.t 15) (.c (.int .i64 0))), .op (some (14, true)) (.bin 17 .neq (.t 16) (.c (.int .u8 92))), O1 (.pick 18 (.t 14) (.t 17) (.c (.bool false))), O1 (.asg 2 (.t 18))])
 .ret)
 .skip))
 (.seq
 (.seq
 (.ops [
 O1 (.mv 19 (.t 0)), O1 (.len 20 true (.t 19)), O1 (.bin 21 .eql (.t 20) (.c (.int .i64 2))), O1 (.mv 22 (.t 21)), .op (some (22, true)) (.mv 23 (.t 0)), .op (some (22, true)) (.sidx 24 (.t 23) (.c (.int .i64 0))), .op (some (22, true)) (.bin 25 .eql (.t 24) (.c (.int .u8 194))), O1 (.pick 26 (.t 22) (.t 25) (.c (.bool false)))])
 (.cond (.t 26)
 (.seq
 (.ops [
 O1 (.mv 27 (.t 0)), O1 (.sidx 28 (.t 27) (.c (.int .i64 1))), O1 (.bin 29 .geq (.t 28) (.c (.int .u8 161))), O1 (.asg 2 (.t 29))])
 .ret)
 .skip))
 (.seq
 (.ops [
 O1 (.mv 30 (.t 0)), O1 (.len 31 true (.t 30)), O1 (.bin 32 .gtr (.t 31) (.c (.int .i64 1))), O1 (.asg 2 (.t 32))])
 .ret))))
def rets_exchequerref04_itself : List Ret := [.t 2]
theorem of_exchequerref04_itself {args : List SV} {Post : SV → List SV → Prop} (h : wqF Try.prog 33 ir_exchequerref04_itself rets_exchequerref04_itself args Post) (hn : args.length ≤ 33) : Fn Try.prog 61 args Post :=
 Fn.of_body' Try.func61 rfl Try.ntmps61 (by kernel_rfl) (by kernel_rfl) hn (wqF_wp h)
/-- exchequer/exchequerref02.Sum · parameters [string] -/
abbrev F_exchequerref02_Sum : FuncId := 62
def ir_exchequerref02_Sum : Stm :=
 (.seq
 (.ops [
 O1 (.asg 2 (.c (.str [])))])
 (.seq
 (.ops [
 O1 (.mv 27 (.t 0)), O1 (.s2b 28 1000005 (.t 27)), O1 (.bsl 29 5 1 (.int .u8 0) 1 [(0, (.c (.int .u8 128)))]), O1 (.appB 30 5 1 1 false (.t 28) (.t 29)), O1 (.asg 3 (.t 30))])
 (.seq
 (.block 0
 (.loop [31, 32, 33, 34, 35, 36, 37, 38, 48, 64, 75, 83, 89, 96, 103, 109, 116, 123, 125, 133, 141, 144, 147, 150, 153, 156, 159, 162, 188, 193, 230, 235, 240, 245, 250, 255, 260, 265, 276, 277, 284]
 (.seq
 (.seq
 (.ops [
 O1 (.mv 31 (.t 3)), O1 (.len 32 false (.t 31)), O1 (.bits 33 .rem (.t 32) (.c (.int .i64 64))), O1 (.bin 34 .neq (.t 33) (.c (.int .i64 56)))])
 (.cond (.t 34)
 .skip
 (.exit 0)))
 (.block 1
 (.ops [
 O1 (.mv 35 (.t 3)), O1 (.bsl 36 5 1 (.int .u8 0) 1 [(0, (.c (.int .u8 0)))]), O1 (.appB 37 5 1 1 false (.t 35) (.t 36)), O1 (.asg 3 (.t 37))])))))
 (.seq
 (.ops [
 O1 (.mv 38 (.t 3)), O1 (.mv 39 (.t 0)), O1 (.len 40 true (.t 39)), O1 (.conv 41 .u64 (.t 40)), O1 (.bin 42 .mul (.c (.int .u64 8)) (.t 41)), .call none (some 43) 75 [(false, (.t 42)), (false, (.c (.int .i64 8)))], O1 (.appB 44 5 1 1 false (.t 38) (.t 43)), O1 (.asg 3 (.t 44))])
 (.seq
 (.ops [
 O1 (.bsl 45 112 1 (.int .u32 0) 8 [(0, (.c (.int .u32 1779033703))), (1, (.c (.int .u32 3144134277))), (2, (.c (.int .u32 1013904242))), (3, (.c (.int .u32 2773480762))), (4, (.c (.int .u32 1359893119))), (5, (.c (.int .u32 2600822924))), (6, (.c (.int .u32 528734635))), (7, (.c (.int .u32 1541459225)))]), O1 (.asg 4 (.t 45))])
 (.seq
 (.ops [ .call none (some 46) 76 [], O1 (.asg 5 (.t 46))])
 (.seq
 (.seq
 (.ops [
 O1 (.asg 6 (.c (.int .i64 0)))])
 (.block 2
 (.loop [7, 8, 9, 10, 11, 12, 13, 14, 15, 16, 17, 18, 19, 20, 21, 22, 23, 24, 31, 35, 38, 47, 48, 49, 50, 51, 52, 53, 54, 55, 56, 57, 58, 59, 60, 61, 62, 63, 64, 65, 66, 67, 68, 69, 70, 71, 72, 73, 74, 75, 76, 77, 78, 79, 80, 81, 82, 83, 84, 85, 86, 87, 88, 89, 90, 91, 92, 93, 94, 95, 96, 97, 98, 99, 100, 101, 102, 103, 104, 105, 106, 107, 108, 109, 110, 111, 112, 113, 114, 115, 116, 117, 118, 119, 120, 121, 122, 123, 124, 125, 126, 127, 128, 129, 130, 131, 132, 133, 134, 135, 136, 137, 138, 139, 140, 141, 142, 143, 144, 145, 146, 147, 148, 149, 150, 151, 152, 153, 154, 155, 156, 157, 158, 159, 160, 161, 162, 163, 164, 165, 166, 167, 168, 169, 170, 171, 172, 173, 174, 175, 176, 177, 178, 179, 180, 181, 182, 183, 184, 185, 186, 187, 188, 189, 190, 191, 192, 193, 194, 195, 196, 197, 198, 199, 200, 201, 202, 203, 204, 205, 206, 207, 208, 209, 210, 211, 212, 213, 214, 215, 216, 217, 218, 219, 220, 221, 222, 223, 224, 225, 226, 227, 228, 229, 230, 231, 232, 233, 234, 235, 236, 237, 238, 239, 240, 241, 242, 243, 244, 245, 246, 247, 248, 249, 250, 251, 252, 253, 254, 255, 256, 257, 258, 259, 260, 261, 262, 263, 264, 265, 266, 267, 268, 269, 270, 276, 277, 284]
 (.seq
 (.seq
 (.ops [
 O1 (.mv 47 (.t 6)), O1 (.mv 48 (.t 3)), O1 (.len 49 false (.t 48)), O1 (.bin 50 .lss (.t 47) (.t 49))])
 (.cond (.t 50)
 .skip
 (.exit 2)))
 (.seq
 (.block 3
 (.seq
 (.ops [
 O1 (.empty 53 112 1), O1 (.asg 7 (.t 53))])
 (.seq
 (.seq
 (.ops [
 O1 (.asg 8 (.c (.int .i64 0)))])
 (.block 4
 (.loop [9, 10, 31, 35, 38, 48, 54, 55, 56, 57, 58, 59, 60, 61, 62, 63, 64, 65, 66, 67, 68, 69, 70, 71, 72, 73, 74, 75, 76, 77, 78, 83, 89, 96, 103, 109, 116, 123, 125, 133, 141, 144, 147, 150, 153, 156, 159, 162, 188, 193, 230, 235, 240, 245, 250, 255, 260, 265, 276, 277, 284]
 (.seq
 (.seq
 (.ops [
 O1 (.mv 54 (.t 8)), O1 (.bin 55 .lss (.t 54) (.c (.int .i64 16)))])
 (.cond (.t 55)
 .skip
 (.exit 4)))
 (.seq
 (.block 5
 (.seq
 (.ops [
 O1 (.asg 9 (.c (.int .u32 0)))])
 (.seq
 (.seq
 (.ops [
 O1 (.asg 10 (.c (.int .i64 0)))])
 (.block 6
 (.loop [31, 35, 38, 48, 58, 59, 60, 61, 62, 63, 64, 65, 66, 67, 68, 69, 70, 71, 72, 73, 74, 75, 83, 89, 96, 103, 109, 116, 123, 125, 133, 141, 144, 147, 150, 153, 156, 159, 162, 188, 193, 230, 235, 240, 245, 250, 255, 260, 265, 276, 277, 284]
 (.seq
 (.seq
 (.ops [
 O1 (.mv 58 (.t 10)), O1 (.bin 59 .lss (.t 58) (.c (.int .i64 4)))])
 (.cond (.t 59)
 .skip
 (.exit 6)))
 (.seq
 (.block 7
 (.ops [
 O1 (.mv 62 (.t 9)), O1 (.bin 63 .mul (.t 62) (.c (.int .u32 256))), O1 (.mv 64 (.t 3)), O1 (.mv 65 (.t 6)), O1 (.mv 66 (.t 8)), O1 (.bin 67 .mul (.c (.int .i64 4)) (.t 66)), O1 (.bin 68 .add (.t 65) (.t 67)), O1 (.mv 69 (.t 10)), O1 (.bin 70 .add (.t 68) (.t 69)), O1 (.iaddr 71 1 (.t 64) (.t 70)), O1 (.load 72 false 1 (.t 71)), O1 (.conv 73 .u32 (.t 72)), O1 (.bin 74 .add (.t 63) (.t 73)), O1 (.asg 9 (.t 74))]))
 (.ops [
 O1 (.mv 60 (.t 10)), O1 (.bin 61 .add (.t 60) (.c (.int .i64 1))), O1 (.asg 10 (.t 61))]))))))
 (.ops [
 O1 (.mv 75 (.t 7)), O1 (.mv 76 (.t 9)), O1 (.bsl 77 112 1 (.int .u32 0) 1 [(0, (.t 76))]), O1 (.app 78 112 1 4 (.t 75) (.t 77)), O1 (.asg 7 (.t 78))]))))
 (.ops [
 O1 (.mv 56 (.t 8)), O1 (.bin 57 .add (.t 56) (.c (.int .i64 1))), O1 (.asg 8 (.t 57))]))))))
 (.seq
 (.seq
 (.ops [
 O1 (.asg 11 (.c (.int .i64 16)))])
 (.block 8
 (.loop [12, 13, 31, 35, 38, 48, 64, 75, 79, 80, 81, 82, 83, 84, 85, 86, 87, 88, 89, 90, 91, 92, 93, 94, 95, 96, 97, 98, 99, 100, 101, 102, 103, 104, 105, 106, 107, 108, 109, 110, 111, 112, 113, 114, 115, 116, 117, 118, 119, 120, 121, 122, 123, 124, 125, 126, 127, 128, 129, 130, 131, 132, 133, 134, 135, 136, 137, 138, 139, 140, 141, 144, 147, 150, 153, 156, 159, 162, 188, 193, 230, 235, 240, 245, 250, 255, 260, 265, 276, 277, 284]
 (.seq
 (.seq
 (.ops [
 O1 (.mv 79 (.t 11)), O1 (.bin 80 .lss (.t 79) (.c (.int .i64 64)))])
 (.cond (.t 80)
 .skip
 (.exit 8)))
 (.seq
 (.block 9
 (.seq
 (.drw [[], [], [1], [0, 2], [3], [4], [], [], [7], [6, 8], [9], [10, 5], [5, 11], [], [], [14], [13, 15], [16], [17], [12, 18], [19, 11, 0, 1, 2, 3, 4, 5, 6, 7, 8, 9, 10, 12, 13, 14, 15, 16, 17, 18]] [
 O1 (.mv 83 (.t 7)), O1 (.mv 84 (.t 11)), O1 (.bin 85 .sub (.t 84) (.c (.int .i64 2))), O1 (.iaddr 86 1 (.t 83) (.t 85)), O1 (.load 87 false 1 (.t 86)), .call none (some 88) 77 [(false, (.t 87)), (false, (.c (.int .u64 17)))], O1 (.mv 89 (.t 7)), O1 (.mv 90 (.t 11)), O1 (.bin 91 .sub (.t 90) (.c (.int .i64 2))), O1 (.iaddr 92 1 (.t 89) (.t 91)), O1 (.load 93 false 1 (.t 92)), .call none (some 94) 77 [(false, (.t 93)), (false, (.c (.int .u64 19)))], O1 (.bits 95 .xor (.t 88) (.t 94)), O1 (.mv 96 (.t 7)), O1 (.mv 97 (.t 11)), O1 (.bin 98 .sub (.t 97) (.c (.int .i64 2))), O1 (.iaddr 99 1 (.t 96) (.t 98)), O1 (.load 100 false 1 (.t 99)), O1 (.bits 101 .shr (.t 100) (.c (.int .u64 10))), O1 (.bits 102 .xor (.t 95) (.t 101)), O1 (.asg 12 (.t 102))])
 (.seq
 (.drw [[], [], [1], [0, 2], [3], [4], [], [], [7], [6, 8], [9], [10, 5], [5, 11], [], [], [14], [13, 15], [16], [17], [12, 18], [19, 11, 0, 1, 2, 3, 4, 5, 6, 7, 8, 9, 10, 12, 13, 14, 15, 16, 17, 18]] [
 O1 (.mv 103 (.t 7)), O1 (.mv 104 (.t 11)), O1 (.bin 105 .sub (.t 104) (.c (.int .i64 15))), O1 (.iaddr 106 1 (.t 103) (.t 105)), O1 (.load 107 false 1 (.t 106)), .call none (some 108) 77 [(false, (.t 107)), (false, (.c (.int .u64 7)))], O1 (.mv 109 (.t 7)), O1 (.mv 110 (.t 11)), O1 (.bin 111 .sub (.t 110) (.c (.int .i64 15))), O1 (.iaddr 112 1 (.t 109) (.t 111)), O1 (.load 113 false 1 (.t 112)), .call none (some 114) 77 [(false, (.t 113)), (false, (.c (.int .u64 18)))], O1 (.bits 115 .xor (.t 108) (.t 114)), O1 (.mv 116 (.t 7)), O1 (.mv 117 (.t 11)), O1 (.bin 118 .sub (.t 117) (.c (.int .i64 15))), O1 (.iaddr 119 1 (.t 116) (.t 118)), O1 (.load 120 false 1 (.t 119)), O1 (.bits 121 .shr (.t 120) (.c (.int .u64 3))), O1 (.bits 122 .xor (.t 115) (.t 121)), O1 (.asg 13 (.t 122))])
 (.drw [[], [], [], [], [3], [2, 4], [5], [1, 6], [], [7, 8], [], [], [11], [10, 12], [13], [9, 14], [15], [0, 16], [17, 0, 1, 2, 3, 4, 5, 6, 7, 8, 9, 10, 11, 12, 13, 14, 15, 16]] [
 O1 (.mv 123 (.t 7)), O1 (.mv 124 (.t 12)), O1 (.mv 125 (.t 7)), O1 (.mv 126 (.t 11)), O1 (.bin 127 .sub (.t 126) (.c (.int .i64 7))), O1 (.iaddr 128 1 (.t 125) (.t 127)), O1 (.load 129 false 1 (.t 128)), O1 (.bin 130 .add (.t 124) (.t 129)), O1 (.mv 131 (.t 13)), O1 (.bin 132 .add (.t 130) (.t 131)), O1 (.mv 133 (.t 7)), O1 (.mv 134 (.t 11)), O1 (.bin 135 .sub (.t 134) (.c (.int .i64 16))), O1 (.iaddr 136 1 (.t 133) (.t 135)), O1 (.load 137 false 1 (.t 136)), O1 (.bin 138 .add (.t 132) (.t 137)), O1 (.bsl 139 112 1 (.int .u32 0) 1 [(0, (.t 138))]), O1 (.app 140 112 1 4 (.t 123) (.t 139)), O1 (.asg 7 (.t 140))]))))
 (.ops [
 O1 (.mv 81 (.t 11)), O1 (.bin 82 .add (.t 81) (.c (.int .i64 1))), O1 (.asg 11 (.t 82))]))))))
 (.seq
 (.drw [[], [0], [1], [], [3], [4], [], [6], [7], [], [9], [10], [], [12], [13], [], [15], [16], [], [18], [19], [], [21], [22], [2, 0, 1], [5, 24, 0, 1, 2, 3, 4], [8, 25, 0, 1, 2, 3, 4, 5, 6, 7, 24], [11, 26, 0, 1, 2, 3, 4, 5, 6, 7, 8, 9, 10, 24, 25], [14, 27, 0, 1, 2, 3, 4, 5, 6, 7, 8, 9, 10, 11, 12, 13, 24, 25, 26], [17, 28, 0, 1, 2, 3, 4, 5, 6, 7, 8, 9, 10, 11, 12, 13, 14, 15, 16, 24, 25, 26, 27], [20, 29, 0, 1, 2, 3, 4, 5, 6, 7, 8, 9, 10, 11, 12, 13, 14, 15, 16, 17, 18, 19, 24, 25, 26, 27, 28], [23, 30, 0, 1, 2, 3, 4, 5, 6, 7, 8, 9, 10, 11, 12, 13, 14, 15, 16, 17, 18, 19, 20, 21, 22, 24, 25, 26, 27, 28, 29]] [
 O1 (.mv 141 (.t 4)), O1 (.iaddr 142 1 (.t 141) (.c (.int .i64 0))), O1 (.load 143 false 1 (.t 142)), O1 (.mv 144 (.t 4)), O1 (.iaddr 145 1 (.t 144) (.c (.int .i64 1))), O1 (.load 146 false 1 (.t 145)), O1 (.mv 147 (.t 4)), O1 (.iaddr 148 1 (.t 147) (.c (.int .i64 2))), O1 (.load 149 false 1 (.t 148)), O1 (.mv 150 (.t 4)), O1 (.iaddr 151 1 (.t 150) (.c (.int .i64 3))), O1 (.load 152 false 1 (.t 151)), O1 (.mv 153 (.t 4)), O1 (.iaddr 154 1 (.t 153) (.c (.int .i64 4))), O1 (.load 155 false 1 (.t 154)), O1 (.mv 156 (.t 4)), O1 (.iaddr 157 1 (.t 156) (.c (.int .i64 5))), O1 (.load 158 false 1 (.t 157)), O1 (.mv 159 (.t 4)), O1 (.iaddr 160 1 (.t 159) (.c (.int .i64 6))), O1 (.load 161 false 1 (.t 160)), O1 (.mv 162 (.t 4)), O1 (.iaddr 163 1 (.t 162) (.c (.int .i64 7))), O1 (.load 164 false 1 (.t 163)), O1 (.asg 14 (.t 143)), O1 (.asg 15 (.t 146)), O1 (.asg 16 (.t 149)), O1 (.asg 17 (.t 152)), O1 (.asg 18 (.t 155)), O1 (.asg 19 (.t 158)), O1 (.asg 20 (.t 161)), O1 (.asg 21 (.t 164))])
 (.seq
 (.seq
 (.ops [
 O1 (.asg 22 (.c (.int .i64 0)))])
 (.block 10
 (.loop [23, 24, 31, 35, 38, 48, 64, 75, 83, 89, 96, 103, 109, 116, 123, 125, 133, 141, 144, 147, 150, 153, 156, 159, 162, 165, 166, 167, 168, 169, 170, 171, 172, 173, 174, 175, 176, 177, 178, 179, 180, 181, 182, 183, 184, 185, 186, 187, 188, 189, 190, 191, 192, 193, 194, 195, 196, 197, 198, 199, 200, 201, 202, 203, 204, 205, 206, 207, 208, 209, 210, 211, 212, 213, 214, 215, 216, 217, 218, 219, 220, 221, 222, 223, 224, 225, 226, 227, 228, 229, 230, 235, 240, 245, 250, 255, 260, 265, 276, 277, 284]
 (.seq
 (.seq
 (.ops [
 O1 (.mv 165 (.t 22)), O1 (.bin 166 .lss (.t 165) (.c (.int .i64 64)))])
 (.cond (.t 166)
 .skip
 (.exit 10)))
 (.seq
 (.block 11
 (.seq
 (.drw [[], [], [1], [], [3, 2], [2, 4], [], [6, 4], [5, 7], [0, 8], [], [], [10, 11], [], [13], [], [14, 15], [12, 16], [9, 17], [], [], [19, 20], [21], [18, 22], [], [], [24, 25], [26], [23, 27], [28, 7, 0, 1, 2, 3, 4, 5, 6, 8, 9, 10, 11, 12, 13, 14, 15, 16, 17, 18, 19, 20, 21, 22, 23, 24, 25, 26, 27]] [
 O1 (.mv 169 (.t 21)), O1 (.mv 170 (.t 18)), .call none (some 171) 77 [(false, (.t 170)), (false, (.c (.int .u64 6)))], O1 (.mv 172 (.t 18)), .call none (some 173) 77 [(false, (.t 172)), (false, (.c (.int .u64 11)))], O1 (.bits 174 .xor (.t 171) (.t 173)), O1 (.mv 175 (.t 18)), .call none (some 176) 77 [(false, (.t 175)), (false, (.c (.int .u64 25)))], O1 (.bits 177 .xor (.t 174) (.t 176)), O1 (.bin 178 .add (.t 169) (.t 177)), O1 (.mv 179 (.t 18)), O1 (.mv 180 (.t 19)), O1 (.bits 181 .and (.t 179) (.t 180)), O1 (.mv 182 (.t 18)), O1 (.compl 183 (.t 182)), O1 (.mv 184 (.t 20)), O1 (.bits 185 .and (.t 183) (.t 184)), O1 (.bits 186 .xor (.t 181) (.t 185)), O1 (.bin 187 .add (.t 178) (.t 186)), O1 (.mv 188 (.t 5)), O1 (.mv 189 (.t 22)), O1 (.iaddr 190 1 (.t 188) (.t 189)), O1 (.load 191 false 1 (.t 190)), O1 (.bin 192 .add (.t 187) (.t 191)), O1 (.mv 193 (.t 7)), O1 (.mv 194 (.t 22)), O1 (.iaddr 195 1 (.t 193) (.t 194)), O1 (.load 196 false 1 (.t 195)), O1 (.bin 197 .add (.t 192) (.t 196)), O1 (.asg 23 (.t 197))])
 (.seq
 (.ops [
 O1 (.mv 198 (.t 14)), .call none (some 199) 77 [(false, (.t 198)), (false, (.c (.int .u64 2)))], O1 (.mv 200 (.t 14)), .call none (some 201) 77 [(false, (.t 200)), (false, (.c (.int .u64 13)))], O1 (.bits 202 .xor (.t 199) (.t 201)), O1 (.mv 203 (.t 14)), .call none (some 204) 77 [(false, (.t 203)), (false, (.c (.int .u64 22)))], O1 (.bits 205 .xor (.t 202) (.t 204)), O1 (.mv 206 (.t 14)), O1 (.mv 207 (.t 15)), O1 (.bits 208 .and (.t 206) (.t 207)), O1 (.mv 209 (.t 14)), O1 (.mv 210 (.t 16)), O1 (.bits 211 .and (.t 209) (.t 210)), O1 (.bits 212 .xor (.t 208) (.t 211)), O1 (.mv 213 (.t 15)), O1 (.mv 214 (.t 16)), O1 (.bits 215 .and (.t 213) (.t 214)), O1 (.bits 216 .xor (.t 212) (.t 215)), O1 (.bin 217 .add (.t 205) (.t 216)), O1 (.asg 24 (.t 217))])
 (.ops [
 O1 (.mv 218 (.t 20)), O1 (.mv 219 (.t 19)), O1 (.mv 220 (.t 18)), O1 (.mv 221 (.t 17)), O1 (.mv 222 (.t 23)), O1 (.bin 223 .add (.t 221) (.t 222)), O1 (.mv 224 (.t 16)), O1 (.mv 225 (.t 15)), O1 (.mv 226 (.t 14)), O1 (.mv 227 (.t 23)), O1 (.mv 228 (.t 24)), O1 (.bin 229 .add (.t 227) (.t 228)), O1 (.asg 21 (.t 218)), O1 (.asg 20 (.t 219)), O1 (.asg 19 (.t 220)), O1 (.asg 18 (.t 223)), O1 (.asg 17 (.t 224)), O1 (.asg 16 (.t 225)), O1 (.asg 15 (.t 226)), O1 (.asg 14 (.t 229))]))))
 (.ops [
 O1 (.mv 167 (.t 22)), O1 (.bin 168 .add (.t 167) (.c (.int .i64 1))), O1 (.asg 22 (.t 168))]))))))
 (.drw [[], [0], [1], [], [2, 3], [], [5], [6], [], [7, 8], [], [10], [11], [], [12, 13], [], [15], [16], [], [17, 18], [], [20], [21], [], [22, 23], [], [25], [26], [], [27, 28], [], [30], [31], [], [32, 33], [], [35], [36], [], [37, 38], [4, 9, 14, 19, 24, 29, 34, 39], [40, 0, 1, 2, 3, 4, 5, 6, 7, 8, 9, 10, 11, 12, 13, 14, 15, 16, 17, 18, 19, 20, 21, 22, 23, 24, 25, 26, 27, 28, 29, 30, 31, 32, 33, 34, 35, 36, 37, 38, 39]] [
 O1 (.mv 230 (.t 4)), O1 (.iaddr 231 1 (.t 230) (.c (.int .i64 0))), O1 (.load 232 false 1 (.t 231)), O1 (.mv 233 (.t 14)), O1 (.bin 234 .add (.t 232) (.t 233)), O1 (.mv 235 (.t 4)), O1 (.iaddr 236 1 (.t 235) (.c (.int .i64 1))), O1 (.load 237 false 1 (.t 236)), O1 (.mv 238 (.t 15)), O1 (.bin 239 .add (.t 237) (.t 238)), O1 (.mv 240 (.t 4)), O1 (.iaddr 241 1 (.t 240) (.c (.int .i64 2))), O1 (.load 242 false 1 (.t 241)), O1 (.mv 243 (.t 16)), O1 (.bin 244 .add (.t 242) (.t 243)), O1 (.mv 245 (.t 4)), O1 (.iaddr 246 1 (.t 245) (.c (.int .i64 3))), O1 (.load 247 false 1 (.t 246)), O1 (.mv 248 (.t 17)), O1 (.bin 249 .add (.t 247) (.t 248)), O1 (.mv 250 (.t 4)), O1 (.iaddr 251 1 (.t 250) (.c (.int .i64 4))), O1 (.load 252 false 1 (.t 251)), O1 (.mv 253 (.t 18)), O1 (.bin 254 .add (.t 252) (.t 253)), O1 (.mv 255 (.t 4)), O1 (.iaddr 256 1 (.t 255) (.c (.int .i64 5))), O1 (.load 257 false 1 (.t 256)), O1 (.mv 258 (.t 19)), O1 (.bin 259 .add (.t 257) (.t 258)), O1 (.mv 260 (.t 4)), O1 (.iaddr 261 1 (.t 260) (.c (.int .i64 6))), O1 (.load 262 false 1 (.t 261)), O1 (.mv 263 (.t 20)), O1 (.bin 264 .add (.t 262) (.t 263)), O1 (.mv 265 (.t 4)), O1 (.iaddr 266 1 (.t 265) (.c (.int .i64 7))), O1 (.load 267 false 1 (.t 266)), O1 (.mv 268 (.t 21)), O1 (.bin 269 .add (.t 267) (.t 268)), O1 (.bsl 270 112 1 (.int .u32 0) 8 [(0, (.t 234)), (1, (.t 239)), (2, (.t 244)), (3, (.t 249)), (4, (.t 254)), (5, (.t 259)), (6, (.t 264)), (7, (.t 269))]), O1 (.asg 4 (.t 270))])))))))
 (.ops [
 O1 (.mv 51 (.t 6)), O1 (.bin 52 .add (.t 51) (.c (.int .i64 64))), O1 (.asg 6 (.t 52))]))))))
 (.seq
 (.ops [
 O1 (.empty 271 5 1), O1 (.asg 25 (.t 271))])
 (.seq
 (.seq
 (.ops [
 O1 (.asg 26 (.c (.int .i64 0)))])
 (.block 12
 (.loop [31, 35, 38, 48, 64, 75, 83, 89, 96, 103, 109, 116, 123, 125, 133, 141, 144, 147, 150, 153, 156, 159, 162, 188, 193, 230, 235, 240, 245, 250, 255, 260, 265, 272, 273, 274, 275, 276, 277, 278, 279, 280, 281, 282, 283, 284]
 (.seq
 (.seq
 (.ops [
 O1 (.mv 272 (.t 26)), O1 (.bin 273 .lss (.t 272) (.c (.int .i64 8)))])
 (.cond (.t 273)
 .skip
 (.exit 12)))
 (.seq
 (.block 13
 (.ops [
 O1 (.mv 276 (.t 25)), O1 (.mv 277 (.t 4)), O1 (.mv 278 (.t 26)), O1 (.iaddr 279 1 (.t 277) (.t 278)), O1 (.load 280 false 1 (.t 279)), O1 (.conv 281 .u64 (.t 280)), .call none (some 282) 75 [(false, (.t 281)), (false, (.c (.int .i64 4)))], O1 (.appB 283 5 1 1 false (.t 276) (.t 282)), O1 (.asg 25 (.t 283))]))
 (.ops [
 O1 (.mv 274 (.t 26)), O1 (.bin 275 .add (.t 274) (.c (.int .i64 1))), O1 (.asg 26 (.t 275))]))))))
 (.seq
 (.ops [
 O1 (.mv 284 (.t 25)), O1 (.b2s 285 (.t 284)), O1 (.asg 2 (.t 285))])
 .ret))))))))))
def rets_exchequerref02_Sum : List Ret := [.t 2]
theorem of_exchequerref02_Sum {args : List SV} {Post : SV → List SV → Prop} (h : wqF Try.prog 286 ir_exchequerref02_Sum rets_exchequerref02_Sum args Post) (hn : args.length ≤ 286) : Fn Try.prog 62 args Post :=
 Fn.of_body' Try.func62 rfl Try.ntmps62 (by kernel_rfl) (by kernel_rfl) hn (wqF_wp h)
/-- exchequer/exchequerref02.Joined · parameters [[]string] -/
abbrev F_exchequerref02_Joined : FuncId := 63
def ir_exchequerref02_Joined : Stm :=
 (.seq
 (.ops [
 O1 (.asg 2 (.c (.str [])))])
 (.seq
 (.ops [
 O1 (.empty 5 5 1), O1 (.asg 3 (.t 5))])
 (.seq
 (.seq
 (.ops [
 O1 (.asg 4 (.c (.int .i64 0)))])
 (.block 0
 (.loop [6, 7, 8, 9, 10, 11, 12, 13, 14, 15, 16, 17, 18, 19, 20, 21, 22, 23, 24, 25, 26]
 (.seq
 (.seq
 (.ops [
 O1 (.mv 6 (.t 4)), O1 (.mv 7 (.t 0)), O1 (.len 8 false (.t 7)), O1 (.bin 9 .lss (.t 6) (.t 8))])
 (.cond (.t 9)
 .skip
 (.exit 0)))
 (.seq
 (.block 1
 (.drw [[], [], [], [1, 2], [3], [4], [5], [6], [0, 7], [], [], [9, 10], [11], [8, 12], [13, 0, 1, 2, 3, 4, 5, 6, 7, 8, 9, 10, 11, 12]] [
 O1 (.mv 12 (.t 3)), O1 (.mv 13 (.t 0)), O1 (.mv 14 (.t 4)), O1 (.iaddr 15 1 (.t 13) (.t 14)), O1 (.load 16 false 1 (.t 15)), O1 (.len 17 true (.t 16)), O1 (.conv 18 .u64 (.t 17)), .call none (some 19) 75 [(false, (.t 18)), (false, (.c (.int .i64 8)))], O1 (.appB 20 5 1 1 false (.t 12) (.t 19)), O1 (.mv 21 (.t 0)), O1 (.mv 22 (.t 4)), O1 (.iaddr 23 1 (.t 21) (.t 22)), O1 (.load 24 false 1 (.t 23)), O1 (.appB 25 5 1 1 true (.t 20) (.t 24)), O1 (.asg 3 (.t 25))]))
 (.ops [
 O1 (.mv 10 (.t 4)), O1 (.bin 11 .add (.t 10) (.c (.int .i64 1))), O1 (.asg 4 (.t 11))]))))))
 (.seq
 (.ops [
 O1 (.mv 26 (.t 3)), O1 (.b2s 27 (.t 26)), O1 (.asg 2 (.t 27))])
 .ret))))
def rets_exchequerref02_Joined : List Ret := [.t 2]
theorem of_exchequerref02_Joined {args : List SV} {Post : SV → List SV → Prop} (h : wqF Try.prog 28 ir_exchequerref02_Joined rets_exchequerref02_Joined args Post) (hn : args.length ≤ 28) : Fn Try.prog 63 args Post :=
 Fn.of_body' Try.func63 rfl Try.ntmps63 (by kernel_rfl) (by kernel_rfl) hn (wqF_wp h)
/-- exchequer/exchequerref15.has · parameters [[]string, string] -/
abbrev F_exchequerref15_has : FuncId := 64
def ir_exchequerref15_has : Stm :=
 (.seq
 (.ops [
 O1 (.asg 4 (.c (.bool false)))])
 (.seq
 (.seq
 (.ops [
 O1 (.asg 5 (.c (.int .i64 0)))])
 (.block 0
 (.loop [4, 6, 7, 8, 9, 10, 11, 12, 13, 14, 15, 16, 17]
 (.seq
 (.seq
 (.ops [
 O1 (.mv 6 (.t 5)), O1 (.mv 7 (.t 0)), O1 (.len 8 false (.t 7)), O1 (.bin 9 .lss (.t 6) (.t 8))])
 (.cond (.t 9)
 .skip
 (.exit 0)))
 (.seq
 (.block 1
 (.seq
 (.ops [
 O1 (.mv 12 (.t 0)), O1 (.mv 13 (.t 5)), O1 (.iaddr 14 1 (.t 12) (.t 13)), O1 (.load 15 false 1 (.t 14)), O1 (.mv 16 (.t 1)), O1 (.bin 17 .eql (.t 15) (.t 16))])
 (.cond (.t 17)
 (.seq
 (.ops [
 O1 (.asg 4 (.c (.bool true)))])
 .ret)
 .skip)))
 (.ops [
 O1 (.mv 10 (.t 5)), O1 (.bin 11 .add (.t 10) (.c (.int .i64 1))), O1 (.asg 5 (.t 11))]))))))
 (.seq
 (.ops [
 O1 (.asg 4 (.c (.bool false)))])
 .ret)))
def rets_exchequerref15_has : List Ret := [.t 4]
theorem of_exchequerref15_has {args : List SV} {Post : SV → List SV → Prop} (h : wqF Try.prog 18 ir_exchequerref15_has rets_exchequerref15_has args Post) (hn : args.length ≤ 18) : Fn Try.prog 64 args Post :=
 Fn.of_body' Try.func64 rfl Try.ntmps64 (by kernel_rfl) (by kernel_rfl) hn (wqF_wp h)
/-- exchequer/exchequerref15.texts · parameters [[]string, string] -/
abbrev F_exchequerref15_texts : FuncId := 65
def ir_exchequerref15_texts : Stm :=
 (.seq
 (.ops [
 O1 (.asg 4 (.nils 9 1))])
 (.seq
 (.ops [
 O1 (.empty 8 9 1), O1 (.asg 5 (.t 8))])
 (.seq
 (.ops [
 O1 (.asg 6 (.c (.bool false)))])
 (.seq
 (.seq
 (.ops [
 O1 (.asg 7 (.c (.int .i64 0)))])
 (.block 0
 (.loop [9, 10, 11, 12, 13, 14, 15, 16, 17, 18, 19, 20, 21, 22, 23, 24, 25, 26, 27, 28, 29, 30, 31, 32, 33, 34, 35, 38, 42]
 (.seq
 (.seq
 (.ops [
 O1 (.mv 9 (.t 7)), O1 (.mv 10 (.t 0)), O1 (.len 11 false (.t 10)), O1 (.bin 12 .lss (.t 9) (.t 11))])
 (.cond (.t 12)
 .skip
 (.exit 0)))
 (.seq
 (.block 1
 (.seq
 (.seq
 (.ops [
 O1 (.mv 15 (.t 6)), O1 (.not 16 (.t 15)), O1 (.mv 17 (.t 16)), .op (some (17, true)) (.mv 18 (.t 1)), .op (some (17, true)) (.mv 19 (.t 0)), .op (some (17, true)) (.mv 20 (.t 7)), .op (some (17, true)) (.iaddr 21 1 (.t 19) (.t 20)), .op (some (17, true)) (.load 22 false 1 (.t 21)), .op (some (17, true)) (.bin 23 .lss (.t 18) (.t 22)), O1 (.pick 24 (.t 17) (.t 23) (.c (.bool false)))])
 (.cond (.t 24)
 (.seq
 (.ops [
 O1 (.mv 25 (.t 5)), O1 (.mv 26 (.t 1)), O1 (.bsl 27 9 1 (.str []) 1 [(0, (.t 26))]), O1 (.app 28 9 1 16 (.t 25) (.t 27)), O1 (.asg 5 (.t 28))])
 (.ops [
 O1 (.asg 6 (.c (.bool true)))]))
 .skip))
 (.ops [
 O1 (.mv 29 (.t 5)), O1 (.mv 30 (.t 0)), O1 (.mv 31 (.t 7)), O1 (.iaddr 32 1 (.t 30) (.t 31)), O1 (.load 33 false 1 (.t 32)), O1 (.bsl 34 9 1 (.str []) 1 [(0, (.t 33))]), O1 (.app 35 9 1 16 (.t 29) (.t 34)), O1 (.asg 5 (.t 35))])))
 (.ops [
 O1 (.mv 13 (.t 7)), O1 (.bin 14 .add (.t 13) (.c (.int .i64 1))), O1 (.asg 7 (.t 14))]))))))
 (.seq
 (.seq
 (.ops [
 O1 (.mv 36 (.t 6)), O1 (.not 37 (.t 36))])
 (.cond (.t 37)
 (.ops [
 O1 (.mv 38 (.t 5)), O1 (.mv 39 (.t 1)), O1 (.bsl 40 9 1 (.str []) 1 [(0, (.t 39))]), O1 (.app 41 9 1 16 (.t 38) (.t 40)), O1 (.asg 5 (.t 41))])
 .skip))
 (.seq
 (.ops [
 O1 (.mv 42 (.t 5)), O1 (.mov 4 9 1 (.t 42))])
 .ret))))))
def rets_exchequerref15_texts : List Ret := [.t 4]
theorem of_exchequerref15_texts {args : List SV} {Post : SV → List SV → Prop} (h : wqF Try.prog 43 ir_exchequerref15_texts rets_exchequerref15_texts args Post) (hn : args.length ≤ 43) : Fn Try.prog 65 args Post :=
 Fn.of_body' Try.func65 rfl Try.ntmps65 (by kernel_rfl) (by kernel_rfl) hn (wqF_wp h)
/-- slices.IndexFunc[[]exchequer/api.Span,exchequer/api.Span] · parameters [[]api.Span, func(api.Span) bool] -/
abbrev F_slices_IndexFunc_L_api_Span_api_Span : FuncId := 66
def ir_slices_IndexFunc_L_api_Span_api_Span : Stm :=
 (.seq
 (.ops [
 O1 (.asg 4 (.c (.int .i64 0)))])
 (.seq
 (.seq
 (.ops [
 O1 (.mv 6 (.t 0)), O1 (.len 7 false (.t 6)), O1 (.mv 8 (.c (.int .i64 0)))])
 (.block 0
 (.loop [4, 5, 6, 9, 10, 11, 12, 13, 14, 15, 16, 17, 18]
 (.seq
 (.ops [
 O1 (.bin 9 .lss (.t 8) (.t 7))])
 (.seq
 (.cond (.t 9)
 .skip
 (.exit 0))
 (.seq
 (.block 1
 (.seq
 (.ops [
 O1 (.mv 10 (.t 8)), O1 (.asg 5 (.t 10))])
 (.seq
 (.ops [
 O1 (.mv 11 (.t 1)), O1 (.mv 12 (.t 0)), O1 (.mv 13 (.t 5)), O1 (.iaddr 14 2 (.t 12) (.t 13)), O1 (.load 15 true 2 (.t 14)),
 .dyn none (some 16) [52, 71] (.t 11) [(false, (.t 15))]])
 (.cond (.t 16)
 (.seq
 (.ops [
 O1 (.mv 17 (.t 5)), O1 (.asg 4 (.t 17))])
 .ret)
 .skip))))
 (.ops [
 O1 (.bin 18 .add (.t 8) (.c (.int .i64 1))), O1 (.mv 8 (.t 18))])))))))
 (.seq
 (.ops [
 O1 (.asg 4 (.c (.int .i64 (-1))))])
 .ret)))
def rets_slices_IndexFunc_L_api_Span_api_Span : List Ret := [.t 4]
theorem of_slices_IndexFunc_L_api_Span_api_Span {args : List SV} {Post : SV → List SV → Prop} (h : wqF Try.prog 19 ir_slices_IndexFunc_L_api_Span_api_Span rets_slices_IndexFunc_L_api_Span_api_Span args Post) (hn : args.length ≤ 19) : Fn Try.prog 66 args Post :=
 Fn.of_body' Try.func66 rfl Try.ntmps66 (by kernel_rfl) (by kernel_rfl) hn (wqF_wp h)
/-- cmp.isNaN[string] · parameters [string] -/
abbrev F_cmp_isNaN_string : FuncId := 69
def ir_cmp_isNaN_string : Stm :=
 (.seq
 (.ops [
 O1 (.asg 2 (.c (.bool false)))])
 (.seq
 (.ops [
 O1 (.mv 3 (.t 0)), O1 (.mv 4 (.t 0)), O1 (.bin 5 .neq (.t 3) (.t 4)), O1 (.asg 2 (.t 5))])
 .ret))
def rets_cmp_isNaN_string : List Ret := [.t 2]
theorem of_cmp_isNaN_string {args : List SV} {Post : SV → List SV → Prop} (h : wqF Try.prog 6 ir_cmp_isNaN_string rets_cmp_isNaN_string args Post) (hn : args.length ≤ 6) : Fn Try.prog 69 args Post :=
 Fn.of_body' Try.func69 rfl Try.ntmps69 (by kernel_rfl) (by kernel_rfl) hn (wqF_wp h)
/-- slices.ContainsFunc[[]exchequer/api.Span,exchequer/api.Span] · parameters [[]api.Span, func(api.Span) bool] -/
abbrev F_slices_ContainsFunc_L_api_Span_api_Span : FuncId := 70
def ir_slices_ContainsFunc_L_api_Span_api_Span : Stm :=
 (.seq
 (.ops [
 O1 (.asg 4 (.c (.bool false)))])
 (.seq
 (.ops [
 O1 (.mv 5 (.t 0)), O1 (.mv 6 (.t 1)), .call none (some 7) 66 [(false, (.t 5)), (false, (.t 6))], O1 (.bin 8 .geq (.t 7) (.c (.int .i64 0))), O1 (.asg 4 (.t 8))])
 .ret))
def rets_slices_ContainsFunc_L_api_Span_api_Span : List Ret := [.t 4]
theorem of_slices_ContainsFunc_L_api_Span_api_Span {args : List SV} {Post : SV → List SV → Prop} (h : wqF Try.prog 9 ir_slices_ContainsFunc_L_api_Span_api_Span rets_slices_ContainsFunc_L_api_Span_api_Span args Post) (hn : args.length ≤ 9) : Fn Try.prog 70 args Post :=
 Fn.of_body' Try.func70 rfl Try.ntmps70 (by kernel_rfl) (by kernel_rfl) hn (wqF_wp h)
/-- exchequer/span.Covers$1 · parameters [api.Span] -/
abbrev F_span_Covers_1 : FuncId := 71
def ir_span_Covers_1 : Stm :=
 (.seq
 (.ops [
 O1 (.box 2 (.t 0)), O1 (.asg 3 (.c (.bool false)))])
 (.seq
 (.ops [
 O1 (.load 4 true 2 (.t 1)), O1 (.load 5 true 2 (.t 2)), .call none (some 6) 72 [(false, (.t 4)), (false, (.t 5))], O1 (.asg 3 (.t 6))])
 .ret))
def rets_span_Covers_1 : List Ret := [.t 3]
theorem of_span_Covers_1 {args : List SV} {Post : SV → List SV → Prop} (h : wqF Try.prog 7 ir_span_Covers_1 rets_span_Covers_1 args Post) (hn : args.length ≤ 7) : Fn Try.prog 71 args Post :=
 Fn.of_body' Try.func71 rfl Try.ntmps71 (by kernel_rfl) (by kernel_rfl) hn (wqF_wp h)
/-- exchequer/span.Inside · parameters [api.Span, api.Span] -/
abbrev F_span_Inside : FuncId := 72
def ir_span_Inside : Stm :=
 (.seq
 (.ops [
 O1 (.box 2 (.t 0)), O1 (.box 3 (.t 1)), O1 (.asg 4 (.c (.bool false)))])
 (.seq
 (.ops [
 O1 (.load 5 true 2 (.t 2)), .call none (some 6) 53 [(false, (.t 5))], O1 (.mv 7 (.t 6)), .op (some (7, true)) (.load 8 true 2 (.t 3)), .call (some (7, true)) (some 9) 53 [(false, (.t 8))], O1 (.pick 10 (.t 7) (.t 9) (.c (.bool false))), O1 (.mv 11 (.t 10)), .op (some (11, true)) (.faddr 12 (.t 2) 0 0), .op (some (11, true)) (.load 13 false 1 (.t 12)), .op (some (11, true)) (.faddr 14 (.t 3) 0 0), .op (some (11, true)) (.load 15 false 1 (.t 14)), .op (some (11, true)) (.bin 16 .geq (.t 13) (.t 15)), O1 (.pick 17 (.t 11) (.t 16) (.c (.bool false))), O1 (.mv 18 (.t 17)), .op (some (18, true)) (.faddr 19 (.t 2) 1 1), .op (some (18, true)) (.load 20 false 1 (.t 19)), .op (some (18, true)) (.faddr 21 (.t 3) 1 1), .op (some (18, true)) (.load 22 false 1 (.t 21)), .call (some (18, true)) (some 23) 57 [(false, (.t 20)), (false, (.t 22))], .op (some (18, true)) (.bin 24 .leq (.t 23) (.c (.int .i64 0))), O1 (.pick 25 (.t 18) (.t 24) (.c (.bool false))), O1 (.asg 4 (.t 25))])
 .ret))
def rets_span_Inside : List Ret := [.t 4]
theorem of_span_Inside {args : List SV} {Post : SV → List SV → Prop} (h : wqF Try.prog 26 ir_span_Inside rets_span_Inside args Post) (hn : args.length ≤ 26) : Fn Try.prog 72 args Post :=
 Fn.of_body' Try.func72 rfl Try.ntmps72 (by kernel_rfl) (by kernel_rfl) hn (wqF_wp h)
/-- exchequer/exchequerref04.within · parameters [string, int, uint8, uint8] -/
abbrev F_exchequerref04_within : FuncId := 73
def ir_exchequerref04_within : Stm :=
 (.seq
 (.ops [
 O1 (.asg 8 (.c (.bool false)))])
 (.seq
 (.ops [
 O1 (.mv 9 (.t 1)), O1 (.mv 10 (.t 0)), O1 (.len 11 true (.t 10)), O1 (.bin 12 .lss (.t 9) (.t 11)), O1 (.mv 13 (.t 12)), .op (some (13, true)) (.mv 14 (.t 0)), .op (some (13, true)) (.mv 15 (.t 1)), .op (some (13, true)) (.sidx 16 (.t 14) (.t 15)), .op (some (13, true)) (.mv 17 (.t 2)), .op (some (13, true)) (.bin 18 .geq (.t 16) (.t 17)), O1 (.pick 19 (.t 13) (.t 18) (.c (.bool false))), O1 (.mv 20 (.t 19)), .op (some (20, true)) (.mv 21 (.t 0)), .op (some (20, true)) (.mv 22 (.t 1)), .op (some (20, true)) (.sidx 23 (.t 21) (.t 22)), .op (some (20, true)) (.mv 24 (.t 3)), .op (some (20, true)) (.bin 25 .leq (.t 23) (.t 24)), O1 (.pick 26 (.t 20) (.t 25) (.c (.bool false))), O1 (.asg 8 (.t 26))])
 .ret))
def rets_exchequerref04_within : List Ret := [.t 8]
theorem of_exchequerref04_within {args : List SV} {Post : SV → List SV → Prop} (h : wqF Try.prog 27 ir_exchequerref04_within rets_exchequerref04_within args Post) (hn : args.length ≤ 27) : Fn Try.prog 73 args Post :=
 Fn.of_body' Try.func73 rfl Try.ntmps73 (by kernel_rfl) (by kernel_rfl) hn (wqF_wp h)
/-- exchequer/exchequerref04.tail · parameters [string, int, int] -/
abbrev F_exchequerref04_tail : FuncId := 74
def ir_exchequerref04_tail : Stm :=
 (.seq
 (.ops [
 O1 (.asg 6 (.c (.bool false)))])
 (.seq
 (.seq
 (.ops [
 O1 (.asg 7 (.c (.int .i64 0)))])
 (.block 0
 (.loop [6, 8, 9, 10, 11, 12, 13, 14, 15, 16, 17, 18]
 (.seq
 (.seq
 (.ops [
 O1 (.mv 8 (.t 7)), O1 (.mv 9 (.t 2)), O1 (.bin 10 .lss (.t 8) (.t 9))])
 (.cond (.t 10)
 .skip
 (.exit 0)))
 (.seq
 (.block 1
 (.seq
 (.ops [
 O1 (.mv 13 (.t 0)), O1 (.mv 14 (.t 1)), O1 (.mv 15 (.t 7)), O1 (.bin 16 .add (.t 14) (.t 15)), .call none (some 17) 73 [(false, (.t 13)), (false, (.t 16)), (false, (.c (.int .u8 128))), (false, (.c (.int .u8 191)))], O1 (.not 18 (.t 17))])
 (.cond (.t 18)
 (.seq
 (.ops [
 O1 (.asg 6 (.c (.bool false)))])
 .ret)
 .skip)))
 (.ops [
 O1 (.mv 11 (.t 7)), O1 (.bin 12 .add (.t 11) (.c (.int .i64 1))), O1 (.asg 7 (.t 12))]))))))
 (.seq
 (.ops [
 O1 (.asg 6 (.c (.bool true)))])
 .ret)))
def rets_exchequerref04_tail : List Ret := [.t 6]
theorem of_exchequerref04_tail {args : List SV} {Post : SV → List SV → Prop} (h : wqF Try.prog 19 ir_exchequerref04_tail rets_exchequerref04_tail args Post) (hn : args.length ≤ 19) : Fn Try.prog 74 args Post :=
 Fn.of_body' Try.func74 rfl Try.ntmps74 (by kernel_rfl) (by kernel_rfl) hn (wqF_wp h)
/-- exchequer/exchequerref02.number · parameters [uint64, int] -/
abbrev F_exchequerref02_number : FuncId := 75
def ir_exchequerref02_number : Stm :=
 (.seq
 (.ops [
 O1 (.asg 4 (.nils 5 1))])
 (.seq
 (.ops [
 O1 (.mv 7 (.t 1)), O1 (.make 8 5 1 1 (.int .u8 0) (.t 7)), O1 (.asg 5 (.t 8))])
 (.seq
 (.seq
 (.ops [
 O1 (.mv 9 (.t 1)), O1 (.bin 10 .sub (.t 9) (.c (.int .i64 1))), O1 (.asg 6 (.t 10))])
 (.block 0
 (.loop [11, 12, 13, 14, 15, 16, 17, 18, 19, 20, 21, 22, 23]
 (.seq
 (.seq
 (.ops [
 O1 (.mv 11 (.t 6)), O1 (.bin 12 .geq (.t 11) (.c (.int .i64 0)))])
 (.cond (.t 12)
 .skip
 (.exit 0)))
 (.seq
 (.block 1
 (.seq
 (.ops [
 O1 (.mv 15 (.t 5)), O1 (.mv 16 (.t 6)), O1 (.mv 17 (.t 0)), O1 (.bits 18 .rem (.t 17) (.c (.int .u64 256))), O1 (.conv 19 .u8 (.t 18)), O1 (.iaddr 20 1 (.t 15) (.t 16)), O1 (.store 1 (.t 20) (.t 19))])
 (.ops [
 O1 (.mv 21 (.t 0)), O1 (.bits 22 .quo (.t 21) (.c (.int .u64 256))), O1 (.asg 0 (.t 22))])))
 (.ops [
 O1 (.mv 13 (.t 6)), O1 (.bin 14 .sub (.t 13) (.c (.int .i64 1))), O1 (.asg 6 (.t 14))]))))))
 (.seq
 (.ops [
 O1 (.mv 23 (.t 5)), O1 (.mov 4 5 1 (.t 23))])
 .ret))))
def rets_exchequerref02_number : List Ret := [.t 4]
theorem ofv_exchequerref02_number {args : List SV} {Post : SV → List SV → Prop} (h : wqFV Try.prog 24 ir_exchequerref02_number 4 args Post) (hn : args.length ≤ 24) : Fn Try.prog 75 args Post :=
 Fn.of_vec Try.func75 rfl Try.ntmps75 (by kernel_rfl) (by kernel_rfl) (by decide) hn (wqFV_wp h)
/-- exchequer/exchequerref02.constants · parameters [] -/
abbrev F_exchequerref02_constants : FuncId := 76
def ir_exchequerref02_constants : Stm :=
 (.seq
 (.ops [
 O1 (.asg 0 (.nils 112 1))])
 (.seq
 (.ops [
 O1 (.bsl 1 112 1 (.int .u32 0) 64 [(0, (.c (.int .u32 1116352408))), (1, (.c (.int .u32 1899447441))), (2, (.c (.int .u32 3049323471))), (3, (.c (.int .u32 3921009573))), (4, (.c (.int .u32 961987163))), (5, (.c (.int .u32 1508970993))), (6, (.c (.int .u32 2453635748))), (7, (.c (.int .u32 2870763221))), (8, (.c (.int .u32 3624381080))), (9, (.c (.int .u32 310598401))), (10, (.c (.int .u32 607225278))), (11, (.c (.int .u32 1426881987))), (12, (.c (.int .u32 1925078388))), (13, (.c (.int .u32 2162078206))), (14, (.c (.int .u32 2614888103))), (15, (.c (.int .u32 3248222580))), (16, (.c (.int .u32 3835390401))), (17, (.c (.int .u32 4022224774))), (18, (.c (.int .u32 264347078))), (19, (.c (.int .u32 604807628))), (20, (.c (.int .u32 770255983))), (21, (.c (.int .u32 1249150122))), (22, (.c (.int .u32 1555081692))), (23, (.c (.int .u32 1996064986))), (24, (.c (.int .u32 2554220882))), (25, (.c (.int .u32 2821834349))), (26, (.c (.int .u32 2952996808))), (27, (.c (.int .u32 3210313671))), (28, (.c (.int .u32 3336571891))), (29, (.c (.int .u32 3584528711))), (30, (.c (.int .u32 113926993))), (31, (.c (.int .u32 338241895))), (32, (.c (.int .u32 666307205))), (33, (.c (.int .u32 773529912))), (34, (.c (.int .u32 1294757372))), (35, (.c (.int .u32 1396182291))), (36, (.c (.int .u32 1695183700))), (37, (.c (.int .u32 1986661051))), (38, (.c (.int .u32 2177026350))), (39, (.c (.int .u32 2456956037))), (40, (.c (.int .u32 2730485921))), (41, (.c (.int .u32 2820302411))), (42, (.c (.int .u32 3259730800))), (43, (.c (.int .u32 3345764771))), (44, (.c (.int .u32 3516065817))), (45, (.c (.int .u32 3600352804))), (46, (.c (.int .u32 4094571909))), (47, (.c (.int .u32 275423344))), (48, (.c (.int .u32 430227734))), (49, (.c (.int .u32 506948616))), (50, (.c (.int .u32 659060556))), (51, (.c (.int .u32 883997877))), (52, (.c (.int .u32 958139571))), (53, (.c (.int .u32 1322822218))), (54, (.c (.int .u32 1537002063))), (55, (.c (.int .u32 1747873779))), (56, (.c (.int .u32 1955562222))), (57, (.c (.int .u32 2024104815))), (58, (.c (.int .u32 2227730452))), (59, (.c (.int .u32 2361852424))), (60, (.c (.int .u32 2428436474))), (61, (.c (.int .u32 2756734187))), (62, (.c (.int .u32 3204031479))), (63, (.c (.int .u32 3329325298)))]), O1 (.asg 0 (.t 1))])
 .ret))
def rets_exchequerref02_constants : List Ret := [.t 0]
theorem ofv_exchequerref02_constants {args : List SV} {Post : SV → List SV → Prop} (h : wqFV Try.prog 2 ir_exchequerref02_constants 0 args Post) (hn : args.length ≤ 2) : Fn Try.prog 76 args Post :=
 Fn.of_vec Try.func76 rfl Try.ntmps76 (by kernel_rfl) (by kernel_rfl) (by decide) hn (wqFV_wp h)
/-- exchequer/exchequerref02.turn · parameters [uint32, uint] -/
abbrev F_exchequerref02_turn : FuncId := 77
def ir_exchequerref02_turn : Stm :=
 (.seq
 (.ops [
 O1 (.asg 4 (.c (.int .u32 0)))])
 (.seq
 (.ops [
 O1 (.mv 5 (.t 0)), O1 (.mv 6 (.t 1)), O1 (.bits 7 .shr (.t 5) (.t 6)), O1 (.mv 8 (.t 0)), O1 (.mv 9 (.t 1)), O1 (.bin 10 .sub (.c (.int .u64 32)) (.t 9)), O1 (.bits 11 .shl (.t 8) (.t 10)), O1 (.bits 12 .or (.t 7) (.t 11)), O1 (.asg 4 (.t 12))])
 .ret))
def rets_exchequerref02_turn : List Ret := [.t 4]
theorem of_exchequerref02_turn {args : List SV} {Post : SV → List SV → Prop} (h : wqF Try.prog 13 ir_exchequerref02_turn rets_exchequerref02_turn args Post) (hn : args.length ≤ 13) : Fn Try.prog 77 args Post :=
 Fn.of_body' Try.func77 rfl Try.ntmps77 (by kernel_rfl) (by kernel_rfl) hn (wqF_wp h)
end Go.Ab
