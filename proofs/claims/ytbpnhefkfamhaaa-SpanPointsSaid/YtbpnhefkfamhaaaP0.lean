/- One text of the proof whose last text says what is proved. -/
import Derived.Test.YtbpnhefkfamhaaaProg
import Derived.KernelRfl
import Derived.Test.YtbpnhefkfamhaaaAb21
set_option linter.unusedVariables false
set_option linter.unusedSimpArgs false
set_option maxRecDepth 100000
namespace Go.Ab
open Go.Proofs

/-- exchequer/exchequerlaw05.SpanUnions · parameters [[]api.Span] -/
abbrev F_exchequerlaw05_SpanUnions : FuncId := 3
def ir_exchequerlaw05_SpanUnions : Stm :=
  (.seq
  (.ops [
    .op none (.asg 2 (.c (.bool false)))])
  (.seq
  (.seq
  (.ops [
    .call none (some 5) 10 [],
    .op none (.not 6 (.t 5))])
  (.cond (.t 6)
    (.seq
    (.ops [
      .op none (.asg 2 (.c (.bool false)))])
    .ret)
    .skip))
  (.seq
  (.seq
  (.ops [
    .op none (.mv 7 (.t 0)),
    .call none (some 8) 11 [(false, (.t 7)), (false, (.nils 9 1))]])
  (.cond (.t 8)
    (.seq
    (.ops [
      .op none (.asg 2 (.c (.bool true)))])
    .ret)
    .skip))
  (.seq
  (.ops [
    .op none (.empty 9 29 2),
    .op none (.mv 10 (.t 0)),
    .op none (.app 11 29 2 32 (.t 9) (.t 10)),
    .op none (.asg 3 (.t 11))])
  (.seq
  (.ops [
    .op none (.mv 12 (.t 0)),
    .call none (some 13) 12 [(false, (.t 12))],
    .op none (.asg 4 (.t 13))])
  (.seq
  (.ops [
    .op none (.mv 14 (.t 4)),
    .op none (.mv 15 (.t 0)),
    .call none (some 16) 14 [(false, (.t 15))],
    .call none (some 17) 13 [(false, (.t 14)), (false, (.t 16))],
    .op none (.mv 18 (.t 17)),
    .op (some (18, true)) (.mv 19 (.t 4)),
    .call (some (18, true)) (some 20) 12 [(false, (.t 19))],
    .op (some (18, true)) (.mv 21 (.t 4)),
    .call (some (18, true)) (some 22) 13 [(false, (.t 20)), (false, (.t 21))],
    .op none (.pick 23 (.t 18) (.t 22) (.c (.bool false))),
    .op none (.mv 24 (.t 23)),
    .op (some (24, true)) (.mv 25 (.t 0)),
    .op (some (24, true)) (.mv 26 (.t 3)),
    .call (some (24, true)) (some 27) 13 [(false, (.t 25)), (false, (.t 26))],
    .op none (.pick 28 (.t 24) (.t 27) (.c (.bool false))),
    .op none (.asg 2 (.t 28))])
  .ret))))))
def rets_exchequerlaw05_SpanUnions : List Ret := [.t 2]
theorem of_exchequerlaw05_SpanUnions {args : List SV} {Post : SV → List SV → Prop} (h : wqF Try.prog 29 ir_exchequerlaw05_SpanUnions rets_exchequerlaw05_SpanUnions args Post) (hn : args.length ≤ 29) : Fn Try.prog 3 args Post :=
  Fn.of_body' Try.func3 rfl Try.ntmps3 (by kernel_rfl) (by kernel_rfl) hn (wqF_wp h)

theorem ofv_exchequerlaw05_SpanUnions {args : List SV} {Post : SV → List SV → Prop} (h : wqFV Try.prog 29 ir_exchequerlaw05_SpanUnions 2 args Post) (hn : args.length ≤ 29) : Fn Try.prog 3 args Post :=
  Fn.of_vec Try.func3 rfl Try.ntmps3 (by kernel_rfl) (by kernel_rfl) (by decide) hn (wqFV_wp h)

/-- exchequer/exchequerlaw05.SpanHas · parameters [api.Span, string] -/
abbrev F_exchequerlaw05_SpanHas : FuncId := 4
def ir_exchequerlaw05_SpanHas : Stm :=
  (.seq
  (.ops [
    .op none (.box 2 (.t 0)),
    .op none (.asg 4 (.c (.bool false)))])
  (.seq
  (.seq
  (.ops [
    .call none (some 5) 10 [],
    .op none (.not 6 (.t 5))])
  (.cond (.t 6)
    (.seq
    (.ops [
      .op none (.asg 4 (.c (.bool false)))])
    .ret)
    .skip))
  (.seq
  (.drw [[], [0], [], [2], [1, 3], [4], [5], [6, 5], [5], [8, 7, 5], [7, 9, 5], [10, 9, 5], [11], [11], [12, 13, 11], [11], [11], [15, 16, 14, 11], [14, 17, 11], [11, 18, 5], [5, 19], [20, 17, 0, 1, 2, 3, 4, 5, 6, 7, 8, 9, 10, 11, 12, 13, 14, 15, 16, 18, 19]] [
    .op none (.load 7 true 2 (.t 2)),
    .op none (.bsl 8 29 2 (.agg [(.str []), (.str [])]) 1 [(0, (.t 7))]),
    .op none (.mv 9 (.t 1)),
    .op none (.bsl 10 9 1 (.str []) 1 [(0, (.t 9))]),
    .call none (some 11) 11 [(false, (.t 8)), (false, (.t 10))],
    .op none (.mv 12 (.t 11)),
    .op (some (12, false)) (.load 13 true 2 (.t 2)),
    .call (some (12, false)) (some 14) 15 [(false, (.t 13))],
    .op (some (12, false)) (.load 15 true 2 (.t 2)),
    .call (some (12, false)) (some 16) 16 [(false, (.t 15))],
    .op (some (12, false)) (.eqs 17 false .bool (.t 14) (.t 16)),
    .op (some (12, false)) (.mv 18 (.t 17)),
    .op (some (18, true)) (.load 19 true 2 (.t 2)),
    .op (some (18, true)) (.mv 20 (.t 1)),
    .call (some (18, true)) (some 21) 17 [(false, (.t 19)), (false, (.t 20))],
    .op (some (18, true)) (.load 22 true 2 (.t 2)),
    .op (some (18, true)) (.mv 23 (.t 1)),
    .call (some (18, true)) (some 24) 18 [(false, (.t 22)), (false, (.t 23))],
    .op (some (18, true)) (.eqs 25 false .bool (.t 21) (.t 24)),
    .op (some (12, false)) (.pick 26 (.t 18) (.t 25) (.c (.bool false))),
    .op none (.pick 27 (.t 12) (.c (.bool true)) (.t 26)),
    .op none (.asg 4 (.t 27))])
  .ret)))
def rets_exchequerlaw05_SpanHas : List Ret := [.t 4]
theorem of_exchequerlaw05_SpanHas {args : List SV} {Post : SV → List SV → Prop} (h : wqF Try.prog 28 ir_exchequerlaw05_SpanHas rets_exchequerlaw05_SpanHas args Post) (hn : args.length ≤ 28) : Fn Try.prog 4 args Post :=
  Fn.of_body' Try.func4 rfl Try.ntmps4 (by kernel_rfl) (by kernel_rfl) hn (wqF_wp h)

theorem ofv_exchequerlaw05_SpanHas {args : List SV} {Post : SV → List SV → Prop} (h : wqFV Try.prog 28 ir_exchequerlaw05_SpanHas 4 args Post) (hn : args.length ≤ 28) : Fn Try.prog 4 args Post :=
  Fn.of_vec Try.func4 rfl Try.ntmps4 (by kernel_rfl) (by kernel_rfl) (by decide) hn (wqFV_wp h)

/-- exchequer/exchequerlaw05.SpanKeys · parameters [string, string] -/
abbrev F_exchequerlaw05_SpanKeys : FuncId := 5
def ir_exchequerlaw05_SpanKeys : Stm :=
  (.seq
  (.ops [
    .op none (.asg 4 (.c (.bool false)))])
  (.seq
  (.seq
  (.ops [
    .call none (some 7) 10 [],
    .op none (.not 8 (.t 7))])
  (.cond (.t 8)
    (.seq
    (.ops [
      .op none (.asg 4 (.c (.bool false)))])
    .ret)
    .skip))
  (.seq
  (.seq
  (.ops [
    .op none (.mv 9 (.t 0)),
    .op none (.mv 10 (.t 1)),
    .op none (.bsl 11 9 1 (.str []) 2 [(0, (.t 9)), (1, (.t 10))]),
    .call none (some 12) 11 [(false, (.nils 29 2)), (false, (.t 11))]])
  (.cond (.t 12)
    (.seq
    (.ops [
      .op none (.asg 4 (.c (.bool true)))])
    .ret)
    .skip))
  (.seq
  (.ops [
    .op none (.mv 13 (.t 1)),
    .op none (.len 14 true (.t 13)),
    .op none (.mv 15 (.t 0)),
    .op none (.len 16 true (.t 15)),
    .op none (.bin 17 .geq (.t 14) (.t 16)),
    .op none (.mv 18 (.t 17)),
    .op (some (18, true)) (.mv 19 (.t 1)),
    .op (some (18, true)) (.mv 20 (.t 0)),
    .op (some (18, true)) (.len 21 true (.t 20)),
    .op (some (18, true)) (.mv 22 (.t 1)),
    .op (some (18, true)) (.len 23 true (.t 22)),
    .op (some (18, true)) (.mm 24 false (.t 21) (.t 23)),
    .op (some (18, true)) (.slc 25 true 1 (.t 19) none (some (.t 24))),
    .op (some (18, true)) (.mv 26 (.t 0)),
    .op (some (18, true)) (.bin 27 .eql (.t 25) (.t 26)),
    .op none (.pick 28 (.t 18) (.t 27) (.c (.bool false))),
    .op none (.asg 5 (.t 28))])
  (.seq
  (.ops [
    .op none (.mv 29 (.t 0)),
    .call none (some 30) 19 [(false, (.t 29))],
    .op none (.alloc 6 (.one (.i (.agg [(.str []), (.str [])])))),
    .op none (.store 2 (.t 6) (.t 30))])
  (.seq
  (.ops [
    .op none (.mv 31 (.t 0)),
    .call none (some 32) 20 [(false, (.t 31))],
    .op none (.mv 33 (.t 1)),
    .call none (some 34) 17 [(false, (.t 32)), (false, (.t 33))],
    .op none (.mv 35 (.t 1)),
    .op none (.mv 36 (.t 0)),
    .op none (.bin 37 .eql (.t 35) (.t 36)),
    .op none (.eqs 38 false .bool (.t 34) (.t 37)),
    .op none (.mv 39 (.t 38)),
    .op (some (39, true)) (.load 40 true 2 (.t 6)),
    .op (some (39, true)) (.mv 41 (.t 1)),
    .call (some (39, true)) (some 42) 17 [(false, (.t 40)), (false, (.t 41))],
    .op (some (39, true)) (.mv 43 (.t 5)),
    .op (some (39, true)) (.eqs 44 false .bool (.t 42) (.t 43)),
    .op none (.pick 45 (.t 39) (.t 44) (.c (.bool false))),
    .op none (.mv 46 (.t 45)),
    .op (some (46, true)) (.faddr 47 (.t 6) 0 0),
    .op (some (46, true)) (.load 48 false 1 (.t 47)),
    .op (some (46, true)) (.mv 49 (.t 0)),
    .op (some (46, true)) (.bin 50 .eql (.t 48) (.t 49)),
    .op none (.pick 51 (.t 46) (.t 50) (.c (.bool false))),
    .op none (.mv 52 (.t 51)),
    .op (some (52, true)) (.faddr 53 (.t 6) 1 1),
    .op (some (52, true)) (.load 54 false 1 (.t 53)),
    .op (some (52, true)) (.bin 55 .eql (.t 54) (.c (.str []))),
    .op (some (52, true)) (.mv 56 (.t 55)),
    .op (some (56, false)) (.faddr 57 (.t 6) 1 1),
    .op (some (56, false)) (.load 58 false 1 (.t 57)),
    .op (some (56, false)) (.mv 59 (.t 0)),
    .op (some (56, false)) (.bin 60 .gtr (.t 58) (.t 59)),
    .op (some (52, true)) (.pick 61 (.t 56) (.c (.bool true)) (.t 60)),
    .op none (.pick 62 (.t 52) (.t 61) (.c (.bool false))),
    .op none (.asg 4 (.t 62))])
  .ret))))))
def rets_exchequerlaw05_SpanKeys : List Ret := [.t 4]
theorem of_exchequerlaw05_SpanKeys {args : List SV} {Post : SV → List SV → Prop} (h : wqF Try.prog 63 ir_exchequerlaw05_SpanKeys rets_exchequerlaw05_SpanKeys args Post) (hn : args.length ≤ 63) : Fn Try.prog 5 args Post :=
  Fn.of_body' Try.func5 rfl Try.ntmps5 (by kernel_rfl) (by kernel_rfl) hn (wqF_wp h)

theorem ofv_exchequerlaw05_SpanKeys {args : List SV} {Post : SV → List SV → Prop} (h : wqFV Try.prog 63 ir_exchequerlaw05_SpanKeys 4 args Post) (hn : args.length ≤ 63) : Fn Try.prog 5 args Post :=
  Fn.of_vec Try.func5 rfl Try.ntmps5 (by kernel_rfl) (by kernel_rfl) (by decide) hn (wqFV_wp h)

/-- exchequer/exchequerlaw05.SpanInside · parameters [api.Span, api.Span] -/
abbrev F_exchequerlaw05_SpanInside : FuncId := 6
def ir_exchequerlaw05_SpanInside : Stm :=
  (.seq
  (.ops [
    .op none (.box 2 (.t 0)),
    .op none (.box 3 (.t 1)),
    .op none (.asg 4 (.c (.bool false)))])
  (.seq
  (.seq
  (.ops [
    .call none (some 5) 10 [],
    .op none (.not 6 (.t 5))])
  (.cond (.t 6)
    (.seq
    (.ops [
      .op none (.asg 4 (.c (.bool false)))])
    .ret)
    .skip))
  (.seq
  (.drw [[], [], [0, 1], [2], [3], [4], [4], [5, 6, 4], [4], [8, 7, 4], [9, 4], [10], [11, 10], [10], [12, 13, 10], [10, 14, 4], [7, 15, 4], [4, 16], [17, 14, 0, 1, 2, 3, 4, 5, 6, 7, 8, 9, 10, 11, 12, 13, 15, 16]] [
    .op none (.load 7 true 2 (.t 2)),
    .op none (.load 8 true 2 (.t 3)),
    .op none (.bsl 9 29 2 (.agg [(.str []), (.str [])]) 2 [(0, (.t 7)), (1, (.t 8))]),
    .call none (some 10) 11 [(false, (.t 9)), (false, (.nils 9 1))],
    .op none (.mv 11 (.t 10)),
    .op (some (11, false)) (.load 12 true 2 (.t 2)),
    .op (some (11, false)) (.load 13 true 2 (.t 3)),
    .call (some (11, false)) (some 14) 21 [(false, (.t 12)), (false, (.t 13))],
    .op (some (11, false)) (.load 15 true 2 (.t 3)),
    .call (some (11, false)) (some 16) 16 [(false, (.t 15))],
    .op (some (11, false)) (.mv 17 (.t 16)),
    .op (some (17, true)) (.load 18 true 2 (.t 3)),
    .op (some (17, true)) (.bsl 19 29 2 (.agg [(.str []), (.str [])]) 1 [(0, (.t 18))]),
    .op (some (17, true)) (.load 20 true 2 (.t 2)),
    .call (some (17, true)) (some 21) 22 [(false, (.t 19)), (false, (.t 20))],
    .op (some (11, false)) (.pick 22 (.t 17) (.t 21) (.c (.bool false))),
    .op (some (11, false)) (.eqs 23 false .bool (.t 14) (.t 22)),
    .op none (.pick 24 (.t 11) (.c (.bool true)) (.t 23)),
    .op none (.asg 4 (.t 24))])
  .ret)))
def rets_exchequerlaw05_SpanInside : List Ret := [.t 4]
theorem of_exchequerlaw05_SpanInside {args : List SV} {Post : SV → List SV → Prop} (h : wqF Try.prog 25 ir_exchequerlaw05_SpanInside rets_exchequerlaw05_SpanInside args Post) (hn : args.length ≤ 25) : Fn Try.prog 6 args Post :=
  Fn.of_body' Try.func6 rfl Try.ntmps6 (by kernel_rfl) (by kernel_rfl) hn (wqF_wp h)

theorem ofv_exchequerlaw05_SpanInside {args : List SV} {Post : SV → List SV → Prop} (h : wqFV Try.prog 25 ir_exchequerlaw05_SpanInside 4 args Post) (hn : args.length ≤ 25) : Fn Try.prog 6 args Post :=
  Fn.of_vec Try.func6 rfl Try.ntmps6 (by kernel_rfl) (by kernel_rfl) (by decide) hn (wqFV_wp h)

/-- exchequer/exchequerlaw05.SpanCovers · parameters [[]api.Span, api.Span] -/
abbrev F_exchequerlaw05_SpanCovers : FuncId := 7
def ir_exchequerlaw05_SpanCovers : Stm :=
  (.seq
  (.ops [
    .op none (.box 3 (.t 1)),
    .op none (.asg 4 (.c (.bool false)))])
  (.seq
  (.seq
  (.ops [
    .call none (some 5) 10 [],
    .op none (.not 6 (.t 5))])
  (.cond (.t 6)
    (.seq
    (.ops [
      .op none (.asg 4 (.c (.bool false)))])
    .ret)
    .skip))
  (.seq
  (.drw [[], [0], [], [1, 2], [3], [4], [5], [5], [6, 7, 5], [5], [5], [9, 10, 8, 5], [8, 11, 5], [5, 12], [13, 11, 0, 1, 2, 3, 4, 5, 6, 7, 8, 9, 10, 12]] [
    .op none (.load 7 true 2 (.t 3)),
    .op none (.bsl 8 29 2 (.agg [(.str []), (.str [])]) 1 [(0, (.t 7))]),
    .op none (.mv 9 (.t 0)),
    .op none (.app 10 29 2 32 (.t 8) (.t 9)),
    .call none (some 11) 11 [(false, (.t 10)), (false, (.nils 9 1))],
    .op none (.mv 12 (.t 11)),
    .op (some (12, false)) (.mv 13 (.t 0)),
    .op (some (12, false)) (.load 14 true 2 (.t 3)),
    .call (some (12, false)) (some 15) 23 [(false, (.t 13)), (false, (.t 14))],
    .op (some (12, false)) (.mv 16 (.t 0)),
    .op (some (12, false)) (.load 17 true 2 (.t 3)),
    .call (some (12, false)) (some 18) 22 [(false, (.t 16)), (false, (.t 17))],
    .op (some (12, false)) (.eqs 19 false .bool (.t 15) (.t 18)),
    .op none (.pick 20 (.t 12) (.c (.bool true)) (.t 19)),
    .op none (.asg 4 (.t 20))])
  .ret)))
def rets_exchequerlaw05_SpanCovers : List Ret := [.t 4]
theorem of_exchequerlaw05_SpanCovers {args : List SV} {Post : SV → List SV → Prop} (h : wqF Try.prog 21 ir_exchequerlaw05_SpanCovers rets_exchequerlaw05_SpanCovers args Post) (hn : args.length ≤ 21) : Fn Try.prog 7 args Post :=
  Fn.of_body' Try.func7 rfl Try.ntmps7 (by kernel_rfl) (by kernel_rfl) hn (wqF_wp h)

theorem ofv_exchequerlaw05_SpanCovers {args : List SV} {Post : SV → List SV → Prop} (h : wqFV Try.prog 21 ir_exchequerlaw05_SpanCovers 4 args Post) (hn : args.length ≤ 21) : Fn Try.prog 7 args Post :=
  Fn.of_vec Try.func7 rfl Try.ntmps7 (by kernel_rfl) (by kernel_rfl) (by decide) hn (wqFV_wp h)

/-- exchequer/exchequerlaw05.SpanPoints · parameters [[]api.Span, api.Span, string] -/
abbrev F_exchequerlaw05_SpanPoints : FuncId := 8
def ir_exchequerlaw05_SpanPoints : Stm :=
  (.seq
  (.ops [
    .op none (.box 4 (.t 1)),
    .op none (.box 5 (.t 2)),
    .op none (.asg 6 (.c (.bool false)))])
  (.seq
  (.seq
  (.ops [
    .call none (some 9) 10 [],
    .op none (.not 10 (.t 9))])
  (.cond (.t 10)
    (.seq
    (.ops [
      .op none (.asg 6 (.c (.bool false)))])
    .ret)
    .skip))
  (.seq
  (.seq
  (.drw [[], [0], [], [1, 2], [], [4], [3, 5]] [
    .op none (.load 11 true 2 (.t 4)),
    .op none (.bsl 12 29 2 (.agg [(.str []), (.str [])]) 1 [(0, (.t 11))]),
    .op none (.mv 13 (.t 0)),
    .op none (.app 14 29 2 32 (.t 12) (.t 13)),
    .op none (.load 15 false 1 (.t 5)),
    .op none (.bsl 16 9 1 (.str []) 1 [(0, (.t 15))]),
    .call none (some 17) 11 [(false, (.t 14)), (false, (.t 16))]])
  (.cond (.t 17)
    (.seq
    (.ops [
      .op none (.asg 6 (.c (.bool true)))])
    .ret)
    .skip))
  (.seq
  (.ops [
    .op none (.mkf 18 24 [(.t 5)]),
    .op none (.asg 7 (.t 18))])
  (.seq
  (.ops [
    .op none (.load 19 true 2 (.t 4)),
    .call none (some 20) 15 [(false, (.t 19))],
    .op none (.mv 21 (.t 20)),
    .op (some (21, true)) (.load 22 true 2 (.t 4)),
    .op (some (21, true)) (.load 23 false 1 (.t 5)),
    .call (some (21, true)) (some 24) 17 [(false, (.t 22)), (false, (.t 23))],
    .op none (.pick 25 (.t 21) (.t 24) (.c (.bool false))),
    .op none (.asg 8 (.t 25))])
  (.seq
  (.ops [
    .op none (.mv 26 (.t 7)),
    .op none (.mv 27 (.t 0)),
    .call none (some 28) 12 [(false, (.t 27))],
    .dyn none (some 29) [24] (.t 26) [(false, (.t 28))],
    .op none (.mv 30 (.t 7)),
    .op none (.mv 31 (.t 0)),
    .dyn none (some 32) [24] (.t 30) [(false, (.t 31))],
    .op none (.eqs 33 false .bool (.t 29) (.t 32)),
    .op none (.mv 34 (.t 33)),
    .op (some (34, true)) (.mv 35 (.t 7)),
    .op (some (34, true)) (.mv 36 (.t 0)),
    .op (some (34, true)) (.load 37 true 2 (.t 4)),
    .call (some (34, true)) (some 38) 25 [(false, (.t 36)), (false, (.t 37))],
    .dyn (some (34, true)) (some 39) [24] (.t 35) [(false, (.t 38))],
    .op (some (34, true)) (.mv 40 (.t 7)),
    .op (some (34, true)) (.mv 41 (.t 0)),
    .dyn (some (34, true)) (some 42) [24] (.t 40) [(false, (.t 41))],
    .op (some (34, true)) (.mv 43 (.t 42)),
    .op (some (43, true)) (.mv 44 (.t 8)),
    .op (some (43, true)) (.not 45 (.t 44)),
    .op (some (34, true)) (.pick 46 (.t 43) (.t 45) (.c (.bool false))),
    .op (some (34, true)) (.eqs 47 false .bool (.t 39) (.t 46)),
    .op none (.pick 48 (.t 34) (.t 47) (.c (.bool false))),
    .op none (.asg 6 (.t 48))])
  .ret))))))
def rets_exchequerlaw05_SpanPoints : List Ret := [.t 6]
theorem of_exchequerlaw05_SpanPoints {args : List SV} {Post : SV → List SV → Prop} (h : wqF Try.prog 49 ir_exchequerlaw05_SpanPoints rets_exchequerlaw05_SpanPoints args Post) (hn : args.length ≤ 49) : Fn Try.prog 8 args Post :=
  Fn.of_body' Try.func8 rfl Try.ntmps8 (by kernel_rfl) (by kernel_rfl) hn (wqF_wp h)

theorem ofv_exchequerlaw05_SpanPoints {args : List SV} {Post : SV → List SV → Prop} (h : wqFV Try.prog 49 ir_exchequerlaw05_SpanPoints 6 args Post) (hn : args.length ≤ 49) : Fn Try.prog 8 args Post :=
  Fn.of_vec Try.func8 rfl Try.ntmps8 (by kernel_rfl) (by kernel_rfl) (by decide) hn (wqFV_wp h)

/-- exchequer/exchequerlaw05.SpanMinus · parameters [[]api.Span, api.Span] -/
abbrev F_exchequerlaw05_SpanMinus : FuncId := 9
def ir_exchequerlaw05_SpanMinus : Stm :=
  (.seq
  (.ops [
    .op none (.box 3 (.t 1)),
    .op none (.asg 4 (.c (.bool false)))])
  (.seq
  (.seq
  (.ops [
    .call none (some 6) 10 [],
    .op none (.not 7 (.t 6))])
  (.cond (.t 7)
    (.seq
    (.ops [
      .op none (.asg 4 (.c (.bool false)))])
    .ret)
    .skip))
  (.seq
  (.seq
  (.ops [
    .op none (.load 8 true 2 (.t 3)),
    .op none (.bsl 9 29 2 (.agg [(.str []), (.str [])]) 1 [(0, (.t 8))]),
    .op none (.mv 10 (.t 0)),
    .op none (.app 11 29 2 32 (.t 9) (.t 10)),
    .call none (some 12) 11 [(false, (.t 11)), (false, (.nils 9 1))]])
  (.cond (.t 12)
    (.seq
    (.ops [
      .op none (.asg 4 (.c (.bool true)))])
    .ret)
    .skip))
  (.seq
  (.ops [
    .op none (.mv 13 (.t 0)),
    .op none (.load 14 true 2 (.t 3)),
    .call none (some 15) 25 [(false, (.t 13)), (false, (.t 14))],
    .op none (.asg 5 (.t 15))])
  (.seq
  (.ops [
    .op none (.mv 16 (.t 5)),
    .op none (.mv 17 (.t 0)),
    .op none (.load 18 true 2 (.t 3)),
    .call none (some 19) 26 [(false, (.t 17)), (false, (.t 18))],
    .call none (some 20) 13 [(false, (.t 16)), (false, (.t 19))],
    .op none (.mv 21 (.t 20)),
    .op (some (21, true)) (.mv 22 (.t 5)),
    .op (some (21, true)) (.load 23 true 2 (.t 3)),
    .call (some (21, true)) (some 24) 23 [(false, (.t 22)), (false, (.t 23))],
    .op (some (21, true)) (.not 25 (.t 24)),
    .op none (.pick 26 (.t 21) (.t 25) (.c (.bool false))),
    .op none (.mv 27 (.t 26)),
    .op (some (27, true)) (.mv 28 (.t 5)),
    .op (some (27, true)) (.load 29 true 2 (.t 3)),
    .call (some (27, true)) (some 30) 25 [(false, (.t 28)), (false, (.t 29))],
    .op (some (27, true)) (.mv 31 (.t 5)),
    .call (some (27, true)) (some 32) 13 [(false, (.t 30)), (false, (.t 31))],
    .op none (.pick 33 (.t 27) (.t 32) (.c (.bool false))),
    .op none (.asg 4 (.t 33))])
  .ret)))))
def rets_exchequerlaw05_SpanMinus : List Ret := [.t 4]
theorem of_exchequerlaw05_SpanMinus {args : List SV} {Post : SV → List SV → Prop} (h : wqF Try.prog 34 ir_exchequerlaw05_SpanMinus rets_exchequerlaw05_SpanMinus args Post) (hn : args.length ≤ 34) : Fn Try.prog 9 args Post :=
  Fn.of_body' Try.func9 rfl Try.ntmps9 (by kernel_rfl) (by kernel_rfl) hn (wqF_wp h)

theorem ofv_exchequerlaw05_SpanMinus {args : List SV} {Post : SV → List SV → Prop} (h : wqFV Try.prog 34 ir_exchequerlaw05_SpanMinus 4 args Post) (hn : args.length ≤ 34) : Fn Try.prog 9 args Post :=
  Fn.of_vec Try.func9 rfl Try.ntmps9 (by kernel_rfl) (by kernel_rfl) (by decide) hn (wqFV_wp h)

/-- exchequer/exchequerlaw05.awake · parameters [] -/
abbrev F_exchequerlaw05_awake : FuncId := 10
def ir_exchequerlaw05_awake : Stm :=
  (.seq
  (.ops [
    .op none (.asg 0 (.c (.bool false)))])
  (.seq
  (.ops [
    .op none (.build 2 [(.str []), (.str [])] [(0, (.c (.str [98]))), (1, (.c (.str [100])))]),
    .op none (.build 3 [(.str []), (.str [])] [(0, (.c (.str [97]))), (1, (.c (.str [99])))]),
    .op none (.build 4 [(.str []), (.str [])] [(0, (.c (.str [100]))), (1, (.c (.str [101])))]),
    .op none (.bsl 5 29 2 (.agg [(.str []), (.str [])]) 3 [(0, (.t 2)), (1, (.t 3)), (2, (.t 4))]),
    .call none (some 6) 12 [(false, (.t 5))],
    .op none (.asg 1 (.t 6))])
  (.seq
  (.ops [
    .op none (.mv 7 (.t 1)),
    .op none (.len 8 false (.t 7)),
    .op none (.bin 9 .eql (.t 8) (.c (.int .i64 1))),
    .op none (.mv 10 (.t 9)),
    .op (some (10, true)) (.mv 11 (.t 1)),
    .op (some (10, true)) (.iaddr 12 2 (.t 11) (.c (.int .i64 0))),
    .op (some (10, true)) (.load 13 true 2 (.t 12)),
    .op (some (10, true)) (.build 14 [(.str []), (.str [])] [(0, (.c (.str [97]))), (1, (.c (.str [101])))]),
    .op (some (10, true)) (.eqs 15 false (.st [.str, .str]) (.t 13) (.t 14)),
    .op none (.pick 16 (.t 10) (.t 15) (.c (.bool false))),
    .op none (.mv 17 (.t 16)),
    .call (some (17, true)) (some 18) 19 [(false, (.c (.str [97])))],
    .op (some (17, true)) (.fld 19 false 1 (.t 18) 1 1),
    .op (some (17, true)) (.bin 20 .eql (.t 19) (.c (.str [98]))),
    .op none (.pick 21 (.t 17) (.t 20) (.c (.bool false))),
    .op none (.mv 22 (.t 21)),
    .op (some (22, true)) (.mv 23 (.t 1)),
    .op (some (22, true)) (.iaddr 24 2 (.t 23) (.c (.int .i64 0))),
    .op (some (22, true)) (.load 25 true 2 (.t 24)),
    .call (some (22, true)) (some 26) 15 [(false, (.t 25))],
    .op none (.pick 27 (.t 22) (.t 26) (.c (.bool false))),
    .op none (.asg 0 (.t 27))])
  .ret)))
def rets_exchequerlaw05_awake : List Ret := [.t 0]
theorem of_exchequerlaw05_awake {args : List SV} {Post : SV → List SV → Prop} (h : wqF Try.prog 28 ir_exchequerlaw05_awake rets_exchequerlaw05_awake args Post) (hn : args.length ≤ 28) : Fn Try.prog 10 args Post :=
  Fn.of_body' Try.func10 rfl Try.ntmps10 (by kernel_rfl) (by kernel_rfl) hn (wqF_wp h)

theorem ofv_exchequerlaw05_awake {args : List SV} {Post : SV → List SV → Prop} (h : wqFV Try.prog 28 ir_exchequerlaw05_awake 0 args Post) (hn : args.length ≤ 28) : Fn Try.prog 10 args Post :=
  Fn.of_vec Try.func10 rfl Try.ntmps10 (by kernel_rfl) (by kernel_rfl) (by decide) hn (wqFV_wp h)

/-- exchequer/exchequerlaw05.great · parameters [[]api.Span, []string] -/
abbrev F_exchequerlaw05_great : FuncId := 11
def ir_exchequerlaw05_great : Stm :=
  (.seq
  (.ops [
    .op none (.asg 4 (.c (.bool false)))])
  (.seq
  (.seq
  (.ops [
    .op none (.mv 7 (.t 0)),
    .op none (.len 8 false (.t 7)),
    .op none (.mv 9 (.c (.int .i64 0)))])
  (.block 0
    (.loop [4, 5, 7, 10, 11, 12, 13, 14, 15, 16, 17, 18, 19, 20, 21, 22, 23, 24, 25, 26, 27, 28, 29, 30, 31, 32, 33, 38]
      (.seq
      (.ops [
        .op none (.bin 10 .lss (.t 9) (.t 8))])
      (.seq
      (.cond (.t 10)
        .skip
        (.exit 0))
      (.seq
      (.block 1
        (.seq
        (.ops [
          .op none (.mv 11 (.t 9)),
          .op none (.asg 5 (.t 11))])
        (.seq
        (.ops [
          .op none (.mv 12 (.t 5)),
          .op none (.bin 13 .geq (.t 12) (.c (.int .i64 40))),
          .op none (.mv 14 (.t 13)),
          .op (some (14, false)) (.mv 15 (.t 0)),
          .op (some (14, false)) (.mv 16 (.t 5)),
          .op (some (14, false)) (.iaddr 17 2 (.t 15) (.t 16)),
          .op (some (14, false)) (.faddr 18 (.t 17) 0 0),
          .op (some (14, false)) (.load 19 false 1 (.t 18)),
          .op (some (14, false)) (.len 20 true (.t 19)),
          .op (some (14, false)) (.bin 21 .gtr (.t 20) (.c (.int .i64 1000))),
          .op none (.pick 22 (.t 14) (.c (.bool true)) (.t 21)),
          .op none (.mv 23 (.t 22)),
          .op (some (23, false)) (.mv 24 (.t 0)),
          .op (some (23, false)) (.mv 25 (.t 5)),
          .op (some (23, false)) (.iaddr 26 2 (.t 24) (.t 25)),
          .op (some (23, false)) (.faddr 27 (.t 26) 1 1),
          .op (some (23, false)) (.load 28 false 1 (.t 27)),
          .op (some (23, false)) (.len 29 true (.t 28)),
          .op (some (23, false)) (.bin 30 .gtr (.t 29) (.c (.int .i64 1000))),
          .op none (.pick 31 (.t 23) (.c (.bool true)) (.t 30))])
        (.cond (.t 31)
          (.seq
          (.ops [
            .op none (.asg 4 (.c (.bool true)))])
          .ret)
          .skip))))
      (.ops [
        .op none (.bin 32 .add (.t 9) (.c (.int .i64 1))),
        .op none (.mv 9 (.t 32))])))))))
  (.seq
  (.seq
  (.ops [
    .op none (.mv 33 (.t 1)),
    .op none (.len 34 false (.t 33)),
    .op none (.mv 35 (.c (.int .i64 0)))])
  (.block 2
    (.loop [4, 6, 7, 15, 24, 33, 36, 37, 38, 39, 40, 41, 42, 43, 44]
      (.seq
      (.ops [
        .op none (.bin 36 .lss (.t 35) (.t 34))])
      (.seq
      (.cond (.t 36)
        .skip
        (.exit 2))
      (.seq
      (.block 3
        (.seq
        (.ops [
          .op none (.mv 37 (.t 35)),
          .op none (.asg 6 (.t 37))])
        (.seq
        (.ops [
          .op none (.mv 38 (.t 1)),
          .op none (.mv 39 (.t 6)),
          .op none (.iaddr 40 1 (.t 38) (.t 39)),
          .op none (.load 41 false 1 (.t 40)),
          .op none (.len 42 true (.t 41)),
          .op none (.bin 43 .gtr (.t 42) (.c (.int .i64 1000)))])
        (.cond (.t 43)
          (.seq
          (.ops [
            .op none (.asg 4 (.c (.bool true)))])
          .ret)
          .skip))))
      (.ops [
        .op none (.bin 44 .add (.t 35) (.c (.int .i64 1))),
        .op none (.mv 35 (.t 44))])))))))
  (.seq
  (.ops [
    .op none (.asg 4 (.c (.bool false)))])
  .ret))))
def rets_exchequerlaw05_great : List Ret := [.t 4]
theorem of_exchequerlaw05_great {args : List SV} {Post : SV → List SV → Prop} (h : wqF Try.prog 45 ir_exchequerlaw05_great rets_exchequerlaw05_great args Post) (hn : args.length ≤ 45) : Fn Try.prog 11 args Post :=
  Fn.of_body' Try.func11 rfl Try.ntmps11 (by kernel_rfl) (by kernel_rfl) hn (wqF_wp h)

theorem ofv_exchequerlaw05_great {args : List SV} {Post : SV → List SV → Prop} (h : wqFV Try.prog 45 ir_exchequerlaw05_great 4 args Post) (hn : args.length ≤ 45) : Fn Try.prog 11 args Post :=
  Fn.of_vec Try.func11 rfl Try.ntmps11 (by kernel_rfl) (by kernel_rfl) (by decide) hn (wqFV_wp h)

/-- exchequer/span.Union · parameters [[]api.Span] -/
abbrev F_span_Union : FuncId := 12
def ir_span_Union : Stm :=
  (.seq
  (.ops [
    .op none (.asg 2 (.nils 29 2))])
  (.seq
  (.ops [
    .op none (.mv 7 (.t 0)),
    .call none (some 8) 28 [(false, (.t 7))],
    .call none (some 9) 27 [(true, (.t 8)), (false, (.c (.fn 29)))],
    .op none (.asg 0 (.t 9))])
  (.seq
  (.ops [
    .op none (.mv 10 (.t 0)),
    .call none (some 11) 30 [(true, (.t 10)), (false, (.c (.fn 31)))]])
  (.seq
  (.ops [
    .op none (.asg 3 (.nils 29 2))])
  (.seq
  (.seq
  (.ops [
    .op none (.mv 12 (.t 0)),
    .op none (.len 13 false (.t 12)),
    .op none (.mv 14 (.c (.int .i64 0)))])
  (.block 0
    (.loop [5, 6, 7, 10, 15, 16, 17, 18, 19, 20, 21, 22, 23, 24, 25, 26, 27, 28, 29, 30, 31, 32, 33, 34, 35, 36, 37, 38, 39, 40, 41, 42, 43, 44, 45, 46, 47, 48, 49, 50, 51, 52, 53, 54, 55, 56, 57, 58, 59, 60, 61, 62, 63, 64]
      (.seq
      (.ops [
        .op none (.bin 15 .lss (.t 14) (.t 13))])
      (.seq
      (.cond (.t 15)
        .skip
        (.exit 0))
      (.seq
      (.block 1
        (.seq
        (.ops [
          .op none (.iaddr 16 2 (.t 12) (.t 14)),
          .op none (.load 17 true 2 (.t 16)),
          .op none (.alloc 5 (.one (.i (.agg [(.str []), (.str [])])))),
          .op none (.store 2 (.t 5) (.t 17))])
        (.seq
        (.ops [
          .op none (.mv 18 (.t 3)),
          .op none (.len 19 false (.t 18)),
          .op none (.asg 6 (.t 19))])
        (.seq
        (.drw [[], [0], [1], [2], [2], [4, 2], [3, 5, 2], [6, 2], [7, 2], [8, 2], [9, 2], [10], [10], [12, 10], [11, 13, 10], [14, 10], [15, 10], [10], [17, 10], [16, 18, 10], [10, 19, 2], [2, 20]] [
          .op none (.mv 20 (.t 6)),
          .op none (.bin 21 .eql (.t 20) (.c (.int .i64 0))),
          .op none (.mv 22 (.t 21)),
          .op (some (22, false)) (.mv 23 (.t 3)),
          .op (some (22, false)) (.mv 24 (.t 6)),
          .op (some (22, false)) (.bin 25 .sub (.t 24) (.c (.int .i64 1))),
          .op (some (22, false)) (.iaddr 26 2 (.t 23) (.t 25)),
          .op (some (22, false)) (.faddr 27 (.t 26) 1 1),
          .op (some (22, false)) (.load 28 false 1 (.t 27)),
          .op (some (22, false)) (.bin 29 .neq (.t 28) (.c (.str []))),
          .op (some (22, false)) (.mv 30 (.t 29)),
          .op (some (30, true)) (.mv 31 (.t 3)),
          .op (some (30, true)) (.mv 32 (.t 6)),
          .op (some (30, true)) (.bin 33 .sub (.t 32) (.c (.int .i64 1))),
          .op (some (30, true)) (.iaddr 34 2 (.t 31) (.t 33)),
          .op (some (30, true)) (.faddr 35 (.t 34) 1 1),
          .op (some (30, true)) (.load 36 false 1 (.t 35)),
          .op (some (30, true)) (.faddr 37 (.t 5) 0 0),
          .op (some (30, true)) (.load 38 false 1 (.t 37)),
          .op (some (30, true)) (.bin 39 .lss (.t 36) (.t 38)),
          .op (some (22, false)) (.pick 40 (.t 30) (.t 39) (.c (.bool false))),
          .op none (.pick 41 (.t 22) (.c (.bool true)) (.t 40))])
        (.cond (.t 41)
          (.ops [
            .op none (.mv 42 (.t 3)),
            .op none (.load 43 true 2 (.t 5)),
            .op none (.bsl 44 29 2 (.agg [(.str []), (.str [])]) 1 [(0, (.t 43))]),
            .op none (.app 45 29 2 32 (.t 42) (.t 44)),
            .op none (.asg 3 (.t 45))])
          (.seq
          (.drw [[], [0], [], [], [3], [2, 4], [5], [6], [1, 7], [8]] [
            .op none (.faddr 46 (.t 5) 1 1),
            .op none (.load 47 false 1 (.t 46)),
            .op none (.mv 48 (.t 3)),
            .op none (.mv 49 (.t 6)),
            .op none (.bin 50 .sub (.t 49) (.c (.int .i64 1))),
            .op none (.iaddr 51 2 (.t 48) (.t 50)),
            .op none (.faddr 52 (.t 51) 1 1),
            .op none (.load 53 false 1 (.t 52)),
            .call none (some 54) 33 [(false, (.t 47)), (false, (.t 53))],
            .op none (.bin 55 .gtr (.t 54) (.c (.int .i64 0)))])
          (.cond (.t 55)
            (.ops [
              .op none (.mv 56 (.t 3)),
              .op none (.mv 57 (.t 6)),
              .op none (.bin 58 .sub (.t 57) (.c (.int .i64 1))),
              .op none (.faddr 59 (.t 5) 1 1),
              .op none (.load 60 false 1 (.t 59)),
              .op none (.iaddr 61 2 (.t 56) (.t 58)),
              .op none (.faddr 62 (.t 61) 1 1),
              .op none (.store 1 (.t 62) (.t 60))])
            .skip)))))))
      (.ops [
        .op none (.bin 63 .add (.t 14) (.c (.int .i64 1))),
        .op none (.mv 14 (.t 63))])))))))
  (.seq
  (.ops [
    .op none (.mv 64 (.t 3)),
    .op none (.mov 2 29 2 (.t 64))])
  .ret))))))
def rets_span_Union : List Ret := [.t 2]
theorem of_span_Union {args : List SV} {Post : SV → List SV → Prop} (h : wqF Try.prog 65 ir_span_Union rets_span_Union args Post) (hn : args.length ≤ 65) : Fn Try.prog 12 args Post :=
  Fn.of_body' Try.func12 rfl Try.ntmps12 (by kernel_rfl) (by kernel_rfl) hn (wqF_wp h)

theorem ofv_span_Union {args : List SV} {Post : SV → List SV → Prop} (h : wqFV Try.prog 65 ir_span_Union 2 args Post) (hn : args.length ≤ 65) : Fn Try.prog 12 args Post :=
  Fn.of_vec Try.func12 rfl Try.ntmps12 (by kernel_rfl) (by kernel_rfl) (by decide) hn (wqFV_wp h)

/-- exchequer/exchequerref05.Same · parameters [[]api.Span, []api.Span] -/
abbrev F_exchequerref05_Same : FuncId := 13
def ir_exchequerref05_Same : Stm :=
  (.seq
  (.ops [
    .op none (.asg 4 (.c (.bool false)))])
  (.seq
  (.seq
  (.ops [
    .op none (.mv 6 (.t 0)),
    .op none (.len 7 false (.t 6)),
    .op none (.mv 8 (.t 1)),
    .op none (.len 9 false (.t 8)),
    .op none (.bin 10 .neq (.t 7) (.t 9))])
  (.cond (.t 10)
    (.seq
    (.ops [
      .op none (.asg 4 (.c (.bool false)))])
    .ret)
    .skip))
  (.seq
  (.seq
  (.ops [
    .op none (.asg 5 (.c (.int .i64 0)))])
  (.block 0
    (.loop [4, 6, 8, 11, 12, 13, 14, 15, 16, 17, 18, 19, 20, 21, 22, 23, 24, 25]
      (.seq
      (.seq
      (.ops [
        .op none (.mv 11 (.t 5)),
        .op none (.mv 12 (.t 0)),
        .op none (.len 13 false (.t 12)),
        .op none (.bin 14 .lss (.t 11) (.t 13))])
      (.cond (.t 14)
        .skip
        (.exit 0)))
      (.seq
      (.block 1
        (.seq
        (.drw [[], [], [0, 1], [2], [], [], [4, 5], [6], [3, 7]] [
          .op none (.mv 17 (.t 0)),
          .op none (.mv 18 (.t 5)),
          .op none (.iaddr 19 2 (.t 17) (.t 18)),
          .op none (.load 20 true 2 (.t 19)),
          .op none (.mv 21 (.t 1)),
          .op none (.mv 22 (.t 5)),
          .op none (.iaddr 23 2 (.t 21) (.t 22)),
          .op none (.load 24 true 2 (.t 23)),
          .op none (.eqs 25 true (.st [.str, .str]) (.t 20) (.t 24))])
        (.cond (.t 25)
          (.seq
          (.ops [
            .op none (.asg 4 (.c (.bool false)))])
          .ret)
          .skip)))
      (.ops [
        .op none (.mv 15 (.t 5)),
        .op none (.bin 16 .add (.t 15) (.c (.int .i64 1))),
        .op none (.asg 5 (.t 16))]))))))
  (.seq
  (.ops [
    .op none (.asg 4 (.c (.bool true)))])
  .ret))))
def rets_exchequerref05_Same : List Ret := [.t 4]
theorem of_exchequerref05_Same {args : List SV} {Post : SV → List SV → Prop} (h : wqF Try.prog 26 ir_exchequerref05_Same rets_exchequerref05_Same args Post) (hn : args.length ≤ 26) : Fn Try.prog 13 args Post :=
  Fn.of_body' Try.func13 rfl Try.ntmps13 (by kernel_rfl) (by kernel_rfl) hn (wqF_wp h)

theorem ofv_exchequerref05_Same {args : List SV} {Post : SV → List SV → Prop} (h : wqFV Try.prog 26 ir_exchequerref05_Same 4 args Post) (hn : args.length ≤ 26) : Fn Try.prog 13 args Post :=
  Fn.of_vec Try.func13 rfl Try.ntmps13 (by kernel_rfl) (by kernel_rfl) (by decide) hn (wqFV_wp h)

/-- exchequer/exchequerref05.Union · parameters [[]api.Span] -/
abbrev F_exchequerref05_Union : FuncId := 14
def ir_exchequerref05_Union : Stm :=
  (.seq
  (.ops [
    .op none (.asg 2 (.nils 29 2))])
  (.seq
  (.ops [
    .op none (.mv 6 (.t 0)),
    .call none (some 7) 34 [(false, (.t 6))],
    .op none (.asg 3 (.t 7))])
  (.seq
  (.ops [
    .op none (.empty 8 4 1),
    .op none (.asg 4 (.t 8))])
  (.seq
  (.seq
  (.ops [
    .op none (.asg 5 (.c (.int .i64 0)))])
  (.block 0
    (.loop [6, 9, 10, 11, 12, 13, 14, 15, 16, 17, 18, 19, 20, 21, 22, 23, 24, 25]
      (.seq
      (.seq
      (.ops [
        .op none (.mv 9 (.t 5)),
        .op none (.mv 10 (.t 3)),
        .op none (.len 11 false (.t 10)),
        .op none (.bin 12 .lss (.t 9) (.t 11))])
      (.cond (.t 12)
        .skip
        (.exit 0)))
      (.seq
      (.block 1
        (.ops [
          .op none (.mv 15 (.t 4)),
          .op none (.mv 16 (.t 0)),
          .op none (.mv 17 (.t 3)),
          .op none (.mv 18 (.t 5)),
          .op none (.iaddr 19 1 (.t 17) (.t 18)),
          .op none (.load 20 false 1 (.t 19)),
          .call none (some 21) 35 [(false, (.t 16)), (false, (.t 20))],
          .op none (.bsl 22 4 1 (.bool false) 1 [(0, (.t 21))]),
          .op none (.app 23 4 1 1 (.t 15) (.t 22)),
          .op none (.asg 4 (.t 23))]))
      (.ops [
        .op none (.mv 13 (.t 5)),
        .op none (.bin 14 .add (.t 13) (.c (.int .i64 1))),
        .op none (.asg 5 (.t 14))]))))))
  (.seq
  (.ops [
    .op none (.mv 24 (.t 3)),
    .op none (.mv 25 (.t 4)),
    .call none (some 26) 36 [(false, (.t 24)), (false, (.t 25))],
    .op none (.asg 2 (.t 26))])
  .ret)))))
def rets_exchequerref05_Union : List Ret := [.t 2]
theorem of_exchequerref05_Union {args : List SV} {Post : SV → List SV → Prop} (h : wqF Try.prog 27 ir_exchequerref05_Union rets_exchequerref05_Union args Post) (hn : args.length ≤ 27) : Fn Try.prog 14 args Post :=
  Fn.of_body' Try.func14 rfl Try.ntmps14 (by kernel_rfl) (by kernel_rfl) hn (wqF_wp h)

theorem ofv_exchequerref05_Union {args : List SV} {Post : SV → List SV → Prop} (h : wqFV Try.prog 27 ir_exchequerref05_Union 2 args Post) (hn : args.length ≤ 27) : Fn Try.prog 14 args Post :=
  Fn.of_vec Try.func14 rfl Try.ntmps14 (by kernel_rfl) (by kernel_rfl) (by decide) hn (wqFV_wp h)

/-- exchequer/span.Right · parameters [api.Span] -/
abbrev F_span_Right : FuncId := 15
def ir_span_Right : Stm :=
  (.seq
  (.ops [
    .op none (.box 1 (.t 0)),
    .op none (.asg 2 (.c (.bool false)))])
  (.seq
  (.ops [
    .op none (.faddr 3 (.t 1) 0 0),
    .op none (.load 4 false 1 (.t 3)),
    .op none (.len 5 true (.t 4)),
    .op none (.bin 6 .leq (.t 5) (.c (.int .i64 65))),
    .op none (.mv 7 (.t 6)),
    .op (some (7, true)) (.faddr 8 (.t 1) 1 1),
    .op (some (7, true)) (.load 9 false 1 (.t 8)),
    .op (some (7, true)) (.len 10 true (.t 9)),
    .op (some (7, true)) (.bin 11 .leq (.t 10) (.c (.int .i64 65))),
    .op none (.pick 12 (.t 7) (.t 11) (.c (.bool false))),
    .op none (.mv 13 (.t 12)),
    .op (some (13, true)) (.faddr 14 (.t 1) 1 1),
    .op (some (13, true)) (.load 15 false 1 (.t 14)),
    .op (some (13, true)) (.bin 16 .eql (.t 15) (.c (.str []))),
    .op (some (13, true)) (.mv 17 (.t 16)),
    .op (some (17, false)) (.faddr 18 (.t 1) 0 0),
    .op (some (17, false)) (.load 19 false 1 (.t 18)),
    .op (some (17, false)) (.faddr 20 (.t 1) 1 1),
    .op (some (17, false)) (.load 21 false 1 (.t 20)),
    .op (some (17, false)) (.bin 22 .lss (.t 19) (.t 21)),
    .op (some (13, true)) (.pick 23 (.t 17) (.c (.bool true)) (.t 22)),
    .op none (.pick 24 (.t 13) (.t 23) (.c (.bool false))),
    .op none (.asg 2 (.t 24))])
  .ret))
def rets_span_Right : List Ret := [.t 2]
theorem of_span_Right {args : List SV} {Post : SV → List SV → Prop} (h : wqF Try.prog 25 ir_span_Right rets_span_Right args Post) (hn : args.length ≤ 25) : Fn Try.prog 15 args Post :=
  Fn.of_body' Try.func15 rfl Try.ntmps15 (by kernel_rfl) (by kernel_rfl) hn (wqF_wp h)

theorem ofv_span_Right {args : List SV} {Post : SV → List SV → Prop} (h : wqFV Try.prog 25 ir_span_Right 2 args Post) (hn : args.length ≤ 25) : Fn Try.prog 15 args Post :=
  Fn.of_vec Try.func15 rfl Try.ntmps15 (by kernel_rfl) (by kernel_rfl) (by decide) hn (wqFV_wp h)

/-- exchequer/exchequerref05.Right · parameters [api.Span] -/
abbrev F_exchequerref05_Right : FuncId := 16
def ir_exchequerref05_Right : Stm :=
  (.seq
  (.ops [
    .op none (.box 1 (.t 0)),
    .op none (.asg 2 (.c (.bool false)))])
  (.seq
  (.seq
  (.ops [
    .op none (.faddr 3 (.t 1) 0 0),
    .op none (.load 4 false 1 (.t 3)),
    .op none (.len 5 true (.t 4)),
    .op none (.bin 6 .gtr (.t 5) (.c (.int .i64 65))),
    .op none (.mv 7 (.t 6)),
    .op (some (7, false)) (.faddr 8 (.t 1) 1 1),
    .op (some (7, false)) (.load 9 false 1 (.t 8)),
    .op (some (7, false)) (.len 10 true (.t 9)),
    .op (some (7, false)) (.bin 11 .gtr (.t 10) (.c (.int .i64 65))),
    .op none (.pick 12 (.t 7) (.c (.bool true)) (.t 11))])
  (.cond (.t 12)
    (.seq
    (.ops [
      .op none (.asg 2 (.c (.bool false)))])
    .ret)
    .skip))
  (.seq
  (.ops [
    .op none (.faddr 13 (.t 1) 1 1),
    .op none (.load 14 false 1 (.t 13)),
    .op none (.bin 15 .eql (.t 14) (.c (.str []))),
    .op none (.mv 16 (.t 15)),
    .op (some (16, false)) (.faddr 17 (.t 1) 1 1),
    .op (some (16, false)) (.load 18 false 1 (.t 17)),
    .op (some (16, false)) (.faddr 19 (.t 1) 0 0),
    .op (some (16, false)) (.load 20 false 1 (.t 19)),
    .op (some (16, false)) (.bin 21 .gtr (.t 18) (.t 20)),
    .op none (.pick 22 (.t 16) (.c (.bool true)) (.t 21)),
    .op none (.asg 2 (.t 22))])
  .ret)))
def rets_exchequerref05_Right : List Ret := [.t 2]
theorem of_exchequerref05_Right {args : List SV} {Post : SV → List SV → Prop} (h : wqF Try.prog 23 ir_exchequerref05_Right rets_exchequerref05_Right args Post) (hn : args.length ≤ 23) : Fn Try.prog 16 args Post :=
  Fn.of_body' Try.func16 rfl Try.ntmps16 (by kernel_rfl) (by kernel_rfl) hn (wqF_wp h)

theorem ofv_exchequerref05_Right {args : List SV} {Post : SV → List SV → Prop} (h : wqFV Try.prog 23 ir_exchequerref05_Right 2 args Post) (hn : args.length ≤ 23) : Fn Try.prog 16 args Post :=
  Fn.of_vec Try.func16 rfl Try.ntmps16 (by kernel_rfl) (by kernel_rfl) (by decide) hn (wqFV_wp h)

/-- exchequer/span.Has · parameters [api.Span, string] -/
abbrev F_span_Has : FuncId := 17
def ir_span_Has : Stm :=
  (.seq
  (.ops [
    .op none (.box 2 (.t 0)),
    .op none (.asg 4 (.c (.bool false)))])
  (.seq
  (.ops [
    .op none (.mv 5 (.t 1)),
    .op none (.faddr 6 (.t 2) 0 0),
    .op none (.load 7 false 1 (.t 6)),
    .op none (.bin 8 .geq (.t 5) (.t 7)),
    .op none (.mv 9 (.t 8)),
    .op (some (9, true)) (.faddr 10 (.t 2) 1 1),
    .op (some (9, true)) (.load 11 false 1 (.t 10)),
    .op (some (9, true)) (.bin 12 .eql (.t 11) (.c (.str []))),
    .op (some (9, true)) (.mv 13 (.t 12)),
    .op (some (13, false)) (.mv 14 (.t 1)),
    .op (some (13, false)) (.faddr 15 (.t 2) 1 1),
    .op (some (13, false)) (.load 16 false 1 (.t 15)),
    .op (some (13, false)) (.bin 17 .lss (.t 14) (.t 16)),
    .op (some (9, true)) (.pick 18 (.t 13) (.c (.bool true)) (.t 17)),
    .op none (.pick 19 (.t 9) (.t 18) (.c (.bool false))),
    .op none (.asg 4 (.t 19))])
  .ret))
def rets_span_Has : List Ret := [.t 4]
theorem of_span_Has {args : List SV} {Post : SV → List SV → Prop} (h : wqF Try.prog 20 ir_span_Has rets_span_Has args Post) (hn : args.length ≤ 20) : Fn Try.prog 17 args Post :=
  Fn.of_body' Try.func17 rfl Try.ntmps17 (by kernel_rfl) (by kernel_rfl) hn (wqF_wp h)

theorem ofv_span_Has {args : List SV} {Post : SV → List SV → Prop} (h : wqFV Try.prog 20 ir_span_Has 4 args Post) (hn : args.length ≤ 20) : Fn Try.prog 17 args Post :=
  Fn.of_vec Try.func17 rfl Try.ntmps17 (by kernel_rfl) (by kernel_rfl) (by decide) hn (wqFV_wp h)

/-- exchequer/exchequerref05.Has · parameters [api.Span, string] -/
abbrev F_exchequerref05_Has : FuncId := 18
def ir_exchequerref05_Has : Stm :=
  (.seq
  (.ops [
    .op none (.box 2 (.t 0)),
    .op none (.asg 4 (.c (.bool false)))])
  (.seq
  (.seq
  (.ops [
    .op none (.faddr 5 (.t 2) 1 1),
    .op none (.load 6 false 1 (.t 5)),
    .op none (.bin 7 .eql (.t 6) (.c (.str [])))])
  (.cond (.t 7)
    (.seq
    (.ops [
      .op none (.mv 8 (.t 1)),
      .op none (.faddr 9 (.t 2) 0 0),
      .op none (.load 10 false 1 (.t 9)),
      .op none (.bin 11 .geq (.t 8) (.t 10)),
      .op none (.asg 4 (.t 11))])
    .ret)
    .skip))
  (.seq
  (.ops [
    .op none (.mv 12 (.t 1)),
    .op none (.faddr 13 (.t 2) 0 0),
    .op none (.load 14 false 1 (.t 13)),
    .op none (.bin 15 .geq (.t 12) (.t 14)),
    .op none (.mv 16 (.t 15)),
    .op (some (16, true)) (.mv 17 (.t 1)),
    .op (some (16, true)) (.faddr 18 (.t 2) 1 1),
    .op (some (16, true)) (.load 19 false 1 (.t 18)),
    .op (some (16, true)) (.bin 20 .lss (.t 17) (.t 19)),
    .op none (.pick 21 (.t 16) (.t 20) (.c (.bool false))),
    .op none (.asg 4 (.t 21))])
  .ret)))
def rets_exchequerref05_Has : List Ret := [.t 4]
theorem of_exchequerref05_Has {args : List SV} {Post : SV → List SV → Prop} (h : wqF Try.prog 22 ir_exchequerref05_Has rets_exchequerref05_Has args Post) (hn : args.length ≤ 22) : Fn Try.prog 18 args Post :=
  Fn.of_body' Try.func18 rfl Try.ntmps18 (by kernel_rfl) (by kernel_rfl) hn (wqF_wp h)

theorem ofv_exchequerref05_Has {args : List SV} {Post : SV → List SV → Prop} (h : wqFV Try.prog 22 ir_exchequerref05_Has 4 args Post) (hn : args.length ≤ 22) : Fn Try.prog 18 args Post :=
  Fn.of_vec Try.func18 rfl Try.ntmps18 (by kernel_rfl) (by kernel_rfl) (by decide) hn (wqFV_wp h)

/-- exchequer/span.Under · parameters [string] -/
abbrev F_span_Under : FuncId := 19
def ir_span_Under : Stm :=
  (.seq
  (.ops [
    .op none (.alloc 2 (.one (.i (.agg [(.str []), (.str [])]))))])
  (.seq
  (.ops [
    .op none (.mv 4 (.t 0)),
    .op none (.s2b 5 1000005 (.t 4)),
    .op none (.asg 3 (.t 5))])
  (.seq
  (.block 0
    (.loop [6, 7, 8, 9, 10, 11, 12, 13, 14, 15, 16, 17, 18, 19, 20, 21, 22, 23, 26, 27, 35]
      (.seq
      (.seq
      (.ops [
        .op none (.mv 6 (.t 3)),
        .op none (.len 7 false (.t 6)),
        .op none (.bin 8 .gtr (.t 7) (.c (.int .i64 0))),
        .op none (.mv 9 (.t 8)),
        .op (some (9, true)) (.mv 10 (.t 3)),
        .op (some (9, true)) (.mv 11 (.t 3)),
        .op (some (9, true)) (.len 12 false (.t 11)),
        .op (some (9, true)) (.bin 13 .sub (.t 12) (.c (.int .i64 1))),
        .op (some (9, true)) (.iaddr 14 1 (.t 10) (.t 13)),
        .op (some (9, true)) (.load 15 false 1 (.t 14)),
        .op (some (9, true)) (.bin 16 .eql (.t 15) (.c (.int .u8 255))),
        .op none (.pick 17 (.t 9) (.t 16) (.c (.bool false)))])
      (.cond (.t 17)
        .skip
        (.exit 0)))
      (.block 1
        (.ops [
          .op none (.mv 18 (.t 3)),
          .op none (.mv 19 (.t 3)),
          .op none (.len 20 false (.t 19)),
          .op none (.bin 21 .sub (.t 20) (.c (.int .i64 1))),
          .op none (.slc 22 false 1 (.t 18) none (some (.t 21))),
          .op none (.asg 3 (.t 22))])))))
  (.seq
  (.seq
  (.ops [
    .op none (.mv 23 (.t 3)),
    .op none (.len 24 false (.t 23)),
    .op none (.bin 25 .gtr (.t 24) (.c (.int .i64 0)))])
  (.cond (.t 25)
    (.ops [
      .op none (.mv 26 (.t 3)),
      .op none (.mv 27 (.t 3)),
      .op none (.len 28 false (.t 27)),
      .op none (.bin 29 .sub (.t 28) (.c (.int .i64 1))),
      .op none (.iaddr 30 1 (.t 26) (.t 29)),
      .op none (.load 31 false 1 (.t 30)),
      .op none (.bin 32 .add (.t 31) (.c (.int .u8 1))),
      .op none (.iaddr 33 1 (.t 26) (.t 29)),
      .op none (.store 1 (.t 33) (.t 32))])
    .skip))
  (.seq
  (.ops [
    .op none (.mv 34 (.t 0)),
    .op none (.mv 35 (.t 3)),
    .op none (.b2s 36 (.t 35)),
    .op none (.build 37 [(.str []), (.str [])] [(0, (.t 34)), (1, (.t 36))]),
    .op none (.store 2 (.t 2) (.t 37))])
  .ret)))))
def rets_span_Under : List Ret := [.cell 2 true 2]
theorem of_span_Under {args : List SV} {Post : SV → List SV → Prop} (h : wqF Try.prog 38 ir_span_Under rets_span_Under args Post) (hn : args.length ≤ 38) : Fn Try.prog 19 args Post :=
  Fn.of_body' Try.func19 rfl Try.ntmps19 (by kernel_rfl) (by kernel_rfl) hn (wqF_wp h)

/-- exchequer/span.Key · parameters [string] -/
abbrev F_span_Key : FuncId := 20
def ir_span_Key : Stm :=
  (.seq
  (.ops [
    .op none (.alloc 2 (.one (.i (.agg [(.str []), (.str [])]))))])
  (.seq
  (.ops [
    .op none (.mv 3 (.t 0)),
    .op none (.mv 4 (.t 0)),
    .op none (.bin 5 .add (.t 4) (.c (.str [0]))),
    .op none (.build 6 [(.str []), (.str [])] [(0, (.t 3)), (1, (.t 5))]),
    .op none (.store 2 (.t 2) (.t 6))])
  .ret))
def rets_span_Key : List Ret := [.cell 2 true 2]
theorem of_span_Key {args : List SV} {Post : SV → List SV → Prop} (h : wqF Try.prog 7 ir_span_Key rets_span_Key args Post) (hn : args.length ≤ 7) : Fn Try.prog 20 args Post :=
  Fn.of_body' Try.func20 rfl Try.ntmps20 (by kernel_rfl) (by kernel_rfl) hn (wqF_wp h)

/-- exchequer/span.Inside · parameters [api.Span, api.Span] -/
abbrev F_span_Inside : FuncId := 21
def ir_span_Inside : Stm :=
  (.seq
  (.ops [
    .op none (.box 2 (.t 0)),
    .op none (.box 3 (.t 1)),
    .op none (.asg 4 (.c (.bool false)))])
  (.seq
  (.ops [
    .op none (.load 5 true 2 (.t 2)),
    .call none (some 6) 15 [(false, (.t 5))],
    .op none (.mv 7 (.t 6)),
    .op (some (7, true)) (.load 8 true 2 (.t 3)),
    .call (some (7, true)) (some 9) 15 [(false, (.t 8))],
    .op none (.pick 10 (.t 7) (.t 9) (.c (.bool false))),
    .op none (.mv 11 (.t 10)),
    .op (some (11, true)) (.faddr 12 (.t 2) 0 0),
    .op (some (11, true)) (.load 13 false 1 (.t 12)),
    .op (some (11, true)) (.faddr 14 (.t 3) 0 0),
    .op (some (11, true)) (.load 15 false 1 (.t 14)),
    .op (some (11, true)) (.bin 16 .geq (.t 13) (.t 15)),
    .op none (.pick 17 (.t 11) (.t 16) (.c (.bool false))),
    .op none (.mv 18 (.t 17)),
    .op (some (18, true)) (.faddr 19 (.t 2) 1 1),
    .op (some (18, true)) (.load 20 false 1 (.t 19)),
    .op (some (18, true)) (.faddr 21 (.t 3) 1 1),
    .op (some (18, true)) (.load 22 false 1 (.t 21)),
    .call (some (18, true)) (some 23) 33 [(false, (.t 20)), (false, (.t 22))],
    .op (some (18, true)) (.bin 24 .leq (.t 23) (.c (.int .i64 0))),
    .op none (.pick 25 (.t 18) (.t 24) (.c (.bool false))),
    .op none (.asg 4 (.t 25))])
  .ret))
def rets_span_Inside : List Ret := [.t 4]
theorem of_span_Inside {args : List SV} {Post : SV → List SV → Prop} (h : wqF Try.prog 26 ir_span_Inside rets_span_Inside args Post) (hn : args.length ≤ 26) : Fn Try.prog 21 args Post :=
  Fn.of_body' Try.func21 rfl Try.ntmps21 (by kernel_rfl) (by kernel_rfl) hn (wqF_wp h)

theorem ofv_span_Inside {args : List SV} {Post : SV → List SV → Prop} (h : wqFV Try.prog 26 ir_span_Inside 4 args Post) (hn : args.length ≤ 26) : Fn Try.prog 21 args Post :=
  Fn.of_vec Try.func21 rfl Try.ntmps21 (by kernel_rfl) (by kernel_rfl) (by decide) hn (wqFV_wp h)

/-- exchequer/exchequerref05.Covers · parameters [[]api.Span, api.Span] -/
abbrev F_exchequerref05_Covers : FuncId := 22
def ir_exchequerref05_Covers : Stm :=
  (.seq
  (.ops [
    .op none (.box 3 (.t 1)),
    .op none (.asg 4 (.c (.bool false)))])
  (.seq
  (.seq
  (.ops [
    .op none (.load 7 true 2 (.t 3)),
    .call none (some 8) 16 [(false, (.t 7))],
    .op none (.not 9 (.t 8))])
  (.cond (.t 9)
    (.seq
    (.ops [
      .op none (.asg 4 (.c (.bool false)))])
    .ret)
    .skip))
  (.seq
  (.drw [[], [], [0, 1], [], [3], [2, 4], [5], [6, 0, 1, 2, 3, 4, 5]] [
    .op none (.empty 10 29 2),
    .op none (.mv 11 (.t 0)),
    .op none (.app 12 29 2 32 (.t 10) (.t 11)),
    .op none (.load 13 true 2 (.t 3)),
    .op none (.bsl 14 29 2 (.agg [(.str []), (.str [])]) 1 [(0, (.t 13))]),
    .op none (.app 15 29 2 32 (.t 12) (.t 14)),
    .call none (some 16) 34 [(false, (.t 15))],
    .op none (.asg 5 (.t 16))])
  (.seq
  (.seq
  (.ops [
    .op none (.asg 6 (.c (.int .i64 0)))])
  (.block 0
    (.loop [4, 11, 17, 18, 19, 20, 21, 22, 23, 24, 25, 26, 27, 28, 29, 30, 31, 32, 33, 34, 35, 36, 37]
      (.seq
      (.seq
      (.ops [
        .op none (.mv 17 (.t 6)),
        .op none (.mv 18 (.t 5)),
        .op none (.len 19 false (.t 18)),
        .op none (.bin 20 .lss (.t 17) (.t 19))])
      (.cond (.t 20)
        .skip
        (.exit 0)))
      (.seq
      (.block 1
        (.seq
        (.drw [[], [], [], [1, 2], [3], [0, 4], [5], [6], [6], [6], [8, 9, 6], [10, 6], [7, 11, 6], [12, 6], [6, 13]] [
          .op none (.load 23 true 2 (.t 3)),
          .op none (.mv 24 (.t 5)),
          .op none (.mv 25 (.t 6)),
          .op none (.iaddr 26 1 (.t 24) (.t 25)),
          .op none (.load 27 false 1 (.t 26)),
          .call none (some 28) 18 [(false, (.t 23)), (false, (.t 27))],
          .op none (.mv 29 (.t 28)),
          .op (some (29, true)) (.mv 30 (.t 0)),
          .op (some (29, true)) (.mv 31 (.t 5)),
          .op (some (29, true)) (.mv 32 (.t 6)),
          .op (some (29, true)) (.iaddr 33 1 (.t 31) (.t 32)),
          .op (some (29, true)) (.load 34 false 1 (.t 33)),
          .call (some (29, true)) (some 35) 35 [(false, (.t 30)), (false, (.t 34))],
          .op (some (29, true)) (.not 36 (.t 35)),
          .op none (.pick 37 (.t 29) (.t 36) (.c (.bool false)))])
        (.cond (.t 37)
          (.seq
          (.ops [
            .op none (.asg 4 (.c (.bool false)))])
          .ret)
          .skip)))
      (.ops [
        .op none (.mv 21 (.t 6)),
        .op none (.bin 22 .add (.t 21) (.c (.int .i64 1))),
        .op none (.asg 6 (.t 22))]))))))
  (.seq
  (.ops [
    .op none (.asg 4 (.c (.bool true)))])
  .ret)))))
def rets_exchequerref05_Covers : List Ret := [.t 4]
theorem of_exchequerref05_Covers {args : List SV} {Post : SV → List SV → Prop} (h : wqF Try.prog 38 ir_exchequerref05_Covers rets_exchequerref05_Covers args Post) (hn : args.length ≤ 38) : Fn Try.prog 22 args Post :=
  Fn.of_body' Try.func22 rfl Try.ntmps22 (by kernel_rfl) (by kernel_rfl) hn (wqF_wp h)

theorem ofv_exchequerref05_Covers {args : List SV} {Post : SV → List SV → Prop} (h : wqFV Try.prog 38 ir_exchequerref05_Covers 4 args Post) (hn : args.length ≤ 38) : Fn Try.prog 22 args Post :=
  Fn.of_vec Try.func22 rfl Try.ntmps22 (by kernel_rfl) (by kernel_rfl) (by decide) hn (wqFV_wp h)

/-- exchequer/span.Covers · parameters [[]api.Span, api.Span] -/
abbrev F_span_Covers : FuncId := 23
def ir_span_Covers : Stm :=
  (.seq
  (.ops [
    .op none (.box 3 (.t 1)),
    .op none (.asg 4 (.c (.bool false)))])
  (.seq
  (.ops [
    .op none (.mv 5 (.t 0)),
    .call none (some 6) 12 [(false, (.t 5))],
    .op none (.mkf 7 38 [(.t 3)]),
    .call none (some 8) 37 [(false, (.t 6)), (false, (.t 7))],
    .op none (.asg 4 (.t 8))])
  .ret))
def rets_span_Covers : List Ret := [.t 4]
theorem of_span_Covers {args : List SV} {Post : SV → List SV → Prop} (h : wqF Try.prog 9 ir_span_Covers rets_span_Covers args Post) (hn : args.length ≤ 9) : Fn Try.prog 23 args Post :=
  Fn.of_body' Try.func23 rfl Try.ntmps23 (by kernel_rfl) (by kernel_rfl) hn (wqF_wp h)

theorem ofv_span_Covers {args : List SV} {Post : SV → List SV → Prop} (h : wqFV Try.prog 9 ir_span_Covers 4 args Post) (hn : args.length ≤ 9) : Fn Try.prog 23 args Post :=
  Fn.of_vec Try.func23 rfl Try.ntmps23 (by kernel_rfl) (by kernel_rfl) (by decide) hn (wqFV_wp h)

/-- exchequer/exchequerlaw05.SpanPoints$1 · parameters [[]api.Span] -/
abbrev F_exchequerlaw05_SpanPoints_1 : FuncId := 24
def ir_exchequerlaw05_SpanPoints_1 : Stm :=
  (.seq
  (.ops [
    .op none (.asg 3 (.c (.bool false)))])
  (.seq
  (.ops [
    .op none (.asg 4 (.c (.int .i64 0)))])
  (.seq
  (.seq
  (.ops [
    .op none (.mv 6 (.t 0)),
    .op none (.len 7 false (.t 6)),
    .op none (.mv 8 (.c (.int .i64 0)))])
  (.block 0
    (.loop [5, 6, 9, 10, 11, 12, 13, 14, 15, 16, 17, 18, 19, 20, 21, 22, 23, 24, 25, 26]
      (.seq
      (.ops [
        .op none (.bin 9 .lss (.t 8) (.t 7))])
      (.seq
      (.cond (.t 9)
        .skip
        (.exit 0))
      (.seq
      (.block 1
        (.seq
        (.ops [
          .op none (.mv 10 (.t 8)),
          .op none (.asg 5 (.t 10))])
        (.seq
        (.drw [[], [], [0, 1], [2], [3], [4], [5], [5], [6, 7, 5], [8, 5], [5], [9, 10, 5], [5, 11]] [
          .op none (.mv 11 (.t 0)),
          .op none (.mv 12 (.t 5)),
          .op none (.iaddr 13 2 (.t 11) (.t 12)),
          .op none (.load 14 true 2 (.t 13)),
          .call none (some 15) 15 [(false, (.t 14))],
          .op none (.mv 16 (.t 15)),
          .op (some (16, true)) (.mv 17 (.t 0)),
          .op (some (16, true)) (.mv 18 (.t 5)),
          .op (some (16, true)) (.iaddr 19 2 (.t 17) (.t 18)),
          .op (some (16, true)) (.load 20 true 2 (.t 19)),
          .op (some (16, true)) (.load 21 false 1 (.t 1)),
          .call (some (16, true)) (some 22) 17 [(false, (.t 20)), (false, (.t 21))],
          .op none (.pick 23 (.t 16) (.t 22) (.c (.bool false)))])
        (.cond (.t 23)
          (.ops [
            .op none (.mv 24 (.t 4)),
            .op none (.bin 25 .add (.t 24) (.c (.int .i64 1))),
            .op none (.asg 4 (.t 25))])
          .skip))))
      (.ops [
        .op none (.bin 26 .add (.t 8) (.c (.int .i64 1))),
        .op none (.mv 8 (.t 26))])))))))
  (.seq
  (.ops [
    .op none (.mv 27 (.t 4)),
    .op none (.bin 28 .gtr (.t 27) (.c (.int .i64 0))),
    .op none (.asg 3 (.t 28))])
  .ret))))
def rets_exchequerlaw05_SpanPoints_1 : List Ret := [.t 3]
theorem of_exchequerlaw05_SpanPoints_1 {args : List SV} {Post : SV → List SV → Prop} (h : wqF Try.prog 29 ir_exchequerlaw05_SpanPoints_1 rets_exchequerlaw05_SpanPoints_1 args Post) (hn : args.length ≤ 29) : Fn Try.prog 24 args Post :=
  Fn.of_body' Try.func24 rfl Try.ntmps24 (by kernel_rfl) (by kernel_rfl) hn (wqF_wp h)

theorem ofv_exchequerlaw05_SpanPoints_1 {args : List SV} {Post : SV → List SV → Prop} (h : wqFV Try.prog 29 ir_exchequerlaw05_SpanPoints_1 3 args Post) (hn : args.length ≤ 29) : Fn Try.prog 24 args Post :=
  Fn.of_vec Try.func24 rfl Try.ntmps24 (by kernel_rfl) (by kernel_rfl) (by decide) hn (wqFV_wp h)

/-- exchequer/span.Minus · parameters [[]api.Span, api.Span] -/
abbrev F_span_Minus : FuncId := 25
def ir_span_Minus : Stm :=
  (.seq
  (.ops [
    .op none (.box 3 (.t 1)),
    .op none (.asg 4 (.nils 29 2))])
  (.seq
  (.ops [
    .op none (.mv 10 (.t 0)),
    .call none (some 11) 12 [(false, (.t 10))],
    .op none (.asg 5 (.t 11))])
  (.seq
  (.seq
  (.ops [
    .op none (.load 12 true 2 (.t 3)),
    .call none (some 13) 15 [(false, (.t 12))],
    .op none (.not 14 (.t 13))])
  (.cond (.t 14)
    (.seq
    (.ops [
      .op none (.mv 15 (.t 5)),
      .op none (.mov 4 29 2 (.t 15))])
    .ret)
    .skip))
  (.seq
  (.ops [
    .op none (.asg 6 (.nils 29 2))])
  (.seq
  (.seq
  (.ops [
    .op none (.mv 16 (.t 5)),
    .op none (.len 17 false (.t 16)),
    .op none (.mv 18 (.c (.int .i64 0)))])
  (.block 0
    (.loop [8, 9, 10, 15, 19, 20, 21, 22, 23, 24, 25, 26, 27, 28, 29, 30, 31, 32, 33, 34, 35, 36, 37, 38, 39, 40, 41, 42, 43, 44, 45, 46, 47, 48, 49, 50, 51, 52, 53, 54, 55, 56, 57, 58, 59, 60, 61, 62, 63, 64]
      (.seq
      (.ops [
        .op none (.bin 19 .lss (.t 18) (.t 17))])
      (.seq
      (.cond (.t 19)
        .skip
        (.exit 0))
      (.seq
      (.block 1
        (.seq
        (.ops [
          .op none (.iaddr 20 2 (.t 16) (.t 18)),
          .op none (.load 21 true 2 (.t 20)),
          .op none (.alloc 8 (.one (.i (.agg [(.str []), (.str [])])))),
          .op none (.store 2 (.t 8) (.t 21))])
        (.seq
        (.seq
        (.ops [
          .op none (.faddr 22 (.t 8) 0 0),
          .op none (.load 23 false 1 (.t 22)),
          .op none (.faddr 24 (.t 3) 0 0),
          .op none (.load 25 false 1 (.t 24)),
          .op none (.bin 26 .lss (.t 23) (.t 25))])
        (.cond (.t 26)
          (.seq
          (.ops [
            .op none (.load 27 true 2 (.t 8)),
            .op none (.alloc 9 (.one (.i (.agg [(.str []), (.str [])])))),
            .op none (.store 2 (.t 9) (.t 27))])
          (.seq
          (.seq
          (.ops [
            .op none (.faddr 28 (.t 9) 1 1),
            .op none (.load 29 false 1 (.t 28)),
            .op none (.faddr 30 (.t 3) 0 0),
            .op none (.load 31 false 1 (.t 30)),
            .call none (some 32) 33 [(false, (.t 29)), (false, (.t 31))],
            .op none (.bin 33 .gtr (.t 32) (.c (.int .i64 0)))])
          (.cond (.t 33)
            (.ops [
              .op none (.faddr 34 (.t 3) 0 0),
              .op none (.load 35 false 1 (.t 34)),
              .op none (.faddr 36 (.t 9) 1 1),
              .op none (.store 1 (.t 36) (.t 35))])
            .skip))
          (.ops [
            .op none (.mv 37 (.t 6)),
            .op none (.load 38 true 2 (.t 9)),
            .op none (.bsl 39 29 2 (.agg [(.str []), (.str [])]) 1 [(0, (.t 38))]),
            .op none (.app 40 29 2 32 (.t 37) (.t 39)),
            .op none (.asg 6 (.t 40))])))
          .skip))
        (.seq
        (.ops [
          .op none (.faddr 41 (.t 3) 1 1),
          .op none (.load 42 false 1 (.t 41)),
          .op none (.bin 43 .neq (.t 42) (.c (.str []))),
          .op none (.mv 44 (.t 43)),
          .op (some (44, true)) (.faddr 45 (.t 8) 1 1),
          .op (some (44, true)) (.load 46 false 1 (.t 45)),
          .op (some (44, true)) (.faddr 47 (.t 3) 1 1),
          .op (some (44, true)) (.load 48 false 1 (.t 47)),
          .call (some (44, true)) (some 49) 33 [(false, (.t 46)), (false, (.t 48))],
          .op (some (44, true)) (.bin 50 .gtr (.t 49) (.c (.int .i64 0))),
          .op none (.pick 51 (.t 44) (.t 50) (.c (.bool false)))])
        (.cond (.t 51)
          (.ops [
            .op none (.mv 52 (.t 6)),
            .op none (.faddr 53 (.t 8) 0 0),
            .op none (.load 54 false 1 (.t 53)),
            .op none (.faddr 55 (.t 3) 1 1),
            .op none (.load 56 false 1 (.t 55)),
            .op none (.mm 57 true (.t 54) (.t 56)),
            .op none (.faddr 58 (.t 8) 1 1),
            .op none (.load 59 false 1 (.t 58)),
            .op none (.build 60 [(.str []), (.str [])] [(0, (.t 57)), (1, (.t 59))]),
            .op none (.bsl 61 29 2 (.agg [(.str []), (.str [])]) 1 [(0, (.t 60))]),
            .op none (.app 62 29 2 32 (.t 52) (.t 61)),
            .op none (.asg 6 (.t 62))])
          .skip)))))
      (.ops [
        .op none (.bin 63 .add (.t 18) (.c (.int .i64 1))),
        .op none (.mv 18 (.t 63))])))))))
  (.seq
  (.ops [
    .op none (.mv 64 (.t 6)),
    .op none (.mov 4 29 2 (.t 64))])
  .ret))))))
def rets_span_Minus : List Ret := [.t 4]
theorem of_span_Minus {args : List SV} {Post : SV → List SV → Prop} (h : wqF Try.prog 65 ir_span_Minus rets_span_Minus args Post) (hn : args.length ≤ 65) : Fn Try.prog 25 args Post :=
  Fn.of_body' Try.func25 rfl Try.ntmps25 (by kernel_rfl) (by kernel_rfl) hn (wqF_wp h)

theorem ofv_span_Minus {args : List SV} {Post : SV → List SV → Prop} (h : wqFV Try.prog 65 ir_span_Minus 4 args Post) (hn : args.length ≤ 65) : Fn Try.prog 25 args Post :=
  Fn.of_vec Try.func25 rfl Try.ntmps25 (by kernel_rfl) (by kernel_rfl) (by decide) hn (wqFV_wp h)

/-- exchequer/exchequerref05.Minus · parameters [[]api.Span, api.Span] -/
abbrev F_exchequerref05_Minus : FuncId := 26
def ir_exchequerref05_Minus : Stm :=
  (.seq
  (.ops [
    .op none (.box 3 (.t 1)),
    .op none (.asg 4 (.nils 29 2))])
  (.seq
  (.drw [[], [], [0, 1], [], [3], [2, 4], [5], [6, 0, 1, 2, 3, 4, 5]] [
    .op none (.empty 8 29 2),
    .op none (.mv 9 (.t 0)),
    .op none (.app 10 29 2 32 (.t 8) (.t 9)),
    .op none (.load 11 true 2 (.t 3)),
    .op none (.bsl 12 29 2 (.agg [(.str []), (.str [])]) 1 [(0, (.t 11))]),
    .op none (.app 13 29 2 32 (.t 10) (.t 12)),
    .call none (some 14) 34 [(false, (.t 13))],
    .op none (.asg 5 (.t 14))])
  (.seq
  (.ops [
    .op none (.empty 15 4 1),
    .op none (.asg 6 (.t 15))])
  (.seq
  (.seq
  (.ops [
    .op none (.asg 7 (.c (.int .i64 0)))])
  (.block 0
    (.loop [9, 16, 17, 18, 19, 20, 21, 22, 23, 24, 25, 26, 27, 28, 29, 30, 31, 32, 33, 34, 35, 36, 37, 38, 39, 40, 41, 42, 43, 44, 45]
      (.seq
      (.seq
      (.ops [
        .op none (.mv 16 (.t 7)),
        .op none (.mv 17 (.t 5)),
        .op none (.len 18 false (.t 17)),
        .op none (.bin 19 .lss (.t 16) (.t 18))])
      (.cond (.t 19)
        .skip
        (.exit 0)))
      (.seq
      (.block 1
        (.drw [[], [], [], [], [2, 3], [4], [1, 5], [6], [7], [8, 7], [9, 7], [10], [10], [10], [12, 13, 10], [14, 10], [11, 15, 10], [10, 16, 7], [17, 7], [7, 18], [19], [0, 20, 16], [21, 0, 1, 2, 3, 4, 5, 6, 7, 8, 9, 10, 11, 12, 13, 14, 15, 16, 17, 18, 19, 20]] [
          .op none (.mv 22 (.t 6)),
          .op none (.mv 23 (.t 0)),
          .op none (.mv 24 (.t 5)),
          .op none (.mv 25 (.t 7)),
          .op none (.iaddr 26 1 (.t 24) (.t 25)),
          .op none (.load 27 false 1 (.t 26)),
          .call none (some 28) 35 [(false, (.t 23)), (false, (.t 27))],
          .op none (.mv 29 (.t 28)),
          .op (some (29, true)) (.load 30 true 2 (.t 3)),
          .call (some (29, true)) (some 31) 16 [(false, (.t 30))],
          .op (some (29, true)) (.mv 32 (.t 31)),
          .op (some (32, true)) (.load 33 true 2 (.t 3)),
          .op (some (32, true)) (.mv 34 (.t 5)),
          .op (some (32, true)) (.mv 35 (.t 7)),
          .op (some (32, true)) (.iaddr 36 1 (.t 34) (.t 35)),
          .op (some (32, true)) (.load 37 false 1 (.t 36)),
          .call (some (32, true)) (some 38) 18 [(false, (.t 33)), (false, (.t 37))],
          .op (some (29, true)) (.pick 39 (.t 32) (.t 38) (.c (.bool false))),
          .op (some (29, true)) (.not 40 (.t 39)),
          .op none (.pick 41 (.t 29) (.t 40) (.c (.bool false))),
          .op none (.bsl 42 4 1 (.bool false) 1 [(0, (.t 41))]),
          .op none (.app 43 4 1 1 (.t 22) (.t 42)),
          .op none (.asg 6 (.t 43))]))
      (.ops [
        .op none (.mv 20 (.t 7)),
        .op none (.bin 21 .add (.t 20) (.c (.int .i64 1))),
        .op none (.asg 7 (.t 21))]))))))
  (.seq
  (.ops [
    .op none (.mv 44 (.t 5)),
    .op none (.mv 45 (.t 6)),
    .call none (some 46) 36 [(false, (.t 44)), (false, (.t 45))],
    .op none (.asg 4 (.t 46))])
  .ret)))))
def rets_exchequerref05_Minus : List Ret := [.t 4]
theorem of_exchequerref05_Minus {args : List SV} {Post : SV → List SV → Prop} (h : wqF Try.prog 47 ir_exchequerref05_Minus rets_exchequerref05_Minus args Post) (hn : args.length ≤ 47) : Fn Try.prog 26 args Post :=
  Fn.of_body' Try.func26 rfl Try.ntmps26 (by kernel_rfl) (by kernel_rfl) hn (wqF_wp h)

theorem ofv_exchequerref05_Minus {args : List SV} {Post : SV → List SV → Prop} (h : wqFV Try.prog 47 ir_exchequerref05_Minus 4 args Post) (hn : args.length ≤ 47) : Fn Try.prog 26 args Post :=
  Fn.of_vec Try.func26 rfl Try.ntmps26 (by kernel_rfl) (by kernel_rfl) (by decide) hn (wqFV_wp h)

/-- slices.DeleteFunc[[]exchequer/api.Span,exchequer/api.Span] · parameters [[]api.Span, func(api.Span) bool] -/
abbrev F_slices_DeleteFunc_L_api_Span_api_Span : FuncId := 27
def ir_slices_DeleteFunc_L_api_Span_api_Span : Stm :=
  (.seq
  (.ops [
    .op none (.asg 4 (.nils 29 2))])
  (.seq
  (.ops [
    .op none (.mv 8 (.t 0)),
    .op none (.mv 9 (.t 1)),
    .peek none (some 10) 39 [(false, (.t 8)), (false, (.t 9))],
    .op none (.asg 5 (.t 10))])
  (.seq
  (.seq
  (.ops [
    .op none (.mv 11 (.t 5)),
    .op none (.bin 12 .eql (.t 11) (.c (.int .i64 (-1))))])
  (.cond (.t 12)
    (.seq
    (.ops [
      .op none (.mv 13 (.t 0)),
      .op none (.mov 4 29 2 (.t 13))])
    .ret)
    .skip))
  (.seq
  (.seq
  (.ops [
    .op none (.mv 14 (.t 5)),
    .op none (.bin 15 .add (.t 14) (.c (.int .i64 1))),
    .op none (.asg 6 (.t 15))])
  (.block 0
    (.loop [7, 8, 13, 16, 17, 18, 19, 20, 21, 22, 23, 24, 25, 26, 27, 28, 29, 30, 31, 32, 33, 34, 35, 36, 39]
      (.seq
      (.seq
      (.ops [
        .op none (.mv 16 (.t 6)),
        .op none (.mv 17 (.t 0)),
        .op none (.len 18 false (.t 17)),
        .op none (.bin 19 .lss (.t 16) (.t 18))])
      (.cond (.t 19)
        .skip
        (.exit 0)))
      (.seq
      (.block 1
        (.seq
        (.ops [
          .op none (.mv 22 (.t 0)),
          .op none (.mv 23 (.t 6)),
          .op none (.iaddr 24 2 (.t 22) (.t 23)),
          .op none (.load 25 true 2 (.t 24)),
          .op none (.alloc 7 (.one (.i (.agg [(.str []), (.str [])])))),
          .op none (.store 2 (.t 7) (.t 25))])
        (.seq
        (.ops [
          .op none (.mv 26 (.t 1)),
          .op none (.load 27 true 2 (.t 7)),
          .dyn none (some 28) [29, 38] (.t 26) [(false, (.t 27))],
          .op none (.not 29 (.t 28))])
        (.cond (.t 29)
          (.seq
          (.ops [
            .op none (.mv 30 (.t 0)),
            .op none (.mv 31 (.t 5)),
            .op none (.load 32 true 2 (.t 7)),
            .op none (.iaddr 33 2 (.t 30) (.t 31)),
            .op none (.store 2 (.t 33) (.t 32))])
          (.ops [
            .op none (.mv 34 (.t 5)),
            .op none (.bin 35 .add (.t 34) (.c (.int .i64 1))),
            .op none (.asg 5 (.t 35))]))
          .skip))))
      (.ops [
        .op none (.mv 20 (.t 6)),
        .op none (.bin 21 .add (.t 20) (.c (.int .i64 1))),
        .op none (.asg 6 (.t 21))]))))))
  (.seq
  (.ops [
    .op none (.mv 36 (.t 0)),
    .op none (.mv 37 (.t 5)),
    .op none (.sfx 38 2 (.t 36) (.t 37)),
    .op none (.clr none 2 (.agg [(.str []), (.str [])]) (.t 38))])
  (.seq
  (.ops [
    .op none (.mv 39 (.t 0)),
    .op none (.mv 40 (.t 5)),
    .op none (.slc 41 false 2 (.t 39) none (some (.t 40))),
    .op none (.mov 4 29 2 (.t 41))])
  .ret))))))
def rets_slices_DeleteFunc_L_api_Span_api_Span : List Ret := [.t 4]
theorem of_slices_DeleteFunc_L_api_Span_api_Span {args : List SV} {Post : SV → List SV → Prop} (h : wqF Try.prog 42 ir_slices_DeleteFunc_L_api_Span_api_Span rets_slices_DeleteFunc_L_api_Span_api_Span args Post) (hn : args.length ≤ 42) : Fn Try.prog 27 args Post :=
  Fn.of_body' Try.func27 rfl Try.ntmps27 (by kernel_rfl) (by kernel_rfl) hn (wqF_wp h)

theorem ofv_slices_DeleteFunc_L_api_Span_api_Span {args : List SV} {Post : SV → List SV → Prop} (h : wqFV Try.prog 42 ir_slices_DeleteFunc_L_api_Span_api_Span 4 args Post) (hn : args.length ≤ 42) : Fn Try.prog 27 args Post :=
  Fn.of_vec Try.func27 rfl Try.ntmps27 (by kernel_rfl) (by kernel_rfl) (by decide) hn (wqFV_wp h)

/-- slices.Clone[[]exchequer/api.Span,exchequer/api.Span] · parameters [[]api.Span] -/
abbrev F_slices_Clone_L_api_Span_api_Span : FuncId := 28
def ir_slices_Clone_L_api_Span_api_Span : Stm :=
  (.seq
  (.ops [
    .op none (.asg 2 (.nils 29 2))])
  (.seq
  (.seq
  (.ops [
    .op none (.mv 3 (.t 0)),
    .op none (.isnil 4 false (.t 3))])
  (.cond (.t 4)
    (.seq
    (.ops [
      .op none (.asg 2 (.nils 29 2))])
    .ret)
    .skip))
  (.seq
  (.ops [
    .op none (.empty 5 29 2),
    .op none (.mv 6 (.t 0)),
    .op none (.app 7 29 2 32 (.t 5) (.t 6)),
    .op none (.asg 2 (.t 7))])
  .ret)))
def rets_slices_Clone_L_api_Span_api_Span : List Ret := [.t 2]
theorem of_slices_Clone_L_api_Span_api_Span {args : List SV} {Post : SV → List SV → Prop} (h : wqF Try.prog 8 ir_slices_Clone_L_api_Span_api_Span rets_slices_Clone_L_api_Span_api_Span args Post) (hn : args.length ≤ 8) : Fn Try.prog 28 args Post :=
  Fn.of_body' Try.func28 rfl Try.ntmps28 (by kernel_rfl) (by kernel_rfl) hn (wqF_wp h)

theorem ofv_slices_Clone_L_api_Span_api_Span {args : List SV} {Post : SV → List SV → Prop} (h : wqFV Try.prog 8 ir_slices_Clone_L_api_Span_api_Span 2 args Post) (hn : args.length ≤ 8) : Fn Try.prog 28 args Post :=
  Fn.of_vec Try.func28 rfl Try.ntmps28 (by kernel_rfl) (by kernel_rfl) (by decide) hn (wqFV_wp h)

/-- exchequer/span.Union$1 · parameters [api.Span] -/
abbrev F_span_Union_1 : FuncId := 29
def ir_span_Union_1 : Stm :=
  (.seq
  (.ops [
    .op none (.box 1 (.t 0)),
    .op none (.asg 2 (.c (.bool false)))])
  (.seq
  (.ops [
    .op none (.load 3 true 2 (.t 1)),
    .call none (some 4) 15 [(false, (.t 3))],
    .op none (.not 5 (.t 4)),
    .op none (.asg 2 (.t 5))])
  .ret))
def rets_span_Union_1 : List Ret := [.t 2]
theorem of_span_Union_1 {args : List SV} {Post : SV → List SV → Prop} (h : wqF Try.prog 6 ir_span_Union_1 rets_span_Union_1 args Post) (hn : args.length ≤ 6) : Fn Try.prog 29 args Post :=
  Fn.of_body' Try.func29 rfl Try.ntmps29 (by kernel_rfl) (by kernel_rfl) hn (wqF_wp h)

theorem ofv_span_Union_1 {args : List SV} {Post : SV → List SV → Prop} (h : wqFV Try.prog 6 ir_span_Union_1 2 args Post) (hn : args.length ≤ 6) : Fn Try.prog 29 args Post :=
  Fn.of_vec Try.func29 rfl Try.ntmps29 (by kernel_rfl) (by kernel_rfl) (by decide) hn (wqFV_wp h)

/-- exchequer/span.Union$2 · parameters [api.Span, api.Span] -/
abbrev F_span_Union_2 : FuncId := 31
def ir_span_Union_2 : Stm :=
  (.seq
  (.ops [
    .op none (.box 2 (.t 0)),
    .op none (.box 3 (.t 1)),
    .op none (.asg 4 (.c (.int .i64 0)))])
  (.seq
  (.ops [
    .op none (.faddr 5 (.t 2) 0 0),
    .op none (.load 6 false 1 (.t 5)),
    .op none (.faddr 7 (.t 3) 0 0),
    .op none (.load 8 false 1 (.t 7)),
    .call none (some 9) 32 [(false, (.t 6)), (false, (.t 8))],
    .op none (.asg 4 (.t 9))])
  .ret))
def rets_span_Union_2 : List Ret := [.t 4]
theorem of_span_Union_2 {args : List SV} {Post : SV → List SV → Prop} (h : wqF Try.prog 10 ir_span_Union_2 rets_span_Union_2 args Post) (hn : args.length ≤ 10) : Fn Try.prog 31 args Post :=
  Fn.of_body' Try.func31 rfl Try.ntmps31 (by kernel_rfl) (by kernel_rfl) hn (wqF_wp h)

theorem ofv_span_Union_2 {args : List SV} {Post : SV → List SV → Prop} (h : wqFV Try.prog 10 ir_span_Union_2 4 args Post) (hn : args.length ≤ 10) : Fn Try.prog 31 args Post :=
  Fn.of_vec Try.func31 rfl Try.ntmps31 (by kernel_rfl) (by kernel_rfl) (by decide) hn (wqFV_wp h)

/-- cmp.Compare[string] · parameters [string, string] -/
abbrev F_cmp_Compare_string : FuncId := 32
def ir_cmp_Compare_string : Stm :=
  (.seq
  (.ops [
    .op none (.asg 4 (.c (.int .i64 0)))])
  (.seq
  (.ops [
    .op none (.mv 7 (.t 0)),
    .call none (some 8) 42 [(false, (.t 7))],
    .op none (.asg 5 (.t 8))])
  (.seq
  (.ops [
    .op none (.mv 9 (.t 1)),
    .call none (some 10) 42 [(false, (.t 9))],
    .op none (.asg 6 (.t 10))])
  (.seq
  (.seq
  (.ops [
    .op none (.mv 11 (.t 5))])
  (.cond (.t 11)
    (.seq
    (.seq
    (.ops [
      .op none (.mv 12 (.t 6))])
    (.cond (.t 12)
      (.seq
      (.ops [
        .op none (.asg 4 (.c (.int .i64 0)))])
      .ret)
      .skip))
    (.seq
    (.ops [
      .op none (.asg 4 (.c (.int .i64 (-1))))])
    .ret))
    .skip))
  (.seq
  (.seq
  (.ops [
    .op none (.mv 13 (.t 6))])
  (.cond (.t 13)
    (.seq
    (.ops [
      .op none (.asg 4 (.c (.int .i64 1)))])
    .ret)
    .skip))
  (.seq
  (.seq
  (.ops [
    .op none (.mv 14 (.t 0)),
    .op none (.mv 15 (.t 1)),
    .op none (.bin 16 .lss (.t 14) (.t 15))])
  (.cond (.t 16)
    (.seq
    (.ops [
      .op none (.asg 4 (.c (.int .i64 (-1))))])
    .ret)
    .skip))
  (.seq
  (.seq
  (.ops [
    .op none (.mv 17 (.t 0)),
    .op none (.mv 18 (.t 1)),
    .op none (.bin 19 .gtr (.t 17) (.t 18))])
  (.cond (.t 19)
    (.seq
    (.ops [
      .op none (.asg 4 (.c (.int .i64 1)))])
    .ret)
    .skip))
  (.seq
  (.ops [
    .op none (.asg 4 (.c (.int .i64 0)))])
  .ret))))))))
def rets_cmp_Compare_string : List Ret := [.t 4]
theorem of_cmp_Compare_string {args : List SV} {Post : SV → List SV → Prop} (h : wqF Try.prog 20 ir_cmp_Compare_string rets_cmp_Compare_string args Post) (hn : args.length ≤ 20) : Fn Try.prog 32 args Post :=
  Fn.of_body' Try.func32 rfl Try.ntmps32 (by kernel_rfl) (by kernel_rfl) hn (wqF_wp h)

theorem ofv_cmp_Compare_string {args : List SV} {Post : SV → List SV → Prop} (h : wqFV Try.prog 20 ir_cmp_Compare_string 4 args Post) (hn : args.length ≤ 20) : Fn Try.prog 32 args Post :=
  Fn.of_vec Try.func32 rfl Try.ntmps32 (by kernel_rfl) (by kernel_rfl) (by decide) hn (wqFV_wp h)

/-- exchequer/span.ends · parameters [string, string] -/
abbrev F_span_ends : FuncId := 33
def ir_span_ends : Stm :=
  (.seq
  (.ops [
    .op none (.asg 4 (.c (.int .i64 0)))])
  (.seq
  (.block 0
    (.seq
    (.ops [
      .op none (.mv 6 (.t 0)),
      .op none (.mv 7 (.t 1)),
      .op none (.bin 8 .eql (.t 6) (.t 7)),
      .op none (.asg 5 (.t 8))])
    (.cond (.t 5)
      (.seq
      (.ops [
        .op none (.asg 4 (.c (.int .i64 0)))])
      .ret)
      (.seq
      (.ops [
        .op none (.mv 10 (.t 0)),
        .op none (.bin 11 .eql (.t 10) (.c (.str []))),
        .op none (.asg 9 (.t 11))])
      (.cond (.t 9)
        (.seq
        (.ops [
          .op none (.asg 4 (.c (.int .i64 1)))])
        .ret)
        (.seq
        (.ops [
          .op none (.mv 13 (.t 1)),
          .op none (.bin 14 .eql (.t 13) (.c (.str []))),
          .op none (.asg 12 (.t 14))])
        (.cond (.t 12)
          (.seq
          (.ops [
            .op none (.asg 4 (.c (.int .i64 (-1))))])
          .ret)
          .skip)))))))
  (.seq
  (.ops [
    .op none (.mv 15 (.t 0)),
    .op none (.mv 16 (.t 1)),
    .call none (some 17) 32 [(false, (.t 15)), (false, (.t 16))],
    .op none (.asg 4 (.t 17))])
  .ret)))
def rets_span_ends : List Ret := [.t 4]
theorem of_span_ends {args : List SV} {Post : SV → List SV → Prop} (h : wqF Try.prog 18 ir_span_ends rets_span_ends args Post) (hn : args.length ≤ 18) : Fn Try.prog 33 args Post :=
  Fn.of_body' Try.func33 rfl Try.ntmps33 (by kernel_rfl) (by kernel_rfl) hn (wqF_wp h)

theorem ofv_span_ends {args : List SV} {Post : SV → List SV → Prop} (h : wqFV Try.prog 18 ir_span_ends 4 args Post) (hn : args.length ≤ 18) : Fn Try.prog 33 args Post :=
  Fn.of_vec Try.func33 rfl Try.ntmps33 (by kernel_rfl) (by kernel_rfl) (by decide) hn (wqFV_wp h)

/-- exchequer/exchequerref05.Ends · parameters [[]api.Span] -/
abbrev F_exchequerref05_Ends : FuncId := 34
def ir_exchequerref05_Ends : Stm :=
  (.seq
  (.ops [
    .op none (.asg 2 (.nils 9 1))])
  (.seq
  (.ops [
    .op none (.bsl 5 9 1 (.str []) 1 [(0, (.c (.str [])))]),
    .op none (.asg 3 (.t 5))])
  (.seq
  (.seq
  (.ops [
    .op none (.asg 4 (.c (.int .i64 0)))])
  (.block 0
    (.loop [6, 7, 8, 9, 10, 11, 12, 13, 14, 15, 16, 17, 18, 19, 20, 21, 22, 23, 24, 25, 26, 27, 28, 29, 30]
      (.seq
      (.seq
      (.ops [
        .op none (.mv 6 (.t 4)),
        .op none (.mv 7 (.t 0)),
        .op none (.len 8 false (.t 7)),
        .op none (.bin 9 .lss (.t 6) (.t 8))])
      (.cond (.t 9)
        .skip
        (.exit 0)))
      (.seq
      (.block 1
        (.seq
        (.ops [
          .op none (.mv 12 (.t 0)),
          .op none (.mv 13 (.t 4)),
          .op none (.iaddr 14 2 (.t 12) (.t 13)),
          .op none (.load 15 true 2 (.t 14)),
          .call none (some 16) 16 [(false, (.t 15))]])
        (.cond (.t 16)
          (.drw [[], [], [], [1, 2], [3], [4], [0, 5], [], [], [7, 8], [9], [10], [6, 11], [12, 0, 1, 2, 3, 4, 5, 6, 7, 8, 9, 10, 11]] [
            .op none (.mv 17 (.t 3)),
            .op none (.mv 18 (.t 0)),
            .op none (.mv 19 (.t 4)),
            .op none (.iaddr 20 2 (.t 18) (.t 19)),
            .op none (.faddr 21 (.t 20) 0 0),
            .op none (.load 22 false 1 (.t 21)),
            .call none (some 23) 43 [(false, (.t 17)), (false, (.t 22))],
            .op none (.mv 24 (.t 0)),
            .op none (.mv 25 (.t 4)),
            .op none (.iaddr 26 2 (.t 24) (.t 25)),
            .op none (.faddr 27 (.t 26) 1 1),
            .op none (.load 28 false 1 (.t 27)),
            .call none (some 29) 43 [(false, (.t 23)), (false, (.t 28))],
            .op none (.asg 3 (.t 29))])
          .skip)))
      (.ops [
        .op none (.mv 10 (.t 4)),
        .op none (.bin 11 .add (.t 10) (.c (.int .i64 1))),
        .op none (.asg 4 (.t 11))]))))))
  (.seq
  (.ops [
    .op none (.mv 30 (.t 3)),
    .op none (.mov 2 9 1 (.t 30))])
  .ret))))
def rets_exchequerref05_Ends : List Ret := [.t 2]
theorem of_exchequerref05_Ends {args : List SV} {Post : SV → List SV → Prop} (h : wqF Try.prog 31 ir_exchequerref05_Ends rets_exchequerref05_Ends args Post) (hn : args.length ≤ 31) : Fn Try.prog 34 args Post :=
  Fn.of_body' Try.func34 rfl Try.ntmps34 (by kernel_rfl) (by kernel_rfl) hn (wqF_wp h)

theorem ofv_exchequerref05_Ends {args : List SV} {Post : SV → List SV → Prop} (h : wqFV Try.prog 31 ir_exchequerref05_Ends 2 args Post) (hn : args.length ≤ 31) : Fn Try.prog 34 args Post :=
  Fn.of_vec Try.func34 rfl Try.ntmps34 (by kernel_rfl) (by kernel_rfl) (by decide) hn (wqFV_wp h)

/-- exchequer/exchequerref05.any · parameters [[]api.Span, string] -/
abbrev F_exchequerref05_any : FuncId := 35
def ir_exchequerref05_any : Stm :=
  (.seq
  (.ops [
    .op none (.asg 4 (.c (.bool false)))])
  (.seq
  (.seq
  (.ops [
    .op none (.asg 5 (.c (.int .i64 0)))])
  (.block 0
    (.loop [4, 6, 7, 8, 9, 10, 11, 12, 13, 14, 15, 16, 17, 18, 19, 20, 21, 22, 23, 24]
      (.seq
      (.seq
      (.ops [
        .op none (.mv 6 (.t 5)),
        .op none (.mv 7 (.t 0)),
        .op none (.len 8 false (.t 7)),
        .op none (.bin 9 .lss (.t 6) (.t 8))])
      (.cond (.t 9)
        .skip
        (.exit 0)))
      (.seq
      (.block 1
        (.seq
        (.ops [
          .op none (.mv 12 (.t 0)),
          .op none (.mv 13 (.t 5)),
          .op none (.iaddr 14 2 (.t 12) (.t 13)),
          .op none (.load 15 true 2 (.t 14)),
          .call none (some 16) 16 [(false, (.t 15))],
          .op none (.mv 17 (.t 16)),
          .op (some (17, true)) (.mv 18 (.t 0)),
          .op (some (17, true)) (.mv 19 (.t 5)),
          .op (some (17, true)) (.iaddr 20 2 (.t 18) (.t 19)),
          .op (some (17, true)) (.load 21 true 2 (.t 20)),
          .op (some (17, true)) (.mv 22 (.t 1)),
          .call (some (17, true)) (some 23) 18 [(false, (.t 21)), (false, (.t 22))],
          .op none (.pick 24 (.t 17) (.t 23) (.c (.bool false)))])
        (.cond (.t 24)
          (.seq
          (.ops [
            .op none (.asg 4 (.c (.bool true)))])
          .ret)
          .skip)))
      (.ops [
        .op none (.mv 10 (.t 5)),
        .op none (.bin 11 .add (.t 10) (.c (.int .i64 1))),
        .op none (.asg 5 (.t 11))]))))))
  (.seq
  (.ops [
    .op none (.asg 4 (.c (.bool false)))])
  .ret)))
def rets_exchequerref05_any : List Ret := [.t 4]
theorem of_exchequerref05_any {args : List SV} {Post : SV → List SV → Prop} (h : wqF Try.prog 25 ir_exchequerref05_any rets_exchequerref05_any args Post) (hn : args.length ≤ 25) : Fn Try.prog 35 args Post :=
  Fn.of_body' Try.func35 rfl Try.ntmps35 (by kernel_rfl) (by kernel_rfl) hn (wqF_wp h)

theorem ofv_exchequerref05_any {args : List SV} {Post : SV → List SV → Prop} (h : wqFV Try.prog 25 ir_exchequerref05_any 4 args Post) (hn : args.length ≤ 25) : Fn Try.prog 35 args Post :=
  Fn.of_vec Try.func35 rfl Try.ntmps35 (by kernel_rfl) (by kernel_rfl) (by decide) hn (wqFV_wp h)

/-- exchequer/exchequerref05.Made · parameters [[]string, []bool] -/
abbrev F_exchequerref05_Made : FuncId := 36
def ir_exchequerref05_Made : Stm :=
  (.seq
  (.ops [
    .op none (.asg 4 (.nils 29 2))])
  (.seq
  (.ops [
    .op none (.empty 8 29 2),
    .op none (.asg 5 (.t 8))])
  (.seq
  (.ops [
    .op none (.asg 6 (.c (.bool false)))])
  (.seq
  (.seq
  (.ops [
    .op none (.asg 7 (.c (.int .i64 0)))])
  (.block 0
    (.loop [9, 10, 11, 12, 13, 14, 15, 16, 17, 18, 19, 20, 21, 22, 23, 24, 25, 26, 27, 28, 29, 30, 31, 32, 33, 34, 35, 36, 37, 38, 39, 40, 41, 42, 43, 44, 45, 46, 47, 48, 49, 50, 51, 52, 53]
      (.seq
      (.seq
      (.ops [
        .op none (.mv 9 (.t 7)),
        .op none (.mv 10 (.t 0)),
        .op none (.len 11 false (.t 10)),
        .op none (.bin 12 .lss (.t 9) (.t 11))])
      (.cond (.t 12)
        .skip
        (.exit 0)))
      (.seq
      (.block 1
        (.seq
        (.seq
        (.ops [
          .op none (.mv 15 (.t 1)),
          .op none (.mv 16 (.t 7)),
          .op none (.iaddr 17 1 (.t 15) (.t 16)),
          .op none (.load 18 false 1 (.t 17)),
          .op none (.mv 19 (.t 18)),
          .op (some (19, true)) (.mv 20 (.t 6)),
          .op (some (19, true)) (.not 21 (.t 20)),
          .op none (.pick 22 (.t 19) (.t 21) (.c (.bool false)))])
        (.cond (.t 22)
          (.ops [
            .op none (.mv 23 (.t 5)),
            .op none (.mv 24 (.t 0)),
            .op none (.mv 25 (.t 7)),
            .op none (.iaddr 26 1 (.t 24) (.t 25)),
            .op none (.load 27 false 1 (.t 26)),
            .op none (.build 28 [(.str []), (.str [])] [(0, (.t 27))]),
            .op none (.bsl 29 29 2 (.agg [(.str []), (.str [])]) 1 [(0, (.t 28))]),
            .op none (.app 30 29 2 32 (.t 23) (.t 29)),
            .op none (.asg 5 (.t 30))])
          .skip))
        (.seq
        (.seq
        (.ops [
          .op none (.mv 31 (.t 1)),
          .op none (.mv 32 (.t 7)),
          .op none (.iaddr 33 1 (.t 31) (.t 32)),
          .op none (.load 34 false 1 (.t 33)),
          .op none (.not 35 (.t 34)),
          .op none (.mv 36 (.t 35)),
          .op (some (36, true)) (.mv 37 (.t 6)),
          .op none (.pick 38 (.t 36) (.t 37) (.c (.bool false)))])
        (.cond (.t 38)
          (.ops [
            .op none (.mv 39 (.t 5)),
            .op none (.mv 40 (.t 5)),
            .op none (.len 41 false (.t 40)),
            .op none (.bin 42 .sub (.t 41) (.c (.int .i64 1))),
            .op none (.mv 43 (.t 0)),
            .op none (.mv 44 (.t 7)),
            .op none (.iaddr 45 1 (.t 43) (.t 44)),
            .op none (.load 46 false 1 (.t 45)),
            .op none (.iaddr 47 2 (.t 39) (.t 42)),
            .op none (.faddr 48 (.t 47) 1 1),
            .op none (.store 1 (.t 48) (.t 46))])
          .skip))
        (.ops [
          .op none (.mv 49 (.t 1)),
          .op none (.mv 50 (.t 7)),
          .op none (.iaddr 51 1 (.t 49) (.t 50)),
          .op none (.load 52 false 1 (.t 51)),
          .op none (.asg 6 (.t 52))]))))
      (.ops [
        .op none (.mv 13 (.t 7)),
        .op none (.bin 14 .add (.t 13) (.c (.int .i64 1))),
        .op none (.asg 7 (.t 14))]))))))
  (.seq
  (.ops [
    .op none (.mv 53 (.t 5)),
    .op none (.mov 4 29 2 (.t 53))])
  .ret)))))
def rets_exchequerref05_Made : List Ret := [.t 4]
theorem of_exchequerref05_Made {args : List SV} {Post : SV → List SV → Prop} (h : wqF Try.prog 54 ir_exchequerref05_Made rets_exchequerref05_Made args Post) (hn : args.length ≤ 54) : Fn Try.prog 36 args Post :=
  Fn.of_body' Try.func36 rfl Try.ntmps36 (by kernel_rfl) (by kernel_rfl) hn (wqF_wp h)

theorem ofv_exchequerref05_Made {args : List SV} {Post : SV → List SV → Prop} (h : wqFV Try.prog 54 ir_exchequerref05_Made 4 args Post) (hn : args.length ≤ 54) : Fn Try.prog 36 args Post :=
  Fn.of_vec Try.func36 rfl Try.ntmps36 (by kernel_rfl) (by kernel_rfl) (by decide) hn (wqFV_wp h)

/-- slices.ContainsFunc[[]exchequer/api.Span,exchequer/api.Span] · parameters [[]api.Span, func(api.Span) bool] -/
abbrev F_slices_ContainsFunc_L_api_Span_api_Span : FuncId := 37
def ir_slices_ContainsFunc_L_api_Span_api_Span : Stm :=
  (.seq
  (.ops [
    .op none (.asg 4 (.c (.bool false)))])
  (.seq
  (.ops [
    .op none (.mv 5 (.t 0)),
    .op none (.mv 6 (.t 1)),
    .call none (some 7) 39 [(false, (.t 5)), (false, (.t 6))],
    .op none (.bin 8 .geq (.t 7) (.c (.int .i64 0))),
    .op none (.asg 4 (.t 8))])
  .ret))
def rets_slices_ContainsFunc_L_api_Span_api_Span : List Ret := [.t 4]
theorem of_slices_ContainsFunc_L_api_Span_api_Span {args : List SV} {Post : SV → List SV → Prop} (h : wqF Try.prog 9 ir_slices_ContainsFunc_L_api_Span_api_Span rets_slices_ContainsFunc_L_api_Span_api_Span args Post) (hn : args.length ≤ 9) : Fn Try.prog 37 args Post :=
  Fn.of_body' Try.func37 rfl Try.ntmps37 (by kernel_rfl) (by kernel_rfl) hn (wqF_wp h)

theorem ofv_slices_ContainsFunc_L_api_Span_api_Span {args : List SV} {Post : SV → List SV → Prop} (h : wqFV Try.prog 9 ir_slices_ContainsFunc_L_api_Span_api_Span 4 args Post) (hn : args.length ≤ 9) : Fn Try.prog 37 args Post :=
  Fn.of_vec Try.func37 rfl Try.ntmps37 (by kernel_rfl) (by kernel_rfl) (by decide) hn (wqFV_wp h)

/-- exchequer/span.Covers$1 · parameters [api.Span] -/
abbrev F_span_Covers_1 : FuncId := 38
def ir_span_Covers_1 : Stm :=
  (.seq
  (.ops [
    .op none (.box 2 (.t 0)),
    .op none (.asg 3 (.c (.bool false)))])
  (.seq
  (.ops [
    .op none (.load 4 true 2 (.t 1)),
    .op none (.load 5 true 2 (.t 2)),
    .call none (some 6) 21 [(false, (.t 4)), (false, (.t 5))],
    .op none (.asg 3 (.t 6))])
  .ret))
def rets_span_Covers_1 : List Ret := [.t 3]
theorem of_span_Covers_1 {args : List SV} {Post : SV → List SV → Prop} (h : wqF Try.prog 7 ir_span_Covers_1 rets_span_Covers_1 args Post) (hn : args.length ≤ 7) : Fn Try.prog 38 args Post :=
  Fn.of_body' Try.func38 rfl Try.ntmps38 (by kernel_rfl) (by kernel_rfl) hn (wqF_wp h)

theorem ofv_span_Covers_1 {args : List SV} {Post : SV → List SV → Prop} (h : wqFV Try.prog 7 ir_span_Covers_1 3 args Post) (hn : args.length ≤ 7) : Fn Try.prog 38 args Post :=
  Fn.of_vec Try.func38 rfl Try.ntmps38 (by kernel_rfl) (by kernel_rfl) (by decide) hn (wqFV_wp h)

/-- slices.IndexFunc[[]exchequer/api.Span,exchequer/api.Span] · parameters [[]api.Span, func(api.Span) bool] -/
abbrev F_slices_IndexFunc_L_api_Span_api_Span : FuncId := 39
def ir_slices_IndexFunc_L_api_Span_api_Span : Stm :=
  (.seq
  (.ops [
    .op none (.asg 4 (.c (.int .i64 0)))])
  (.seq
  (.seq
  (.ops [
    .op none (.mv 6 (.t 0)),
    .op none (.len 7 false (.t 6)),
    .op none (.mv 8 (.c (.int .i64 0)))])
  (.block 0
    (.loop [4, 5, 6, 9, 10, 11, 12, 13, 14, 15, 16, 17, 18]
      (.seq
      (.ops [
        .op none (.bin 9 .lss (.t 8) (.t 7))])
      (.seq
      (.cond (.t 9)
        .skip
        (.exit 0))
      (.seq
      (.block 1
        (.seq
        (.ops [
          .op none (.mv 10 (.t 8)),
          .op none (.asg 5 (.t 10))])
        (.seq
        (.ops [
          .op none (.mv 11 (.t 1)),
          .op none (.mv 12 (.t 0)),
          .op none (.mv 13 (.t 5)),
          .op none (.iaddr 14 2 (.t 12) (.t 13)),
          .op none (.load 15 true 2 (.t 14)),
          .dyn none (some 16) [29, 38] (.t 11) [(false, (.t 15))]])
        (.cond (.t 16)
          (.seq
          (.ops [
            .op none (.mv 17 (.t 5)),
            .op none (.asg 4 (.t 17))])
          .ret)
          .skip))))
      (.ops [
        .op none (.bin 18 .add (.t 8) (.c (.int .i64 1))),
        .op none (.mv 8 (.t 18))])))))))
  (.seq
  (.ops [
    .op none (.asg 4 (.c (.int .i64 (-1))))])
  .ret)))
def rets_slices_IndexFunc_L_api_Span_api_Span : List Ret := [.t 4]
theorem of_slices_IndexFunc_L_api_Span_api_Span {args : List SV} {Post : SV → List SV → Prop} (h : wqF Try.prog 19 ir_slices_IndexFunc_L_api_Span_api_Span rets_slices_IndexFunc_L_api_Span_api_Span args Post) (hn : args.length ≤ 19) : Fn Try.prog 39 args Post :=
  Fn.of_body' Try.func39 rfl Try.ntmps39 (by kernel_rfl) (by kernel_rfl) hn (wqF_wp h)

theorem ofv_slices_IndexFunc_L_api_Span_api_Span {args : List SV} {Post : SV → List SV → Prop} (h : wqFV Try.prog 19 ir_slices_IndexFunc_L_api_Span_api_Span 4 args Post) (hn : args.length ≤ 19) : Fn Try.prog 39 args Post :=
  Fn.of_vec Try.func39 rfl Try.ntmps39 (by kernel_rfl) (by kernel_rfl) (by decide) hn (wqFV_wp h)

/-- cmp.isNaN[string] · parameters [string] -/
abbrev F_cmp_isNaN_string : FuncId := 42
def ir_cmp_isNaN_string : Stm :=
  (.seq
  (.ops [
    .op none (.asg 2 (.c (.bool false)))])
  (.seq
  (.ops [
    .op none (.mv 3 (.t 0)),
    .op none (.mv 4 (.t 0)),
    .op none (.bin 5 .neq (.t 3) (.t 4)),
    .op none (.asg 2 (.t 5))])
  .ret))
def rets_cmp_isNaN_string : List Ret := [.t 2]
theorem of_cmp_isNaN_string {args : List SV} {Post : SV → List SV → Prop} (h : wqF Try.prog 6 ir_cmp_isNaN_string rets_cmp_isNaN_string args Post) (hn : args.length ≤ 6) : Fn Try.prog 42 args Post :=
  Fn.of_body' Try.func42 rfl Try.ntmps42 (by kernel_rfl) (by kernel_rfl) hn (wqF_wp h)

theorem ofv_cmp_isNaN_string {args : List SV} {Post : SV → List SV → Prop} (h : wqFV Try.prog 6 ir_cmp_isNaN_string 2 args Post) (hn : args.length ≤ 6) : Fn Try.prog 42 args Post :=
  Fn.of_vec Try.func42 rfl Try.ntmps42 (by kernel_rfl) (by kernel_rfl) (by decide) hn (wqFV_wp h)

/-- exchequer/exchequerref05.put · parameters [[]string, string] -/
abbrev F_exchequerref05_put : FuncId := 43
def ir_exchequerref05_put : Stm :=
  (.seq
  (.ops [
    .op none (.asg 4 (.nils 9 1))])
  (.seq
  (.ops [
    .op none (.empty 8 9 1),
    .op none (.asg 5 (.t 8))])
  (.seq
  (.ops [
    .op none (.asg 6 (.c (.bool false)))])
  (.seq
  (.seq
  (.ops [
    .op none (.asg 7 (.c (.int .i64 0)))])
  (.block 0
    (.loop [9, 10, 11, 12, 13, 14, 15, 16, 17, 18, 19, 20, 21, 22, 23, 24, 25, 26, 27, 28, 29, 30, 31, 32, 33, 34, 35, 36, 37, 38, 39, 40, 41, 44, 48]
      (.seq
      (.seq
      (.ops [
        .op none (.mv 9 (.t 7)),
        .op none (.mv 10 (.t 0)),
        .op none (.len 11 false (.t 10)),
        .op none (.bin 12 .lss (.t 9) (.t 11))])
      (.cond (.t 12)
        .skip
        (.exit 0)))
      (.seq
      (.block 1
        (.seq
        (.seq
        (.ops [
          .op none (.mv 15 (.t 6)),
          .op none (.not 16 (.t 15)),
          .op none (.mv 17 (.t 16)),
          .op (some (17, true)) (.mv 18 (.t 1)),
          .op (some (17, true)) (.mv 19 (.t 0)),
          .op (some (17, true)) (.mv 20 (.t 7)),
          .op (some (17, true)) (.iaddr 21 1 (.t 19) (.t 20)),
          .op (some (17, true)) (.load 22 false 1 (.t 21)),
          .op (some (17, true)) (.bin 23 .lss (.t 18) (.t 22)),
          .op none (.pick 24 (.t 17) (.t 23) (.c (.bool false)))])
        (.cond (.t 24)
          (.seq
          (.ops [
            .op none (.mv 25 (.t 5)),
            .op none (.mv 26 (.t 1)),
            .op none (.bsl 27 9 1 (.str []) 1 [(0, (.t 26))]),
            .op none (.app 28 9 1 16 (.t 25) (.t 27)),
            .op none (.asg 5 (.t 28))])
          (.ops [
            .op none (.asg 6 (.c (.bool true)))]))
          .skip))
        (.seq
        (.seq
        (.ops [
          .op none (.mv 29 (.t 0)),
          .op none (.mv 30 (.t 7)),
          .op none (.iaddr 31 1 (.t 29) (.t 30)),
          .op none (.load 32 false 1 (.t 31)),
          .op none (.mv 33 (.t 1)),
          .op none (.bin 34 .eql (.t 32) (.t 33))])
        (.cond (.t 34)
          (.ops [
            .op none (.asg 6 (.c (.bool true)))])
          .skip))
        (.ops [
          .op none (.mv 35 (.t 5)),
          .op none (.mv 36 (.t 0)),
          .op none (.mv 37 (.t 7)),
          .op none (.iaddr 38 1 (.t 36) (.t 37)),
          .op none (.load 39 false 1 (.t 38)),
          .op none (.bsl 40 9 1 (.str []) 1 [(0, (.t 39))]),
          .op none (.app 41 9 1 16 (.t 35) (.t 40)),
          .op none (.asg 5 (.t 41))]))))
      (.ops [
        .op none (.mv 13 (.t 7)),
        .op none (.bin 14 .add (.t 13) (.c (.int .i64 1))),
        .op none (.asg 7 (.t 14))]))))))
  (.seq
  (.seq
  (.ops [
    .op none (.mv 42 (.t 6)),
    .op none (.not 43 (.t 42))])
  (.cond (.t 43)
    (.ops [
      .op none (.mv 44 (.t 5)),
      .op none (.mv 45 (.t 1)),
      .op none (.bsl 46 9 1 (.str []) 1 [(0, (.t 45))]),
      .op none (.app 47 9 1 16 (.t 44) (.t 46)),
      .op none (.asg 5 (.t 47))])
    .skip))
  (.seq
  (.ops [
    .op none (.mv 48 (.t 5)),
    .op none (.mov 4 9 1 (.t 48))])
  .ret))))))
def rets_exchequerref05_put : List Ret := [.t 4]
theorem of_exchequerref05_put {args : List SV} {Post : SV → List SV → Prop} (h : wqF Try.prog 49 ir_exchequerref05_put rets_exchequerref05_put args Post) (hn : args.length ≤ 49) : Fn Try.prog 43 args Post :=
  Fn.of_body' Try.func43 rfl Try.ntmps43 (by kernel_rfl) (by kernel_rfl) hn (wqF_wp h)

theorem ofv_exchequerref05_put {args : List SV} {Post : SV → List SV → Prop} (h : wqFV Try.prog 49 ir_exchequerref05_put 4 args Post) (hn : args.length ≤ 49) : Fn Try.prog 43 args Post :=
  Fn.of_vec Try.func43 rfl Try.ntmps43 (by kernel_rfl) (by kernel_rfl) (by decide) hn (wqFV_wp h)

end Go.Ab
