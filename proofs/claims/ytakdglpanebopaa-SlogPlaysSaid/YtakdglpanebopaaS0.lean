/- One text of the proof whose last text says what is proved. -/
import Derived.Test.YtakdglpanebopaaProg
import Derived.KernelRfl
import Derived.Test.YtakdglpanebopaaAb21
set_option linter.unusedVariables false
set_option linter.unusedSimpArgs false
set_option maxRecDepth 100000
namespace Go.Ab
open Go.Proofs

/-- exchequer/exchequerlaw11.SlogAgrees · parameters [[]api.Entry, int, []api.Entry] -/
abbrev F_exchequerlaw11_SlogAgrees : FuncId := 3
def ir_exchequerlaw11_SlogAgrees : Stm :=
  (.seq
  (.ops [
    .op none (.asg 6 (.c (.bool false)))])
  (.seq
  (.seq
  (.ops [
    .call none (some 18) 7 [],
    .op none (.not 19 (.t 18))])
  (.cond (.t 19)
    (.seq
    (.ops [
      .op none (.asg 6 (.c (.bool false)))])
    .ret)
    .skip))
  (.seq
  (.seq
  (.ops [
    .op none (.mv 20 (.t 0)),
    .call none (some 21) 8 [(false, (.t 20))],
    .op none (.mv 22 (.t 21)),
    .op (some (22, false)) (.mv 23 (.t 2)),
    .call (some (22, false)) (some 24) 8 [(false, (.t 23))],
    .op none (.pick 25 (.t 22) (.c (.bool true)) (.t 24))])
  (.cond (.t 25)
    (.seq
    (.ops [
      .op none (.asg 6 (.c (.bool true)))])
    .ret)
    .skip))
  (.seq
  (.ops [
    .op none (.mv 27 (.t 0)),
    .call none (some 28) 9 [(false, (.c (.int .i64 0))), (false, (.c (.int .i64 0))), (false, (.t 27))],
    .op none (.asg 26 (.t 28)),
    .op none (.ext 29 (.t 26) 0),
    .op none (.ext 30 (.t 26) 1),
    .op none (.alloc 7 (.one (.i (.agg [(.int .i64 0), (.int .i64 0), (.list [])])))),
    .op none (.store 3 (.t 7) (.t 29)),
    .op none (.asg 8 (.t 30))])
  (.seq
  (.seq
  (.ops [
    .op none (.mv 31 (.t 8)),
    .op none (.not 32 (.t 31))])
  (.cond (.t 32)
    (.seq
    (.ops [
      .op none (.asg 6 (.c (.bool true)))])
    .ret)
    .skip))
  (.seq
  (.ops [
    .op none (.load 34 true 3 (.t 7)),
    .op none (.mv 35 (.t 1)),
    .call none (some 36) 10 [(false, (.t 34)), (false, (.t 35))],
    .op none (.asg 33 (.t 36)),
    .op none (.ext 37 (.t 33) 0),
    .op none (.ext 38 (.t 33) 1),
    .op none (.asg 9 (.t 37)),
    .op none (.asg 10 (.t 38))])
  (.seq
  (.ops [
    .op none (.load 40 true 3 (.t 7)),
    .op none (.mv 41 (.t 1)),
    .op none (.mv 42 (.t 9)),
    .op none (.mv 43 (.t 2)),
    .call none (some 44) 11 [(false, (.t 40)), (false, (.t 41)), (false, (.t 42)), (false, (.t 43))],
    .op none (.asg 39 (.t 44)),
    .op none (.ext 45 (.t 39) 0),
    .op none (.ext 46 (.t 39) 1),
    .op none (.ext 47 (.t 39) 2),
    .op none (.alloc 11 (.one (.i (.agg [(.int .i64 0), (.int .i64 0), (.list [])])))),
    .op none (.store 3 (.t 11) (.t 45)),
    .op none (.asg 12 (.t 46)),
    .op none (.asg 13 (.t 47))])
  (.seq
  (.seq
  (.ops [
    .op none (.mv 48 (.t 13)),
    .op none (.not 49 (.t 48))])
  (.cond (.t 49)
    (.seq
    (.ops [
      .op none (.load 50 true 3 (.t 11)),
      .call none (some 51) 13 [(false, (.t 50)), (false, (.c (.int .i64 0))), (false, (.c (.int .i64 9999)))],
      .op none (.mv 52 (.t 0)),
      .call none (some 53) 12 [(false, (.t 51)), (false, (.t 52))],
      .op none (.asg 6 (.t 53))])
    .ret)
    .skip))
  (.seq
  (.ops [
    .op none (.load 54 true 3 (.t 11)),
    .call none (some 55) 13 [(false, (.t 54)), (false, (.c (.int .i64 0))), (false, (.c (.int .i64 9999)))],
    .op none (.asg 14 (.t 55))])
  (.seq
  (.seq
  (.drw [[], [], [], [2], [1, 3], [0, 4], [5], [6], [7, 6], [6], [8, 9, 6], [6, 10], [11, 6], [12], [12], [13, 14, 12], [12], [12], [16, 17, 12], [15, 18, 12], [19, 12], [12, 20]] [
    .op none (.mv 56 (.t 12)),
    .op none (.mv 57 (.t 1)),
    .op none (.mv 58 (.t 2)),
    .op none (.len 59 false (.t 58)),
    .op none (.bin 60 .add (.t 57) (.t 59)),
    .op none (.bin 61 .neq (.t 56) (.t 60)),
    .op none (.mv 62 (.t 61)),
    .op (some (62, false)) (.mv 63 (.t 14)),
    .op (some (62, false)) (.len 64 false (.t 63)),
    .op (some (62, false)) (.mv 65 (.t 12)),
    .op (some (62, false)) (.bin 66 .lss (.t 64) (.t 65)),
    .op none (.pick 67 (.t 62) (.c (.bool true)) (.t 66)),
    .op none (.mv 68 (.t 67)),
    .op (some (68, false)) (.mv 69 (.t 14)),
    .op (some (68, false)) (.mv 70 (.t 1)),
    .op (some (68, false)) (.slc 71 false 3 (.t 69) none (some (.t 70))),
    .op (some (68, false)) (.mv 72 (.t 0)),
    .op (some (68, false)) (.mv 73 (.t 1)),
    .op (some (68, false)) (.slc 74 false 3 (.t 72) none (some (.t 73))),
    .call (some (68, false)) (some 75) 12 [(false, (.t 71)), (false, (.t 74))],
    .op (some (68, false)) (.not 76 (.t 75)),
    .op none (.pick 77 (.t 68) (.c (.bool true)) (.t 76))])
  (.cond (.t 77)
    (.seq
    (.ops [
      .op none (.asg 6 (.c (.bool false)))])
    .ret)
    .skip))
  (.seq
  (.ops [
    .op none (.asg 15 (.c (.bool false)))])
  (.seq
  (.seq
  (.ops [
    .op none (.mv 78 (.t 2)),
    .op none (.len 79 false (.t 78)),
    .op none (.mv 80 (.c (.int .i64 0)))])
  (.block 0
    (.loop [6, 16, 17, 81, 82, 83, 84, 85, 86, 87, 88, 89, 90, 91, 92, 93, 94, 95, 96, 97, 98, 99, 100, 101, 102, 103, 104, 105, 106, 107, 108, 109, 110, 111, 112, 113, 114, 115, 116, 117, 118, 119, 120, 121, 122, 123, 124, 125, 126, 127, 128, 129, 130, 131]
      (.seq
      (.ops [
        .op none (.bin 81 .lss (.t 80) (.t 79))])
      (.seq
      (.cond (.t 81)
        .skip
        (.exit 0))
      (.seq
      (.block 1
        (.seq
        (.ops [
          .op none (.mv 82 (.t 80)),
          .op none (.asg 16 (.t 82))])
        (.seq
        (.ops [
          .op none (.mv 83 (.t 14)),
          .op none (.mv 84 (.t 1)),
          .op none (.mv 85 (.t 16)),
          .op none (.bin 86 .add (.t 84) (.t 85)),
          .op none (.iaddr 87 3 (.t 83) (.t 86)),
          .op none (.load 88 true 3 (.t 87)),
          .op none (.alloc 17 (.one (.i (.agg [(.int .i64 0), (.int .i64 0), (.str [])])))),
          .op none (.store 3 (.t 17) (.t 88))])
        (.seq
        (.seq
        (.drw [[], [0], [], [], [2, 3], [4], [5], [1, 6], [7], [8], [9, 8], [8], [8], [11, 12, 8], [13, 8], [14, 8], [10, 15, 8], [8, 16]] [
          .op none (.faddr 89 (.t 17) 0 0),
          .op none (.load 90 false 1 (.t 89)),
          .op none (.mv 91 (.t 2)),
          .op none (.mv 92 (.t 16)),
          .op none (.iaddr 93 3 (.t 91) (.t 92)),
          .op none (.faddr 94 (.t 93) 0 0),
          .op none (.load 95 false 1 (.t 94)),
          .op none (.bin 96 .neq (.t 90) (.t 95)),
          .op none (.mv 97 (.t 96)),
          .op (some (97, false)) (.faddr 98 (.t 17) 1 1),
          .op (some (97, false)) (.load 99 false 1 (.t 98)),
          .op (some (97, false)) (.mv 100 (.t 2)),
          .op (some (97, false)) (.mv 101 (.t 16)),
          .op (some (97, false)) (.iaddr 102 3 (.t 100) (.t 101)),
          .op (some (97, false)) (.faddr 103 (.t 102) 1 1),
          .op (some (97, false)) (.load 104 false 1 (.t 103)),
          .op (some (97, false)) (.bin 105 .neq (.t 99) (.t 104)),
          .op none (.pick 106 (.t 97) (.c (.bool true)) (.t 105))])
        (.cond (.t 106)
          (.seq
          (.ops [
            .op none (.asg 6 (.c (.bool false)))])
          .ret)
          .skip))
        (.drw [[], [0], [1], [1], [2, 3, 1], [1], [5, 1], [4, 6, 1], [1, 7], [8, 1], [9], [9], [9], [11, 12, 9], [10, 13, 9], [14, 9], [15, 9], [9], [9], [17, 18, 9], [19, 9], [20, 9], [16, 21, 9], [9, 22], [23, 9, 0, 1, 2, 3, 4, 5, 6, 7, 8, 10, 11, 12, 13, 14, 15, 16, 17, 18, 19, 20, 21, 22]] [
          .op none (.mv 107 (.t 15)),
          .op none (.mv 108 (.t 107)),
          .op (some (108, false)) (.mv 109 (.t 1)),
          .op (some (108, false)) (.mv 110 (.t 16)),
          .op (some (108, false)) (.bin 111 .add (.t 109) (.t 110)),
          .op (some (108, false)) (.mv 112 (.t 0)),
          .op (some (108, false)) (.len 113 false (.t 112)),
          .op (some (108, false)) (.bin 114 .geq (.t 111) (.t 113)),
          .op none (.pick 115 (.t 108) (.c (.bool true)) (.t 114)),
          .op none (.mv 116 (.t 115)),
          .op (some (116, false)) (.mv 117 (.t 0)),
          .op (some (116, false)) (.mv 118 (.t 1)),
          .op (some (116, false)) (.mv 119 (.t 16)),
          .op (some (116, false)) (.bin 120 .add (.t 118) (.t 119)),
          .op (some (116, false)) (.iaddr 121 3 (.t 117) (.t 120)),
          .op (some (116, false)) (.faddr 122 (.t 121) 1 1),
          .op (some (116, false)) (.load 123 false 1 (.t 122)),
          .op (some (116, false)) (.mv 124 (.t 2)),
          .op (some (116, false)) (.mv 125 (.t 16)),
          .op (some (116, false)) (.iaddr 126 3 (.t 124) (.t 125)),
          .op (some (116, false)) (.faddr 127 (.t 126) 1 1),
          .op (some (116, false)) (.load 128 false 1 (.t 127)),
          .op (some (116, false)) (.bin 129 .neq (.t 123) (.t 128)),
          .op none (.pick 130 (.t 116) (.c (.bool true)) (.t 129)),
          .op none (.asg 15 (.t 130))])))))
      (.ops [
        .op none (.bin 131 .add (.t 80) (.c (.int .i64 1))),
        .op none (.mv 80 (.t 131))])))))))
  (.seq
  (.seq
  (.ops [
    .op none (.mv 132 (.t 15))])
  (.cond (.t 132)
    (.seq
    (.ops [
      .op none (.mv 133 (.t 14)),
      .op none (.len 134 false (.t 133)),
      .op none (.mv 135 (.t 12)),
      .op none (.bin 136 .eql (.t 134) (.t 135)),
      .op none (.asg 6 (.t 136))])
    .ret)
    .skip))
  (.seq
  (.ops [
    .op none (.mv 137 (.t 14)),
    .op none (.mv 138 (.t 0)),
    .call none (some 139) 12 [(false, (.t 137)), (false, (.t 138))],
    .op none (.asg 6 (.t 139))])
  .ret))))))))))))))
def rets_exchequerlaw11_SlogAgrees : List Ret := [.t 6]
theorem of_exchequerlaw11_SlogAgrees {args : List SV} {Post : SV → List SV → Prop} (h : wqF Try.prog 140 ir_exchequerlaw11_SlogAgrees rets_exchequerlaw11_SlogAgrees args Post) (hn : args.length ≤ 140) : Fn Try.prog 3 args Post :=
  Fn.of_body' Try.func3 rfl Try.ntmps3 (by kernel_rfl) (by kernel_rfl) hn (wqF_wp h)

theorem ofv_exchequerlaw11_SlogAgrees {args : List SV} {Post : SV → List SV → Prop} (h : wqFV Try.prog 140 ir_exchequerlaw11_SlogAgrees 6 args Post) (hn : args.length ≤ 140) : Fn Try.prog 3 args Post :=
  Fn.of_vec Try.func3 rfl Try.ntmps3 (by kernel_rfl) (by kernel_rfl) (by decide) hn (wqFV_wp h)

/-- exchequer/exchequerlaw11.SlogNewer · parameters [[]api.Entry, []api.Entry, int] -/
abbrev F_exchequerlaw11_SlogNewer : FuncId := 4
def ir_exchequerlaw11_SlogNewer : Stm :=
  (.seq
  (.ops [
    .op none (.asg 6 (.c (.bool false)))])
  (.seq
  (.seq
  (.ops [
    .call none (some 17) 7 [],
    .op none (.not 18 (.t 17))])
  (.cond (.t 18)
    (.seq
    (.ops [
      .op none (.asg 6 (.c (.bool false)))])
    .ret)
    .skip))
  (.seq
  (.seq
  (.ops [
    .op none (.mv 19 (.t 0)),
    .call none (some 20) 8 [(false, (.t 19))],
    .op none (.mv 21 (.t 20)),
    .op (some (21, false)) (.mv 22 (.t 1)),
    .call (some (21, false)) (some 23) 8 [(false, (.t 22))],
    .op none (.pick 24 (.t 21) (.c (.bool true)) (.t 23))])
  (.cond (.t 24)
    (.seq
    (.ops [
      .op none (.asg 6 (.c (.bool true)))])
    .ret)
    .skip))
  (.seq
  (.ops [
    .op none (.mv 26 (.t 0)),
    .call none (some 27) 9 [(false, (.c (.int .i64 0))), (false, (.c (.int .i64 0))), (false, (.t 26))],
    .op none (.asg 25 (.t 27)),
    .op none (.ext 28 (.t 25) 0),
    .op none (.ext 29 (.t 25) 1),
    .op none (.alloc 7 (.one (.i (.agg [(.int .i64 0), (.int .i64 0), (.list [])])))),
    .op none (.store 3 (.t 7) (.t 28)),
    .op none (.asg 8 (.t 29))])
  (.seq
  (.ops [
    .op none (.mv 31 (.t 1)),
    .call none (some 32) 9 [(false, (.c (.int .i64 0))), (false, (.c (.int .i64 0))), (false, (.t 31))],
    .op none (.asg 30 (.t 32)),
    .op none (.ext 33 (.t 30) 0),
    .op none (.ext 34 (.t 30) 1),
    .op none (.alloc 9 (.one (.i (.agg [(.int .i64 0), (.int .i64 0), (.list [])])))),
    .op none (.store 3 (.t 9) (.t 33)),
    .op none (.asg 10 (.t 34))])
  (.seq
  (.seq
  (.ops [
    .op none (.mv 35 (.t 8)),
    .op none (.not 36 (.t 35)),
    .op none (.mv 37 (.t 36)),
    .op (some (37, false)) (.mv 38 (.t 10)),
    .op (some (37, false)) (.not 39 (.t 38)),
    .op none (.pick 40 (.t 37) (.c (.bool true)) (.t 39))])
  (.cond (.t 40)
    (.seq
    (.ops [
      .op none (.asg 6 (.c (.bool true)))])
    .ret)
    .skip))
  (.seq
  (.ops [
    .op none (.load 42 true 3 (.t 7)),
    .call none (some 43) 14 [(false, (.t 42))],
    .op none (.asg 41 (.t 43)),
    .op none (.ext 44 (.t 41) 0),
    .op none (.ext 45 (.t 41) 1),
    .op none (.asg 11 (.t 44)),
    .op none (.asg 12 (.t 45))])
  (.seq
  (.ops [
    .op none (.load 47 true 3 (.t 9)),
    .call none (some 48) 14 [(false, (.t 47))],
    .op none (.asg 46 (.t 48)),
    .op none (.ext 49 (.t 46) 0),
    .op none (.ext 50 (.t 46) 1),
    .op none (.asg 13 (.t 49)),
    .op none (.asg 14 (.t 50))])
  (.seq
  (.seq
  (.ops [
    .op none (.load 51 true 3 (.t 7)),
    .op none (.mv 52 (.t 13)),
    .op none (.mv 53 (.t 14)),
    .call none (some 54) 15 [(false, (.t 51)), (false, (.t 52)), (false, (.t 53))],
    .op none (.not 55 (.t 54)),
    .op none (.mv 56 (.t 55)),
    .op (some (56, true)) (.load 57 true 3 (.t 9)),
    .op (some (56, true)) (.mv 58 (.t 11)),
    .op (some (56, true)) (.mv 59 (.t 12)),
    .call (some (56, true)) (some 60) 15 [(false, (.t 57)), (false, (.t 58)), (false, (.t 59))],
    .op (some (56, true)) (.not 61 (.t 60)),
    .op none (.pick 62 (.t 56) (.t 61) (.c (.bool false))),
    .op none (.mv 63 (.t 62)),
    .op (some (63, false)) (.load 64 true 3 (.t 7)),
    .op (some (63, false)) (.mv 65 (.t 11)),
    .op (some (63, false)) (.mv 66 (.t 12)),
    .call (some (63, false)) (some 67) 15 [(false, (.t 64)), (false, (.t 65)), (false, (.t 66))],
    .op (some (63, false)) (.not 68 (.t 67)),
    .op none (.pick 69 (.t 63) (.c (.bool true)) (.t 68))])
  (.cond (.t 69)
    (.seq
    (.ops [
      .op none (.asg 6 (.c (.bool false)))])
    .ret)
    .skip))
  (.seq
  (.ops [
    .op none (.load 71 true 3 (.t 7)),
    .op none (.mv 72 (.t 2)),
    .call none (some 73) 16 [(false, (.t 71)), (false, (.t 72)), (false, (.c (.str [121])))],
    .op none (.asg 70 (.t 73)),
    .op none (.ext 74 (.t 70) 0),
    .op none (.ext 75 (.t 70) 1),
    .op none (.alloc 15 (.one (.i (.agg [(.int .i64 0), (.int .i64 0), (.list [])])))),
    .op none (.store 3 (.t 15) (.t 74)),
    .op none (.asg 16 (.t 75))])
  (.seq
  (.seq
  (.ops [
    .op none (.mv 76 (.t 16)),
    .op none (.not 77 (.t 76))])
  (.cond (.t 77)
    (.seq
    (.ops [
      .op none (.asg 6 (.c (.bool true)))])
    .ret)
    .skip))
  (.seq
  (.ops [
    .op none (.load 79 true 3 (.t 15)),
    .call none (some 80) 14 [(false, (.t 79))],
    .op none (.asg 78 (.t 80)),
    .op none (.ext 81 (.t 78) 0),
    .op none (.ext 82 (.t 78) 1),
    .op none (.asg 11 (.t 81)),
    .op none (.asg 12 (.t 82))])
  (.seq
  (.ops [
    .op none (.load 84 true 3 (.t 7)),
    .call none (some 85) 14 [(false, (.t 84))],
    .op none (.asg 83 (.t 85)),
    .op none (.ext 86 (.t 83) 0),
    .op none (.ext 87 (.t 83) 1),
    .op none (.asg 13 (.t 86)),
    .op none (.asg 14 (.t 87))])
  (.seq
  (.ops [
    .op none (.load 88 true 3 (.t 7)),
    .op none (.mv 89 (.t 11)),
    .op none (.mv 90 (.t 12)),
    .call none (some 91) 15 [(false, (.t 88)), (false, (.t 89)), (false, (.t 90))],
    .op none (.mv 92 (.t 91)),
    .op (some (92, true)) (.load 93 true 3 (.t 15)),
    .op (some (92, true)) (.mv 94 (.t 13)),
    .op (some (92, true)) (.mv 95 (.t 14)),
    .call (some (92, true)) (some 96) 15 [(false, (.t 93)), (false, (.t 94)), (false, (.t 95))],
    .op (some (92, true)) (.not 97 (.t 96)),
    .op none (.pick 98 (.t 92) (.t 97) (.c (.bool false))),
    .op none (.asg 6 (.t 98))])
  .ret))))))))))))))
def rets_exchequerlaw11_SlogNewer : List Ret := [.t 6]
theorem of_exchequerlaw11_SlogNewer {args : List SV} {Post : SV → List SV → Prop} (h : wqF Try.prog 99 ir_exchequerlaw11_SlogNewer rets_exchequerlaw11_SlogNewer args Post) (hn : args.length ≤ 99) : Fn Try.prog 4 args Post :=
  Fn.of_body' Try.func4 rfl Try.ntmps4 (by kernel_rfl) (by kernel_rfl) hn (wqF_wp h)

theorem ofv_exchequerlaw11_SlogNewer {args : List SV} {Post : SV → List SV → Prop} (h : wqFV Try.prog 99 ir_exchequerlaw11_SlogNewer 6 args Post) (hn : args.length ≤ 99) : Fn Try.prog 4 args Post :=
  Fn.of_vec Try.func4 rfl Try.ntmps4 (by kernel_rfl) (by kernel_rfl) (by decide) hn (wqFV_wp h)

/-- exchequer/exchequerlaw11.SlogCuts · parameters [[]api.Entry, int, []api.Entry] -/
abbrev F_exchequerlaw11_SlogCuts : FuncId := 5
def ir_exchequerlaw11_SlogCuts : Stm :=
  (.seq
  (.ops [
    .op none (.asg 6 (.c (.bool false)))])
  (.seq
  (.seq
  (.ops [
    .call none (some 21) 7 [],
    .op none (.not 22 (.t 21))])
  (.cond (.t 22)
    (.seq
    (.ops [
      .op none (.asg 6 (.c (.bool false)))])
    .ret)
    .skip))
  (.seq
  (.seq
  (.ops [
    .op none (.mv 23 (.t 0)),
    .call none (some 24) 8 [(false, (.t 23))],
    .op none (.mv 25 (.t 24)),
    .op (some (25, false)) (.mv 26 (.t 2)),
    .call (some (25, false)) (some 27) 8 [(false, (.t 26))],
    .op none (.pick 28 (.t 25) (.c (.bool true)) (.t 27))])
  (.cond (.t 28)
    (.seq
    (.ops [
      .op none (.asg 6 (.c (.bool true)))])
    .ret)
    .skip))
  (.seq
  (.ops [
    .op none (.mv 30 (.t 0)),
    .call none (some 31) 9 [(false, (.c (.int .i64 0))), (false, (.c (.int .i64 0))), (false, (.t 30))],
    .op none (.asg 29 (.t 31)),
    .op none (.ext 32 (.t 29) 0),
    .op none (.ext 33 (.t 29) 1),
    .op none (.alloc 7 (.one (.i (.agg [(.int .i64 0), (.int .i64 0), (.list [])])))),
    .op none (.store 3 (.t 7) (.t 32)),
    .op none (.asg 8 (.t 33))])
  (.seq
  (.ops [
    .op none (.load 35 true 3 (.t 7)),
    .op none (.mv 36 (.t 1)),
    .call none (some 37) 17 [(false, (.t 35)), (false, (.t 36))],
    .op none (.asg 34 (.t 37)),
    .op none (.ext 38 (.t 34) 0),
    .op none (.ext 39 (.t 34) 1),
    .op none (.alloc 9 (.one (.i (.agg [(.int .i64 0), (.int .i64 0), (.list [])])))),
    .op none (.store 3 (.t 9) (.t 38)),
    .op none (.asg 10 (.t 39))])
  (.seq
  (.seq
  (.ops [
    .op none (.mv 40 (.t 8)),
    .op none (.not 41 (.t 40)),
    .op none (.mv 42 (.t 41)),
    .op (some (42, false)) (.mv 43 (.t 10)),
    .op (some (42, false)) (.not 44 (.t 43)),
    .op none (.pick 45 (.t 42) (.c (.bool true)) (.t 44))])
  (.cond (.t 45)
    (.seq
    (.ops [
      .op none (.mv 46 (.t 8)),
      .op none (.not 47 (.t 46)),
      .op none (.mv 48 (.t 47)),
      .op (some (48, false)) (.mv 49 (.t 1)),
      .op (some (48, false)) (.bin 50 .lss (.t 49) (.c (.int .i64 0))),
      .op none (.pick 51 (.t 48) (.c (.bool true)) (.t 50)),
      .op none (.mv 52 (.t 51)),
      .op (some (52, false)) (.mv 53 (.t 1)),
      .op (some (52, false)) (.mv 54 (.t 0)),
      .op (some (52, false)) (.len 55 false (.t 54)),
      .op (some (52, false)) (.bin 56 .gtr (.t 53) (.t 55)),
      .op none (.pick 57 (.t 52) (.c (.bool true)) (.t 56)),
      .op none (.asg 6 (.t 57))])
    .ret)
    .skip))
  (.seq
  (.seq
  (.drw [[], [0], [], [], [3], [2, 4, 1], [1, 5], [6]] [
    .op none (.load 58 true 3 (.t 9)),
    .call none (some 59) 13 [(false, (.t 58)), (false, (.c (.int .i64 0))), (false, (.c (.int .i64 9999)))],
    .op none (.load 60 true 3 (.t 7)),
    .op none (.mv 61 (.t 1)),
    .op none (.bin 62 .add (.t 61) (.c (.int .i64 1))),
    .call none (some 63) 13 [(false, (.t 60)), (false, (.t 62)), (false, (.c (.int .i64 9999)))],
    .call none (some 64) 12 [(false, (.t 59)), (false, (.t 63))],
    .op none (.not 65 (.t 64))])
  (.cond (.t 65)
    (.seq
    (.ops [
      .op none (.asg 6 (.c (.bool false)))])
    .ret)
    .skip))
  (.seq
  (.ops [
    .op none (.load 67 true 3 (.t 7)),
    .call none (some 68) 14 [(false, (.t 67))],
    .op none (.asg 66 (.t 68)),
    .op none (.ext 69 (.t 66) 0),
    .op none (.ext 70 (.t 66) 1),
    .op none (.asg 11 (.t 69)),
    .op none (.asg 12 (.t 70))])
  (.seq
  (.ops [
    .op none (.load 72 true 3 (.t 9)),
    .call none (some 73) 14 [(false, (.t 72))],
    .op none (.asg 71 (.t 73)),
    .op none (.ext 74 (.t 71) 0),
    .op none (.ext 75 (.t 71) 1),
    .op none (.asg 13 (.t 74)),
    .op none (.asg 14 (.t 75))])
  (.seq
  (.ops [
    .op none (.load 77 true 3 (.t 7)),
    .op none (.mv 78 (.t 11)),
    .op none (.mv 79 (.t 12)),
    .op none (.mv 80 (.t 2)),
    .call none (some 81) 11 [(false, (.t 77)), (false, (.t 78)), (false, (.t 79)), (false, (.t 80))],
    .op none (.asg 76 (.t 81)),
    .op none (.ext 82 (.t 76) 0),
    .op none (.ext 83 (.t 76) 1),
    .op none (.ext 84 (.t 76) 2),
    .op none (.alloc 15 (.one (.i (.agg [(.int .i64 0), (.int .i64 0), (.list [])])))),
    .op none (.store 3 (.t 15) (.t 82)),
    .op none (.asg 16 (.t 83)),
    .op none (.asg 17 (.t 84))])
  (.seq
  (.ops [
    .op none (.load 86 true 3 (.t 9)),
    .op none (.mv 87 (.t 11)),
    .op none (.mv 88 (.t 12)),
    .op none (.mv 89 (.t 2)),
    .call none (some 90) 11 [(false, (.t 86)), (false, (.t 87)), (false, (.t 88)), (false, (.t 89))],
    .op none (.asg 85 (.t 90)),
    .op none (.ext 91 (.t 85) 0),
    .op none (.ext 92 (.t 85) 1),
    .op none (.ext 93 (.t 85) 2),
    .op none (.alloc 18 (.one (.i (.agg [(.int .i64 0), (.int .i64 0), (.list [])])))),
    .op none (.store 3 (.t 18) (.t 91)),
    .op none (.asg 19 (.t 92)),
    .op none (.asg 20 (.t 93))])
  (.seq
  (.seq
  (.ops [
    .op none (.mv 94 (.t 13)),
    .op none (.mv 95 (.t 11)),
    .op none (.bin 96 .neq (.t 94) (.t 95)),
    .op none (.mv 97 (.t 96)),
    .op (some (97, false)) (.mv 98 (.t 14)),
    .op (some (97, false)) (.mv 99 (.t 12)),
    .op (some (97, false)) (.bin 100 .neq (.t 98) (.t 99)),
    .op none (.pick 101 (.t 97) (.c (.bool true)) (.t 100)),
    .op none (.mv 102 (.t 101)),
    .op (some (102, false)) (.mv 103 (.t 16)),
    .op (some (102, false)) (.mv 104 (.t 19)),
    .op (some (102, false)) (.bin 105 .neq (.t 103) (.t 104)),
    .op (some (102, false)) (.mv 106 (.t 105)),
    .op (some (106, true)) (.mv 107 (.t 0)),
    .op (some (106, true)) (.len 108 false (.t 107)),
    .op (some (106, true)) (.mv 109 (.t 2)),
    .op (some (106, true)) (.len 110 false (.t 109)),
    .op (some (106, true)) (.bin 111 .add (.t 108) (.t 110)),
    .op (some (106, true)) (.bin 112 .leq (.t 111) (.c (.int .i64 4096))),
    .op (some (102, false)) (.pick 113 (.t 106) (.t 112) (.c (.bool false))),
    .op none (.pick 114 (.t 102) (.c (.bool true)) (.t 113)),
    .op none (.mv 115 (.t 114)),
    .op (some (115, false)) (.mv 116 (.t 17)),
    .op (some (115, false)) (.mv 117 (.t 20)),
    .op (some (115, false)) (.eqs 118 true .bool (.t 116) (.t 117)),
    .op (some (115, false)) (.mv 119 (.t 118)),
    .op (some (119, true)) (.mv 120 (.t 0)),
    .op (some (119, true)) (.len 121 false (.t 120)),
    .op (some (119, true)) (.mv 122 (.t 2)),
    .op (some (119, true)) (.len 123 false (.t 122)),
    .op (some (119, true)) (.bin 124 .add (.t 121) (.t 123)),
    .op (some (119, true)) (.bin 125 .leq (.t 124) (.c (.int .i64 4096))),
    .op (some (115, false)) (.pick 126 (.t 119) (.t 125) (.c (.bool false))),
    .op none (.pick 127 (.t 115) (.c (.bool true)) (.t 126))])
  (.cond (.t 127)
    (.seq
    (.ops [
      .op none (.asg 6 (.c (.bool false)))])
    .ret)
    .skip))
  (.seq
  (.drw [[], [0], [], [2], [1, 3], [4], [5], [6], [6], [8, 6], [7, 9, 6], [6], [11, 10, 6], [10, 12, 6], [6, 13], [14, 13, 0, 1, 2, 3, 4, 5, 6, 7, 8, 9, 10, 11, 12]] [
    .op none (.mv 128 (.t 0)),
    .op none (.len 129 false (.t 128)),
    .op none (.mv 130 (.t 2)),
    .op none (.len 131 false (.t 130)),
    .op none (.bin 132 .add (.t 129) (.t 131)),
    .op none (.bin 133 .gtr (.t 132) (.c (.int .i64 4096))),
    .op none (.mv 134 (.t 133)),
    .op (some (134, false)) (.load 135 true 3 (.t 15)),
    .op (some (134, false)) (.mv 136 (.t 1)),
    .op (some (134, false)) (.bin 137 .add (.t 136) (.c (.int .i64 1))),
    .call (some (134, false)) (some 138) 13 [(false, (.t 135)), (false, (.t 137)), (false, (.c (.int .i64 9999)))],
    .op (some (134, false)) (.load 139 true 3 (.t 18)),
    .call (some (134, false)) (some 140) 13 [(false, (.t 139)), (false, (.c (.int .i64 0))), (false, (.c (.int .i64 9999)))],
    .call (some (134, false)) (some 141) 12 [(false, (.t 138)), (false, (.t 140))],
    .op none (.pick 142 (.t 134) (.c (.bool true)) (.t 141)),
    .op none (.asg 6 (.t 142))])
  .ret)))))))))))))
def rets_exchequerlaw11_SlogCuts : List Ret := [.t 6]
theorem of_exchequerlaw11_SlogCuts {args : List SV} {Post : SV → List SV → Prop} (h : wqF Try.prog 143 ir_exchequerlaw11_SlogCuts rets_exchequerlaw11_SlogCuts args Post) (hn : args.length ≤ 143) : Fn Try.prog 5 args Post :=
  Fn.of_body' Try.func5 rfl Try.ntmps5 (by kernel_rfl) (by kernel_rfl) hn (wqF_wp h)

theorem ofv_exchequerlaw11_SlogCuts {args : List SV} {Post : SV → List SV → Prop} (h : wqFV Try.prog 143 ir_exchequerlaw11_SlogCuts 6 args Post) (hn : args.length ≤ 143) : Fn Try.prog 5 args Post :=
  Fn.of_vec Try.func5 rfl Try.ntmps5 (by kernel_rfl) (by kernel_rfl) (by decide) hn (wqFV_wp h)

/-- exchequer/exchequerlaw11.SlogPlays · parameters [[2]int, []api.Entry, []exchequerlaw11.Op] -/
abbrev F_exchequerlaw11_SlogPlays : FuncId := 6
def ir_exchequerlaw11_SlogPlays : Stm :=
  (.seq
  (.ops [
    .op none (.box 3 (.t 0)),
    .op none (.asg 6 (.c (.bool false)))])
  (.seq
  (.seq
  (.ops [
    .call none (some 32) 7 [],
    .op none (.not 33 (.t 32))])
  (.cond (.t 33)
    (.seq
    (.ops [
      .op none (.asg 6 (.c (.bool false)))])
    .ret)
    .skip))
  (.seq
  (.seq
  (.ops [
    .op none (.mv 34 (.t 1)),
    .call none (some 35) 8 [(false, (.t 34))],
    .op none (.mv 36 (.t 35)),
    .op (some (36, false)) (.mv 37 (.t 2)),
    .op (some (36, false)) (.len 38 false (.t 37)),
    .op (some (36, false)) (.bin 39 .gtr (.t 38) (.c (.int .i64 60))),
    .op none (.pick 40 (.t 36) (.c (.bool true)) (.t 39))])
  (.cond (.t 40)
    (.seq
    (.ops [
      .op none (.asg 6 (.c (.bool true)))])
    .ret)
    .skip))
  (.seq
  (.ops [
    .op none (.aaddr 42 1 2 (.t 3) (.c (.int .i64 0))),
    .op none (.load 43 false 1 (.t 42)),
    .op none (.aaddr 44 1 2 (.t 3) (.c (.int .i64 1))),
    .op none (.load 45 false 1 (.t 44)),
    .op none (.mv 46 (.t 1)),
    .call none (some 47) 9 [(false, (.t 43)), (false, (.t 45)), (false, (.t 46))],
    .op none (.asg 41 (.t 47)),
    .op none (.ext 48 (.t 41) 0),
    .op none (.ext 49 (.t 41) 1),
    .op none (.alloc 7 (.one (.i (.agg [(.int .i64 0), (.int .i64 0), (.list [])])))),
    .op none (.store 3 (.t 7) (.t 48)),
    .op none (.asg 8 (.t 49))])
  (.seq
  (.drw [[], [0], [], [2], [], [], [4, 5], [1, 3, 6], [], [8, 7, 6, 0, 1, 2, 3, 4, 5]] [
    .op none (.aaddr 50 1 2 (.t 3) (.c (.int .i64 0))),
    .op none (.load 51 false 1 (.t 50)),
    .op none (.aaddr 52 1 2 (.t 3) (.c (.int .i64 1))),
    .op none (.load 53 false 1 (.t 52)),
    .op none (.empty 54 36 3),
    .op none (.mv 55 (.t 1)),
    .op none (.app 56 36 3 32 (.t 54) (.t 55)),
    .op none (.build 57 [(.int .i64 0), (.int .i64 0), (.list [])] [(0, (.t 51)), (1, (.t 53)), (2, (.t 56))]),
    .op none (.alloc 9 (.one (.i (.agg [(.int .i64 0), (.int .i64 0), (.list [])])))),
    .op none (.store 3 (.t 9) (.t 57))])
  (.seq
  (.seq
  (.ops [
    .op none (.load 58 true 3 (.t 9)),
    .call none (some 59) 18 [(false, (.t 58))],
    .op none (.not 60 (.t 59))])
  (.cond (.t 60)
    (.seq
    (.ops [
      .op none (.load 62 true 3 (.t 7)),
      .call none (some 63) 14 [(false, (.t 62))],
      .op none (.asg 61 (.t 63)),
      .op none (.ext 64 (.t 61) 0),
      .op none (.ext 65 (.t 61) 1),
      .op none (.asg 10 (.t 64)),
      .op none (.asg 11 (.t 65))])
    (.seq
    (.ops [
      .op none (.mv 66 (.t 8)),
      .op none (.not 67 (.t 66)),
      .op none (.mv 68 (.t 67)),
      .op (some (68, true)) (.mv 69 (.t 10)),
      .op (some (68, true)) (.bin 70 .eql (.t 69) (.c (.int .i64 0))),
      .op none (.pick 71 (.t 68) (.t 70) (.c (.bool false))),
      .op none (.mv 72 (.t 71)),
      .op (some (72, true)) (.mv 73 (.t 11)),
      .op (some (72, true)) (.bin 74 .eql (.t 73) (.c (.int .i64 0))),
      .op none (.pick 75 (.t 72) (.t 74) (.c (.bool false))),
      .op none (.asg 6 (.t 75))])
    .ret))
    .skip))
  (.seq
  (.seq
  (.ops [
    .op none (.mv 76 (.t 8)),
    .op none (.not 77 (.t 76)),
    .op none (.mv 78 (.t 77)),
    .op (some (78, false)) (.load 79 true 3 (.t 7)),
    .op (some (78, false)) (.load 80 true 3 (.t 9)),
    .call (some (78, false)) (some 81) 19 [(false, (.t 79)), (false, (.t 80))],
    .op (some (78, false)) (.not 82 (.t 81)),
    .op none (.pick 83 (.t 78) (.c (.bool true)) (.t 82))])
  (.cond (.t 83)
    (.seq
    (.ops [
      .op none (.asg 6 (.c (.bool false)))])
    .ret)
    .skip))
  (.seq
  (.seq
  (.ops [
    .op none (.mv 84 (.t 2)),
    .op none (.len 85 false (.t 84)),
    .op none (.mv 86 (.c (.int .i64 0)))])
  (.block 0
    (.loop [6, 13, 14, 15, 16, 17, 18, 19, 20, 21, 22, 23, 24, 25, 26, 27, 28, 29, 30, 31, 87, 88, 89, 90, 91, 92, 93, 94, 95, 96, 97, 98, 99, 100, 101, 102, 103, 104, 105, 106, 107, 108, 109, 110, 111, 112, 113, 114, 115, 116, 117, 118, 119, 120, 121, 122, 123, 124, 125, 126, 127, 128, 129, 130, 131, 132, 133, 134, 135, 136, 137, 138, 139, 140, 141, 142, 143, 144, 145, 146, 147, 148, 149, 150, 151, 152, 153, 154, 155, 156, 157, 158, 159, 160, 161, 162, 163, 164, 165, 166, 167, 168, 169, 170, 171, 172, 173, 174, 175, 176, 177, 178, 179, 180, 181, 182, 183, 184, 185, 186, 187, 188, 189, 190, 191, 192, 193, 194, 195, 196, 197, 198, 199, 200, 201, 202, 203, 204, 205, 206, 207, 208, 209, 210, 211, 212, 213, 214, 215, 216, 217, 218, 219, 220, 221, 222, 223, 224, 225, 226, 227, 228, 229, 230, 231, 232, 233, 234, 235, 236, 237, 238, 239, 240, 241, 242, 243, 244, 245, 246, 247, 248, 249, 250, 251, 252]
      (.seq
      (.ops [
        .op none (.bin 87 .lss (.t 86) (.t 85))])
      (.seq
      (.cond (.t 87)
        .skip
        (.exit 0))
      (.seq
      (.block 1
        (.seq
        (.ops [
          .op none (.iaddr 88 5 (.t 84) (.t 86)),
          .op none (.load 89 true 5 (.t 88)),
          .op none (.alloc 13 (.one (.i (.agg [(.int .i64 0), (.int .i64 0), (.int .i64 0), (.str []), (.list [])])))),
          .op none (.store 5 (.t 13) (.t 89))])
        (.seq
        (.seq
        (.ops [
          .op none (.faddr 90 (.t 13) 4 4),
          .op none (.load 91 false 1 (.t 90)),
          .call none (some 92) 8 [(false, (.t 91))],
          .op none (.mv 93 (.t 92)),
          .op (some (93, false)) (.faddr 94 (.t 13) 3 3),
          .op (some (93, false)) (.load 95 false 1 (.t 94)),
          .op (some (93, false)) (.len 96 true (.t 95)),
          .op (some (93, false)) (.bin 97 .gtr (.t 96) (.c (.int .i64 10000))),
          .op none (.pick 98 (.t 93) (.c (.bool true)) (.t 97))])
        (.cond (.t 98)
          (.seq
          (.ops [
            .op none (.asg 6 (.c (.bool true)))])
          .ret)
          .skip))
        (.seq
        (.seq
        (.ops [
          .op none (.faddr 99 (.t 13) 0 0),
          .op none (.load 100 false 1 (.t 99))])
        (.block 2
          (.seq
          (.ops [
            .op none (.bin 124 .eql (.t 100) (.c (.int .i64 0))),
            .op none (.asg 123 (.t 124))])
          (.cond (.t 123)
            (.seq
            (.ops [
              .op none (.load 126 true 3 (.t 7)),
              .op none (.faddr 127 (.t 13) 1 1),
              .op none (.load 128 false 1 (.t 127)),
              .op none (.faddr 129 (.t 13) 3 3),
              .op none (.load 130 false 1 (.t 129)),
              .call none (some 131) 16 [(false, (.t 126)), (false, (.t 128)), (false, (.t 130))],
              .op none (.asg 125 (.t 131)),
              .op none (.ext 132 (.t 125) 0),
              .op none (.ext 133 (.t 125) 1),
              .op none (.alloc 14 (.one (.i (.agg [(.int .i64 0), (.int .i64 0), (.list [])])))),
              .op none (.store 3 (.t 14) (.t 132)),
              .op none (.asg 15 (.t 133))])
            (.seq
            (.ops [
              .op none (.load 135 true 3 (.t 9)),
              .op none (.faddr 136 (.t 13) 1 1),
              .op none (.load 137 false 1 (.t 136)),
              .op none (.faddr 138 (.t 13) 3 3),
              .op none (.load 139 false 1 (.t 138)),
              .call none (some 140) 20 [(false, (.t 135)), (false, (.t 137)), (false, (.t 139))],
              .op none (.asg 134 (.t 140)),
              .op none (.ext 141 (.t 134) 0),
              .op none (.ext 142 (.t 134) 1),
              .op none (.alloc 16 (.one (.i (.agg [(.int .i64 0), (.int .i64 0), (.list [])])))),
              .op none (.store 3 (.t 16) (.t 141)),
              .op none (.asg 17 (.t 142))])
            (.seq
            (.seq
            (.ops [
              .op none (.mv 143 (.t 15)),
              .op none (.mv 144 (.t 17)),
              .op none (.eqs 145 true .bool (.t 143) (.t 144))])
            (.cond (.t 145)
              (.seq
              (.ops [
                .op none (.asg 6 (.c (.bool false)))])
              .ret)
              .skip))
            (.drw [[], [], [0], [1, 2, 0]] [
              .op none (.load 146 true 3 (.t 14)),
              .op none (.load 147 true 3 (.t 16)),
              .op none (.store 3 (.t 7) (.t 146)),
              .op none (.store 3 (.t 9) (.t 147))]))))
            (.seq
            (.ops [
              .op none (.bin 149 .eql (.t 100) (.c (.int .i64 1))),
              .op none (.asg 148 (.t 149))])
            (.cond (.t 148)
              (.seq
              (.ops [
                .op none (.load 151 true 3 (.t 7)),
                .op none (.faddr 152 (.t 13) 1 1),
                .op none (.load 153 false 1 (.t 152)),
                .op none (.faddr 154 (.t 13) 2 2),
                .op none (.load 155 false 1 (.t 154)),
                .op none (.faddr 156 (.t 13) 4 4),
                .op none (.load 157 false 1 (.t 156)),
                .call none (some 158) 11 [(false, (.t 151)), (false, (.t 153)), (false, (.t 155)), (false, (.t 157))],
                .op none (.asg 150 (.t 158)),
                .op none (.ext 159 (.t 150) 0),
                .op none (.ext 160 (.t 150) 1),
                .op none (.ext 161 (.t 150) 2),
                .op none (.alloc 18 (.one (.i (.agg [(.int .i64 0), (.int .i64 0), (.list [])])))),
                .op none (.store 3 (.t 18) (.t 159)),
                .op none (.asg 19 (.t 160)),
                .op none (.asg 20 (.t 161))])
              (.seq
              (.ops [
                .op none (.load 163 true 3 (.t 9)),
                .op none (.faddr 164 (.t 13) 1 1),
                .op none (.load 165 false 1 (.t 164)),
                .op none (.faddr 166 (.t 13) 2 2),
                .op none (.load 167 false 1 (.t 166)),
                .op none (.faddr 168 (.t 13) 4 4),
                .op none (.load 169 false 1 (.t 168)),
                .call none (some 170) 21 [(false, (.t 163)), (false, (.t 165)), (false, (.t 167)), (false, (.t 169))],
                .op none (.asg 162 (.t 170)),
                .op none (.ext 171 (.t 162) 0),
                .op none (.ext 172 (.t 162) 1),
                .op none (.ext 173 (.t 162) 2),
                .op none (.alloc 21 (.one (.i (.agg [(.int .i64 0), (.int .i64 0), (.list [])])))),
                .op none (.store 3 (.t 21) (.t 171)),
                .op none (.asg 22 (.t 172)),
                .op none (.asg 23 (.t 173))])
              (.seq
              (.seq
              (.ops [
                .op none (.mv 174 (.t 20)),
                .op none (.mv 175 (.t 23)),
                .op none (.eqs 176 true .bool (.t 174) (.t 175)),
                .op none (.mv 177 (.t 176)),
                .op (some (177, false)) (.mv 178 (.t 19)),
                .op (some (177, false)) (.mv 179 (.t 22)),
                .op (some (177, false)) (.bin 180 .neq (.t 178) (.t 179)),
                .op none (.pick 181 (.t 177) (.c (.bool true)) (.t 180)),
                .op none (.mv 182 (.t 181)),
                .op (some (182, false)) (.load 183 true 3 (.t 7)),
                .op (some (182, false)) (.load 184 true 3 (.t 9)),
                .call (some (182, false)) (some 185) 19 [(false, (.t 183)), (false, (.t 184))],
                .op (some (182, false)) (.not 186 (.t 185)),
                .op none (.pick 187 (.t 182) (.c (.bool true)) (.t 186))])
              (.cond (.t 187)
                (.seq
                (.ops [
                  .op none (.asg 6 (.c (.bool false)))])
                .ret)
                .skip))
              (.drw [[], [], [0], [1, 2, 0]] [
                .op none (.load 188 true 3 (.t 18)),
                .op none (.load 189 true 3 (.t 21)),
                .op none (.store 3 (.t 7) (.t 188)),
                .op none (.store 3 (.t 9) (.t 189))]))))
              (.seq
              (.ops [
                .op none (.bin 191 .eql (.t 100) (.c (.int .i64 2))),
                .op none (.asg 190 (.t 191))])
              (.cond (.t 190)
                (.seq
                (.ops [
                  .op none (.load 193 true 3 (.t 7)),
                  .op none (.faddr 194 (.t 13) 1 1),
                  .op none (.load 195 false 1 (.t 194)),
                  .call none (some 196) 17 [(false, (.t 193)), (false, (.t 195))],
                  .op none (.asg 192 (.t 196)),
                  .op none (.ext 197 (.t 192) 0),
                  .op none (.ext 198 (.t 192) 1),
                  .op none (.alloc 24 (.one (.i (.agg [(.int .i64 0), (.int .i64 0), (.list [])])))),
                  .op none (.store 3 (.t 24) (.t 197)),
                  .op none (.asg 25 (.t 198))])
                (.seq
                (.ops [
                  .op none (.load 200 true 3 (.t 9)),
                  .op none (.faddr 201 (.t 13) 1 1),
                  .op none (.load 202 false 1 (.t 201)),
                  .call none (some 203) 22 [(false, (.t 200)), (false, (.t 202))],
                  .op none (.asg 199 (.t 203)),
                  .op none (.ext 204 (.t 199) 0),
                  .op none (.ext 205 (.t 199) 1),
                  .op none (.alloc 26 (.one (.i (.agg [(.int .i64 0), (.int .i64 0), (.list [])])))),
                  .op none (.store 3 (.t 26) (.t 204)),
                  .op none (.asg 27 (.t 205))])
                (.seq
                (.seq
                (.ops [
                  .op none (.mv 206 (.t 25)),
                  .op none (.mv 207 (.t 27)),
                  .op none (.eqs 208 true .bool (.t 206) (.t 207)),
                  .op none (.mv 209 (.t 208)),
                  .op (some (209, false)) (.load 210 true 3 (.t 7)),
                  .op (some (209, false)) (.load 211 true 3 (.t 9)),
                  .call (some (209, false)) (some 212) 19 [(false, (.t 210)), (false, (.t 211))],
                  .op (some (209, false)) (.not 213 (.t 212)),
                  .op none (.pick 214 (.t 209) (.c (.bool true)) (.t 213))])
                (.cond (.t 214)
                  (.seq
                  (.ops [
                    .op none (.asg 6 (.c (.bool false)))])
                  .ret)
                  .skip))
                (.drw [[], [], [0], [1, 2, 0]] [
                  .op none (.load 215 true 3 (.t 24)),
                  .op none (.load 216 true 3 (.t 26)),
                  .op none (.store 3 (.t 7) (.t 215)),
                  .op none (.store 3 (.t 9) (.t 216))]))))
                (.seq
                (.ops [
                  .op none (.bin 218 .eql (.t 100) (.c (.int .i64 3))),
                  .op none (.asg 217 (.t 218))])
                (.cond (.t 217)
                  (.seq
                  (.drw [[], [], [1], [], [3], [0, 2, 4], [], [], [7], [], [9], [6, 8, 10, 5], [5, 11], [12]] [
                    .op none (.load 219 true 3 (.t 7)),
                    .op none (.faddr 220 (.t 13) 1 1),
                    .op none (.load 221 false 1 (.t 220)),
                    .op none (.faddr 222 (.t 13) 2 2),
                    .op none (.load 223 false 1 (.t 222)),
                    .call none (some 224) 13 [(false, (.t 219)), (false, (.t 221)), (false, (.t 223))],
                    .op none (.load 225 true 3 (.t 9)),
                    .op none (.faddr 226 (.t 13) 1 1),
                    .op none (.load 227 false 1 (.t 226)),
                    .op none (.faddr 228 (.t 13) 2 2),
                    .op none (.load 229 false 1 (.t 228)),
                    .call none (some 230) 23 [(false, (.t 225)), (false, (.t 227)), (false, (.t 229))],
                    .call none (some 231) 12 [(false, (.t 224)), (false, (.t 230))],
                    .op none (.not 232 (.t 231))])
                  (.cond (.t 232)
                    (.seq
                    (.ops [
                      .op none (.asg 6 (.c (.bool false)))])
                    .ret)
                    .skip))
                  (.seq
                  (.ops [
                    .op none (.bin 234 .eql (.t 100) (.c (.int .i64 4))),
                    .op none (.asg 233 (.t 234))])
                  (.cond (.t 233)
                    (.seq
                    (.drw [[], [], [1], [], [3], [0, 2, 4], [], [], [7], [], [9], [6, 8, 10, 5], [5, 11]] [
                      .op none (.load 235 true 3 (.t 7)),
                      .op none (.faddr 236 (.t 13) 1 1),
                      .op none (.load 237 false 1 (.t 236)),
                      .op none (.faddr 238 (.t 13) 2 2),
                      .op none (.load 239 false 1 (.t 238)),
                      .call none (some 240) 15 [(false, (.t 235)), (false, (.t 237)), (false, (.t 239))],
                      .op none (.load 241 true 3 (.t 9)),
                      .op none (.faddr 242 (.t 13) 1 1),
                      .op none (.load 243 false 1 (.t 242)),
                      .op none (.faddr 244 (.t 13) 2 2),
                      .op none (.load 245 false 1 (.t 244)),
                      .call none (some 246) 24 [(false, (.t 241)), (false, (.t 243)), (false, (.t 245))],
                      .op none (.eqs 247 true .bool (.t 240) (.t 246))])
                    (.cond (.t 247)
                      (.seq
                      (.ops [
                        .op none (.asg 6 (.c (.bool false)))])
                      .ret)
                      .skip))
                    (.seq
                    (.ops [
                      .op none (.load 102 true 3 (.t 7)),
                      .op none (.faddr 103 (.t 13) 1 1),
                      .op none (.load 104 false 1 (.t 103)),
                      .call none (some 105) 10 [(false, (.t 102)), (false, (.t 104))],
                      .op none (.asg 101 (.t 105)),
                      .op none (.ext 106 (.t 101) 0),
                      .op none (.ext 107 (.t 101) 1),
                      .op none (.asg 28 (.t 106)),
                      .op none (.asg 29 (.t 107))])
                    (.seq
                    (.ops [
                      .op none (.load 109 true 3 (.t 9)),
                      .op none (.faddr 110 (.t 13) 1 1),
                      .op none (.load 111 false 1 (.t 110)),
                      .call none (some 112) 25 [(false, (.t 109)), (false, (.t 111))],
                      .op none (.asg 108 (.t 112)),
                      .op none (.ext 113 (.t 108) 0),
                      .op none (.ext 114 (.t 108) 1),
                      .op none (.asg 30 (.t 113)),
                      .op none (.asg 31 (.t 114))])
                    (.seq
                    (.ops [
                      .op none (.mv 115 (.t 28)),
                      .op none (.mv 116 (.t 30)),
                      .op none (.bin 117 .neq (.t 115) (.t 116)),
                      .op none (.mv 118 (.t 117)),
                      .op (some (118, false)) (.mv 119 (.t 29)),
                      .op (some (118, false)) (.mv 120 (.t 31)),
                      .op (some (118, false)) (.eqs 121 true .bool (.t 119) (.t 120)),
                      .op none (.pick 122 (.t 118) (.c (.bool true)) (.t 121))])
                    (.cond (.t 122)
                      (.seq
                      (.ops [
                        .op none (.asg 6 (.c (.bool false)))])
                      .ret)
                      .skip))))))))))))))))
        (.seq
        (.ops [
          .op none (.load 248 true 3 (.t 7)),
          .op none (.load 249 true 3 (.t 9)),
          .call none (some 250) 19 [(false, (.t 248)), (false, (.t 249))],
          .op none (.not 251 (.t 250))])
        (.cond (.t 251)
          (.seq
          (.ops [
            .op none (.asg 6 (.c (.bool false)))])
          .ret)
          .skip))))))
      (.ops [
        .op none (.bin 252 .add (.t 86) (.c (.int .i64 1))),
        .op none (.mv 86 (.t 252))])))))))
  (.seq
  (.ops [
    .op none (.asg 6 (.c (.bool true)))])
  .ret)))))))))
def rets_exchequerlaw11_SlogPlays : List Ret := [.t 6]
theorem of_exchequerlaw11_SlogPlays {args : List SV} {Post : SV → List SV → Prop} (h : wqF Try.prog 253 ir_exchequerlaw11_SlogPlays rets_exchequerlaw11_SlogPlays args Post) (hn : args.length ≤ 253) : Fn Try.prog 6 args Post :=
  Fn.of_body' Try.func6 rfl Try.ntmps6 (by kernel_rfl) (by kernel_rfl) hn (wqF_wp h)

theorem ofv_exchequerlaw11_SlogPlays {args : List SV} {Post : SV → List SV → Prop} (h : wqFV Try.prog 253 ir_exchequerlaw11_SlogPlays 6 args Post) (hn : args.length ≤ 253) : Fn Try.prog 6 args Post :=
  Fn.of_vec Try.func6 rfl Try.ntmps6 (by kernel_rfl) (by kernel_rfl) (by decide) hn (wqFV_wp h)

/-- exchequer/exchequerlaw11.awake · parameters [] -/
abbrev F_exchequerlaw11_awake : FuncId := 7
def ir_exchequerlaw11_awake : Stm :=
  (.seq
  (.ops [
    .op none (.asg 0 (.c (.bool false)))])
  (.seq
  (.ops [
    .call none (some 9) 26 [(false, (.c (.int .i64 1))), (false, (.c (.int .i64 1)))],
    .call none (some 10) 26 [(false, (.c (.int .i64 2))), (false, (.c (.int .i64 1)))],
    .call none (some 11) 26 [(false, (.c (.int .i64 3))), (false, (.c (.int .i64 2)))],
    .op none (.bsl 12 36 3 (.agg [(.int .i64 0), (.int .i64 0), (.str [])]) 3 [(0, (.t 9)), (1, (.t 10)), (2, (.t 11))]),
    .call none (some 13) 9 [(false, (.c (.int .i64 0))), (false, (.c (.int .i64 0))), (false, (.t 12))],
    .op none (.asg 8 (.t 13)),
    .op none (.ext 14 (.t 8) 0),
    .op none (.ext 15 (.t 8) 1),
    .op none (.alloc 1 (.one (.i (.agg [(.int .i64 0), (.int .i64 0), (.list [])])))),
    .op none (.store 3 (.t 1) (.t 14)),
    .op none (.asg 2 (.t 15))])
  (.seq
  (.drw [[], [], [1], [0, 2, 1], [3], [4], [4], [4], [], [8, 5, 3, 0, 1, 2, 4], [6, 9, 0, 1, 2, 3, 4, 5, 8], [7, 10, 0, 1, 2, 3, 4, 5, 6, 8, 9]] [
    .op none (.load 17 true 3 (.t 1)),
    .call none (some 18) 26 [(false, (.c (.int .i64 2))), (false, (.c (.int .i64 3)))],
    .op none (.bsl 19 36 3 (.agg [(.int .i64 0), (.int .i64 0), (.str [])]) 1 [(0, (.t 18))]),
    .call none (some 20) 11 [(false, (.t 17)), (false, (.c (.int .i64 1))), (false, (.c (.int .i64 1))), (false, (.t 19))],
    .op none (.asg 16 (.t 20)),
    .op none (.ext 21 (.t 16) 0),
    .op none (.ext 22 (.t 16) 1),
    .op none (.ext 23 (.t 16) 2),
    .op none (.alloc 3 (.one (.i (.agg [(.int .i64 0), (.int .i64 0), (.list [])])))),
    .op none (.store 3 (.t 3) (.t 21)),
    .op none (.asg 4 (.t 22)),
    .op none (.asg 5 (.t 23))])
  (.seq
  (.ops [
    .op none (.load 25 true 3 (.t 3)),
    .call none (some 26) 14 [(false, (.t 25))],
    .op none (.asg 24 (.t 26)),
    .op none (.ext 27 (.t 24) 0),
    .op none (.ext 28 (.t 24) 1),
    .op none (.asg 6 (.t 27)),
    .op none (.asg 7 (.t 28))])
  (.seq
  (.ops [
    .op none (.mv 29 (.t 2)),
    .op none (.mv 30 (.t 29)),
    .op (some (30, true)) (.mv 31 (.t 5)),
    .op none (.pick 32 (.t 30) (.t 31) (.c (.bool false))),
    .op none (.mv 33 (.t 32)),
    .op (some (33, true)) (.mv 34 (.t 4)),
    .op (some (33, true)) (.bin 35 .eql (.t 34) (.c (.int .i64 2))),
    .op none (.pick 36 (.t 33) (.t 35) (.c (.bool false))),
    .op none (.mv 37 (.t 36)),
    .op (some (37, true)) (.mv 38 (.t 6)),
    .op (some (37, true)) (.bin 39 .eql (.t 38) (.c (.int .i64 2))),
    .op none (.pick 40 (.t 37) (.t 39) (.c (.bool false))),
    .op none (.mv 41 (.t 40)),
    .op (some (41, true)) (.mv 42 (.t 7)),
    .op (some (41, true)) (.bin 43 .eql (.t 42) (.c (.int .i64 3))),
    .op none (.pick 44 (.t 41) (.t 43) (.c (.bool false))),
    .op none (.mv 45 (.t 44)),
    .op (some (45, true)) (.load 46 true 3 (.t 1)),
    .call (some (45, true)) (some 47) 15 [(false, (.t 46)), (false, (.c (.int .i64 3))), (false, (.c (.int .i64 1)))],
    .op (some (45, true)) (.not 48 (.t 47)),
    .op none (.pick 49 (.t 45) (.t 48) (.c (.bool false))),
    .op none (.asg 0 (.t 49))])
  .ret)))))
def rets_exchequerlaw11_awake : List Ret := [.t 0]
theorem of_exchequerlaw11_awake {args : List SV} {Post : SV → List SV → Prop} (h : wqF Try.prog 50 ir_exchequerlaw11_awake rets_exchequerlaw11_awake args Post) (hn : args.length ≤ 50) : Fn Try.prog 7 args Post :=
  Fn.of_body' Try.func7 rfl Try.ntmps7 (by kernel_rfl) (by kernel_rfl) hn (wqF_wp h)

theorem ofv_exchequerlaw11_awake {args : List SV} {Post : SV → List SV → Prop} (h : wqFV Try.prog 50 ir_exchequerlaw11_awake 0 args Post) (hn : args.length ≤ 50) : Fn Try.prog 7 args Post :=
  Fn.of_vec Try.func7 rfl Try.ntmps7 (by kernel_rfl) (by kernel_rfl) (by decide) hn (wqFV_wp h)

/-- exchequer/exchequerlaw11.great · parameters [[]api.Entry] -/
abbrev F_exchequerlaw11_great : FuncId := 8
def ir_exchequerlaw11_great : Stm :=
  (.seq
  (.ops [
    .op none (.asg 2 (.c (.bool false)))])
  (.seq
  (.seq
  (.ops [
    .op none (.mv 4 (.t 0)),
    .op none (.len 5 false (.t 4)),
    .op none (.mv 6 (.c (.int .i64 0)))])
  (.block 0
    (.loop [2, 3, 7, 8, 9, 10, 11, 12, 13, 14, 15, 16, 17, 18, 19, 20]
      (.seq
      (.ops [
        .op none (.bin 7 .lss (.t 6) (.t 5))])
      (.seq
      (.cond (.t 7)
        .skip
        (.exit 0))
      (.seq
      (.block 1
        (.seq
        (.ops [
          .op none (.mv 8 (.t 6)),
          .op none (.asg 3 (.t 8))])
        (.seq
        (.ops [
          .op none (.mv 9 (.t 3)),
          .op none (.bin 10 .geq (.t 9) (.c (.int .i64 5000))),
          .op none (.mv 11 (.t 10)),
          .op (some (11, false)) (.mv 12 (.t 0)),
          .op (some (11, false)) (.mv 13 (.t 3)),
          .op (some (11, false)) (.iaddr 14 3 (.t 12) (.t 13)),
          .op (some (11, false)) (.faddr 15 (.t 14) 2 2),
          .op (some (11, false)) (.load 16 false 1 (.t 15)),
          .op (some (11, false)) (.len 17 true (.t 16)),
          .op (some (11, false)) (.bin 18 .gtr (.t 17) (.c (.int .i64 10000))),
          .op none (.pick 19 (.t 11) (.c (.bool true)) (.t 18))])
        (.cond (.t 19)
          (.seq
          (.ops [
            .op none (.asg 2 (.c (.bool true)))])
          .ret)
          .skip))))
      (.ops [
        .op none (.bin 20 .add (.t 6) (.c (.int .i64 1))),
        .op none (.mv 6 (.t 20))])))))))
  (.seq
  (.ops [
    .op none (.asg 2 (.c (.bool false)))])
  .ret)))
def rets_exchequerlaw11_great : List Ret := [.t 2]
theorem of_exchequerlaw11_great {args : List SV} {Post : SV → List SV → Prop} (h : wqF Try.prog 21 ir_exchequerlaw11_great rets_exchequerlaw11_great args Post) (hn : args.length ≤ 21) : Fn Try.prog 8 args Post :=
  Fn.of_body' Try.func8 rfl Try.ntmps8 (by kernel_rfl) (by kernel_rfl) hn (wqF_wp h)

theorem ofv_exchequerlaw11_great {args : List SV} {Post : SV → List SV → Prop} (h : wqFV Try.prog 21 ir_exchequerlaw11_great 2 args Post) (hn : args.length ≤ 21) : Fn Try.prog 8 args Post :=
  Fn.of_vec Try.func8 rfl Try.ntmps8 (by kernel_rfl) (by kernel_rfl) (by decide) hn (wqFV_wp h)

/-- exchequer/slog.New · parameters [int, int, []api.Entry] -/
abbrev F_slog_New : FuncId := 9
def ir_slog_New : Stm :=
  (.seq
  (.ops [
    .op none (.alloc 6 (.one (.i (.agg [(.int .i64 0), (.int .i64 0), (.list [])])))),
    .op none (.asg 7 (.c (.bool false)))])
  (.seq
  (.ops [
    .op none (.mv 9 (.t 0)),
    .op none (.mv 10 (.t 1)),
    .op none (.mv 11 (.t 2)),
    .call none (some 12) 27 [(false, (.t 11))],
    .op none (.build 13 [(.int .i64 0), (.int .i64 0), (.list [])] [(0, (.t 9)), (1, (.t 10)), (2, (.t 12))]),
    .op none (.alloc 8 (.one (.i (.agg [(.int .i64 0), (.int .i64 0), (.list [])])))),
    .op none (.store 3 (.t 8) (.t 13))])
  (.seq
  (.seq
  (.ops [
    .op none (.load 14 true 3 (.t 8)),
    .call none (some 15) 28 [(false, (.t 14))],
    .op none (.not 16 (.t 15))])
  (.cond (.t 16)
    (.seq
    (.ops [
      .op none (.build 17 [(.int .i64 0), (.int .i64 0), (.list [])] []),
      .op none (.store 3 (.t 6) (.t 17)),
      .op none (.asg 7 (.c (.bool false)))])
    .ret)
    .skip))
  (.seq
  (.ops [
    .op none (.load 18 true 3 (.t 8)),
    .op none (.store 3 (.t 6) (.t 18)),
    .op none (.asg 7 (.c (.bool true)))])
  .ret))))
def rets_slog_New : List Ret := [.cell 6 true 3, .t 7]
theorem of_slog_New {args : List SV} {Post : SV → List SV → Prop} (h : wqF Try.prog 19 ir_slog_New rets_slog_New args Post) (hn : args.length ≤ 19) : Fn Try.prog 9 args Post :=
  Fn.of_body' Try.func9 rfl Try.ntmps9 (by kernel_rfl) (by kernel_rfl) hn (wqF_wp h)

/-- (exchequer/slog.Log).Term · parameters [slog.Log, int] -/
abbrev F_slog_Log_Term : FuncId := 10
def ir_slog_Log_Term : Stm :=
  (.seq
  (.ops [
    .op none (.box 2 (.t 0)),
    .op none (.asg 4 (.c (.int .i64 0))),
    .op none (.asg 5 (.c (.bool false)))])
  (.seq
  (.ops [
    .op none (.load 9 true 3 (.t 2)),
    .call none (some 10) 14 [(false, (.t 9))],
    .op none (.asg 8 (.t 10)),
    .op none (.ext 11 (.t 8) 0),
    .op none (.ext 12 (.t 8) 1),
    .op none (.asg 6 (.t 11)),
    .op none (.asg 7 (.t 12))])
  (.seq
  (.block 0
    (.seq
    (.ops [
      .op none (.mv 14 (.t 1)),
      .op none (.faddr 15 (.t 2) 0 0),
      .op none (.load 16 false 1 (.t 15)),
      .op none (.bin 17 .lss (.t 14) (.t 16)),
      .op none (.mv 18 (.t 17)),
      .op (some (18, false)) (.mv 19 (.t 1)),
      .op (some (18, false)) (.mv 20 (.t 6)),
      .op (some (18, false)) (.bin 21 .gtr (.t 19) (.t 20)),
      .op none (.pick 22 (.t 18) (.c (.bool true)) (.t 21)),
      .op none (.asg 13 (.t 22))])
    (.cond (.t 13)
      (.seq
      (.ops [
        .op none (.asg 4 (.c (.int .i64 0))),
        .op none (.asg 5 (.c (.bool false)))])
      .ret)
      (.seq
      (.ops [
        .op none (.mv 24 (.t 1)),
        .op none (.faddr 25 (.t 2) 0 0),
        .op none (.load 26 false 1 (.t 25)),
        .op none (.bin 27 .eql (.t 24) (.t 26)),
        .op none (.asg 23 (.t 27))])
      (.cond (.t 23)
        (.seq
        (.ops [
          .op none (.faddr 28 (.t 2) 1 1),
          .op none (.load 29 false 1 (.t 28)),
          .op none (.asg 4 (.t 29)),
          .op none (.asg 5 (.c (.bool true)))])
        .ret)
        .skip)))))
  (.seq
  (.ops [
    .op none (.faddr 30 (.t 2) 2 2),
    .op none (.load 31 false 1 (.t 30)),
    .op none (.mv 32 (.t 1)),
    .op none (.faddr 33 (.t 2) 0 0),
    .op none (.load 34 false 1 (.t 33)),
    .op none (.bin 35 .sub (.t 32) (.t 34)),
    .op none (.bin 36 .sub (.t 35) (.c (.int .i64 1))),
    .op none (.iaddr 37 3 (.t 31) (.t 36)),
    .op none (.faddr 38 (.t 37) 1 1),
    .op none (.load 39 false 1 (.t 38)),
    .op none (.asg 4 (.t 39)),
    .op none (.asg 5 (.c (.bool true)))])
  .ret))))
def rets_slog_Log_Term : List Ret := [.t 4, .t 5]
theorem of_slog_Log_Term {args : List SV} {Post : SV → List SV → Prop} (h : wqF Try.prog 40 ir_slog_Log_Term rets_slog_Log_Term args Post) (hn : args.length ≤ 40) : Fn Try.prog 10 args Post :=
  Fn.of_body' Try.func10 rfl Try.ntmps10 (by kernel_rfl) (by kernel_rfl) hn (wqF_wp h)

/-- (exchequer/slog.Log).Put · parameters [slog.Log, int, int, []api.Entry] -/
abbrev F_slog_Log_Put : FuncId := 11
def ir_slog_Log_Put : Stm :=
  (.seq
  (.ops [
    .op none (.box 4 (.t 0)),
    .op none (.alloc 8 (.one (.i (.agg [(.int .i64 0), (.int .i64 0), (.list [])])))),
    .op none (.asg 9 (.c (.int .i64 0))),
    .op none (.asg 10 (.c (.bool false)))])
  (.seq
  (.seq
  (.ops [
    .op none (.mv 21 (.t 1)),
    .call none (some 22) 29 [(false, (.t 21))],
    .op none (.not 23 (.t 22)),
    .op none (.mv 24 (.t 23)),
    .op (some (24, false)) (.mv 25 (.t 2)),
    .call (some (24, false)) (some 26) 29 [(false, (.t 25))],
    .op (some (24, false)) (.not 27 (.t 26)),
    .op none (.pick 28 (.t 24) (.c (.bool true)) (.t 27)),
    .op none (.mv 29 (.t 28)),
    .op (some (29, false)) (.mv 30 (.t 1)),
    .op (some (29, false)) (.mv 31 (.t 2)),
    .op (some (29, false)) (.mv 32 (.t 3)),
    .call (some (29, false)) (some 33) 30 [(false, (.t 30)), (false, (.t 31)), (false, (.t 32))],
    .op (some (29, false)) (.not 34 (.t 33)),
    .op none (.pick 35 (.t 29) (.c (.bool true)) (.t 34))])
  (.cond (.t 35)
    (.seq
    (.ops [
      .op none (.load 36 true 3 (.t 4)),
      .op none (.store 3 (.t 8) (.t 36)),
      .op none (.asg 9 (.c (.int .i64 0))),
      .op none (.asg 10 (.c (.bool false)))])
    .ret)
    .skip))
  (.seq
  (.ops [
    .op none (.mv 37 (.t 1)),
    .op none (.mv 38 (.t 3)),
    .op none (.len 39 false (.t 38)),
    .op none (.bin 40 .add (.t 37) (.t 39)),
    .op none (.faddr 41 (.t 4) 0 0),
    .op none (.load 42 false 1 (.t 41)),
    .op none (.mm 43 true (.t 40) (.t 42)),
    .op none (.asg 11 (.t 43))])
  (.seq
  (.ops [
    .op none (.load 45 true 3 (.t 4)),
    .call none (some 46) 14 [(false, (.t 45))],
    .op none (.asg 44 (.t 46)),
    .op none (.ext 47 (.t 44) 0),
    .op none (.ext 48 (.t 44) 1),
    .op none (.asg 12 (.t 47)),
    .op none (.asg 13 (.t 48))])
  (.seq
  (.seq
  (.ops [
    .op none (.mv 49 (.t 1)),
    .op none (.faddr 50 (.t 4) 0 0),
    .op none (.load 51 false 1 (.t 50)),
    .op none (.bin 52 .lss (.t 49) (.t 51))])
  (.cond (.t 52)
    (.ops [
      .op none (.mv 53 (.t 3)),
      .op none (.mv 54 (.t 3)),
      .op none (.len 55 false (.t 54)),
      .op none (.faddr 56 (.t 4) 0 0),
      .op none (.load 57 false 1 (.t 56)),
      .op none (.mv 58 (.t 1)),
      .op none (.bin 59 .sub (.t 57) (.t 58)),
      .op none (.mm 60 false (.t 55) (.t 59)),
      .op none (.slc 61 false 3 (.t 53) (some (.t 60)) none),
      .op none (.asg 3 (.t 61))])
    (.seq
    (.ops [
      .op none (.load 63 true 3 (.t 4)),
      .op none (.mv 64 (.t 1)),
      .call none (some 65) 10 [(false, (.t 63)), (false, (.t 64))],
      .op none (.asg 62 (.t 65)),
      .op none (.ext 66 (.t 62) 0),
      .op none (.ext 67 (.t 62) 1),
      .op none (.asg 14 (.t 66)),
      .op none (.asg 15 (.t 67))])
    (.seq
    (.ops [
      .op none (.mv 68 (.t 15)),
      .op none (.not 69 (.t 68)),
      .op none (.mv 70 (.t 69)),
      .op (some (70, false)) (.mv 71 (.t 14)),
      .op (some (70, false)) (.mv 72 (.t 2)),
      .op (some (70, false)) (.bin 73 .neq (.t 71) (.t 72)),
      .op none (.pick 74 (.t 70) (.c (.bool true)) (.t 73))])
    (.cond (.t 74)
      (.seq
      (.drw [[], [], [1], [], [2, 3], [], [5], [4, 6], [0], [7, 8, 0, 1, 2, 3, 4, 5, 6], [9, 0, 1, 2, 3, 4, 5, 6, 7, 8]] [
        .op none (.load 75 true 3 (.t 4)),
        .op none (.mv 76 (.t 1)),
        .op none (.bin 77 .sub (.t 76) (.c (.int .i64 1))),
        .op none (.mv 78 (.t 12)),
        .op none (.mm 79 false (.t 77) (.t 78)),
        .op none (.faddr 80 (.t 4) 0 0),
        .op none (.load 81 false 1 (.t 80)),
        .op none (.mm 82 true (.t 79) (.t 81)),
        .op none (.store 3 (.t 8) (.t 75)),
        .op none (.asg 9 (.t 82)),
        .op none (.asg 10 (.c (.bool false)))])
      .ret)
      .skip)))))
  (.seq
  (.seq
  (.ops [
    .op none (.mv 83 (.t 3)),
    .op none (.len 84 false (.t 83)),
    .op none (.mv 85 (.c (.int .i64 0)))])
  (.block 0
    (.loop [9, 10, 16, 17, 18, 19, 20, 86, 87, 88, 89, 90, 91, 92, 93, 94, 95, 96, 97, 98, 99, 100, 101, 102, 103, 104, 105, 106, 107, 108, 109, 110, 111, 112, 113, 114, 115, 116, 117, 118, 119, 120, 121, 122, 123, 124, 125, 126, 127, 128, 129]
      (.seq
      (.ops [
        .op none (.bin 86 .lss (.t 85) (.t 84))])
      (.seq
      (.cond (.t 86)
        .skip
        (.exit 0))
      (.seq
      (.block 1
        (.seq
        (.ops [
          .op none (.mv 87 (.t 85)),
          .op none (.iaddr 88 3 (.t 83) (.t 85)),
          .op none (.load 89 true 3 (.t 88)),
          .op none (.alloc 17 (.one (.i (.agg [(.int .i64 0), (.int .i64 0), (.str [])])))),
          .op none (.asg 16 (.t 87)),
          .op none (.store 3 (.t 17) (.t 89))])
        (.seq
        (.seq
        (.ops [
          .op none (.load 91 true 3 (.t 4)),
          .op none (.faddr 92 (.t 17) 0 0),
          .op none (.load 93 false 1 (.t 92)),
          .call none (some 94) 10 [(false, (.t 91)), (false, (.t 93))],
          .op none (.asg 90 (.t 94)),
          .op none (.ext 95 (.t 90) 0),
          .op none (.ext 96 (.t 90) 1),
          .op none (.asg 18 (.t 95)),
          .op none (.asg 19 (.t 96))])
        (.seq
        (.ops [
          .op none (.mv 97 (.t 19)),
          .op none (.mv 98 (.t 97)),
          .op (some (98, true)) (.mv 99 (.t 18)),
          .op (some (98, true)) (.faddr 100 (.t 17) 1 1),
          .op (some (98, true)) (.load 101 false 1 (.t 100)),
          .op (some (98, true)) (.bin 102 .eql (.t 99) (.t 101)),
          .op none (.pick 103 (.t 98) (.t 102) (.c (.bool false)))])
        (.cond (.t 103)
          (.exit 1)
          .skip)))
        (.seq
        (.drw [[], [0], [], [2], [], [4], [], [6], [], [8], [7, 9], [10], [5, 11], [], [], [13, 14], [12, 15], [16], [1, 3, 17], [], [19, 18, 17, 0, 1, 2, 3, 4, 5, 6, 7, 8, 9, 10, 11, 12, 13, 14, 15, 16]] [
          .op none (.faddr 104 (.t 4) 0 0),
          .op none (.load 105 false 1 (.t 104)),
          .op none (.faddr 106 (.t 4) 1 1),
          .op none (.load 107 false 1 (.t 106)),
          .op none (.faddr 108 (.t 4) 2 2),
          .op none (.load 109 false 1 (.t 108)),
          .op none (.faddr 110 (.t 17) 0 0),
          .op none (.load 111 false 1 (.t 110)),
          .op none (.faddr 112 (.t 4) 0 0),
          .op none (.load 113 false 1 (.t 112)),
          .op none (.bin 114 .sub (.t 111) (.t 113)),
          .op none (.bin 115 .sub (.t 114) (.c (.int .i64 1))),
          .op none (.slc 116 false 3 (.t 109) none (some (.t 115))),
          .op none (.mv 117 (.t 3)),
          .op none (.mv 118 (.t 16)),
          .op none (.slc 119 false 3 (.t 117) (some (.t 118)) none),
          .op none (.bsl 120 22 1 (.list []) 2 [(0, (.t 116)), (1, (.t 119))]),
          .call none (some 121) 31 [(false, (.t 120))],
          .op none (.build 122 [(.int .i64 0), (.int .i64 0), (.list [])] [(0, (.t 105)), (1, (.t 107)), (2, (.t 121))]),
          .op none (.alloc 20 (.one (.i (.agg [(.int .i64 0), (.int .i64 0), (.list [])])))),
          .op none (.store 3 (.t 20) (.t 122))])
        (.seq
        (.seq
        (.ops [
          .op none (.load 123 true 3 (.t 20)),
          .call none (some 124) 28 [(false, (.t 123))],
          .op none (.not 125 (.t 124))])
        (.cond (.t 125)
          (.seq
          (.ops [
            .op none (.load 126 true 3 (.t 4)),
            .op none (.store 3 (.t 8) (.t 126)),
            .op none (.asg 9 (.c (.int .i64 0))),
            .op none (.asg 10 (.c (.bool false)))])
          .ret)
          .skip))
        (.seq
        (.ops [
          .op none (.load 127 true 3 (.t 20)),
          .op none (.mv 128 (.t 11)),
          .op none (.store 3 (.t 8) (.t 127)),
          .op none (.asg 9 (.t 128)),
          .op none (.asg 10 (.c (.bool true)))])
        .ret))))))
      (.ops [
        .op none (.bin 129 .add (.t 85) (.c (.int .i64 1))),
        .op none (.mv 85 (.t 129))])))))))
  (.seq
  (.ops [
    .op none (.load 130 true 3 (.t 4)),
    .op none (.mv 131 (.t 11)),
    .op none (.store 3 (.t 8) (.t 130)),
    .op none (.asg 9 (.t 131)),
    .op none (.asg 10 (.c (.bool true)))])
  .ret)))))))
def rets_slog_Log_Put : List Ret := [.cell 8 true 3, .t 9, .t 10]
theorem of_slog_Log_Put {args : List SV} {Post : SV → List SV → Prop} (h : wqF Try.prog 132 ir_slog_Log_Put rets_slog_Log_Put args Post) (hn : args.length ≤ 132) : Fn Try.prog 11 args Post :=
  Fn.of_body' Try.func11 rfl Try.ntmps11 (by kernel_rfl) (by kernel_rfl) hn (wqF_wp h)

/-- exchequer/exchequerref11.Same · parameters [[]api.Entry, []api.Entry] -/
abbrev F_exchequerref11_Same : FuncId := 12
def ir_exchequerref11_Same : Stm :=
  (.seq
  (.ops [
    .op none (.asg 4 (.c (.bool false)))])
  (.seq
  (.seq
  (.ops [
    .op none (.mv 6 (.t 0)),
    .op none (.len 7 false (.t 6)),
    .op none (.mv 8 (.t 1)),
    .op none (.len 9 false (.t 8)),
    .op none (.bin 10 .neq (.t 7) (.t 9))])
  (.cond (.t 10)
    (.seq
    (.ops [
      .op none (.asg 4 (.c (.bool false)))])
    .ret)
    .skip))
  (.seq
  (.seq
  (.ops [
    .op none (.asg 5 (.c (.int .i64 0)))])
  (.block 0
    (.loop [4, 11, 12, 13, 14, 15, 16, 17, 18, 19, 20, 21, 22, 23, 24, 25]
      (.seq
      (.seq
      (.ops [
        .op none (.mv 11 (.t 5)),
        .op none (.mv 12 (.t 0)),
        .op none (.len 13 false (.t 12)),
        .op none (.bin 14 .lss (.t 11) (.t 13))])
      (.cond (.t 14)
        .skip
        (.exit 0)))
      (.seq
      (.block 1
        (.seq
        (.drw [[], [], [0, 1], [2], [], [], [4, 5], [6], [3, 7]] [
          .op none (.mv 17 (.t 0)),
          .op none (.mv 18 (.t 5)),
          .op none (.iaddr 19 3 (.t 17) (.t 18)),
          .op none (.load 20 true 3 (.t 19)),
          .op none (.mv 21 (.t 1)),
          .op none (.mv 22 (.t 5)),
          .op none (.iaddr 23 3 (.t 21) (.t 22)),
          .op none (.load 24 true 3 (.t 23)),
          .op none (.eqs 25 true (.st [(.int .i64), (.int .i64), .str]) (.t 20) (.t 24))])
        (.cond (.t 25)
          (.seq
          (.ops [
            .op none (.asg 4 (.c (.bool false)))])
          .ret)
          .skip)))
      (.ops [
        .op none (.mv 15 (.t 5)),
        .op none (.bin 16 .add (.t 15) (.c (.int .i64 1))),
        .op none (.asg 5 (.t 16))]))))))
  (.seq
  (.ops [
    .op none (.asg 4 (.c (.bool true)))])
  .ret))))
def rets_exchequerref11_Same : List Ret := [.t 4]
theorem of_exchequerref11_Same {args : List SV} {Post : SV → List SV → Prop} (h : wqF Try.prog 26 ir_exchequerref11_Same rets_exchequerref11_Same args Post) (hn : args.length ≤ 26) : Fn Try.prog 12 args Post :=
  Fn.of_body' Try.func12 rfl Try.ntmps12 (by kernel_rfl) (by kernel_rfl) hn (wqF_wp h)

theorem ofv_exchequerref11_Same {args : List SV} {Post : SV → List SV → Prop} (h : wqFV Try.prog 26 ir_exchequerref11_Same 4 args Post) (hn : args.length ≤ 26) : Fn Try.prog 12 args Post :=
  Fn.of_vec Try.func12 rfl Try.ntmps12 (by kernel_rfl) (by kernel_rfl) (by decide) hn (wqFV_wp h)

/-- (exchequer/slog.Log).From · parameters [slog.Log, int, int] -/
abbrev F_slog_Log_From : FuncId := 13
def ir_slog_Log_From : Stm :=
  (.seq
  (.ops [
    .op none (.box 3 (.t 0)),
    .op none (.asg 6 (.nils 36 3))])
  (.seq
  (.ops [
    .op none (.load 11 true 3 (.t 3)),
    .call none (some 12) 14 [(false, (.t 11))],
    .op none (.asg 10 (.t 12)),
    .op none (.ext 13 (.t 10) 0),
    .op none (.ext 14 (.t 10) 1),
    .op none (.asg 7 (.t 13)),
    .op none (.asg 8 (.t 14))])
  (.seq
  (.seq
  (.ops [
    .op none (.mv 15 (.t 1)),
    .op none (.mv 16 (.t 7)),
    .op none (.bin 17 .gtr (.t 15) (.t 16)),
    .op none (.mv 18 (.t 17)),
    .op (some (18, false)) (.mv 19 (.t 2)),
    .op (some (18, false)) (.bin 20 .lss (.t 19) (.c (.int .i64 1))),
    .op none (.pick 21 (.t 18) (.c (.bool true)) (.t 20))])
  (.cond (.t 21)
    (.seq
    (.ops [
      .op none (.asg 6 (.nils 36 3))])
    .ret)
    .skip))
  (.seq
  (.ops [
    .op none (.mv 22 (.t 1)),
    .op none (.faddr 23 (.t 3) 0 0),
    .op none (.load 24 false 1 (.t 23)),
    .op none (.bin 25 .add (.t 24) (.c (.int .i64 1))),
    .op none (.mm 26 true (.t 22) (.t 25)),
    .op none (.faddr 27 (.t 3) 0 0),
    .op none (.load 28 false 1 (.t 27)),
    .op none (.bin 29 .sub (.t 26) (.t 28)),
    .op none (.bin 30 .sub (.t 29) (.c (.int .i64 1))),
    .op none (.asg 9 (.t 30))])
  (.seq
  (.ops [
    .op none (.faddr 31 (.t 3) 2 2),
    .op none (.load 32 false 1 (.t 31)),
    .op none (.mv 33 (.t 9)),
    .op none (.faddr 34 (.t 3) 2 2),
    .op none (.load 35 false 1 (.t 34)),
    .op none (.len 36 false (.t 35)),
    .op none (.mv 37 (.t 9)),
    .op none (.bin 38 .sub (.t 36) (.t 37)),
    .op none (.mv 39 (.t 2)),
    .op none (.mm 40 false (.t 38) (.t 39)),
    .op none (.mv 41 (.t 9)),
    .op none (.bin 42 .add (.t 40) (.t 41)),
    .op none (.slc 43 false 3 (.t 32) (some (.t 33)) (some (.t 42))),
    .call none (some 44) 27 [(false, (.t 43))],
    .op none (.asg 6 (.t 44))])
  .ret)))))
def rets_slog_Log_From : List Ret := [.t 6]
theorem of_slog_Log_From {args : List SV} {Post : SV → List SV → Prop} (h : wqF Try.prog 45 ir_slog_Log_From rets_slog_Log_From args Post) (hn : args.length ≤ 45) : Fn Try.prog 13 args Post :=
  Fn.of_body' Try.func13 rfl Try.ntmps13 (by kernel_rfl) (by kernel_rfl) hn (wqF_wp h)

theorem ofv_slog_Log_From {args : List SV} {Post : SV → List SV → Prop} (h : wqFV Try.prog 45 ir_slog_Log_From 6 args Post) (hn : args.length ≤ 45) : Fn Try.prog 13 args Post :=
  Fn.of_vec Try.func13 rfl Try.ntmps13 (by kernel_rfl) (by kernel_rfl) (by decide) hn (wqFV_wp h)

/-- (exchequer/slog.Log).Last · parameters [slog.Log] -/
abbrev F_slog_Log_Last : FuncId := 14
def ir_slog_Log_Last : Stm :=
  (.seq
  (.ops [
    .op none (.box 1 (.t 0)),
    .op none (.asg 2 (.c (.int .i64 0))),
    .op none (.asg 3 (.c (.int .i64 0)))])
  (.seq
  (.seq
  (.ops [
    .op none (.faddr 5 (.t 1) 2 2),
    .op none (.load 6 false 1 (.t 5)),
    .op none (.len 7 false (.t 6)),
    .op none (.asg 4 (.t 7))])
  (.seq
  (.ops [
    .op none (.mv 8 (.t 4)),
    .op none (.bin 9 .gtr (.t 8) (.c (.int .i64 0)))])
  (.cond (.t 9)
    (.seq
    (.drw [[], [0], [], [2], [1, 3], [4], [5], [], [7], [], [9], [8, 10], [11], [12], [6, 0, 1, 2, 3, 4, 5], [13, 14, 0, 1, 2, 3, 4, 5, 6, 7, 8, 9, 10, 11, 12]] [
      .op none (.faddr 10 (.t 1) 2 2),
      .op none (.load 11 false 1 (.t 10)),
      .op none (.mv 12 (.t 4)),
      .op none (.bin 13 .sub (.t 12) (.c (.int .i64 1))),
      .op none (.iaddr 14 3 (.t 11) (.t 13)),
      .op none (.faddr 15 (.t 14) 0 0),
      .op none (.load 16 false 1 (.t 15)),
      .op none (.faddr 17 (.t 1) 2 2),
      .op none (.load 18 false 1 (.t 17)),
      .op none (.mv 19 (.t 4)),
      .op none (.bin 20 .sub (.t 19) (.c (.int .i64 1))),
      .op none (.iaddr 21 3 (.t 18) (.t 20)),
      .op none (.faddr 22 (.t 21) 1 1),
      .op none (.load 23 false 1 (.t 22)),
      .op none (.asg 2 (.t 16)),
      .op none (.asg 3 (.t 23))])
    .ret)
    .skip)))
  (.seq
  (.drw [[], [0], [], [2], [1, 0], [3, 4, 0, 1, 2]] [
    .op none (.faddr 24 (.t 1) 0 0),
    .op none (.load 25 false 1 (.t 24)),
    .op none (.faddr 26 (.t 1) 1 1),
    .op none (.load 27 false 1 (.t 26)),
    .op none (.asg 2 (.t 25)),
    .op none (.asg 3 (.t 27))])
  .ret)))
def rets_slog_Log_Last : List Ret := [.t 2, .t 3]
theorem of_slog_Log_Last {args : List SV} {Post : SV → List SV → Prop} (h : wqF Try.prog 28 ir_slog_Log_Last rets_slog_Log_Last args Post) (hn : args.length ≤ 28) : Fn Try.prog 14 args Post :=
  Fn.of_body' Try.func14 rfl Try.ntmps14 (by kernel_rfl) (by kernel_rfl) hn (wqF_wp h)

/-- (exchequer/slog.Log).Newer · parameters [slog.Log, int, int] -/
abbrev F_slog_Log_Newer : FuncId := 15
def ir_slog_Log_Newer : Stm :=
  (.seq
  (.ops [
    .op none (.box 3 (.t 0)),
    .op none (.asg 6 (.c (.bool false)))])
  (.seq
  (.ops [
    .op none (.load 10 true 3 (.t 3)),
    .call none (some 11) 14 [(false, (.t 10))],
    .op none (.asg 9 (.t 11)),
    .op none (.ext 12 (.t 9) 0),
    .op none (.ext 13 (.t 9) 1),
    .op none (.asg 7 (.t 12)),
    .op none (.asg 8 (.t 13))])
  (.seq
  (.ops [
    .op none (.mv 14 (.t 2)),
    .op none (.mv 15 (.t 8)),
    .op none (.bin 16 .gtr (.t 14) (.t 15)),
    .op none (.mv 17 (.t 16)),
    .op (some (17, false)) (.mv 18 (.t 2)),
    .op (some (17, false)) (.mv 19 (.t 8)),
    .op (some (17, false)) (.bin 20 .eql (.t 18) (.t 19)),
    .op (some (17, false)) (.mv 21 (.t 20)),
    .op (some (21, true)) (.mv 22 (.t 1)),
    .op (some (21, true)) (.mv 23 (.t 7)),
    .op (some (21, true)) (.bin 24 .geq (.t 22) (.t 23)),
    .op (some (17, false)) (.pick 25 (.t 21) (.t 24) (.c (.bool false))),
    .op none (.pick 26 (.t 17) (.c (.bool true)) (.t 25)),
    .op none (.asg 6 (.t 26))])
  .ret)))
def rets_slog_Log_Newer : List Ret := [.t 6]
theorem of_slog_Log_Newer {args : List SV} {Post : SV → List SV → Prop} (h : wqF Try.prog 27 ir_slog_Log_Newer rets_slog_Log_Newer args Post) (hn : args.length ≤ 27) : Fn Try.prog 15 args Post :=
  Fn.of_body' Try.func15 rfl Try.ntmps15 (by kernel_rfl) (by kernel_rfl) hn (wqF_wp h)

theorem ofv_slog_Log_Newer {args : List SV} {Post : SV → List SV → Prop} (h : wqFV Try.prog 27 ir_slog_Log_Newer 6 args Post) (hn : args.length ≤ 27) : Fn Try.prog 15 args Post :=
  Fn.of_vec Try.func15 rfl Try.ntmps15 (by kernel_rfl) (by kernel_rfl) (by decide) hn (wqFV_wp h)

/-- (exchequer/slog.Log).Add · parameters [slog.Log, int, string] -/
abbrev F_slog_Log_Add : FuncId := 16
def ir_slog_Log_Add : Stm :=
  (.seq
  (.ops [
    .op none (.box 3 (.t 0)),
    .op none (.alloc 6 (.one (.i (.agg [(.int .i64 0), (.int .i64 0), (.list [])])))),
    .op none (.asg 7 (.c (.bool false)))])
  (.seq
  (.ops [
    .op none (.load 12 true 3 (.t 3)),
    .call none (some 13) 14 [(false, (.t 12))],
    .op none (.asg 11 (.t 13)),
    .op none (.ext 14 (.t 11) 0),
    .op none (.ext 15 (.t 11) 1),
    .op none (.asg 8 (.t 14)),
    .op none (.asg 9 (.t 15))])
  (.seq
  (.drw [[], [0], [], [2], [], [4], [5], [], [7], [], [], [8, 9, 10], [11], [6, 12], [1, 3, 13], [], [15, 14, 13, 0, 1, 2, 3, 4, 5, 6, 7, 8, 9, 10, 11, 12]] [
    .op none (.faddr 16 (.t 3) 0 0),
    .op none (.load 17 false 1 (.t 16)),
    .op none (.faddr 18 (.t 3) 1 1),
    .op none (.load 19 false 1 (.t 18)),
    .op none (.faddr 20 (.t 3) 2 2),
    .op none (.load 21 false 1 (.t 20)),
    .call none (some 22) 27 [(false, (.t 21))],
    .op none (.mv 23 (.t 8)),
    .op none (.bin 24 .add (.t 23) (.c (.int .i64 1))),
    .op none (.mv 25 (.t 1)),
    .op none (.mv 26 (.t 2)),
    .op none (.build 27 [(.int .i64 0), (.int .i64 0), (.str [])] [(0, (.t 24)), (1, (.t 25)), (2, (.t 26))]),
    .op none (.bsl 28 36 3 (.agg [(.int .i64 0), (.int .i64 0), (.str [])]) 1 [(0, (.t 27))]),
    .op none (.app 29 36 3 32 (.t 22) (.t 28)),
    .op none (.build 30 [(.int .i64 0), (.int .i64 0), (.list [])] [(0, (.t 17)), (1, (.t 19)), (2, (.t 29))]),
    .op none (.alloc 10 (.one (.i (.agg [(.int .i64 0), (.int .i64 0), (.list [])])))),
    .op none (.store 3 (.t 10) (.t 30))])
  (.seq
  (.seq
  (.ops [
    .op none (.load 31 true 3 (.t 10)),
    .call none (some 32) 28 [(false, (.t 31))],
    .op none (.not 33 (.t 32))])
  (.cond (.t 33)
    (.seq
    (.ops [
      .op none (.load 34 true 3 (.t 3)),
      .op none (.store 3 (.t 6) (.t 34)),
      .op none (.asg 7 (.c (.bool false)))])
    .ret)
    .skip))
  (.seq
  (.ops [
    .op none (.load 35 true 3 (.t 10)),
    .op none (.store 3 (.t 6) (.t 35)),
    .op none (.asg 7 (.c (.bool true)))])
  .ret)))))
def rets_slog_Log_Add : List Ret := [.cell 6 true 3, .t 7]
theorem of_slog_Log_Add {args : List SV} {Post : SV → List SV → Prop} (h : wqF Try.prog 36 ir_slog_Log_Add rets_slog_Log_Add args Post) (hn : args.length ≤ 36) : Fn Try.prog 16 args Post :=
  Fn.of_body' Try.func16 rfl Try.ntmps16 (by kernel_rfl) (by kernel_rfl) hn (wqF_wp h)

/-- (exchequer/slog.Log).Cut · parameters [slog.Log, int] -/
abbrev F_slog_Log_Cut : FuncId := 17
def ir_slog_Log_Cut : Stm :=
  (.seq
  (.ops [
    .op none (.box 2 (.t 0)),
    .op none (.alloc 4 (.one (.i (.agg [(.int .i64 0), (.int .i64 0), (.list [])])))),
    .op none (.asg 5 (.c (.bool false)))])
  (.seq
  (.ops [
    .op none (.load 9 true 3 (.t 2)),
    .op none (.mv 10 (.t 1)),
    .call none (some 11) 10 [(false, (.t 9)), (false, (.t 10))],
    .op none (.asg 8 (.t 11)),
    .op none (.ext 12 (.t 8) 0),
    .op none (.ext 13 (.t 8) 1),
    .op none (.asg 6 (.t 12)),
    .op none (.asg 7 (.t 13))])
  (.seq
  (.seq
  (.ops [
    .op none (.mv 14 (.t 7)),
    .op none (.not 15 (.t 14))])
  (.cond (.t 15)
    (.seq
    (.ops [
      .op none (.load 16 true 3 (.t 2)),
      .op none (.store 3 (.t 4) (.t 16)),
      .op none (.asg 5 (.c (.bool false)))])
    .ret)
    .skip))
  (.seq
  (.ops [
    .op none (.mv 17 (.t 1)),
    .op none (.mv 18 (.t 6)),
    .op none (.faddr 19 (.t 2) 2 2),
    .op none (.load 20 false 1 (.t 19)),
    .op none (.mv 21 (.t 1)),
    .op none (.faddr 22 (.t 2) 0 0),
    .op none (.load 23 false 1 (.t 22)),
    .op none (.bin 24 .sub (.t 21) (.t 23)),
    .op none (.slc 25 false 3 (.t 20) (some (.t 24)) none),
    .op none (.build 26 [(.int .i64 0), (.int .i64 0), (.list [])] [(0, (.t 17)), (1, (.t 18)), (2, (.t 25))]),
    .op none (.store 3 (.t 4) (.t 26)),
    .op none (.asg 5 (.c (.bool true)))])
  .ret))))
def rets_slog_Log_Cut : List Ret := [.cell 4 true 3, .t 5]
theorem of_slog_Log_Cut {args : List SV} {Post : SV → List SV → Prop} (h : wqF Try.prog 27 ir_slog_Log_Cut rets_slog_Log_Cut args Post) (hn : args.length ≤ 27) : Fn Try.prog 17 args Post :=
  Fn.of_body' Try.func17 rfl Try.ntmps17 (by kernel_rfl) (by kernel_rfl) hn (wqF_wp h)

/-- exchequer/exchequerref11.Right · parameters [exchequerref11.Log] -/
abbrev F_exchequerref11_Right : FuncId := 18
def ir_exchequerref11_Right : Stm :=
  (.seq
  (.ops [
    .op none (.box 1 (.t 0)),
    .op none (.asg 2 (.c (.bool false)))])
  (.seq
  (.seq
  (.ops [
    .op none (.faddr 5 (.t 1) 0 0),
    .op none (.load 6 false 1 (.t 5)),
    .op none (.bin 7 .lss (.t 6) (.c (.int .i64 0))),
    .op none (.mv 8 (.t 7)),
    .op (some (8, false)) (.faddr 9 (.t 1) 0 0),
    .op (some (8, false)) (.load 10 false 1 (.t 9)),
    .op (some (8, false)) (.bin 11 .gtr (.t 10) (.c (.int .i64 1099511627776))),
    .op none (.pick 12 (.t 8) (.c (.bool true)) (.t 11)),
    .op none (.mv 13 (.t 12)),
    .op (some (13, false)) (.faddr 14 (.t 1) 1 1),
    .op (some (13, false)) (.load 15 false 1 (.t 14)),
    .op (some (13, false)) (.bin 16 .lss (.t 15) (.c (.int .i64 0))),
    .op none (.pick 17 (.t 13) (.c (.bool true)) (.t 16)),
    .op none (.mv 18 (.t 17)),
    .op (some (18, false)) (.faddr 19 (.t 1) 1 1),
    .op (some (18, false)) (.load 20 false 1 (.t 19)),
    .op (some (18, false)) (.bin 21 .gtr (.t 20) (.c (.int .i64 1099511627776))),
    .op none (.pick 22 (.t 18) (.c (.bool true)) (.t 21)),
    .op none (.mv 23 (.t 22)),
    .op (some (23, false)) (.faddr 24 (.t 1) 2 2),
    .op (some (23, false)) (.load 25 false 1 (.t 24)),
    .op (some (23, false)) (.len 26 false (.t 25)),
    .op (some (23, false)) (.bin 27 .gtr (.t 26) (.c (.int .i64 4096))),
    .op none (.pick 28 (.t 23) (.c (.bool true)) (.t 27))])
  (.cond (.t 28)
    (.seq
    (.ops [
      .op none (.asg 2 (.c (.bool false)))])
    .ret)
    .skip))
  (.seq
  (.seq
  (.ops [
    .op none (.asg 3 (.c (.int .i64 0)))])
  (.block 0
    (.loop [2, 4, 29, 30, 31, 32, 33, 34, 35, 36, 37, 38, 39, 40, 41, 42, 43, 44, 45, 46, 47, 48, 49, 50, 51, 52, 53, 54, 55, 56, 57, 58, 59, 60, 61, 62, 63, 64]
      (.seq
      (.seq
      (.ops [
        .op none (.mv 29 (.t 3)),
        .op none (.faddr 30 (.t 1) 2 2),
        .op none (.load 31 false 1 (.t 30)),
        .op none (.len 32 false (.t 31)),
        .op none (.bin 33 .lss (.t 29) (.t 32))])
      (.cond (.t 33)
        .skip
        (.exit 0)))
      (.seq
      (.block 1
        (.seq
        (.ops [
          .op none (.faddr 36 (.t 1) 2 2),
          .op none (.load 37 false 1 (.t 36)),
          .op none (.mv 38 (.t 3)),
          .op none (.iaddr 39 3 (.t 37) (.t 38)),
          .op none (.load 40 true 3 (.t 39)),
          .op none (.alloc 4 (.one (.i (.agg [(.int .i64 0), (.int .i64 0), (.str [])])))),
          .op none (.store 3 (.t 4) (.t 40))])
        (.seq
        (.ops [
          .op none (.faddr 41 (.t 4) 0 0),
          .op none (.load 42 false 1 (.t 41)),
          .op none (.bin 43 .lss (.t 42) (.c (.int .i64 0))),
          .op none (.mv 44 (.t 43)),
          .op (some (44, false)) (.faddr 45 (.t 4) 0 0),
          .op (some (44, false)) (.load 46 false 1 (.t 45)),
          .op (some (44, false)) (.bin 47 .gtr (.t 46) (.c (.int .i64 1099511627776))),
          .op none (.pick 48 (.t 44) (.c (.bool true)) (.t 47)),
          .op none (.mv 49 (.t 48)),
          .op (some (49, false)) (.faddr 50 (.t 4) 1 1),
          .op (some (49, false)) (.load 51 false 1 (.t 50)),
          .op (some (49, false)) (.bin 52 .lss (.t 51) (.c (.int .i64 0))),
          .op none (.pick 53 (.t 49) (.c (.bool true)) (.t 52)),
          .op none (.mv 54 (.t 53)),
          .op (some (54, false)) (.faddr 55 (.t 4) 1 1),
          .op (some (54, false)) (.load 56 false 1 (.t 55)),
          .op (some (54, false)) (.bin 57 .gtr (.t 56) (.c (.int .i64 1099511627776))),
          .op none (.pick 58 (.t 54) (.c (.bool true)) (.t 57)),
          .op none (.mv 59 (.t 58)),
          .op (some (59, false)) (.faddr 60 (.t 4) 2 2),
          .op (some (59, false)) (.load 61 false 1 (.t 60)),
          .op (some (59, false)) (.len 62 true (.t 61)),
          .op (some (59, false)) (.bin 63 .gtr (.t 62) (.c (.int .i64 8192))),
          .op none (.pick 64 (.t 59) (.c (.bool true)) (.t 63))])
        (.cond (.t 64)
          (.seq
          (.ops [
            .op none (.asg 2 (.c (.bool false)))])
          .ret)
          .skip))))
      (.ops [
        .op none (.mv 34 (.t 3)),
        .op none (.bin 35 .add (.t 34) (.c (.int .i64 1))),
        .op none (.asg 3 (.t 35))]))))))
  (.seq
  (.ops [
    .op none (.faddr 65 (.t 1) 0 0),
    .op none (.load 66 false 1 (.t 65)),
    .op none (.faddr 67 (.t 1) 1 1),
    .op none (.load 68 false 1 (.t 67)),
    .op none (.faddr 69 (.t 1) 2 2),
    .op none (.load 70 false 1 (.t 69)),
    .call none (some 71) 32 [(false, (.t 66)), (false, (.t 68)), (false, (.t 70))],
    .op none (.asg 2 (.t 71))])
  .ret))))
def rets_exchequerref11_Right : List Ret := [.t 2]
theorem of_exchequerref11_Right {args : List SV} {Post : SV → List SV → Prop} (h : wqF Try.prog 72 ir_exchequerref11_Right rets_exchequerref11_Right args Post) (hn : args.length ≤ 72) : Fn Try.prog 18 args Post :=
  Fn.of_body' Try.func18 rfl Try.ntmps18 (by kernel_rfl) (by kernel_rfl) hn (wqF_wp h)

theorem ofv_exchequerref11_Right {args : List SV} {Post : SV → List SV → Prop} (h : wqFV Try.prog 72 ir_exchequerref11_Right 2 args Post) (hn : args.length ≤ 72) : Fn Try.prog 18 args Post :=
  Fn.of_vec Try.func18 rfl Try.ntmps18 (by kernel_rfl) (by kernel_rfl) (by decide) hn (wqFV_wp h)

/-- exchequer/exchequerlaw11.same · parameters [slog.Log, exchequerref11.Log] -/
abbrev F_exchequerlaw11_same : FuncId := 19
def ir_exchequerlaw11_same : Stm :=
  (.seq
  (.ops [
    .op none (.box 2 (.t 0)),
    .op none (.box 3 (.t 1)),
    .op none (.asg 4 (.c (.bool false)))])
  (.seq
  (.ops [
    .op none (.load 12 true 3 (.t 2)),
    .call none (some 13) 33 [(false, (.t 12))],
    .op none (.asg 11 (.t 13)),
    .op none (.ext 14 (.t 11) 0),
    .op none (.ext 15 (.t 11) 1),
    .op none (.asg 5 (.t 14)),
    .op none (.asg 6 (.t 15))])
  (.seq
  (.ops [
    .op none (.load 17 true 3 (.t 2)),
    .call none (some 18) 14 [(false, (.t 17))],
    .op none (.asg 16 (.t 18)),
    .op none (.ext 19 (.t 16) 0),
    .op none (.ext 20 (.t 16) 1),
    .op none (.asg 7 (.t 19)),
    .op none (.asg 8 (.t 20))])
  (.seq
  (.ops [
    .op none (.load 22 true 3 (.t 3)),
    .call none (some 23) 34 [(false, (.t 22))],
    .op none (.asg 21 (.t 23)),
    .op none (.ext 24 (.t 21) 0),
    .op none (.ext 25 (.t 21) 1),
    .op none (.asg 9 (.t 24)),
    .op none (.asg 10 (.t 25))])
  (.seq
  (.drw [[], [], [1], [0, 2], [3], [4], [4], [6, 4], [5, 7, 4], [4, 8], [9, 4], [10], [10], [11, 12, 10], [10, 13], [14, 10], [15], [15], [16, 17, 15], [15, 18], [19, 15], [20], [21, 20], [20], [23, 20], [22, 24, 20], [20, 25], [26, 25, 0, 1, 2, 3, 4, 5, 6, 7, 8, 9, 10, 11, 12, 13, 14, 15, 16, 17, 18, 19, 20, 21, 22, 23, 24]] [
    .op none (.mv 26 (.t 5)),
    .op none (.faddr 27 (.t 3) 0 0),
    .op none (.load 28 false 1 (.t 27)),
    .op none (.bin 29 .eql (.t 26) (.t 28)),
    .op none (.mv 30 (.t 29)),
    .op (some (30, true)) (.mv 31 (.t 6)),
    .op (some (30, true)) (.faddr 32 (.t 3) 1 1),
    .op (some (30, true)) (.load 33 false 1 (.t 32)),
    .op (some (30, true)) (.bin 34 .eql (.t 31) (.t 33)),
    .op none (.pick 35 (.t 30) (.t 34) (.c (.bool false))),
    .op none (.mv 36 (.t 35)),
    .op (some (36, true)) (.mv 37 (.t 7)),
    .op (some (36, true)) (.mv 38 (.t 9)),
    .op (some (36, true)) (.bin 39 .eql (.t 37) (.t 38)),
    .op none (.pick 40 (.t 36) (.t 39) (.c (.bool false))),
    .op none (.mv 41 (.t 40)),
    .op (some (41, true)) (.mv 42 (.t 8)),
    .op (some (41, true)) (.mv 43 (.t 10)),
    .op (some (41, true)) (.bin 44 .eql (.t 42) (.t 43)),
    .op none (.pick 45 (.t 41) (.t 44) (.c (.bool false))),
    .op none (.mv 46 (.t 45)),
    .op (some (46, true)) (.load 47 true 3 (.t 2)),
    .call (some (46, true)) (some 48) 13 [(false, (.t 47)), (false, (.c (.int .i64 0))), (false, (.c (.int .i64 9999)))],
    .op (some (46, true)) (.faddr 49 (.t 3) 2 2),
    .op (some (46, true)) (.load 50 false 1 (.t 49)),
    .call (some (46, true)) (some 51) 12 [(false, (.t 48)), (false, (.t 50))],
    .op none (.pick 52 (.t 46) (.t 51) (.c (.bool false))),
    .op none (.asg 4 (.t 52))])
  .ret)))))
def rets_exchequerlaw11_same : List Ret := [.t 4]
theorem of_exchequerlaw11_same {args : List SV} {Post : SV → List SV → Prop} (h : wqF Try.prog 53 ir_exchequerlaw11_same rets_exchequerlaw11_same args Post) (hn : args.length ≤ 53) : Fn Try.prog 19 args Post :=
  Fn.of_body' Try.func19 rfl Try.ntmps19 (by kernel_rfl) (by kernel_rfl) hn (wqF_wp h)

theorem ofv_exchequerlaw11_same {args : List SV} {Post : SV → List SV → Prop} (h : wqFV Try.prog 53 ir_exchequerlaw11_same 4 args Post) (hn : args.length ≤ 53) : Fn Try.prog 19 args Post :=
  Fn.of_vec Try.func19 rfl Try.ntmps19 (by kernel_rfl) (by kernel_rfl) (by decide) hn (wqFV_wp h)

/-- (exchequer/exchequerref11.Log).Add · parameters [exchequerref11.Log, int, string] -/
abbrev F_exchequerref11_Log_Add : FuncId := 20
def ir_exchequerref11_Log_Add : Stm :=
  (.seq
  (.ops [
    .op none (.box 3 (.t 0)),
    .op none (.alloc 6 (.one (.i (.agg [(.int .i64 0), (.int .i64 0), (.list [])])))),
    .op none (.asg 7 (.c (.bool false)))])
  (.seq
  (.ops [
    .op none (.load 12 true 3 (.t 3)),
    .call none (some 13) 34 [(false, (.t 12))],
    .op none (.asg 11 (.t 13)),
    .op none (.ext 14 (.t 11) 0),
    .op none (.ext 15 (.t 11) 1),
    .op none (.asg 8 (.t 14)),
    .op none (.asg 9 (.t 15))])
  (.seq
  (.drw [[], [0], [], [2], [], [], [5], [4, 6], [], [8], [], [], [9, 10, 11], [12], [7, 13], [1, 3, 14], [], [16, 15, 14, 0, 1, 2, 3, 4, 5, 6, 7, 8, 9, 10, 11, 12, 13]] [
    .op none (.faddr 16 (.t 3) 0 0),
    .op none (.load 17 false 1 (.t 16)),
    .op none (.faddr 18 (.t 3) 1 1),
    .op none (.load 19 false 1 (.t 18)),
    .op none (.empty 20 36 3),
    .op none (.faddr 21 (.t 3) 2 2),
    .op none (.load 22 false 1 (.t 21)),
    .op none (.app 23 36 3 32 (.t 20) (.t 22)),
    .op none (.mv 24 (.t 8)),
    .op none (.bin 25 .add (.t 24) (.c (.int .i64 1))),
    .op none (.mv 26 (.t 1)),
    .op none (.mv 27 (.t 2)),
    .op none (.build 28 [(.int .i64 0), (.int .i64 0), (.str [])] [(0, (.t 25)), (1, (.t 26)), (2, (.t 27))]),
    .op none (.bsl 29 36 3 (.agg [(.int .i64 0), (.int .i64 0), (.str [])]) 1 [(0, (.t 28))]),
    .op none (.app 30 36 3 32 (.t 23) (.t 29)),
    .op none (.build 31 [(.int .i64 0), (.int .i64 0), (.list [])] [(0, (.t 17)), (1, (.t 19)), (2, (.t 30))]),
    .op none (.alloc 10 (.one (.i (.agg [(.int .i64 0), (.int .i64 0), (.list [])])))),
    .op none (.store 3 (.t 10) (.t 31))])
  (.seq
  (.seq
  (.ops [
    .op none (.load 32 true 3 (.t 10)),
    .call none (some 33) 18 [(false, (.t 32))]])
  (.cond (.t 33)
    (.seq
    (.ops [
      .op none (.load 34 true 3 (.t 10)),
      .op none (.store 3 (.t 6) (.t 34)),
      .op none (.asg 7 (.c (.bool true)))])
    .ret)
    .skip))
  (.seq
  (.ops [
    .op none (.load 35 true 3 (.t 3)),
    .op none (.store 3 (.t 6) (.t 35)),
    .op none (.asg 7 (.c (.bool false)))])
  .ret)))))
def rets_exchequerref11_Log_Add : List Ret := [.cell 6 true 3, .t 7]
theorem of_exchequerref11_Log_Add {args : List SV} {Post : SV → List SV → Prop} (h : wqF Try.prog 36 ir_exchequerref11_Log_Add rets_exchequerref11_Log_Add args Post) (hn : args.length ≤ 36) : Fn Try.prog 20 args Post :=
  Fn.of_body' Try.func20 rfl Try.ntmps20 (by kernel_rfl) (by kernel_rfl) hn (wqF_wp h)

/-- (exchequer/exchequerref11.Log).Put · parameters [exchequerref11.Log, int, int, []api.Entry] -/
abbrev F_exchequerref11_Log_Put : FuncId := 21
def ir_exchequerref11_Log_Put : Stm :=
  (.seq
  (.ops [
    .op none (.box 4 (.t 0)),
    .op none (.alloc 8 (.one (.i (.agg [(.int .i64 0), (.int .i64 0), (.list [])])))),
    .op none (.asg 9 (.c (.int .i64 0))),
    .op none (.asg 10 (.c (.bool false)))])
  (.seq
  (.seq
  (.ops [
    .op none (.mv 23 (.t 1)),
    .op none (.bin 24 .lss (.t 23) (.c (.int .i64 0))),
    .op none (.mv 25 (.t 24)),
    .op (some (25, false)) (.mv 26 (.t 1)),
    .op (some (25, false)) (.bin 27 .gtr (.t 26) (.c (.int .i64 1099511627776))),
    .op none (.pick 28 (.t 25) (.c (.bool true)) (.t 27)),
    .op none (.mv 29 (.t 28)),
    .op (some (29, false)) (.mv 30 (.t 2)),
    .op (some (29, false)) (.bin 31 .lss (.t 30) (.c (.int .i64 0))),
    .op none (.pick 32 (.t 29) (.c (.bool true)) (.t 31)),
    .op none (.mv 33 (.t 32)),
    .op (some (33, false)) (.mv 34 (.t 2)),
    .op (some (33, false)) (.bin 35 .gtr (.t 34) (.c (.int .i64 1099511627776))),
    .op none (.pick 36 (.t 33) (.c (.bool true)) (.t 35)),
    .op none (.mv 37 (.t 36)),
    .op (some (37, false)) (.mv 38 (.t 1)),
    .op (some (37, false)) (.mv 39 (.t 2)),
    .op (some (37, false)) (.mv 40 (.t 3)),
    .call (some (37, false)) (some 41) 32 [(false, (.t 38)), (false, (.t 39)), (false, (.t 40))],
    .op (some (37, false)) (.not 42 (.t 41)),
    .op none (.pick 43 (.t 37) (.c (.bool true)) (.t 42))])
  (.cond (.t 43)
    (.seq
    (.ops [
      .op none (.load 44 true 3 (.t 4)),
      .op none (.store 3 (.t 8) (.t 44)),
      .op none (.asg 9 (.c (.int .i64 0))),
      .op none (.asg 10 (.c (.bool false)))])
    .ret)
    .skip))
  (.seq
  (.ops [
    .op none (.load 46 true 3 (.t 4)),
    .call none (some 47) 34 [(false, (.t 46))],
    .op none (.asg 45 (.t 47)),
    .op none (.ext 48 (.t 45) 0),
    .op none (.ext 49 (.t 45) 1),
    .op none (.asg 11 (.t 48)),
    .op none (.asg 12 (.t 49))])
  (.seq
  (.ops [
    .op none (.mv 50 (.t 1)),
    .op none (.mv 51 (.t 3)),
    .op none (.len 52 false (.t 51)),
    .op none (.bin 53 .add (.t 50) (.t 52)),
    .op none (.asg 13 (.t 53))])
  (.seq
  (.seq
  (.ops [
    .op none (.mv 54 (.t 13)),
    .op none (.faddr 55 (.t 4) 0 0),
    .op none (.load 56 false 1 (.t 55)),
    .op none (.bin 57 .lss (.t 54) (.t 56))])
  (.cond (.t 57)
    (.ops [
      .op none (.faddr 58 (.t 4) 0 0),
      .op none (.load 59 false 1 (.t 58)),
      .op none (.asg 13 (.t 59))])
    .skip))
  (.seq
  (.seq
  (.ops [
    .op none (.mv 60 (.t 1)),
    .op none (.faddr 61 (.t 4) 0 0),
    .op none (.load 62 false 1 (.t 61)),
    .op none (.bin 63 .geq (.t 60) (.t 62))])
  (.cond (.t 63)
    (.seq
    (.ops [
      .op none (.load 65 true 3 (.t 4)),
      .op none (.mv 66 (.t 1)),
      .call none (some 67) 25 [(false, (.t 65)), (false, (.t 66))],
      .op none (.asg 64 (.t 67)),
      .op none (.ext 68 (.t 64) 0),
      .op none (.ext 69 (.t 64) 1),
      .op none (.asg 14 (.t 68)),
      .op none (.asg 15 (.t 69))])
    (.seq
    (.ops [
      .op none (.mv 70 (.t 15)),
      .op none (.not 71 (.t 70)),
      .op none (.mv 72 (.t 71)),
      .op (some (72, false)) (.mv 73 (.t 14)),
      .op (some (72, false)) (.mv 74 (.t 2)),
      .op (some (72, false)) (.bin 75 .neq (.t 73) (.t 74)),
      .op none (.pick 76 (.t 72) (.c (.bool true)) (.t 75))])
    (.cond (.t 76)
      (.seq
      (.ops [
        .op none (.mv 77 (.t 1)),
        .op none (.bin 78 .sub (.t 77) (.c (.int .i64 1))),
        .op none (.asg 16 (.t 78))])
      (.seq
      (.seq
      (.ops [
        .op none (.mv 79 (.t 16)),
        .op none (.mv 80 (.t 11)),
        .op none (.bin 81 .gtr (.t 79) (.t 80))])
      (.cond (.t 81)
        (.ops [
          .op none (.mv 82 (.t 11)),
          .op none (.asg 16 (.t 82))])
        .skip))
      (.seq
      (.seq
      (.ops [
        .op none (.mv 83 (.t 16)),
        .op none (.faddr 84 (.t 4) 0 0),
        .op none (.load 85 false 1 (.t 84)),
        .op none (.bin 86 .lss (.t 83) (.t 85))])
      (.cond (.t 86)
        (.ops [
          .op none (.faddr 87 (.t 4) 0 0),
          .op none (.load 88 false 1 (.t 87)),
          .op none (.asg 16 (.t 88))])
        .skip))
      (.seq
      (.ops [
        .op none (.load 89 true 3 (.t 4)),
        .op none (.mv 90 (.t 16)),
        .op none (.store 3 (.t 8) (.t 89)),
        .op none (.asg 9 (.t 90)),
        .op none (.asg 10 (.c (.bool false)))])
      .ret))))
      .skip)))
    .skip))
  (.seq
  (.ops [
    .op none (.empty 91 36 3),
    .op none (.faddr 92 (.t 4) 2 2),
    .op none (.load 93 false 1 (.t 92)),
    .op none (.app 94 36 3 32 (.t 91) (.t 93)),
    .op none (.asg 17 (.t 94))])
  (.seq
  (.ops [
    .op none (.asg 18 (.c (.bool true)))])
  (.seq
  (.seq
  (.ops [
    .op none (.asg 19 (.c (.int .i64 0)))])
  (.block 0
    (.loop [20, 21, 95, 96, 97, 98, 99, 100, 101, 102, 103, 104, 105, 106, 107, 108, 109, 110, 111, 112, 113, 114, 115, 116, 117, 118, 119, 120, 121, 122, 123, 124, 125, 126, 127, 128, 129, 130, 131, 132, 133, 134, 135, 136, 137, 138, 139, 140, 141, 142, 143, 144, 145, 146, 147, 148, 149, 150, 151, 152]
      (.seq
      (.seq
      (.ops [
        .op none (.mv 95 (.t 19)),
        .op none (.mv 96 (.t 3)),
        .op none (.len 97 false (.t 96)),
        .op none (.bin 98 .lss (.t 95) (.t 97))])
      (.cond (.t 98)
        .skip
        (.exit 0)))
      (.seq
      (.block 1
        (.seq
        (.seq
        (.drw [[], [], [0, 1], [2], [3], [], [5], [4, 6]] [
          .op none (.mv 101 (.t 3)),
          .op none (.mv 102 (.t 19)),
          .op none (.iaddr 103 3 (.t 101) (.t 102)),
          .op none (.faddr 104 (.t 103) 0 0),
          .op none (.load 105 false 1 (.t 104)),
          .op none (.faddr 106 (.t 4) 0 0),
          .op none (.load 107 false 1 (.t 106)),
          .op none (.bin 108 .leq (.t 105) (.t 107))])
        (.cond (.t 108)
          (.exit 1)
          .skip))
        (.seq
        (.drw [[], [], [], [1, 2], [3], [4], [0, 5], [6], [7], [7], [8, 6, 0, 1, 2, 3, 4, 5, 7], [9, 10, 0, 1, 2, 3, 4, 5, 6, 7, 8]] [
          .op none (.load 110 true 3 (.t 4)),
          .op none (.mv 111 (.t 3)),
          .op none (.mv 112 (.t 19)),
          .op none (.iaddr 113 3 (.t 111) (.t 112)),
          .op none (.faddr 114 (.t 113) 0 0),
          .op none (.load 115 false 1 (.t 114)),
          .call none (some 116) 25 [(false, (.t 110)), (false, (.t 115))],
          .op none (.asg 109 (.t 116)),
          .op none (.ext 117 (.t 109) 0),
          .op none (.ext 118 (.t 109) 1),
          .op none (.asg 20 (.t 117)),
          .op none (.asg 21 (.t 118))])
        (.seq
        (.seq
        (.ops [
          .op none (.mv 119 (.t 18)),
          .op none (.mv 120 (.t 119)),
          .op (some (120, true)) (.mv 121 (.t 21)),
          .op (some (120, true)) (.not 122 (.t 121)),
          .op (some (120, true)) (.mv 123 (.t 122)),
          .op (some (123, false)) (.mv 124 (.t 20)),
          .op (some (123, false)) (.mv 125 (.t 3)),
          .op (some (123, false)) (.mv 126 (.t 19)),
          .op (some (123, false)) (.iaddr 127 3 (.t 125) (.t 126)),
          .op (some (123, false)) (.faddr 128 (.t 127) 1 1),
          .op (some (123, false)) (.load 129 false 1 (.t 128)),
          .op (some (123, false)) (.bin 130 .neq (.t 124) (.t 129)),
          .op (some (120, true)) (.pick 131 (.t 123) (.c (.bool true)) (.t 130)),
          .op none (.pick 132 (.t 120) (.t 131) (.c (.bool false)))])
        (.cond (.t 132)
          (.seq
          (.ops [
            .op none (.asg 18 (.c (.bool false)))])
          (.drw [[], [], [], [1, 2], [3], [4], [], [6], [5, 7], [8], [0, 9], [10, 0, 1, 2, 3, 4, 5, 6, 7, 8, 9]] [
            .op none (.mv 133 (.t 17)),
            .op none (.mv 134 (.t 3)),
            .op none (.mv 135 (.t 19)),
            .op none (.iaddr 136 3 (.t 134) (.t 135)),
            .op none (.faddr 137 (.t 136) 0 0),
            .op none (.load 138 false 1 (.t 137)),
            .op none (.faddr 139 (.t 4) 0 0),
            .op none (.load 140 false 1 (.t 139)),
            .op none (.bin 141 .sub (.t 138) (.t 140)),
            .op none (.bin 142 .sub (.t 141) (.c (.int .i64 1))),
            .op none (.slc 143 false 3 (.t 133) none (some (.t 142))),
            .op none (.asg 17 (.t 143))]))
          .skip))
        (.seq
        (.ops [
          .op none (.mv 144 (.t 18)),
          .op none (.not 145 (.t 144))])
        (.cond (.t 145)
          (.ops [
            .op none (.mv 146 (.t 17)),
            .op none (.mv 147 (.t 3)),
            .op none (.mv 148 (.t 19)),
            .op none (.iaddr 149 3 (.t 147) (.t 148)),
            .op none (.load 150 true 3 (.t 149)),
            .op none (.bsl 151 36 3 (.agg [(.int .i64 0), (.int .i64 0), (.str [])]) 1 [(0, (.t 150))]),
            .op none (.app 152 36 3 32 (.t 146) (.t 151)),
            .op none (.asg 17 (.t 152))])
          .skip))))))
      (.ops [
        .op none (.mv 99 (.t 19)),
        .op none (.bin 100 .add (.t 99) (.c (.int .i64 1))),
        .op none (.asg 19 (.t 100))]))))))
  (.seq
  (.ops [
    .op none (.faddr 153 (.t 4) 0 0),
    .op none (.load 154 false 1 (.t 153)),
    .op none (.faddr 155 (.t 4) 1 1),
    .op none (.load 156 false 1 (.t 155)),
    .op none (.mv 157 (.t 17)),
    .op none (.build 158 [(.int .i64 0), (.int .i64 0), (.list [])] [(0, (.t 154)), (1, (.t 156)), (2, (.t 157))]),
    .op none (.alloc 22 (.one (.i (.agg [(.int .i64 0), (.int .i64 0), (.list [])])))),
    .op none (.store 3 (.t 22) (.t 158))])
  (.seq
  (.seq
  (.ops [
    .op none (.load 159 true 3 (.t 22)),
    .call none (some 160) 18 [(false, (.t 159))],
    .op none (.not 161 (.t 160))])
  (.cond (.t 161)
    (.seq
    (.ops [
      .op none (.load 162 true 3 (.t 4)),
      .op none (.store 3 (.t 8) (.t 162)),
      .op none (.asg 9 (.c (.int .i64 0))),
      .op none (.asg 10 (.c (.bool false)))])
    .ret)
    .skip))
  (.seq
  (.ops [
    .op none (.load 163 true 3 (.t 22)),
    .op none (.mv 164 (.t 13)),
    .op none (.store 3 (.t 8) (.t 163)),
    .op none (.asg 9 (.t 164)),
    .op none (.asg 10 (.c (.bool true)))])
  .ret))))))))))))
def rets_exchequerref11_Log_Put : List Ret := [.cell 8 true 3, .t 9, .t 10]
theorem of_exchequerref11_Log_Put {args : List SV} {Post : SV → List SV → Prop} (h : wqF Try.prog 165 ir_exchequerref11_Log_Put rets_exchequerref11_Log_Put args Post) (hn : args.length ≤ 165) : Fn Try.prog 21 args Post :=
  Fn.of_body' Try.func21 rfl Try.ntmps21 (by kernel_rfl) (by kernel_rfl) hn (wqF_wp h)

/-- (exchequer/exchequerref11.Log).Cut · parameters [exchequerref11.Log, int] -/
abbrev F_exchequerref11_Log_Cut : FuncId := 22
def ir_exchequerref11_Log_Cut : Stm :=
  (.seq
  (.ops [
    .op none (.box 2 (.t 0)),
    .op none (.alloc 4 (.one (.i (.agg [(.int .i64 0), (.int .i64 0), (.list [])])))),
    .op none (.asg 5 (.c (.bool false)))])
  (.seq
  (.ops [
    .op none (.load 11 true 3 (.t 2)),
    .op none (.mv 12 (.t 1)),
    .call none (some 13) 25 [(false, (.t 11)), (false, (.t 12))],
    .op none (.asg 10 (.t 13)),
    .op none (.ext 14 (.t 10) 0),
    .op none (.ext 15 (.t 10) 1),
    .op none (.asg 6 (.t 14)),
    .op none (.asg 7 (.t 15))])
  (.seq
  (.seq
  (.ops [
    .op none (.mv 16 (.t 7)),
    .op none (.not 17 (.t 16))])
  (.cond (.t 17)
    (.seq
    (.ops [
      .op none (.load 18 true 3 (.t 2)),
      .op none (.store 3 (.t 4) (.t 18)),
      .op none (.asg 5 (.c (.bool false)))])
    .ret)
    .skip))
  (.seq
  (.ops [
    .op none (.empty 19 36 3),
    .op none (.asg 8 (.t 19))])
  (.seq
  (.seq
  (.ops [
    .op none (.asg 9 (.c (.int .i64 0)))])
  (.block 0
    (.loop [20, 21, 22, 23, 24, 25, 26, 27, 28, 29, 30, 31, 32, 33, 34, 35, 36, 37, 38, 39, 40, 41, 42]
      (.seq
      (.seq
      (.ops [
        .op none (.mv 20 (.t 9)),
        .op none (.faddr 21 (.t 2) 2 2),
        .op none (.load 22 false 1 (.t 21)),
        .op none (.len 23 false (.t 22)),
        .op none (.bin 24 .lss (.t 20) (.t 23))])
      (.cond (.t 24)
        .skip
        (.exit 0)))
      (.seq
      (.block 1
        (.seq
        (.ops [
          .op none (.faddr 27 (.t 2) 2 2),
          .op none (.load 28 false 1 (.t 27)),
          .op none (.mv 29 (.t 9)),
          .op none (.iaddr 30 3 (.t 28) (.t 29)),
          .op none (.faddr 31 (.t 30) 0 0),
          .op none (.load 32 false 1 (.t 31)),
          .op none (.mv 33 (.t 1)),
          .op none (.bin 34 .gtr (.t 32) (.t 33))])
        (.cond (.t 34)
          (.ops [
            .op none (.mv 35 (.t 8)),
            .op none (.faddr 36 (.t 2) 2 2),
            .op none (.load 37 false 1 (.t 36)),
            .op none (.mv 38 (.t 9)),
            .op none (.iaddr 39 3 (.t 37) (.t 38)),
            .op none (.load 40 true 3 (.t 39)),
            .op none (.bsl 41 36 3 (.agg [(.int .i64 0), (.int .i64 0), (.str [])]) 1 [(0, (.t 40))]),
            .op none (.app 42 36 3 32 (.t 35) (.t 41)),
            .op none (.asg 8 (.t 42))])
          .skip)))
      (.ops [
        .op none (.mv 25 (.t 9)),
        .op none (.bin 26 .add (.t 25) (.c (.int .i64 1))),
        .op none (.asg 9 (.t 26))]))))))
  (.seq
  (.ops [
    .op none (.mv 43 (.t 1)),
    .op none (.mv 44 (.t 6)),
    .op none (.mv 45 (.t 8)),
    .op none (.build 46 [(.int .i64 0), (.int .i64 0), (.list [])] [(0, (.t 43)), (1, (.t 44)), (2, (.t 45))]),
    .op none (.store 3 (.t 4) (.t 46)),
    .op none (.asg 5 (.c (.bool true)))])
  .ret))))))
def rets_exchequerref11_Log_Cut : List Ret := [.cell 4 true 3, .t 5]
theorem of_exchequerref11_Log_Cut {args : List SV} {Post : SV → List SV → Prop} (h : wqF Try.prog 47 ir_exchequerref11_Log_Cut rets_exchequerref11_Log_Cut args Post) (hn : args.length ≤ 47) : Fn Try.prog 22 args Post :=
  Fn.of_body' Try.func22 rfl Try.ntmps22 (by kernel_rfl) (by kernel_rfl) hn (wqF_wp h)

/-- (exchequer/exchequerref11.Log).From · parameters [exchequerref11.Log, int, int] -/
abbrev F_exchequerref11_Log_From : FuncId := 23
def ir_exchequerref11_Log_From : Stm :=
  (.seq
  (.ops [
    .op none (.box 3 (.t 0)),
    .op none (.asg 6 (.nils 36 3))])
  (.seq
  (.ops [
    .op none (.empty 9 36 3),
    .op none (.asg 7 (.t 9))])
  (.seq
  (.seq
  (.ops [
    .op none (.asg 8 (.c (.int .i64 0)))])
  (.block 0
    (.loop [10, 11, 12, 13, 14, 15, 16, 17, 18, 19, 20, 21, 22, 23, 24, 25, 26, 27, 28, 29, 30, 31, 32, 33, 34, 35, 36, 37, 38]
      (.seq
      (.seq
      (.ops [
        .op none (.mv 10 (.t 8)),
        .op none (.faddr 11 (.t 3) 2 2),
        .op none (.load 12 false 1 (.t 11)),
        .op none (.len 13 false (.t 12)),
        .op none (.bin 14 .lss (.t 10) (.t 13))])
      (.cond (.t 14)
        .skip
        (.exit 0)))
      (.seq
      (.block 1
        (.seq
        (.ops [
          .op none (.faddr 17 (.t 3) 2 2),
          .op none (.load 18 false 1 (.t 17)),
          .op none (.mv 19 (.t 8)),
          .op none (.iaddr 20 3 (.t 18) (.t 19)),
          .op none (.faddr 21 (.t 20) 0 0),
          .op none (.load 22 false 1 (.t 21)),
          .op none (.mv 23 (.t 1)),
          .op none (.bin 24 .geq (.t 22) (.t 23)),
          .op none (.mv 25 (.t 24)),
          .op (some (25, true)) (.mv 26 (.t 7)),
          .op (some (25, true)) (.len 27 false (.t 26)),
          .op (some (25, true)) (.mv 28 (.t 2)),
          .op (some (25, true)) (.bin 29 .lss (.t 27) (.t 28)),
          .op none (.pick 30 (.t 25) (.t 29) (.c (.bool false)))])
        (.cond (.t 30)
          (.ops [
            .op none (.mv 31 (.t 7)),
            .op none (.faddr 32 (.t 3) 2 2),
            .op none (.load 33 false 1 (.t 32)),
            .op none (.mv 34 (.t 8)),
            .op none (.iaddr 35 3 (.t 33) (.t 34)),
            .op none (.load 36 true 3 (.t 35)),
            .op none (.bsl 37 36 3 (.agg [(.int .i64 0), (.int .i64 0), (.str [])]) 1 [(0, (.t 36))]),
            .op none (.app 38 36 3 32 (.t 31) (.t 37)),
            .op none (.asg 7 (.t 38))])
          .skip)))
      (.ops [
        .op none (.mv 15 (.t 8)),
        .op none (.bin 16 .add (.t 15) (.c (.int .i64 1))),
        .op none (.asg 8 (.t 16))]))))))
  (.seq
  (.ops [
    .op none (.mv 39 (.t 7)),
    .op none (.mov 6 36 3 (.t 39))])
  .ret))))
def rets_exchequerref11_Log_From : List Ret := [.t 6]
theorem of_exchequerref11_Log_From {args : List SV} {Post : SV → List SV → Prop} (h : wqF Try.prog 40 ir_exchequerref11_Log_From rets_exchequerref11_Log_From args Post) (hn : args.length ≤ 40) : Fn Try.prog 23 args Post :=
  Fn.of_body' Try.func23 rfl Try.ntmps23 (by kernel_rfl) (by kernel_rfl) hn (wqF_wp h)

theorem ofv_exchequerref11_Log_From {args : List SV} {Post : SV → List SV → Prop} (h : wqFV Try.prog 40 ir_exchequerref11_Log_From 6 args Post) (hn : args.length ≤ 40) : Fn Try.prog 23 args Post :=
  Fn.of_vec Try.func23 rfl Try.ntmps23 (by kernel_rfl) (by kernel_rfl) (by decide) hn (wqFV_wp h)

/-- (exchequer/exchequerref11.Log).Newer · parameters [exchequerref11.Log, int, int] -/
abbrev F_exchequerref11_Log_Newer : FuncId := 24
def ir_exchequerref11_Log_Newer : Stm :=
  (.seq
  (.ops [
    .op none (.box 3 (.t 0)),
    .op none (.asg 6 (.c (.bool false)))])
  (.seq
  (.ops [
    .op none (.load 10 true 3 (.t 3)),
    .call none (some 11) 34 [(false, (.t 10))],
    .op none (.asg 9 (.t 11)),
    .op none (.ext 12 (.t 9) 0),
    .op none (.ext 13 (.t 9) 1),
    .op none (.asg 7 (.t 12)),
    .op none (.asg 8 (.t 13))])
  (.seq
  (.seq
  (.ops [
    .op none (.mv 14 (.t 2)),
    .op none (.mv 15 (.t 8)),
    .op none (.bin 16 .neq (.t 14) (.t 15))])
  (.cond (.t 16)
    (.seq
    (.ops [
      .op none (.mv 17 (.t 2)),
      .op none (.mv 18 (.t 8)),
      .op none (.bin 19 .gtr (.t 17) (.t 18)),
      .op none (.asg 6 (.t 19))])
    .ret)
    .skip))
  (.seq
  (.ops [
    .op none (.mv 20 (.t 1)),
    .op none (.mv 21 (.t 7)),
    .op none (.bin 22 .geq (.t 20) (.t 21)),
    .op none (.asg 6 (.t 22))])
  .ret))))
def rets_exchequerref11_Log_Newer : List Ret := [.t 6]
theorem of_exchequerref11_Log_Newer {args : List SV} {Post : SV → List SV → Prop} (h : wqF Try.prog 23 ir_exchequerref11_Log_Newer rets_exchequerref11_Log_Newer args Post) (hn : args.length ≤ 23) : Fn Try.prog 24 args Post :=
  Fn.of_body' Try.func24 rfl Try.ntmps24 (by kernel_rfl) (by kernel_rfl) hn (wqF_wp h)

theorem ofv_exchequerref11_Log_Newer {args : List SV} {Post : SV → List SV → Prop} (h : wqFV Try.prog 23 ir_exchequerref11_Log_Newer 6 args Post) (hn : args.length ≤ 23) : Fn Try.prog 24 args Post :=
  Fn.of_vec Try.func24 rfl Try.ntmps24 (by kernel_rfl) (by kernel_rfl) (by decide) hn (wqFV_wp h)

/-- (exchequer/exchequerref11.Log).At · parameters [exchequerref11.Log, int] -/
abbrev F_exchequerref11_Log_At : FuncId := 25
def ir_exchequerref11_Log_At : Stm :=
  (.seq
  (.ops [
    .op none (.box 2 (.t 0)),
    .op none (.asg 4 (.c (.int .i64 0))),
    .op none (.asg 5 (.c (.bool false)))])
  (.seq
  (.seq
  (.ops [
    .op none (.mv 7 (.t 1)),
    .op none (.faddr 8 (.t 2) 0 0),
    .op none (.load 9 false 1 (.t 8)),
    .op none (.bin 10 .eql (.t 7) (.t 9))])
  (.cond (.t 10)
    (.seq
    (.ops [
      .op none (.faddr 11 (.t 2) 1 1),
      .op none (.load 12 false 1 (.t 11)),
      .op none (.asg 4 (.t 12)),
      .op none (.asg 5 (.c (.bool true)))])
    .ret)
    .skip))
  (.seq
  (.seq
  (.ops [
    .op none (.asg 6 (.c (.int .i64 0)))])
  (.block 0
    (.loop [4, 5, 13, 14, 15, 16, 17, 18, 19, 20, 21, 22, 23, 24, 25, 26, 27, 28, 29, 30, 31, 32, 33]
      (.seq
      (.seq
      (.ops [
        .op none (.mv 13 (.t 6)),
        .op none (.faddr 14 (.t 2) 2 2),
        .op none (.load 15 false 1 (.t 14)),
        .op none (.len 16 false (.t 15)),
        .op none (.bin 17 .lss (.t 13) (.t 16))])
      (.cond (.t 17)
        .skip
        (.exit 0)))
      (.seq
      (.block 1
        (.seq
        (.ops [
          .op none (.faddr 20 (.t 2) 2 2),
          .op none (.load 21 false 1 (.t 20)),
          .op none (.mv 22 (.t 6)),
          .op none (.iaddr 23 3 (.t 21) (.t 22)),
          .op none (.faddr 24 (.t 23) 0 0),
          .op none (.load 25 false 1 (.t 24)),
          .op none (.mv 26 (.t 1)),
          .op none (.bin 27 .eql (.t 25) (.t 26))])
        (.cond (.t 27)
          (.seq
          (.ops [
            .op none (.faddr 28 (.t 2) 2 2),
            .op none (.load 29 false 1 (.t 28)),
            .op none (.mv 30 (.t 6)),
            .op none (.iaddr 31 3 (.t 29) (.t 30)),
            .op none (.faddr 32 (.t 31) 1 1),
            .op none (.load 33 false 1 (.t 32)),
            .op none (.asg 4 (.t 33)),
            .op none (.asg 5 (.c (.bool true)))])
          .ret)
          .skip)))
      (.ops [
        .op none (.mv 18 (.t 6)),
        .op none (.bin 19 .add (.t 18) (.c (.int .i64 1))),
        .op none (.asg 6 (.t 19))]))))))
  (.seq
  (.ops [
    .op none (.asg 4 (.c (.int .i64 0))),
    .op none (.asg 5 (.c (.bool false)))])
  .ret))))
def rets_exchequerref11_Log_At : List Ret := [.t 4, .t 5]
theorem of_exchequerref11_Log_At {args : List SV} {Post : SV → List SV → Prop} (h : wqF Try.prog 34 ir_exchequerref11_Log_At rets_exchequerref11_Log_At args Post) (hn : args.length ≤ 34) : Fn Try.prog 25 args Post :=
  Fn.of_body' Try.func25 rfl Try.ntmps25 (by kernel_rfl) (by kernel_rfl) hn (wqF_wp h)

/-- exchequer/exchequerlaw11.entry · parameters [int, int] -/
abbrev F_exchequerlaw11_entry : FuncId := 26
def ir_exchequerlaw11_entry : Stm :=
  (.seq
  (.ops [
    .op none (.alloc 4 (.one (.i (.agg [(.int .i64 0), (.int .i64 0), (.str [])]))))])
  (.seq
  (.ops [
    .op none (.mv 5 (.t 0)),
    .op none (.mv 6 (.t 1)),
    .op none (.build 7 [(.int .i64 0), (.int .i64 0), (.str [])] [(0, (.t 5)), (1, (.t 6)), (2, (.c (.str [120])))]),
    .op none (.store 3 (.t 4) (.t 7))])
  .ret))
def rets_exchequerlaw11_entry : List Ret := [.cell 4 true 3]
theorem of_exchequerlaw11_entry {args : List SV} {Post : SV → List SV → Prop} (h : wqF Try.prog 8 ir_exchequerlaw11_entry rets_exchequerlaw11_entry args Post) (hn : args.length ≤ 8) : Fn Try.prog 26 args Post :=
  Fn.of_body' Try.func26 rfl Try.ntmps26 (by kernel_rfl) (by kernel_rfl) hn (wqF_wp h)

/-- slices.Clone[[]exchequer/api.Entry,exchequer/api.Entry] · parameters [[]api.Entry] -/
abbrev F_slices_Clone_L_api_Entry_api_Entry : FuncId := 27
def ir_slices_Clone_L_api_Entry_api_Entry : Stm :=
  (.seq
  (.ops [
    .op none (.asg 2 (.nils 36 3))])
  (.seq
  (.seq
  (.ops [
    .op none (.mv 3 (.t 0)),
    .op none (.isnil 4 false (.t 3))])
  (.cond (.t 4)
    (.seq
    (.ops [
      .op none (.asg 2 (.nils 36 3))])
    .ret)
    .skip))
  (.seq
  (.ops [
    .op none (.empty 5 36 3),
    .op none (.mv 6 (.t 0)),
    .op none (.app 7 36 3 32 (.t 5) (.t 6)),
    .op none (.asg 2 (.t 7))])
  .ret)))
def rets_slices_Clone_L_api_Entry_api_Entry : List Ret := [.t 2]
theorem of_slices_Clone_L_api_Entry_api_Entry {args : List SV} {Post : SV → List SV → Prop} (h : wqF Try.prog 8 ir_slices_Clone_L_api_Entry_api_Entry rets_slices_Clone_L_api_Entry_api_Entry args Post) (hn : args.length ≤ 8) : Fn Try.prog 27 args Post :=
  Fn.of_body' Try.func27 rfl Try.ntmps27 (by kernel_rfl) (by kernel_rfl) hn (wqF_wp h)

theorem ofv_slices_Clone_L_api_Entry_api_Entry {args : List SV} {Post : SV → List SV → Prop} (h : wqFV Try.prog 8 ir_slices_Clone_L_api_Entry_api_Entry 2 args Post) (hn : args.length ≤ 8) : Fn Try.prog 27 args Post :=
  Fn.of_vec Try.func27 rfl Try.ntmps27 (by kernel_rfl) (by kernel_rfl) (by decide) hn (wqFV_wp h)

/-- (exchequer/slog.Log).right · parameters [slog.Log] -/
abbrev F_slog_Log_right : FuncId := 28
def ir_slog_Log_right : Stm :=
  (.seq
  (.ops [
    .op none (.box 1 (.t 0)),
    .op none (.asg 2 (.c (.bool false)))])
  (.seq
  (.seq
  (.ops [
    .op none (.faddr 5 (.t 1) 0 0),
    .op none (.load 6 false 1 (.t 5)),
    .call none (some 7) 29 [(false, (.t 6))],
    .op none (.not 8 (.t 7)),
    .op none (.mv 9 (.t 8)),
    .op (some (9, false)) (.faddr 10 (.t 1) 1 1),
    .op (some (9, false)) (.load 11 false 1 (.t 10)),
    .call (some (9, false)) (some 12) 29 [(false, (.t 11))],
    .op (some (9, false)) (.not 13 (.t 12)),
    .op none (.pick 14 (.t 9) (.c (.bool true)) (.t 13)),
    .op none (.mv 15 (.t 14)),
    .op (some (15, false)) (.faddr 16 (.t 1) 2 2),
    .op (some (15, false)) (.load 17 false 1 (.t 16)),
    .op (some (15, false)) (.len 18 false (.t 17)),
    .op (some (15, false)) (.bin 19 .gtr (.t 18) (.c (.int .i64 4096))),
    .op none (.pick 20 (.t 15) (.c (.bool true)) (.t 19))])
  (.cond (.t 20)
    (.seq
    (.ops [
      .op none (.asg 2 (.c (.bool false)))])
    .ret)
    .skip))
  (.seq
  (.seq
  (.ops [
    .op none (.faddr 21 (.t 1) 2 2),
    .op none (.load 22 false 1 (.t 21)),
    .op none (.len 23 false (.t 22)),
    .op none (.mv 24 (.c (.int .i64 0)))])
  (.block 0
    (.loop [2, 4, 25, 26, 27, 28, 29, 30, 31, 32, 33, 34, 35, 36, 37, 38, 39, 40, 41, 42, 43, 44]
      (.seq
      (.ops [
        .op none (.bin 25 .lss (.t 24) (.t 23))])
      (.seq
      (.cond (.t 25)
        .skip
        (.exit 0))
      (.seq
      (.block 1
        (.seq
        (.ops [
          .op none (.iaddr 26 3 (.t 22) (.t 24)),
          .op none (.load 27 true 3 (.t 26)),
          .op none (.alloc 4 (.one (.i (.agg [(.int .i64 0), (.int .i64 0), (.str [])])))),
          .op none (.store 3 (.t 4) (.t 27))])
        (.seq
        (.ops [
          .op none (.faddr 28 (.t 4) 0 0),
          .op none (.load 29 false 1 (.t 28)),
          .call none (some 30) 29 [(false, (.t 29))],
          .op none (.not 31 (.t 30)),
          .op none (.mv 32 (.t 31)),
          .op (some (32, false)) (.faddr 33 (.t 4) 1 1),
          .op (some (32, false)) (.load 34 false 1 (.t 33)),
          .call (some (32, false)) (some 35) 29 [(false, (.t 34))],
          .op (some (32, false)) (.not 36 (.t 35)),
          .op none (.pick 37 (.t 32) (.c (.bool true)) (.t 36)),
          .op none (.mv 38 (.t 37)),
          .op (some (38, false)) (.faddr 39 (.t 4) 2 2),
          .op (some (38, false)) (.load 40 false 1 (.t 39)),
          .op (some (38, false)) (.len 41 true (.t 40)),
          .op (some (38, false)) (.bin 42 .gtr (.t 41) (.c (.int .i64 8192))),
          .op none (.pick 43 (.t 38) (.c (.bool true)) (.t 42))])
        (.cond (.t 43)
          (.seq
          (.ops [
            .op none (.asg 2 (.c (.bool false)))])
          .ret)
          .skip))))
      (.ops [
        .op none (.bin 44 .add (.t 24) (.c (.int .i64 1))),
        .op none (.mv 24 (.t 44))])))))))
  (.seq
  (.ops [
    .op none (.faddr 45 (.t 1) 0 0),
    .op none (.load 46 false 1 (.t 45)),
    .op none (.faddr 47 (.t 1) 1 1),
    .op none (.load 48 false 1 (.t 47)),
    .op none (.faddr 49 (.t 1) 2 2),
    .op none (.load 50 false 1 (.t 49)),
    .call none (some 51) 30 [(false, (.t 46)), (false, (.t 48)), (false, (.t 50))],
    .op none (.asg 2 (.t 51))])
  .ret))))
def rets_slog_Log_right : List Ret := [.t 2]
theorem of_slog_Log_right {args : List SV} {Post : SV → List SV → Prop} (h : wqF Try.prog 52 ir_slog_Log_right rets_slog_Log_right args Post) (hn : args.length ≤ 52) : Fn Try.prog 28 args Post :=
  Fn.of_body' Try.func28 rfl Try.ntmps28 (by kernel_rfl) (by kernel_rfl) hn (wqF_wp h)

theorem ofv_slog_Log_right {args : List SV} {Post : SV → List SV → Prop} (h : wqFV Try.prog 52 ir_slog_Log_right 2 args Post) (hn : args.length ≤ 52) : Fn Try.prog 28 args Post :=
  Fn.of_vec Try.func28 rfl Try.ntmps28 (by kernel_rfl) (by kernel_rfl) (by decide) hn (wqFV_wp h)

/-- exchequer/slog.in · parameters [int] -/
abbrev F_slog_in : FuncId := 29
def ir_slog_in : Stm :=
  (.seq
  (.ops [
    .op none (.asg 2 (.c (.bool false)))])
  (.seq
  (.ops [
    .op none (.mv 3 (.t 0)),
    .op none (.bin 4 .geq (.t 3) (.c (.int .i64 0))),
    .op none (.mv 5 (.t 4)),
    .op (some (5, true)) (.mv 6 (.t 0)),
    .op (some (5, true)) (.bin 7 .leq (.t 6) (.c (.int .i64 1099511627776))),
    .op none (.pick 8 (.t 5) (.t 7) (.c (.bool false))),
    .op none (.asg 2 (.t 8))])
  .ret))
def rets_slog_in : List Ret := [.t 2]
theorem of_slog_in {args : List SV} {Post : SV → List SV → Prop} (h : wqF Try.prog 9 ir_slog_in rets_slog_in args Post) (hn : args.length ≤ 9) : Fn Try.prog 29 args Post :=
  Fn.of_body' Try.func29 rfl Try.ntmps29 (by kernel_rfl) (by kernel_rfl) hn (wqF_wp h)

theorem ofv_slog_in {args : List SV} {Post : SV → List SV → Prop} (h : wqFV Try.prog 9 ir_slog_in 2 args Post) (hn : args.length ≤ 9) : Fn Try.prog 29 args Post :=
  Fn.of_vec Try.func29 rfl Try.ntmps29 (by kernel_rfl) (by kernel_rfl) (by decide) hn (wqFV_wp h)

/-- exchequer/slog.fits · parameters [int, int, []api.Entry] -/
abbrev F_slog_fits : FuncId := 30
def ir_slog_fits : Stm :=
  (.seq
  (.ops [
    .op none (.asg 6 (.c (.bool false)))])
  (.seq
  (.seq
  (.ops [
    .op none (.mv 9 (.t 2)),
    .op none (.len 10 false (.t 9)),
    .op none (.mv 11 (.c (.int .i64 0)))])
  (.block 0
    (.loop [6, 7, 8, 12, 13, 14, 15, 16, 17, 18, 19, 20, 21, 22, 23, 24, 25, 26, 27, 28, 29, 30, 31]
      (.seq
      (.ops [
        .op none (.bin 12 .lss (.t 11) (.t 10))])
      (.seq
      (.cond (.t 12)
        .skip
        (.exit 0))
      (.seq
      (.block 1
        (.seq
        (.ops [
          .op none (.mv 13 (.t 11)),
          .op none (.iaddr 14 3 (.t 9) (.t 11)),
          .op none (.load 15 true 3 (.t 14)),
          .op none (.alloc 8 (.one (.i (.agg [(.int .i64 0), (.int .i64 0), (.str [])])))),
          .op none (.asg 7 (.t 13)),
          .op none (.store 3 (.t 8) (.t 15))])
        (.seq
        (.seq
        (.ops [
          .op none (.faddr 16 (.t 8) 0 0),
          .op none (.load 17 false 1 (.t 16)),
          .op none (.bin 18 .sub (.t 17) (.c (.int .i64 1))),
          .op none (.mv 19 (.t 7)),
          .op none (.bin 20 .sub (.t 18) (.t 19)),
          .op none (.mv 21 (.t 0)),
          .op none (.bin 22 .neq (.t 20) (.t 21)),
          .op none (.mv 23 (.t 22)),
          .op (some (23, false)) (.faddr 24 (.t 8) 1 1),
          .op (some (23, false)) (.load 25 false 1 (.t 24)),
          .op (some (23, false)) (.mv 26 (.t 1)),
          .op (some (23, false)) (.bin 27 .lss (.t 25) (.t 26)),
          .op none (.pick 28 (.t 23) (.c (.bool true)) (.t 27))])
        (.cond (.t 28)
          (.seq
          (.ops [
            .op none (.asg 6 (.c (.bool false)))])
          .ret)
          .skip))
        (.ops [
          .op none (.faddr 29 (.t 8) 1 1),
          .op none (.load 30 false 1 (.t 29)),
          .op none (.asg 1 (.t 30))]))))
      (.ops [
        .op none (.bin 31 .add (.t 11) (.c (.int .i64 1))),
        .op none (.mv 11 (.t 31))])))))))
  (.seq
  (.ops [
    .op none (.asg 6 (.c (.bool true)))])
  .ret)))
def rets_slog_fits : List Ret := [.t 6]
theorem of_slog_fits {args : List SV} {Post : SV → List SV → Prop} (h : wqF Try.prog 32 ir_slog_fits rets_slog_fits args Post) (hn : args.length ≤ 32) : Fn Try.prog 30 args Post :=
  Fn.of_body' Try.func30 rfl Try.ntmps30 (by kernel_rfl) (by kernel_rfl) hn (wqF_wp h)

theorem ofv_slog_fits {args : List SV} {Post : SV → List SV → Prop} (h : wqFV Try.prog 32 ir_slog_fits 6 args Post) (hn : args.length ≤ 32) : Fn Try.prog 30 args Post :=
  Fn.of_vec Try.func30 rfl Try.ntmps30 (by kernel_rfl) (by kernel_rfl) (by decide) hn (wqFV_wp h)

/-- slices.Concat[[]exchequer/api.Entry,exchequer/api.Entry] · parameters [[][]api.Entry] -/
abbrev F_slices_Concat_L_api_Entry_api_Entry : FuncId := 31
def ir_slices_Concat_L_api_Entry_api_Entry : Stm :=
  (.seq
  (.ops [
    .op none (.asg 2 (.nils 36 3))])
  (.seq
  (.ops [
    .op none (.asg 3 (.c (.int .i64 0)))])
  (.seq
  (.seq
  (.ops [
    .op none (.mv 9 (.t 0)),
    .op none (.len 10 false (.t 9)),
    .op none (.mv 11 (.c (.int .i64 0)))])
  (.block 0
    (.loop [5, 12, 13, 14, 15, 16, 17, 18, 19, 20, 21, 22]
      (.seq
      (.ops [
        .op none (.bin 12 .lss (.t 11) (.t 10))])
      (.seq
      (.cond (.t 12)
        .skip
        (.exit 0))
      (.seq
      (.block 1
        (.seq
        (.ops [
          .op none (.iaddr 13 1 (.t 9) (.t 11)),
          .op none (.load 14 false 1 (.t 13)),
          .op none (.asg 5 (.t 14))])
        (.seq
        (.ops [
          .op none (.mv 15 (.t 3)),
          .op none (.mv 16 (.t 5)),
          .op none (.len 17 false (.t 16)),
          .op none (.bin 18 .add (.t 15) (.t 17)),
          .op none (.asg 3 (.t 18))])
        (.seq
        (.ops [
          .op none (.mv 19 (.t 3)),
          .op none (.bin 20 .lss (.t 19) (.c (.int .i64 0)))])
        (.cond (.t 20)
          (.ops [
            .op none (.dead (some 21)),
            .op none (.dead none)])
          .skip)))))
      (.ops [
        .op none (.bin 22 .add (.t 11) (.c (.int .i64 1))),
        .op none (.mv 11 (.t 22))])))))))
  (.seq
  (.ops [
    .op none (.mv 23 (.t 3)),
    .call none (some 24) 35 [(true, (.nils 36 3)), (false, (.t 23))],
    .op none (.asg 6 (.t 24))])
  (.seq
  (.seq
  (.ops [
    .op none (.mv 25 (.t 0)),
    .op none (.len 26 false (.t 25)),
    .op none (.mv 27 (.c (.int .i64 0)))])
  (.block 2
    (.loop [8, 28, 29, 30, 31, 32, 33, 34]
      (.seq
      (.ops [
        .op none (.bin 28 .lss (.t 27) (.t 26))])
      (.seq
      (.cond (.t 28)
        .skip
        (.exit 2))
      (.seq
      (.block 3
        (.seq
        (.ops [
          .op none (.iaddr 29 1 (.t 25) (.t 27)),
          .op none (.load 30 false 1 (.t 29)),
          .op none (.asg 8 (.t 30))])
        (.ops [
          .op none (.mv 31 (.t 6)),
          .op none (.mv 32 (.t 8)),
          .op none (.app 33 36 3 32 (.t 31) (.t 32)),
          .op none (.asg 6 (.t 33))])))
      (.ops [
        .op none (.bin 34 .add (.t 27) (.c (.int .i64 1))),
        .op none (.mv 27 (.t 34))])))))))
  (.seq
  (.ops [
    .op none (.mv 35 (.t 6)),
    .op none (.mov 2 36 3 (.t 35))])
  .ret))))))
def rets_slices_Concat_L_api_Entry_api_Entry : List Ret := [.t 2]
theorem of_slices_Concat_L_api_Entry_api_Entry {args : List SV} {Post : SV → List SV → Prop} (h : wqF Try.prog 36 ir_slices_Concat_L_api_Entry_api_Entry rets_slices_Concat_L_api_Entry_api_Entry args Post) (hn : args.length ≤ 36) : Fn Try.prog 31 args Post :=
  Fn.of_body' Try.func31 rfl Try.ntmps31 (by kernel_rfl) (by kernel_rfl) hn (wqF_wp h)

theorem ofv_slices_Concat_L_api_Entry_api_Entry {args : List SV} {Post : SV → List SV → Prop} (h : wqFV Try.prog 36 ir_slices_Concat_L_api_Entry_api_Entry 2 args Post) (hn : args.length ≤ 36) : Fn Try.prog 31 args Post :=
  Fn.of_vec Try.func31 rfl Try.ntmps31 (by kernel_rfl) (by kernel_rfl) (by decide) hn (wqFV_wp h)

/-- exchequer/exchequerref11.Fits · parameters [int, int, []api.Entry] -/
abbrev F_exchequerref11_Fits : FuncId := 32
def ir_exchequerref11_Fits : Stm :=
  (.seq
  (.ops [
    .op none (.asg 6 (.c (.bool false)))])
  (.seq
  (.seq
  (.ops [
    .op none (.asg 7 (.c (.int .i64 0)))])
  (.block 0
    (.loop [6, 8, 9, 10, 11, 12, 13, 14, 15, 16, 17, 18, 19, 20, 21, 22, 23, 24, 25, 26, 27, 28, 29, 30, 31, 32, 33, 34, 35, 36, 37, 38, 39, 40, 41, 42, 43, 44, 45]
      (.seq
      (.seq
      (.ops [
        .op none (.mv 8 (.t 7)),
        .op none (.mv 9 (.t 2)),
        .op none (.len 10 false (.t 9)),
        .op none (.bin 11 .lss (.t 8) (.t 10))])
      (.cond (.t 11)
        .skip
        (.exit 0)))
      (.seq
      (.block 1
        (.seq
        (.seq
        (.ops [
          .op none (.mv 14 (.t 2)),
          .op none (.mv 15 (.t 7)),
          .op none (.iaddr 16 3 (.t 14) (.t 15)),
          .op none (.faddr 17 (.t 16) 0 0),
          .op none (.load 18 false 1 (.t 17)),
          .op none (.bin 19 .lss (.t 18) (.c (.int .i64 1))),
          .op none (.mv 20 (.t 19)),
          .op (some (20, false)) (.mv 21 (.t 2)),
          .op (some (20, false)) (.mv 22 (.t 7)),
          .op (some (20, false)) (.iaddr 23 3 (.t 21) (.t 22)),
          .op (some (20, false)) (.faddr 24 (.t 23) 0 0),
          .op (some (20, false)) (.load 25 false 1 (.t 24)),
          .op (some (20, false)) (.bin 26 .sub (.t 25) (.c (.int .i64 1))),
          .op (some (20, false)) (.mv 27 (.t 7)),
          .op (some (20, false)) (.bin 28 .sub (.t 26) (.t 27)),
          .op (some (20, false)) (.mv 29 (.t 0)),
          .op (some (20, false)) (.bin 30 .neq (.t 28) (.t 29)),
          .op none (.pick 31 (.t 20) (.c (.bool true)) (.t 30)),
          .op none (.mv 32 (.t 31)),
          .op (some (32, false)) (.mv 33 (.t 2)),
          .op (some (32, false)) (.mv 34 (.t 7)),
          .op (some (32, false)) (.iaddr 35 3 (.t 33) (.t 34)),
          .op (some (32, false)) (.faddr 36 (.t 35) 1 1),
          .op (some (32, false)) (.load 37 false 1 (.t 36)),
          .op (some (32, false)) (.mv 38 (.t 1)),
          .op (some (32, false)) (.bin 39 .lss (.t 37) (.t 38)),
          .op none (.pick 40 (.t 32) (.c (.bool true)) (.t 39))])
        (.cond (.t 40)
          (.seq
          (.ops [
            .op none (.asg 6 (.c (.bool false)))])
          .ret)
          .skip))
        (.ops [
          .op none (.mv 41 (.t 2)),
          .op none (.mv 42 (.t 7)),
          .op none (.iaddr 43 3 (.t 41) (.t 42)),
          .op none (.faddr 44 (.t 43) 1 1),
          .op none (.load 45 false 1 (.t 44)),
          .op none (.asg 1 (.t 45))])))
      (.ops [
        .op none (.mv 12 (.t 7)),
        .op none (.bin 13 .add (.t 12) (.c (.int .i64 1))),
        .op none (.asg 7 (.t 13))]))))))
  (.seq
  (.ops [
    .op none (.asg 6 (.c (.bool true)))])
  .ret)))
def rets_exchequerref11_Fits : List Ret := [.t 6]
theorem of_exchequerref11_Fits {args : List SV} {Post : SV → List SV → Prop} (h : wqF Try.prog 46 ir_exchequerref11_Fits rets_exchequerref11_Fits args Post) (hn : args.length ≤ 46) : Fn Try.prog 32 args Post :=
  Fn.of_body' Try.func32 rfl Try.ntmps32 (by kernel_rfl) (by kernel_rfl) hn (wqF_wp h)

theorem ofv_exchequerref11_Fits {args : List SV} {Post : SV → List SV → Prop} (h : wqFV Try.prog 46 ir_exchequerref11_Fits 6 args Post) (hn : args.length ≤ 46) : Fn Try.prog 32 args Post :=
  Fn.of_vec Try.func32 rfl Try.ntmps32 (by kernel_rfl) (by kernel_rfl) (by decide) hn (wqFV_wp h)

/-- (exchequer/slog.Log).Base · parameters [slog.Log] -/
abbrev F_slog_Log_Base : FuncId := 33
def ir_slog_Log_Base : Stm :=
  (.seq
  (.ops [
    .op none (.box 1 (.t 0)),
    .op none (.asg 2 (.c (.int .i64 0))),
    .op none (.asg 3 (.c (.int .i64 0)))])
  (.seq
  (.drw [[], [0], [], [2], [1, 0], [3, 4, 0, 1, 2]] [
    .op none (.faddr 4 (.t 1) 0 0),
    .op none (.load 5 false 1 (.t 4)),
    .op none (.faddr 6 (.t 1) 1 1),
    .op none (.load 7 false 1 (.t 6)),
    .op none (.asg 2 (.t 5)),
    .op none (.asg 3 (.t 7))])
  .ret))
def rets_slog_Log_Base : List Ret := [.t 2, .t 3]
theorem of_slog_Log_Base {args : List SV} {Post : SV → List SV → Prop} (h : wqF Try.prog 8 ir_slog_Log_Base rets_slog_Log_Base args Post) (hn : args.length ≤ 8) : Fn Try.prog 33 args Post :=
  Fn.of_body' Try.func33 rfl Try.ntmps33 (by kernel_rfl) (by kernel_rfl) hn (wqF_wp h)

/-- (exchequer/exchequerref11.Log).Last · parameters [exchequerref11.Log] -/
abbrev F_exchequerref11_Log_Last : FuncId := 34
def ir_exchequerref11_Log_Last : Stm :=
  (.seq
  (.ops [
    .op none (.box 1 (.t 0)),
    .op none (.asg 2 (.c (.int .i64 0))),
    .op none (.asg 3 (.c (.int .i64 0)))])
  (.seq
  (.seq
  (.ops [
    .op none (.faddr 5 (.t 1) 2 2),
    .op none (.load 6 false 1 (.t 5)),
    .op none (.len 7 false (.t 6)),
    .op none (.bin 8 .eql (.t 7) (.c (.int .i64 0)))])
  (.cond (.t 8)
    (.seq
    (.drw [[], [0], [], [2], [1, 0], [3, 4, 0, 1, 2]] [
      .op none (.faddr 9 (.t 1) 0 0),
      .op none (.load 10 false 1 (.t 9)),
      .op none (.faddr 11 (.t 1) 1 1),
      .op none (.load 12 false 1 (.t 11)),
      .op none (.asg 2 (.t 10)),
      .op none (.asg 3 (.t 12))])
    .ret)
    .skip))
  (.seq
  (.ops [
    .op none (.faddr 13 (.t 1) 2 2),
    .op none (.load 14 false 1 (.t 13)),
    .op none (.faddr 15 (.t 1) 2 2),
    .op none (.load 16 false 1 (.t 15)),
    .op none (.len 17 false (.t 16)),
    .op none (.bin 18 .sub (.t 17) (.c (.int .i64 1))),
    .op none (.iaddr 19 3 (.t 14) (.t 18)),
    .op none (.load 20 true 3 (.t 19)),
    .op none (.alloc 4 (.one (.i (.agg [(.int .i64 0), (.int .i64 0), (.str [])])))),
    .op none (.store 3 (.t 4) (.t 20))])
  (.seq
  (.drw [[], [0], [], [2], [1, 0], [3, 4, 0, 1, 2]] [
    .op none (.faddr 21 (.t 4) 0 0),
    .op none (.load 22 false 1 (.t 21)),
    .op none (.faddr 23 (.t 4) 1 1),
    .op none (.load 24 false 1 (.t 23)),
    .op none (.asg 2 (.t 22)),
    .op none (.asg 3 (.t 24))])
  .ret))))
def rets_exchequerref11_Log_Last : List Ret := [.t 2, .t 3]
theorem of_exchequerref11_Log_Last {args : List SV} {Post : SV → List SV → Prop} (h : wqF Try.prog 25 ir_exchequerref11_Log_Last rets_exchequerref11_Log_Last args Post) (hn : args.length ≤ 25) : Fn Try.prog 34 args Post :=
  Fn.of_body' Try.func34 rfl Try.ntmps34 (by kernel_rfl) (by kernel_rfl) hn (wqF_wp h)

/-- slices.Grow[[]exchequer/api.Entry,exchequer/api.Entry] · parameters [[]api.Entry, int] -/
abbrev F_slices_Grow_L_api_Entry_api_Entry : FuncId := 35
def ir_slices_Grow_L_api_Entry_api_Entry : Stm :=
  (.seq
  (.ops [
    .op none (.asg 4 (.nils 36 3))])
  (.seq
  (.seq
  (.ops [
    .op none (.mv 5 (.t 1)),
    .op none (.bin 6 .lss (.t 5) (.c (.int .i64 0)))])
  (.cond (.t 6)
    (.ops [
      .op none (.dead (some 7)),
      .op none (.dead none)])
    .skip))
  (.seq
  (.seq
  (.ops [
    .op none (.mv 8 (.t 1)),
    .op none (.mv 9 (.t 0)),
    .op none (.dead (some 10)),
    .op none (.mv 11 (.t 0)),
    .op none (.len 12 false (.t 11)),
    .op none (.bin 13 .sub (.t 10) (.t 12)),
    .op none (.bin 14 .sub (.t 8) (.t 13)),
    .op none (.asg 1 (.t 14))])
  (.seq
  (.ops [
    .op none (.mv 15 (.t 1)),
    .op none (.bin 16 .gtr (.t 15) (.c (.int .i64 0)))])
  (.cond (.t 16)
    (.ops [
      .op none (.mv 17 (.t 0)),
      .op none (.mv 18 (.t 0)),
      .op none (.dead (some 19)),
      .op none (.slc 20 false 3 (.t 17) none (some (.t 19))),
      .op none (.mv 21 (.t 1)),
      .op none (.dead (some 22)),
      .op none (.mv 23 (.t 0)),
      .op none (.len 24 false (.t 23)),
      .op none (.slc 25 false 3 (.t 22) none (some (.t 24))),
      .op none (.asg 0 (.t 25))])
    .skip)))
  (.seq
  (.ops [
    .op none (.mv 26 (.t 0)),
    .op none (.mov 4 36 3 (.t 26))])
  .ret))))
def rets_slices_Grow_L_api_Entry_api_Entry : List Ret := [.t 4]
theorem of_slices_Grow_L_api_Entry_api_Entry {args : List SV} {Post : SV → List SV → Prop} (h : wqF Try.prog 27 ir_slices_Grow_L_api_Entry_api_Entry rets_slices_Grow_L_api_Entry_api_Entry args Post) (hn : args.length ≤ 27) : Fn Try.prog 35 args Post :=
  Fn.of_body' Try.func35 rfl Try.ntmps35 (by kernel_rfl) (by kernel_rfl) hn (wqF_wp h)

theorem ofv_slices_Grow_L_api_Entry_api_Entry {args : List SV} {Post : SV → List SV → Prop} (h : wqFV Try.prog 27 ir_slices_Grow_L_api_Entry_api_Entry 4 args Post) (hn : args.length ≤ 27) : Fn Try.prog 35 args Post :=
  Fn.of_vec Try.func35 rfl Try.ntmps35 (by kernel_rfl) (by kernel_rfl) (by decide) hn (wqFV_wp h)

end Go.Ab
