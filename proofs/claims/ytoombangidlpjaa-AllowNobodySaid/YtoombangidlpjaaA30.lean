/- One text of the proof whose last text says what is proved. -/
import Derived.Test.YtoombangidlpjaaA0
import Derived.Test.YtoombangidlpjaaA20
set_option linter.unusedVariables false
set_option linter.unusedSimpArgs false
set_option maxRecDepth 100000
namespace Go.Ab
open Go.Proofs
abbrev ZC : List I := [(.int .i64 0), (.int .i64 0), (.str []), (.int .i64 0), (.str []), (.str []), (.str []), (.str []), (.int .i64 0), (.int .i64 0), (.agg [(.agg [(.str []), (.str [])]), (.bool false), (.bool false)]), (.int .i64 0), (.list []), (.list []), (.list [])]
/-- exchequer/exchequerlaw16.AllowNobody · parameters [[]api.Cmd, api.Cmd, exchequerlaw16.Ask] -/
abbrev F_exchequerlaw16_AllowNobody : FuncId := 6
def ir_exchequerlaw16_AllowNobody : Stm :=
 (.seq
 (.ops [
 O1 (.box 4 (.t 1)), O1 (.box 5 (.t 2)), O1 (.asg 6 (.c (.bool false)))])
 (.seq
 (.seq
 (.ops [ .call none (some 18) 7 [], O1 (.not 19 (.t 18))])
 (.cond (.t 19)
 (.seq
 (.ops [
 O1 (.asg 6 (.c (.bool false)))])
 .ret)
 .skip))
 (.seq
 (.ops [
 O1 (.mv 21 (.t 0)), .call none (some 22) 8 [(false, (.t 21))], O1 (.asg 20 (.t 22)), O1 (.ext 23 (.t 20) 0), O1 (.ext 24 (.t 20) 1), O1 (.alloc 7 (.one (.i (.agg [(.int .i64 0), (.list []), (.list []), (.list [])])))), O1 (.store 4 (.t 7) (.t 23)), O1 (.asg 8 (.t 24))])
 (.seq
 (.seq
 (.ops [
 O1 (.load 26 true 18 (.t 4)), O1 (.bsl 27 49 18 (.agg ZC) 1 [(0, (.t 26))]), .call none (some 28) 8 [(false, (.t 27))], O1 (.asg 25 (.t 28)), O1 (.ext 29 (.t 25) 0), O1 (.ext 30 (.t 25) 1), O1 (.alloc 9 (.one (.i (.agg [(.int .i64 0), (.list []), (.list []), (.list [])])))), O1 (.store 4 (.t 9) (.t 29)), O1 (.asg 10 (.t 30))])
 (.seq
 (.ops [
 O1 (.mv 31 (.t 8)), O1 (.not 32 (.t 31)), O1 (.mv 33 (.t 32)), .op (some (33, false)) (.mv 34 (.t 10)), .op (some (33, false)) (.not 35 (.t 34)), O1 (.pick 36 (.t 33) (.c (.bool true)) (.t 35)), O1 (.mv 37 (.t 36)), .op (some (37, false)) (.load 38 true 3 (.t 5)), .call (some (37, false)) (some 39) 9 [(false, (.t 38))], O1 (.pick 40 (.t 37) (.c (.bool true)) (.t 39))])
 (.cond (.t 40)
 (.seq
 (.ops [
 O1 (.asg 6 (.c (.bool true)))])
 .ret)
 .skip)))
 (.seq
 (.ops [
 O1 (.build 41 [(.str []), (.str [])] [(0, (.c (.str [97]))), (1, (.c (.str [98])))]), O1 (.bsl 42 41 2 (.agg [(.str []), (.str [])]) 1 [(0, (.t 41))]), O1 (.asg 11 (.t 42))])
 (.seq
 (.seq
 (.ops [
 O1 (.load 43 true 4 (.t 7)), O1 (.mv 44 (.t 11)), .call none (some 45) 14 [(false, (.t 43)), (false, (.c (.str [114, 111, 111, 116]))), (false, (.t 44)), (false, (.nils 41 2))], O1 (.mv 46 (.t 45)), .op (some (46, false)) (.load 47 true 4 (.t 7)), .op (some (46, false)) (.mv 48 (.t 11)), .call (some (46, false)) (some 49) 14 [(false, (.t 47)), (false, (.c (.str [114, 111, 111, 116]))), (false, (.nils 41 2)), (false, (.t 48))], O1 (.pick 50 (.t 46) (.c (.bool true)) (.t 49)), O1 (.mv 51 (.t 50)), .op (some (51, false)) (.load 52 true 4 (.t 7)), .op (some (51, false)) (.mv 53 (.t 11)), .call (some (51, false)) (some 54) 14 [(false, (.t 52)), (false, (.c (.str [78, 111, 98, 111, 100, 121]))), (false, (.t 53)), (false, (.nils 41 2))], O1 (.pick 55 (.t 51) (.c (.bool true)) (.t 54)), O1 (.mv 56 (.t 55)), .op (some (56, false)) (.load 57 true 4 (.t 7)), .call (some (56, false)) (some 58) 14 [(false, (.t 57)), (false, (.c (.str [78, 111, 98, 111, 100, 121]))), (false, (.nils 41 2)), (false, (.nils 41 2))], .op (some (56, false)) (.not 59 (.t 58)), O1 (.pick 60 (.t 56) (.c (.bool true)) (.t 59)), O1 (.mv 61 (.t 60)), .op (some (61, false)) (.load 62 true 4 (.t 7)), .call (some (61, false)) (some 63) 11 [(false, (.t 62)), (false, (.c (.str [114, 111, 111, 116]))), (false, (.c (.bool true)))], .op (some (61, false)) (.len 64 false (.t 63)), .op (some (61, false)) (.bin 65 .neq (.t 64) (.c (.int .i64 0))), O1 (.pick 66 (.t 61) (.c (.bool true)) (.t 65))])
 (.cond (.t 66)
 (.seq
 (.ops [
 O1 (.asg 6 (.c (.bool false)))])
 .ret)
 .skip))
 (.seq
 (.seq
 (.ops [
 O1 (.build 67 ZC [(3, (.c (.int .i64 4))), (4, (.c (.str [122, 122])))]), O1 (.build 68 ZC [(3, (.c (.int .i64 9))), (4, (.c (.str [122, 114]))), (5, (.c (.str [122, 122])))]), O1 (.bsl 69 49 18 (.agg ZC) 2 [(0, (.t 67)), (1, (.t 68))]), O1 (.len 70 false (.t 69)), O1 (.mv 71 (.c (.int .i64 0)))])
 (.block 0
 (.loop [13, 21, 44, 48, 53, 72, 73, 74, 75, 76, 77, 78, 79, 80, 81]
 (.seq
 (.ops [
 O1 (.bin 72 .lss (.t 71) (.t 70))])
 (.seq
 (.cond (.t 72)
 .skip
 (.exit 0))
 (.seq
 (.block 1
 (.seq
 (.ops [
 O1 (.iaddr 73 18 (.t 69) (.t 71)), O1 (.load 74 true 18 (.t 73)), O1 (.alloc 13 (.one (.i (.agg ZC)))), O1 (.store 18 (.t 13) (.t 74))])
 (.ops [
 O1 (.load 76 true 4 (.t 7)), O1 (.load 77 true 18 (.t 13)), .call none (some 78) 17 [(false, (.t 76)), (false, (.t 77))], O1 (.asg 75 (.t 78)), O1 (.ext 79 (.t 75) 0), O1 (.ext 80 (.t 75) 1), O1 (.store 4 (.t 7) (.t 79))])))
 (.ops [
 O1 (.bin 81 .add (.t 71) (.c (.int .i64 1))), O1 (.mv 71 (.t 81))])))))))
 (.seq
 (.seq
 (.ops [
 O1 (.load 82 true 4 (.t 7)), .call none (some 83) 18 [(false, (.t 82)), (false, (.c (.str [122, 114])))], O1 (.asg 14 (.t 83))])
 (.seq
 (.ops [
 O1 (.mv 84 (.t 14)), O1 (.bin 85 .lss (.t 84) (.c (.int .i64 0))), O1 (.mv 86 (.t 85)), .op (some (86, false)) (.faddr 87 (.t 7) 3 3), .op (some (86, false)) (.load 88 false 1 (.t 87)), .op (some (86, false)) (.mv 89 (.t 14)), .op (some (86, false)) (.iaddr 90 3 (.t 88) (.t 89)), .op (some (86, false)) (.faddr 91 (.t 90) 1 1), .op (some (86, false)) (.load 92 false 1 (.t 91)), .op (some (86, false)) (.bin 93 .neq (.t 92) (.c (.str [122, 122]))), O1 (.pick 94 (.t 86) (.c (.bool true)) (.t 93))])
 (.cond (.t 94)
 (.seq
 (.ops [
 O1 (.asg 6 (.c (.bool true)))])
 .ret)
 .skip)))
 (.seq
 (.ops [
 O1 (.load 95 true 4 (.t 7)), O1 (.faddr 96 (.t 5) 0 0), O1 (.load 97 false 1 (.t 96)), .call none (some 98) 19 [(false, (.t 95)), (false, (.t 97))], O1 (.asg 15 (.t 98))])
 (.seq
 (.seq
 (.ops [
 O1 (.mv 99 (.t 15)), O1 (.bin 100 .lss (.t 99) (.c (.int .i64 0))), O1 (.mv 101 (.t 100)), .op (some (101, false)) (.faddr 102 (.t 7) 2 2), .op (some (101, false)) (.load 103 false 1 (.t 102)), .op (some (101, false)) (.mv 104 (.t 15)), .op (some (101, false)) (.iaddr 105 5 (.t 103) (.t 104)), .op (some (101, false)) (.faddr 106 (.t 105) 1 1), .op (some (101, false)) (.load 107 false 1 (.t 106)), .op (some (101, false)) (.bin 108 .eql (.t 107) (.c (.str [122, 122]))), O1 (.pick 109 (.t 101) (.c (.bool true)) (.t 108))])
 (.cond (.t 109)
 (.seq
 (.ops [
 O1 (.asg 6 (.c (.bool true)))])
 .ret)
 .skip))
 (.seq
 (.ops [
 O1 (.load 111 true 4 (.t 7)), O1 (.faddr 112 (.t 4) 10 10), O1 (.load 113 true 4 (.t 112)), O1 (.build 114 ZC [(3, (.c (.int .i64 11))), (4, (.c (.str [122, 114]))), (10, (.t 113))]), .call none (some 115) 17 [(false, (.t 111)), (false, (.t 114))], O1 (.asg 110 (.t 115)), O1 (.ext 116 (.t 110) 0), O1 (.ext 117 (.t 110) 1), O1 (.alloc 16 (.one (.i (.agg [(.int .i64 0), (.list []), (.list []), (.list [])])))), O1 (.store 4 (.t 16) (.t 116)), O1 (.asg 17 (.t 117))])
 (.seq
 (.ops [
 O1 (.load 119 true 4 (.t 16)), O1 (.faddr 120 (.t 5) 0 0), O1 (.load 121 false 1 (.t 120)), O1 (.build 122 ZC [(3, (.c (.int .i64 13))), (4, (.t 121)), (5, (.c (.str [122, 114])))]), .call none (some 123) 17 [(false, (.t 119)), (false, (.t 122))], O1 (.asg 118 (.t 123)), O1 (.ext 124 (.t 118) 0), O1 (.ext 125 (.t 118) 1), O1 (.store 4 (.t 16) (.t 124))])
 (.seq
 (.drw [[], [], [1], [], [3], [], [5], [0, 2, 4, 6], [], [], [9], [], [11], [], [13], [8, 10, 12, 14, 7], [7, 15], [16, 15, 0, 1, 2, 3, 4, 5, 6, 7, 8, 9, 10, 11, 12, 13, 14]] [
 O1 (.load 126 true 4 (.t 16)), O1 (.faddr 127 (.t 5) 0 0), O1 (.load 128 false 1 (.t 127)), O1 (.faddr 129 (.t 5) 1 1), O1 (.load 130 false 1 (.t 129)), O1 (.faddr 131 (.t 5) 2 2), O1 (.load 132 false 1 (.t 131)), .call none (some 133) 14 [(false, (.t 126)), (false, (.t 128)), (false, (.t 130)), (false, (.t 132))], O1 (.load 134 true 4 (.t 7)), O1 (.faddr 135 (.t 5) 0 0), O1 (.load 136 false 1 (.t 135)), O1 (.faddr 137 (.t 5) 1 1), O1 (.load 138 false 1 (.t 137)), O1 (.faddr 139 (.t 5) 2 2), O1 (.load 140 false 1 (.t 139)), .call none (some 141) 14 [(false, (.t 134)), (false, (.t 136)), (false, (.t 138)), (false, (.t 140))], O1 (.eqs 142 false .bool (.t 133) (.t 141)), O1 (.asg 6 (.t 142))])
 .ret)))))))))))))
def rets_exchequerlaw16_AllowNobody : List Ret := [.t 6]
theorem of_exchequerlaw16_AllowNobody {args : List SV} {Post : SV → List SV → Prop} (h : wqF Try.prog 143 ir_exchequerlaw16_AllowNobody rets_exchequerlaw16_AllowNobody args Post) (hn : args.length ≤ 143) : Fn Try.prog 6 args Post :=
 Fn.of_body' Try.func6 rfl Try.ntmps6 (by kernel_rfl) (by kernel_rfl) hn (wqF_wp h)
end Go.Ab

set_option maxRecDepth 100000
set_option maxHeartbeats 4000000
namespace Go.Ab
open Go.Proofs

theorem findAt_names {α : Type} (nm : α → Str) (n : Str) : ∀ (k : Nat) (l : List α), findAt (fun t => decide (nm t = n)) k l = findAt (fun s : Str => decide (s = n)) k (l.map nm)
  | _, [] => rfl
  | k, a :: r => by
    simp only [List.map_cons, findAt]
    rw [findAt_names nm n (k + 1) r]
theorem names_set {α : Type} {nm : α → Str} {l : List α} {j : Nat} {x y : α} (h : l[j]? = some x) (hn : nm y = nm x) : (l.set j y).map nm = l.map nm := by
  rw [List.map_set]
  apply List.ext_getElem?
  intro i
  by_cases hi : j = i
  · subst hi
    have hj := (List.getElem?_eq_some_iff.1 h).1
    rw [List.getElem?_set_self (by simpa using hj), List.getElem?_map, h, hn]
    rfl
  · rw [List.getElem?_set_ne hi]
theorem findAt_set {α : Type} {nm : α → Str} {l : List α} {j : Nat} {x y : α} (h : l[j]? = some x) (hn : nm y = nm x) (n : Str) (k : Nat) :
    findAt (fun t => decide (nm t = n)) k (l.set j y) = findAt (fun t => decide (nm t = n)) k l := by
  rw [findAt_names nm n k (l.set j y), findAt_names nm n k l, names_set h hn]
theorem anyH_all {r : Roll} {u : Str} {w : Bool} {k : Str} : AnyH (allM r u w) k ↔ ∃ n ∈ rolesOf r u, ∃ g ∈ grantsOf r n, gsel w g = true ∧ SpR g.sp ∧ SpH g.sp k := by
  unfold AnyH allM spansOf
  constructor
  · rintro ⟨s, hs, h1, h2⟩
    obtain ⟨n, hn, hs⟩ := List.mem_flatMap.1 hs
    obtain ⟨g, hg, rfl⟩ := List.mem_map.1 hs
    obtain ⟨hg1, hg2⟩ := List.mem_filter.1 hg
    exact ⟨n, hn, g, hg1, hg2, h1, h2⟩
  · rintro ⟨n, hn, g, hg, hw, h1, h2⟩
    exact ⟨g.sp, List.mem_flatMap.2 ⟨n, hn, List.mem_map.2 ⟨g, List.mem_filter.2 ⟨hg, hw⟩, rfl⟩⟩, h1, h2⟩
theorem rCov_mono {l l' : List Sp} (h : ∀ k, AnyH l k → AnyH l' k) {s : Sp} (hc : RCov l s) : RCov l' s := by
  rw [rCov_iff] at hc ⊢
  exact ⟨hc.1, fun k hk => h k (hc.2 k hk)⟩
theorem mayM_mono {r r' : Roll} {u : Str} (h : ∀ w k, AnyH (allM r u w) k → AnyH (allM r' u w) k) {a c : List Sp} (hm : mayM r u a c = true) : mayM r' u a c = true := by
  unfold mayM at hm ⊢
  rw [Bool.and_eq_true, List.all_eq_true, List.all_eq_true] at hm ⊢
  exact ⟨fun s hs => decide_eq_true (rCov_mono (h false) (of_decide_eq_true (hm.1 s hs))), fun s hs => decide_eq_true (rCov_mono (h true) (of_decide_eq_true (hm.2 s hs)))⟩
def Less (r r' : Roll) : Prop := (∀ u, ∀ n ∈ rolesOf r u, n ∈ rolesOf r' u) ∧ ∀ n, ∀ g ∈ grantsOf r n, g ∈ grantsOf r' n
theorem less_may {r r' : Roll} (h : Less r r') {u : Str} {a c : List Sp} (hm : mayM r u a c = true) : mayM r' u a c = true :=
  mayM_mono (fun w k => by
    rw [anyH_all, anyH_all]
    rintro ⟨n, hn, g, hg, h1⟩
    exact ⟨n, h.1 u n hn, g, h.2 n g hg, h1⟩) hm
theorem grants_set {r : Roll} {j : Nat} {x y : Rol} (h : r.rols[j]? = some x) (hn : y.name = x.name) (rev : Int) (n : Str) :
    grantsOf { r with rev := rev, rols := r.rols.set j y } n = if r.rolAt n = (j : Int) then y.grants else grantsOf r n := by
  have hr : Roll.rolAt { r with rev := rev, rols := r.rols.set j y } n = r.rolAt n := findAt_set (nm := Rol.name) h hn n 0
  have hj := (List.getElem?_eq_some_iff.1 h).1
  unfold grantsOf
  rw [hr]
  by_cases h0 : r.rolAt n < 0
  · rw [if_pos h0, if_neg (by omega), if_pos h0]
  · rw [if_neg h0, if_neg h0]
    by_cases he : r.rolAt n = (j : Int)
    · rw [if_pos he, he, Int.toNat_natCast]
      dsimp only
      rw [List.getElem?_set_self hj]
    · rw [if_neg he]
      dsimp only
      rw [List.getElem?_set_ne (by omega)]
theorem roles_set {r : Roll} {j : Nat} {x y : Usr} (h : r.usrs[j]? = some x) (hn : y.name = x.name) (rev : Int) (u : Str) :
    rolesOf { r with rev := rev, usrs := r.usrs.set j y } u = if r.usrAt u = (j : Int) then y.roles else rolesOf r u := by
  have hr : Roll.usrAt { r with rev := rev, usrs := r.usrs.set j y } u = r.usrAt u := findAt_set (nm := Usr.name) h hn u 0
  have hj := (List.getElem?_eq_some_iff.1 h).1
  unfold rolesOf
  rw [hr]
  by_cases h0 : r.usrAt u < 0
  · rw [if_pos h0, if_neg (by omega), if_pos h0]
  · rw [if_neg h0, if_neg h0]
    by_cases he : r.usrAt u = (j : Int)
    · rw [if_pos he, he, Int.toNat_natCast]
      dsimp only
      rw [List.getElem?_set_self hj]
    · rw [if_neg he]
      dsimp only
      rw [List.getElem?_set_ne (by omega)]
theorem less_refl (r : Roll) : Less r r := ⟨fun _ _ h => h, fun _ _ h => h⟩
theorem grant_less (r : Roll) (c : Cmd) : Less r (grantM r c).1 := by
  unfold grantM
  repeat' split
  all_goals first | exact less_refl r | skip
  rename_i h0 _ x hx _ _
  have hx' : r.rols[(r.rolAt c.name).toNat]? = some x := hx
  refine ⟨fun u n h => h, fun n g hg => ?_⟩
  show g ∈ grantsOf _ n
  refine (congrArg (g ∈ ·) (grants_set (y := { x with grants := x.grants ++ [c.grant] }) hx' rfl (r.rev + 1) n)).mpr ?_
  dsimp only
  split
  · rename_i he
    unfold grantsOf at hg
    rw [if_neg (by omega), he, Int.toNat_natCast, hx'] at hg
    exact List.mem_append_left _ hg
  · exact hg
theorem have_less (r : Roll) (c : Cmd) (hk : c.kind = 13) : Less r (haveM r c).1 := by
  unfold haveM
  repeat' split
  all_goals first | exact less_refl r | (exfalso; omega) | skip
  rename_i h0 _ x hx _ _ _ _ _ _ _ _
  have hx' : r.usrs[(r.usrAt c.name).toNat]? = some x := hx
  refine ⟨fun u n hn => ?_, fun n g hg => hg⟩
  show n ∈ rolesOf _ u
  refine (congrArg (n ∈ ·) (roles_set (y := { x with roles := insBy (fun e => decide (c.other < e)) c.other x.roles }) hx' rfl (r.rev + 1) u)).mpr ?_
  dsimp only
  split
  · rename_i he
    unfold rolesOf at hn
    rw [if_neg (by omega), he, Int.toNat_natCast, hx'] at hn
    exact insBy_mem.2 (.inr hn)
  · exact hn
theorem next_less (r : Roll) (c : Cmd) (hk : c.kind = 11 ∨ c.kind = 13) : Less r (next r c) := by
  unfold next doM
  rw [if_neg (by omega)]
  split
  · exact less_refl r
  rw [if_neg (by omega), if_neg (by omega), if_neg (by omega), if_neg (by omega), if_neg (by omega), if_neg (by omega), if_neg (by omega)]
  rcases hk with hk | hk
  · rw [if_pos hk]; exact grant_less r c
  · rw [if_neg (by omega), if_neg (by omega)]; exact have_less r c hk
end Go.Ab


set_option maxRecDepth 100000
set_option maxHeartbeats 4000000
namespace Go.Ab
open Go.Proofs

abbrev rootN : Str := [114, 111, 111, 116]
def tenOf (l : List Rol) (n : Str) : Option Str := (l.find? fun x => decide (x.name = n)).map Rol.ten
structure Roll.Inv (r : Roll) : Prop where
  hT : ∀ t ∈ r.tens, t.name ≠ []
  hX : ∀ x ∈ r.rols, x.ten ≠ []
  hR : ∀ u ∈ r.usrs, ∀ n ∈ u.roles, tenOf r.rols n = some u.ten
  hN : ∀ u ∈ r.usrs, nameM u.name = true
  hO : ∀ u ∈ r.usrs, u.name = rootN → u.ten = []
  hP : rootN ∈ r.usrs.map Usr.name
theorem find_insBy {α : Type} {p gt : α → Bool} {x : α} (h : p x = false) : ∀ l : List α, (insBy gt x l).find? p = l.find? p
  | [] => by simp [insBy, h]
  | a :: r => by
    unfold insBy
    split
    · simp [List.find?_cons, h]
    · simp only [List.find?_cons]
      split
      · rfl
      · exact find_insBy h r
theorem cut_eq {α : Type} {l : List α} {j : Nat} {x : α} (h : l[j]? = some x) : l = l.take j ++ x :: l.drop (j + 1) := by
  obtain ⟨hj, hx⟩ := List.getElem?_eq_some_iff.1 h
  rw [← hx, ← List.drop_eq_getElem_cons hj, List.take_append_drop]
theorem find_cut {α : Type} {p : α → Bool} {l : List α} {j : Nat} {x : α} (h : l[j]? = some x) (hp : p x = false) : (l.take j ++ l.drop (j + 1)).find? p = l.find? p := by
  conv => rhs; rw [cut_eq h]
  simp [List.find?_append, List.find?_cons, hp]
theorem mem_cut {α : Type} {l : List α} {j : Nat} {x u : α} (h : l[j]? = some x) (hu : u ∈ l) (hne : u ≠ x) : u ∈ l.take j ++ l.drop (j + 1) := by
  rw [cut_eq h] at hu
  rcases List.mem_append.1 hu with h1 | h1
  · exact List.mem_append_left _ h1
  · rcases List.mem_cons.1 h1 with h2 | h2
    · exact absurd h2 hne
    · exact List.mem_append_right _ h2
theorem mem_of_cut {α : Type} {l : List α} {j : Nat} {u : α} (h : u ∈ l.take j ++ l.drop (j + 1)) : u ∈ l := by
  rcases List.mem_append.1 h with h | h
  · exact List.mem_of_mem_take h
  · exact List.mem_of_mem_drop h
theorem maps_set {α β : Type} {nm : α → β} {l : List α} {j : Nat} {x y : α} (h : l[j]? = some x) (hn : nm y = nm x) : (l.set j y).map nm = l.map nm := by
  rw [List.map_set]
  apply List.ext_getElem?
  intro i
  by_cases hi : j = i
  · subst hi
    have hj := (List.getElem?_eq_some_iff.1 h).1
    rw [List.getElem?_set_self (by simpa using hj), List.getElem?_map, h, hn]
    rfl
  · rw [List.getElem?_set_ne hi]
theorem names_keep {α β : Type} {nm : α → β} {l : List α} {j : Nat} {x y : α} {n : β} (h : l[j]? = some x) (hn : nm y = nm x) (hp : n ∈ l.map nm) : n ∈ (l.set j y).map nm := by
  rw [maps_set h hn]; exact hp
theorem tenOf_map (n : Str) : ∀ l : List Rol, tenOf l n = ((l.map fun x => (x.name, x.ten)).find? fun q => decide (q.1 = n)).map Prod.snd
  | [] => rfl
  | a :: r => by
    have h := tenOf_map n r
    unfold tenOf at h ⊢
    simp only [List.map_cons, List.find?_cons]
    by_cases hn : a.name = n
    · simp [hn]
    · simp [hn, h]
theorem tenOf_set {l : List Rol} {j : Nat} {x y : Rol} (h : l[j]? = some x) (hn : y.name = x.name) (ht : y.ten = x.ten) (n : Str) : tenOf (l.set j y) n = tenOf l n := by
  rw [tenOf_map, tenOf_map, maps_set (nm := fun x : Rol => (x.name, x.ten)) h (show (y.name, y.ten) = (x.name, x.ten) by rw [hn, ht])]
theorem tenOf_keep {l : List Rol} {j : Nat} {x y : Rol} {n : Str} {t : Option Str} (h : l[j]? = some x) (hn : y.name = x.name) (ht : y.ten = x.ten) (hq : tenOf l n = t) : tenOf (l.set j y) n = t := (tenOf_set h hn ht n).trans hq
theorem findAt_some {α : Type} {p : α → Bool} {l : List α} (h : ¬ findAt p 0 l < 0) : ∃ x, l[(findAt p 0 l).toNat]? = some x ∧ p x = true ∧ l.find? p = some x := by
  rcases findAt_find p 0 l with ⟨h1, _⟩ | ⟨j, h1, h2, h3⟩
  · exact absurd (by rw [h1]; decide) h
  · have h4 : l[j]? = some l[j] := List.getElem?_eq_getElem h2
    rw [h1, Nat.zero_add, Int.toNat_natCast]
    exact ⟨_, h4, List.find?_some (by rw [h3, h4]), by rw [h3, h4]⟩
theorem findAt_none {α : Type} {p : α → Bool} {l : List α} (h : findAt p 0 l < 0) : ∀ x ∈ l, p x = false := by
  rcases findAt_find p 0 l with ⟨_, h2⟩ | ⟨j, h1, _⟩
  · intro x hx
    have := List.find?_eq_none.1 h2 x hx
    simpa using this
  · rw [h1] at h; omega
theorem tenOf_at {r : Roll} {n : Str} {x : Rol} (h : ¬ r.rolAt n < 0) (hx : r.rols[(r.rolAt n).toNat]? = some x) : tenOf r.rols n = some x.ten := by
  obtain ⟨y, h1, h2, h3⟩ := findAt_some h
  rw [hx] at h1
  cases h1
  unfold tenOf
  rw [h3]; rfl
theorem nameM_ne {s : Str} (h : nameM s = true) : s ≠ [] := by
  rintro rfl
  exact absurd h (by rw [show nameM [] = false by kernel_rfl]; decide)
theorem doM_inv {r : Roll} (hf : r.Inv) (c : Cmd) : (doM r c).1.Inv := by
  obtain ⟨hT, hX, hR, hN, hO, hP⟩ := hf
  unfold doM
  split
  · exact ⟨hT, hX, hR, hN, hO, hP⟩
  split
  · exact ⟨hT, hX, hR, hN, hO, hP⟩
  split
  · unfold tenantM
    repeat' split
    all_goals first | exact ⟨hT, hX, hR, hN, hO, hP⟩ | skip
    refine ⟨?_, hX, hR, hN, hO, hP⟩
    intro t ht
    rcases insBy_mem.1 ht with rfl | ht
    · rename_i h _ _ _ _; exact nameM_ne (by simpa using h)
    · exact hT t ht
  split
  · unfold quotaM
    repeat' split
    all_goals first | exact ⟨hT, hX, hR, hN, hO, hP⟩ | skip
    rename_i h
    refine ⟨?_, hX, hR, hN, hO, hP⟩
    intro t ht
    rcases set_mem ht with rfl | ht
    · obtain ⟨y, h1, h2, _⟩ := findAt_some h
      have := hT y (List.mem_of_getElem? h1)
      rw [of_decide_eq_true h2] at this
      exact this
    · exact hT t ht
  split
  · unfold userM
    repeat' split
    all_goals first | exact ⟨hT, hX, hR, hN, hO, hP⟩ | skip
    rename_i hn _ _ hu _ _
    refine ⟨hT, hX, ?_, ?_, ?_, ?_⟩
    · intro u hu
      rcases insBy_mem.1 hu with rfl | hu
      · simp
      · exact hR u hu
    · intro u hu
      rcases insBy_mem.1 hu with rfl | hu
      · simpa using hn
      · exact hN u hu
    · intro u hu'
      rcases insBy_mem.1 hu' with rfl | hu'
      · intro he
        obtain ⟨v, hv, hv2⟩ := List.mem_map.1 hP
        have := findAt_none (show r.usrAt c.name < 0 by omega) v hv
        rw [decide_eq_false_iff_not] at this
        exact absurd (hv2.trans he.symm) this
      · exact hO u hu'
    · obtain ⟨v, hv, hv2⟩ := List.mem_map.1 hP
      exact List.mem_map.2 ⟨v, insBy_mem.2 (.inr hv), hv2⟩
  split
  · unfold wordM
    repeat' split
    all_goals first | exact ⟨hT, hX, hR, hN, hO, hP⟩ | skip
    rename_i u hu
    refine ⟨hT, hX, ?_, ?_, ?_, ?_⟩
    · intro v hv
      rcases set_mem hv with rfl | hv
      · exact hR u (List.mem_of_getElem? hu)
      · exact hR v hv
    · intro v hv
      rcases set_mem hv with rfl | hv
      · exact hN u (List.mem_of_getElem? hu)
      · exact hN v hv
    · intro v hv
      rcases set_mem hv with rfl | hv
      · exact hO u (List.mem_of_getElem? hu)
      · exact hO v hv
    · exact names_keep hu rfl hP
  split
  · unfold leaveM
    repeat' split
    all_goals first | exact ⟨hT, hX, hR, hN, hO, hP⟩ | skip
    rename_i h hr
    refine ⟨hT, hX, fun u hu => hR u (mem_of_cut hu), fun u hu => hN u (mem_of_cut hu), fun u hu => hO u (mem_of_cut hu), ?_⟩
    obtain ⟨v, hv, hv2⟩ := List.mem_map.1 hP
    obtain ⟨y, h1, h2, _⟩ := findAt_some h
    refine List.mem_map.2 ⟨v, mem_cut h1 hv ?_, hv2⟩
    rintro rfl
    exact hr ((of_decide_eq_true h2).symm.trans hv2)
  split
  · unfold roleM
    repeat' split
    all_goals first | exact ⟨hT, hX, hR, hN, hO, hP⟩ | skip
    rename_i _ hn ht _
    refine ⟨hT, ?_, ?_, hN, hO, hP⟩
    · intro x hx
      rcases insBy_mem.1 hx with rfl | hx
      · obtain ⟨y, h1, h2, _⟩ := findAt_some ht
        have := hT y (List.mem_of_getElem? h1)
        rw [of_decide_eq_true h2] at this
        exact this
      · exact hX x hx
    · intro u hu n hn'
      have h1 := hR u hu n hn'
      dsimp only
      have hne : n ≠ c.name := by
        rintro rfl
        have h2 := findAt_none (show r.rolAt c.name < 0 by omega)
        unfold tenOf at h1
        rw [List.find?_eq_none.2 (fun x hx => by simpa using h2 x hx)] at h1
        cases h1
      unfold tenOf at h1 ⊢
      rw [find_insBy (p := fun x : Rol => decide (x.name = n)) (decide_eq_false fun h : c.name = n => hne h.symm)]
      exact h1
  split
  · unfold dropM
    repeat' split
    all_goals first | exact ⟨hT, hX, hR, hN, hO, hP⟩ | skip
    rename_i h
    obtain ⟨y, h1, h2, _⟩ := findAt_some h
    refine ⟨hT, fun x hx => hX x (mem_of_cut hx), ?_, ?_, ?_, ?_⟩
    · intro v hv n hn
      obtain ⟨u, hu, rfl⟩ := List.mem_map.1 hv
      obtain ⟨h3, h4⟩ := List.mem_filter.1 hn
      have h5 := hR u hu n h3
      have hne : n ≠ c.name := by simpa using h4
      unfold tenOf at h5 ⊢
      dsimp only
      rw [find_cut (p := fun x : Rol => decide (x.name = n)) h1 (decide_eq_false fun h : y.name = n => hne (h.symm.trans (of_decide_eq_true h2)))]
      exact h5
    · intro v hv
      obtain ⟨u, hu, rfl⟩ := List.mem_map.1 hv
      exact hN u hu
    · intro v hv
      obtain ⟨u, hu, rfl⟩ := List.mem_map.1 hv
      exact hO u hu
    · obtain ⟨v, hv, hv2⟩ := List.mem_map.1 hP
      exact List.mem_map.2 ⟨_, List.mem_map.2 ⟨v, hv, rfl⟩, hv2⟩
  split
  · unfold grantM
    repeat' split
    all_goals first | exact ⟨hT, hX, hR, hN, hO, hP⟩ | skip
    rename_i x hx _ _
    refine ⟨hT, ?_, ?_, hN, hO, hP⟩
    · intro v hv
      rcases set_mem hv with rfl | hv
      · exact hX x (List.mem_of_getElem? hx)
      · exact hX v hv
    · intro u hu n hn
      exact tenOf_keep hx rfl rfl (hR u hu n hn)
  split
  · unfold revokeM
    repeat' split
    all_goals first | exact ⟨hT, hX, hR, hN, hO, hP⟩ | skip
    rename_i x hx _
    refine ⟨hT, ?_, ?_, hN, hO, hP⟩
    · intro v hv
      rcases set_mem hv with rfl | hv
      · exact hX x (List.mem_of_getElem? hx)
      · exact hX v hv
    · intro u hu n hn
      exact tenOf_keep hx rfl rfl (hR u hu n hn)
  · unfold haveM
    repeat' split
    all_goals first | exact ⟨hT, hX, hR, hN, hO, hP⟩ | skip
    · rename_i u hu _ _
      refine ⟨hT, hX, ?_, ?_, ?_, ?_⟩
      · intro v hv
        rcases set_mem hv with rfl | hv
        · intro n hn
          exact hR u (List.mem_of_getElem? hu) n (List.mem_filter.1 hn).1
        · exact hR v hv
      · intro v hv
        rcases set_mem hv with rfl | hv
        · exact hN u (List.mem_of_getElem? hu)
        · exact hN v hv
      · intro v hv
        rcases set_mem hv with rfl | hv
        · exact hO u (List.mem_of_getElem? hu)
        · exact hO v hv
      · exact names_keep hu rfl hP
    · rename_i u hu _ hx0 _ x hx hxt _ _
      refine ⟨hT, hX, ?_, ?_, ?_, ?_⟩
      · intro v hv
        rcases set_mem hv with rfl | hv
        · intro n hn
          rcases insBy_mem.1 hn with rfl | hn
          · dsimp only
            rw [tenOf_at hx0 hx]
            exact congrArg some (by simpa using hxt)
          · exact hR u (List.mem_of_getElem? hu) n hn
        · exact hR v hv
      · intro v hv
        rcases set_mem hv with rfl | hv
        · exact hN u (List.mem_of_getElem? hu)
        · exact hN v hv
      · intro v hv
        rcases set_mem hv with rfl | hv
        · exact hO u (List.mem_of_getElem? hu)
        · exact hO v hv
      · exact names_keep hu rfl hP
theorem next_inv {r : Roll} (h : r.Inv) (c : Cmd) : (next r c).Inv := doM_inv h c
theorem new_inv (a b : Str) : (newRoll a b).Inv :=
  ⟨by intro t ht; simp [newRoll] at ht, by intro x hx; simp [newRoll] at hx, by intro u hu; simp [newRoll] at hu; subst hu; simp,
   by intro u hu; simp [newRoll] at hu; subst hu; kernel_rfl, by intro u hu; simp [newRoll] at hu; subst hu; simp, by simp [newRoll]⟩
theorem basis_inv : basisM.Inv := next_inv (next_inv (next_inv (next_inv (new_inv _ _) _) _) _) _
theorem beh_inv : ∀ (l : List Cmd) (r : Roll), r.Inv → (runL behStep behFin l r).1.Inv
  | [], r, h => h
  | c :: l, r, h => by
    rw [runL_cons]
    by_cases hb : bigC c = true
    · simp only [behStep, hb, if_true, aft]; exact h
    · simp only [behStep, hb, if_false, aft]; exact beh_inv l _ (next_inv h c)
theorem behM_inv (l : List Cmd) : (behM l).1.Inv := by
  unfold behM
  split
  · exact basis_inv
  · exact beh_inv l _ basis_inv
theorem allM_nil {r : Roll} {u : Str} (h : rolesOf r u = []) (w : Bool) : allM r u w = [] := by
  unfold allM; rw [h]; rfl
theorem root_roles {r : Roll} (h : r.Inv) : rolesOf r rootN = [] := by
  unfold rolesOf
  split
  · rfl
  rename_i h0
  obtain ⟨x, h1, h2, _⟩ := findAt_some h0
  have hm := List.mem_of_getElem? h1
  rw [h1]
  dsimp only
  cases hr : x.roles with
  | nil => rfl
  | cons n ns =>
    have h3 := h.hR x hm n (by rw [hr]; exact List.mem_cons_self ..)
    rw [h.hO x hm (of_decide_eq_true h2)] at h3
    unfold tenOf at h3
    obtain ⟨y, hy, hy2⟩ := Option.map_eq_some_iff.1 h3
    exact absurd hy2 (h.hX y (List.mem_of_find?_eq_some hy))
abbrev nobodyN : Str := [78, 111, 98, 111, 100, 121]
theorem nobody_roles {r : Roll} (h : r.Inv) : rolesOf r nobodyN = [] := by
  unfold rolesOf
  split
  · rfl
  rename_i h0
  obtain ⟨x, h1, h2, _⟩ := findAt_some h0
  have := h.hN x (List.mem_of_getElem? h1)
  rw [of_decide_eq_true h2, show nameM nobodyN = false by kernel_rfl] at this
  cases this
theorem flat_congr {α β : Type} {f g : α → List β} : ∀ {l : List α}, (∀ a ∈ l, f a = g a) → l.flatMap f = l.flatMap g
  | [], _ => rfl
  | a :: l, h => by rw [List.flatMap_cons, List.flatMap_cons, h a (List.mem_cons_self ..), flat_congr fun b hb => h b (List.mem_cons_of_mem _ hb)]
theorem other_counts {r : Roll} (hi : r.Inv) {z u t : Str} {i : Nat} {x : Usr} (hz : tenOf r.rols z = some t) (hu : r.usrAt u = (i : Int)) (hx : r.usrs[i]? = some x) (hne : x.ten ≠ t)
    (c1 c2 : Cmd) (k1 : c1.kind = 11) (n1 : c1.name = z) (k2 : c2.kind = 13) (n2 : c2.name = u) (o2 : c2.other = z) (a c : List Sp) :
    mayM (next (next r c1) c2) u a c = mayM r u a c := by
  obtain ⟨r', hr'⟩ : ∃ r', r' = next r c1 := ⟨_, rfl⟩
  have hg : r' = r ∨ ∃ (j : Nat) (y : Rol) (g : List Gra), r.rolAt z = (j : Int) ∧ r.rols[j]? = some y ∧ r' = { r with rev := r.rev + 1, rols := r.rols.set j { y with grants := g } } := by
    rw [hr']
    unfold next doM
    rw [if_neg (by omega)]
    split
    · exact .inl rfl
    rw [if_neg (by omega), if_neg (by omega), if_neg (by omega), if_neg (by omega), if_neg (by omega), if_neg (by omega), if_neg (by omega)]
    try rw [if_pos k1]
    unfold grantM
    repeat' split
    all_goals first | exact .inl rfl | skip
    rename_i h0 _ y hy _ _
    rw [n1] at h0 hy ⊢
    obtain ⟨j, hj⟩ : ∃ j : Nat, r.rolAt z = (j : Int) := ⟨(r.rolAt z).toNat, by omega⟩
    refine .inr ⟨j, y, y.grants ++ [c1.grant], hj, ?_, ?_⟩
    · rw [hj] at hy; exact hy
    · rw [hj]; rfl
  have hus : r'.usrs = r.usrs := by rcases hg with rfl | ⟨j, y, g, _, _, rfl⟩ <;> rfl
  have htz : ∀ n, tenOf r'.rols n = tenOf r.rols n := by
    rcases hg with rfl | ⟨j, y, g, _, hy, rfl⟩
    · intro n; rfl
    · intro n; exact tenOf_keep hy rfl rfl rfl
  have h2 : next r' c2 = r' := by
    have hu' : r'.usrAt u = (i : Int) := by rw [← hu]; unfold Roll.usrAt; rw [hus]
    unfold next doM
    rw [if_neg (by omega)]
    split
    · rfl
    rw [if_neg (by omega), if_neg (by omega), if_neg (by omega), if_neg (by omega), if_neg (by omega), if_neg (by omega), if_neg (by omega), if_neg (by omega), if_neg (by omega)]
    unfold haveM
    rw [n2, hu', o2, if_neg (by omega), Int.toNat_natCast, hus, hx]
    dsimp only
    rw [if_neg (by omega)]
    split
    · rfl
    rename_i hz0
    split
    · rfl
    rename_i y hy
    have h3 := tenOf_at hz0 hy
    rw [htz, hz] at h3
    rw [if_pos (fun h => hne (by rw [← h]; exact (Option.some.inj h3).symm))]
  rw [← hr', h2]
  have hro : rolesOf r' u = rolesOf r u := by unfold rolesOf Roll.usrAt; rw [hus]
  have hx0 : rolesOf r u = x.roles := by unfold rolesOf; rw [hu, if_neg (by omega), Int.toNat_natCast, hx]
  have hall : ∀ w, allM r' u w = allM r u w := by
    intro w
    unfold allM
    rw [hro]
    refine flat_congr fun n hn => ?_
    unfold spansOf
    rw [hx0] at hn
    have h4 := hi.hR x (List.mem_of_getElem? hx) n hn
    have hnz : n ≠ z := by
      rintro rfl
      rw [hz] at h4
      exact hne (Option.some.inj h4).symm
    rcases hg with rfl | ⟨j, y, g, hj, hy, rfl⟩
    · rfl
    · have hgs := grants_set (y := { y with grants := g }) hy rfl (r.rev + 1) n
      rw [hgs, if_neg]
      intro he
      obtain ⟨a1, b1, c1', _⟩ := findAt_some (show ¬ r.rolAt n < 0 by omega)
      obtain ⟨a2, b2, c2', _⟩ := findAt_some (show ¬ r.rolAt z < 0 by omega)
      have e1 : r.rols[j]? = some a1 := by rw [← b1]; congr 1; show j = (r.rolAt n).toNat; omega
      have e2 : r.rols[j]? = some a2 := by rw [← b2]; congr 1; show j = (r.rolAt z).toNat; omega
      rw [e1] at e2
      cases e2
      exact hnz ((of_decide_eq_true c1').symm.trans (of_decide_eq_true c2'))
  unfold mayM
  rw [hall, hall]
end Go.Ab

set_option maxRecDepth 100000
set_option maxHeartbeats 40000000
namespace Go.Ab
open Go.Proofs

theorem beh_one {c : Cmd} (h : (behM [c]).2 = true) : bigC c = false := by
  unfold behM at h
  rw [if_neg (by simp)] at h
  rw [runL_cons] at h
  cases hb : bigC c
  · rfl
  · simp [behStep, hb, aft] at h
theorem big_bounds {c : Cmd} (h : bigC c = false) : c.word.length ≤ 1000000 ∧ c.salt.length ≤ 1000000 := by
  unfold bigC at h
  simp only [Bool.or_eq_false_iff, decide_eq_false_iff_not] at h
  omega
theorem great_bounds {u : Str} {a c : List Sp} (h : greatA u a c = false) : a.length ≤ 20 ∧ c.length ≤ 20 ∧ u.length ≤ 1000 := by
  unfold greatA at h
  simp only [Bool.or_eq_false_iff, decide_eq_false_iff_not] at h
  omega
abbrev zzN : Str := [122, 122]
abbrev zrN : Str := [122, 114]
def z1 : Cmd := cmdOf 4 zzN []
def z2 : Cmd := cmdOf 9 zrN zzN
def zg (g : Gra) : Cmd := ⟨0, 0, [], 11, zrN, [], [], [], 0, 0, g, 0, [], [], []⟩
def zh (u : Str) : Cmd := cmdOf 13 u zrN
abbrev sab : Sp := ⟨[97], [98]⟩
theorem may_n1 {r : Roll} {u : Str} (h : rolesOf r u = []) : mayM r u [sab] [] = false := by
  unfold mayM; rw [allM_nil h, allM_nil h]; kernel_rfl
theorem may_n2 {r : Roll} {u : Str} (h : rolesOf r u = []) : mayM r u [] [sab] = false := by
  unfold mayM; rw [allM_nil h, allM_nil h]; kernel_rfl
theorem may_n3 {r : Roll} {u : Str} : mayM r u [] [] = true := rfl
theorem law_nobody (l : List Cmd) (c0 : Cmd) (u : Str) (a c : List Sp) (hl : l.length ≤ 9223372036854775807) (ha : a.length ≤ 9223372036854775807) (hc : c.length ≤ 9223372036854775807) :
    Fn Try.prog F_exchequerlaw16_AllowNobody [.v (.list (l.map Cmd.toI)), .v c0.toI, .v (askI u a c)] (Is (.v (.bool true)) [.no, .no, .no]) := by
  refine of_exchequerlaw16_AllowNobody ?_ (by simp)
  have hB := spec_behind l hl
  have hf := behM_fit l
  have hiv := behM_inv l
  have hB1 := spec_behind [c0] (by simp)
  have hbig := @beh_one c0
  obtain ⟨M1, hM1⟩ : ∃ M, M = behM [c0] := ⟨_, rfl⟩
  rw [← hM1] at hB1 hbig
  clear hM1
  obtain ⟨M, hM⟩ : ∃ M, M = behM l := ⟨_, rfl⟩
  rw [← hM] at hB hf hiv
  clear hM
  obtain ⟨R, ok⟩ := M
  obtain ⟨R1, ok1⟩ := M1
  dsimp only at hB hf hB1 hbig hiv
  have hG := spec_greatA u a c ha hc
  obtain ⟨gr, hg⟩ : ∃ gr, gr = greatA u a c := ⟨_, rfl⟩
  rw [← hg] at hG
  have hall : (ok && ok1 && !gr) = false ∨ (ok = true ∧ ok1 = true ∧ gr = false) := by cases ok <;> cases ok1 <;> cases gr <;> simp
  rcases hall with hall | ⟨rfl, rfl, rfl⟩
  · cases ok <;> cases ok1 <;> cases gr <;> first | cases hall | skip
    all_goals (
      repeat' ((conv => whnf); first
        | (refine And.intro (fun hb => ?_) (fun hb => ?_) <;> first | (exact absurd hb (by first | assumption | decide)) | (with_reducible exact absurd hb Bool.false_ne_true) | (with_reducible exact absurd hb.symm Bool.false_ne_true) | (exfalso; first | (simp only [LENS] at hb <;> omega) | omega) | ((try rw [hb]); (try simp only [NRMS] at hb); (try subst hb)))
        | (refine Exists.intro ?_ ?_; focus (and_intros <;> first | omega | exact rfl | assumption | (intro _ hh; cases hh; done) | exact all_size (by rfl) | exact size_map (fun _ => rfl) | exact size_one rfl | exact take_size (fun _ => rfl) | exact dsize_one rfl | exact dsize_map (fun _ => rfl) | exact dsize_its (fun _ => rfl) | (simp only [LENS]; omega) | (simp; done) | decide))
        | (intro hfact)
        | ((with_reducible apply Drawn.by0); (focus kernel_rfl); intro hfact; (try simp only [List.mem_append, List.mem_cons, List.not_mem_nil, or_false, false_or, or_assoc, forall_eq_or_imp, forall_eq, false_implies, implies_true, forall_const, and_true, true_and] at hfact))
        | (refine CallWp.mk ⟨_, spec_awake, ?_⟩; rintro _ _ ⟨rfl, rfl⟩)
        | (refine CallWp.mk ⟨_, hB, ?_⟩; rintro _ _ ⟨rfl, rfl⟩)
        | (refine CallWp.mk ⟨_, hB1, ?_⟩; rintro _ _ ⟨rfl, rfl⟩)
        | (refine CallWp.mk ⟨_, hG, ?_⟩; rintro _ _ ⟨rfl, rfl⟩))
      all_goals (try (conv => whnf)))
    all_goals exact Done.mk ⟨rfl, by kernel_rfl⟩ (by kernel_rfl)
  have hg := hg.symm
  obtain ⟨b1, b2, b3⟩ := great_bounds hg
  have m1 := spec_may sortNil R hf rootN [sab] [] (by simp) (by simp)
  have m2 := spec_may sortNil R hf rootN [] [sab] (by simp) (by simp)
  have m3 := spec_may sortNil R hf nobodyN [sab] [] (by simp) (by simp)
  have m4 := spec_may sortNil R hf nobodyN [] [] (by simp) (by simp)
  have s1 := spec_spans sortNil R hf rootN true
  rw [may_n1 (root_roles hiv)] at m1
  rw [may_n2 (root_roles hiv)] at m2
  rw [may_n1 (nobody_roles hiv)] at m3
  rw [may_n3] at m4
  rw [allM_nil (root_roles hiv), show uni [] = [] by kernel_rfl] at s1
  have hm : [z1, z2].length ≤ maxLen := by simp [maxLen]
  have hAns : runL (foldStep next) foldFin [z1, z2] R = next (next R z1) z2 := fold_run _ _ _
  have hfA := next_fit (next_fit hf z1) z2
  have hiA := next_inv (next_inv hiv z1) z2
  obtain ⟨A, hAA⟩ : ∃ A, A = next (next R z1) z2 := ⟨_, rfl⟩
  rw [← hAA] at hAns hfA hiA
  clear hAA hiv
  repeat' ((conv => whnf); first
    | (refine And.intro (fun hb => ?_) (fun hb => ?_) <;> first | (exact absurd hb (by first | assumption | decide)) | (with_reducible exact absurd hb Bool.false_ne_true) | (with_reducible exact absurd hb.symm Bool.false_ne_true) | (exfalso; first | (simp only [LENS] at hb <;> omega) | omega) | ((try rw [hb]); (try simp only [NRMS] at hb); (try subst hb)))
    | (refine Exists.intro ?_ ?_; focus (and_intros <;> first | omega | exact rfl | assumption | (intro _ hh; cases hh; done) | exact all_size (by rfl) | exact size_map (fun _ => rfl) | exact size_one rfl | exact take_size (fun _ => rfl) | exact dsize_one rfl | exact dsize_map (fun _ => rfl) | exact dsize_its (fun _ => rfl) | (simp only [LENS]; omega) | (simp; done) | decide))
    | (intro hfact)
    | ((with_reducible apply Drawn.by0); (focus kernel_rfl); intro hfact; (try simp only [List.mem_append, List.mem_cons, List.not_mem_nil, or_false, false_or, or_assoc, forall_eq_or_imp, forall_eq, false_implies, implies_true, forall_const, and_true, true_and] at hfact))
    | (refine CallWp.mk ⟨_, spec_awake, ?_⟩; rintro _ _ ⟨rfl, rfl⟩)
    | (refine CallWp.mk ⟨_, hB, ?_⟩; rintro _ _ ⟨rfl, rfl⟩)
    | (refine CallWp.mk ⟨_, hB1, ?_⟩; rintro _ _ ⟨rfl, rfl⟩)
    | (refine CallWp.mk ⟨_, hG, ?_⟩; rintro _ _ ⟨rfl, rfl⟩)
    | (refine CallWp.mk ⟨_, m1, ?_⟩; rintro _ _ ⟨rfl, rfl⟩)
    | (refine CallWp.mk ⟨_, m2, ?_⟩; rintro _ _ ⟨rfl, rfl⟩)
    | (refine CallWp.mk ⟨_, m3, ?_⟩; rintro _ _ ⟨rfl, rfl⟩)
    | (refine CallWp.mk ⟨_, m4, ?_⟩; rintro _ _ ⟨rfl, rfl⟩)
    | (refine CallWp.mk ⟨_, s1, ?_⟩; rintro _ _ ⟨rfl, rfl⟩))
  all_goals (try (conv => whnf))
  refine each [z1, z2] _ _ _ (fun k s => [(7, .box (.one (.i (Roll.toI s)))), (71, .v (.int .i64 k))]) (fun k s => s.Fit) R (by kernel_rfl) hf hAns ?_ ?_ <;> clear hAns
  · rintro k s e he hk hi hA
    have hd := spec_do s hi.small e (by have := hi.hV; omega) (by
      have := List.mem_of_getElem? he
      simp only [List.mem_cons, List.not_mem_nil, or_false] at this
      rcases this with rfl | rfl <;> exact ⟨by decide, by decide⟩)
    have hwk := wrap_succ hk hm
    have hn := next_fit hi e
    obtain ⟨D, hD⟩ : ∃ D, D = doM s e := ⟨_, rfl⟩
    have hD1 : next s e = D.1 := by rw [hD]; rfl
    rw [← hD] at hd
    rw [hD1] at hn
    clear hD
    rcases k with _ | _ | k
    rotate_left 2
    · exact absurd hk (by simp only [List.length_cons, List.length_nil]; omega)
    all_goals (cases he; dsimp only at hi hA ⊢)
    all_goals (
      repeat' ((conv => whnf); first
        | (refine And.intro (fun hb => ?_) (fun hb => ?_) <;> first | (exact absurd hb (by first | assumption | decide)) | (with_reducible exact absurd hb Bool.false_ne_true) | (with_reducible exact absurd hb.symm Bool.false_ne_true) | (exfalso; first | (simp only [LENS] at hb <;> omega) | omega) | ((try rw [hb]); (try simp only [NRMS] at hb); (try subst hb)))
        | (refine Exists.intro ?_ ?_; focus (and_intros <;> first | omega | exact rfl | assumption | (intro _ hh; cases hh; done) | exact all_size (by rfl) | exact size_map (fun _ => rfl) | exact size_one rfl | exact take_size (fun _ => rfl) | exact dsize_one rfl | exact dsize_map (fun _ => rfl) | exact dsize_its (fun _ => rfl) | (simp only [LENS]; omega) | (simp; done) | decide))
        | (intro hfact)
        | ((with_reducible apply Drawn.by0); (focus kernel_rfl); intro hfact; (try simp only [List.mem_append, List.mem_cons, List.not_mem_nil, or_false, false_or, or_assoc, forall_eq_or_imp, forall_eq, false_implies, implies_true, forall_const, and_true, true_and] at hfact))
        | (refine CallWp.mk ⟨_, hd, ?_⟩; rintro _ _ ⟨rfl, rfl⟩))
      all_goals (try (conv => whnf)))
    all_goals (refine RoundE.by D.1 ?_ hn (by rw [← hD1]; exact hA))
    all_goals (rw [hwk]; show norm _ _ = upd _ _; kernel_rfl)
  rintro s k rfl hi hA
  dsimp only at hi hA ⊢
  obtain rfl : s = A := hA
  clear m1 m2 m3 m4 s1 hi
  have hb2 := hfA.hU
  have hb3 := hfA.hX
  have x1 := spec_RoleAt s zrN (by omega)
  have u1 := spec_UserAt s u (by omega)
  rcases findAt_bound (fun t : Rol => decide (t.name = zrN)) 0 s.rols with h | ⟨j, h, hj, x, hjx, hxn⟩
  · have h' : s.rolAt zrN = -1 := h
    rw [h'] at x1
    repeat' ((conv => whnf); first
      | (refine And.intro (fun hb => ?_) (fun hb => ?_) <;> first | (exact absurd hb (by first | assumption | decide)) | (with_reducible exact absurd hb Bool.false_ne_true) | (with_reducible exact absurd hb.symm Bool.false_ne_true) | (exfalso; first | (simp only [LENS] at hb <;> omega) | omega) | ((try rw [hb]); (try simp only [NRMS] at hb); (try subst hb)))
      | (refine Exists.intro ?_ ?_; focus (and_intros <;> first | omega | exact rfl | assumption | (intro _ hh; cases hh; done) | exact all_size (by rfl) | exact size_map (fun _ => rfl) | exact size_one rfl | exact take_size (fun _ => rfl) | exact dsize_one rfl | exact dsize_map (fun _ => rfl) | exact dsize_its (fun _ => rfl) | (simp only [LENS]; omega) | (simp; done) | decide))
      | (intro hfact)
      | ((with_reducible apply Drawn.by0); (focus kernel_rfl); intro hfact; (try simp only [List.mem_append, List.mem_cons, List.not_mem_nil, or_false, false_or, or_assoc, forall_eq_or_imp, forall_eq, false_implies, implies_true, forall_const, and_true, true_and] at hfact))
      | (refine CallWp.mk ⟨_, x1, ?_⟩; rintro _ _ ⟨rfl, rfl⟩))
    all_goals (try (conv => whnf))
    all_goals (refine Done.mk ⟨SV.bool_congr ?_, by kernel_rfl⟩ (by kernel_rfl))
    all_goals rfl
  have h' : s.rolAt zrN = (j : Int) := by rw [show s.rolAt zrN = ((0 + j : Nat) : Int) from h, Nat.zero_add]
  rw [h'] at x1
  have hj0 : s.rols[Int.toNat (j : Int)]? = some x := hjx
  have hz := tenOf_at (show ¬ s.rolAt zrN < 0 by omega) (by rw [h']; exact hj0)
  by_cases hxt : x.ten = zzN
  case neg =>
    repeat' ((conv => whnf); first
      | (refine And.intro (fun hb => ?_) (fun hb => ?_) <;> first | (exact absurd hb (by first | assumption | decide)) | (with_reducible exact absurd hb Bool.false_ne_true) | (with_reducible exact absurd hb.symm Bool.false_ne_true) | (exfalso; first | (simp only [LENS] at hb <;> omega) | omega) | ((try rw [hb]); (try simp only [NRMS] at hb); (try subst hb)))
      | (refine Exists.intro ?_ ?_; focus (and_intros <;> first | omega | exact rfl | assumption | (intro _ hh; cases hh; done) | exact all_size (by rfl) | exact size_map (fun _ => rfl) | exact size_one rfl | exact take_size (fun _ => rfl) | exact dsize_one rfl | exact dsize_map (fun _ => rfl) | exact dsize_its (fun _ => rfl) | (simp only [LENS]; omega) | (simp; done) | decide))
      | (intro hfact)
      | ((with_reducible apply Drawn.by0); (focus kernel_rfl); intro hfact; (try simp only [List.mem_append, List.mem_cons, List.not_mem_nil, or_false, false_or, or_assoc, forall_eq_or_imp, forall_eq, false_implies, implies_true, forall_const, and_true, true_and] at hfact))
      | (refine CallWp.mk ⟨_, x1, ?_⟩; rintro _ _ ⟨rfl, rfl⟩)
      | ((try dsimp only); first | rw [map_get hj0] | rw [map_getD hj0] | rw [map_getN hj0]))
    all_goals (try (conv => whnf))
    all_goals (try (exact absurd (by assumption) hxt))
    all_goals (refine Done.mk ⟨SV.bool_congr ?_, by kernel_rfl⟩ (by kernel_rfl))
    all_goals rfl
  rw [hxt] at hz
  rcases findAt_bound (fun t : Usr => decide (t.name = u)) 0 s.usrs with g | ⟨i, g, hi, y, hiy, hyn⟩
  · have g' : s.usrAt u = -1 := g
    rw [g'] at u1
    repeat' ((conv => whnf); first
      | (refine And.intro (fun hb => ?_) (fun hb => ?_) <;> first | (exact absurd hb (by first | assumption | decide)) | (with_reducible exact absurd hb Bool.false_ne_true) | (with_reducible exact absurd hb.symm Bool.false_ne_true) | (exfalso; first | (simp only [LENS] at hb <;> omega) | omega) | ((try rw [hb]); (try simp only [NRMS] at hb); (try subst hb)))
      | (refine Exists.intro ?_ ?_; focus (and_intros <;> first | omega | exact rfl | assumption | (intro _ hh; cases hh; done) | exact all_size (by rfl) | exact size_map (fun _ => rfl) | exact size_one rfl | exact take_size (fun _ => rfl) | exact dsize_one rfl | exact dsize_map (fun _ => rfl) | exact dsize_its (fun _ => rfl) | (simp only [LENS]; omega) | (simp; done) | decide))
      | (intro hfact)
      | ((with_reducible apply Drawn.by0); (focus kernel_rfl); intro hfact; (try simp only [List.mem_append, List.mem_cons, List.not_mem_nil, or_false, false_or, or_assoc, forall_eq_or_imp, forall_eq, false_implies, implies_true, forall_const, and_true, true_and] at hfact))
      | (refine CallWp.mk ⟨_, x1, ?_⟩; rintro _ _ ⟨rfl, rfl⟩)
      | ((try dsimp only); first | rw [map_get hj0] | rw [map_getD hj0] | rw [map_getN hj0])
      | (refine CallWp.mk ⟨_, u1, ?_⟩; rintro _ _ ⟨rfl, rfl⟩))
    all_goals (try (conv => whnf))
    all_goals (refine Done.mk ⟨SV.bool_congr ?_, by kernel_rfl⟩ (by kernel_rfl))
    all_goals rfl
  have g' : s.usrAt u = (i : Int) := by rw [show s.usrAt u = ((0 + i : Nat) : Int) from g, Nat.zero_add]
  rw [g'] at u1
  have hi0 : s.usrs[Int.toNat (i : Int)]? = some y := hiy
  by_cases hyt : y.ten = zzN
  case pos =>
    repeat' ((conv => whnf); first
      | (refine And.intro (fun hb => ?_) (fun hb => ?_) <;> first | (exact absurd hb (by first | assumption | decide)) | (with_reducible exact absurd hb Bool.false_ne_true) | (with_reducible exact absurd hb.symm Bool.false_ne_true) | (exfalso; first | (simp only [LENS] at hb <;> omega) | omega) | ((try rw [hb]); (try simp only [NRMS] at hb); (try subst hb)))
      | (refine Exists.intro ?_ ?_; focus (and_intros <;> first | omega | exact rfl | assumption | (intro _ hh; cases hh; done) | exact all_size (by rfl) | exact size_map (fun _ => rfl) | exact size_one rfl | exact take_size (fun _ => rfl) | exact dsize_one rfl | exact dsize_map (fun _ => rfl) | exact dsize_its (fun _ => rfl) | (simp only [LENS]; omega) | (simp; done) | decide))
      | (intro hfact)
      | ((with_reducible apply Drawn.by0); (focus kernel_rfl); intro hfact; (try simp only [List.mem_append, List.mem_cons, List.not_mem_nil, or_false, false_or, or_assoc, forall_eq_or_imp, forall_eq, false_implies, implies_true, forall_const, and_true, true_and] at hfact))
      | (refine CallWp.mk ⟨_, x1, ?_⟩; rintro _ _ ⟨rfl, rfl⟩)
      | ((try dsimp only); first | rw [map_get hj0] | rw [map_getD hj0] | rw [map_getN hj0])
      | (refine CallWp.mk ⟨_, u1, ?_⟩; rintro _ _ ⟨rfl, rfl⟩)
      | ((try dsimp only); first | rw [map_get hi0] | rw [map_getD hi0] | rw [map_getN hi0]))
    all_goals (try (conv => whnf))
    all_goals (try (exact absurd hyt (by assumption)))
    all_goals (refine Done.mk ⟨SV.bool_congr ?_, by kernel_rfl⟩ (by kernel_rfl))
    all_goals rfl
  have heq := other_counts hiA hz g' hiy hyt (zg c0.grant) (zh u) rfl rfl rfl rfl rfl a c
  have d1 := spec_do s hfA.small (zg c0.grant) (by have := hfA.hV; omega) ⟨Nat.zero_le _, Nat.zero_le _⟩
  have n1 := next_fit hfA (zg c0.grant)
  have e1 : (doM s (zg c0.grant)).1 = next s (zg c0.grant) := rfl
  rw [e1] at d1
  obtain ⟨N1, hN1⟩ : ∃ N, N = next s (zg c0.grant) := ⟨_, rfl⟩
  rw [← hN1] at d1 n1 heq
  clear e1
  have d2 := spec_do N1 n1.small (zh u) (by have := n1.hV; omega) ⟨Nat.zero_le _, Nat.zero_le _⟩
  have n2 := next_fit n1 (zh u)
  have e2 : (doM N1 (zh u)).1 = next N1 (zh u) := rfl
  rw [e2] at d2
  obtain ⟨N2, hN2⟩ : ∃ N, N = next N1 (zh u) := ⟨_, rfl⟩
  rw [← hN2] at d2 n2 heq
  clear e2 hN2 hN1
  generalize (doM s (zg c0.grant)).2 = E1 at d1
  generalize (doM N1 (zh u)).2 = E2 at d2
  have m5 := spec_may sortNil N2 n2 u a c (by omega) (by omega)
  have m6 := spec_may sortNil s hfA u a c (by omega) (by omega)
  rw [heq] at m5
  repeat' ((conv => whnf); first
    | (refine And.intro (fun hb => ?_) (fun hb => ?_) <;> first | (exact absurd hb (by first | assumption | decide)) | (with_reducible exact absurd hb Bool.false_ne_true) | (with_reducible exact absurd hb.symm Bool.false_ne_true) | (exfalso; first | (simp only [LENS] at hb <;> omega) | omega) | ((try rw [hb]); (try simp only [NRMS] at hb); (try subst hb)))
    | (refine Exists.intro ?_ ?_; focus (and_intros <;> first | omega | exact rfl | assumption | (intro _ hh; cases hh; done) | exact all_size (by rfl) | exact size_map (fun _ => rfl) | exact size_one rfl | exact take_size (fun _ => rfl) | exact dsize_one rfl | exact dsize_map (fun _ => rfl) | exact dsize_its (fun _ => rfl) | (simp only [LENS]; omega) | (simp; done) | decide))
    | (intro hfact)
    | ((with_reducible apply Drawn.by0); (focus kernel_rfl); intro hfact; (try simp only [List.mem_append, List.mem_cons, List.not_mem_nil, or_false, false_or, or_assoc, forall_eq_or_imp, forall_eq, false_implies, implies_true, forall_const, and_true, true_and] at hfact))
    | (refine CallWp.mk ⟨_, x1, ?_⟩; rintro _ _ ⟨rfl, rfl⟩)
    | ((try dsimp only); first | rw [map_get hj0] | rw [map_getD hj0] | rw [map_getN hj0])
    | (refine CallWp.mk ⟨_, u1, ?_⟩; rintro _ _ ⟨rfl, rfl⟩)
    | ((try dsimp only); first | rw [map_get hi0] | rw [map_getD hi0] | rw [map_getN hi0])
    | (refine CallWp.mk ⟨_, d1, ?_⟩; rintro _ _ ⟨rfl, rfl⟩)
    | (refine CallWp.mk ⟨_, d2, ?_⟩; rintro _ _ ⟨rfl, rfl⟩)
    | (refine CallIs.mk ⟨_, _, m5, ?_⟩)
    | (refine CallIs.mk ⟨_, _, m6, ?_⟩))
  all_goals (try (conv => whnf))
  all_goals (refine Done.mk ⟨SV.bool_congr ?_, by kernel_rfl⟩ (by kernel_rfl))
  all_goals simp
end Go.Ab

