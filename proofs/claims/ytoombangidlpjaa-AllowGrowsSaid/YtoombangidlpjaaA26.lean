/- One text of the proof whose last text says what is proved. -/
import Derived.Test.YtoombangidlpjaaA0
import Derived.Test.YtoombangidlpjaaA20
import Derived.Test.YtoombangidlpjaaA21
set_option linter.unusedVariables false
set_option linter.unusedSimpArgs false
set_option maxRecDepth 100000
namespace Go.Ab
open Go.Proofs
/-- exchequer/exchequerlaw16.AllowGrows · parameters [[]api.Cmd, api.Cmd, exchequerlaw16.Ask] -/
abbrev F_exchequerlaw16_AllowGrows : FuncId := 5
def ir_exchequerlaw16_AllowGrows : Stm :=
 (.seq
 (.ops [
 O1 (.box 4 (.t 1)), O1 (.box 5 (.t 2)), O1 (.asg 6 (.c (.bool false)))])
 (.seq
 (.seq
 (.ops [ .call none (some 13) 7 [], O1 (.not 14 (.t 13))])
 (.cond (.t 14)
 (.seq
 (.ops [
 O1 (.asg 6 (.c (.bool false)))])
 .ret)
 .skip))
 (.seq
 (.ops [
 O1 (.mv 16 (.t 0)), .call none (some 17) 8 [(false, (.t 16))], O1 (.asg 15 (.t 17)), O1 (.ext 18 (.t 15) 0), O1 (.ext 19 (.t 15) 1), O1 (.alloc 7 (.one (.i (.agg [(.int .i64 0), (.list []), (.list []), (.list [])])))), O1 (.store 4 (.t 7) (.t 18)), O1 (.asg 8 (.t 19))])
 (.seq
 (.seq
 (.ops [
 O1 (.load 21 true 18 (.t 4)), O1 (.bsl 22 49 18 (.agg [(.int .i64 0), (.int .i64 0), (.str []), (.int .i64 0), (.str []), (.str []), (.str []), (.str []), (.int .i64 0), (.int .i64 0), (.agg [(.agg [(.str []), (.str [])]), (.bool false), (.bool false)]), (.int .i64 0), (.list []), (.list []), (.list [])]) 1 [(0, (.t 21))]), .call none (some 23) 8 [(false, (.t 22))], O1 (.asg 20 (.t 23)), O1 (.ext 24 (.t 20) 0), O1 (.ext 25 (.t 20) 1), O1 (.alloc 9 (.one (.i (.agg [(.int .i64 0), (.list []), (.list []), (.list [])])))), O1 (.store 4 (.t 9) (.t 24)), O1 (.asg 10 (.t 25))])
 (.seq
 (.ops [
 O1 (.mv 26 (.t 8)), O1 (.not 27 (.t 26)), O1 (.mv 28 (.t 27)), .op (some (28, false)) (.mv 29 (.t 10)), .op (some (28, false)) (.not 30 (.t 29)), O1 (.pick 31 (.t 28) (.c (.bool true)) (.t 30)), O1 (.mv 32 (.t 31)), .op (some (32, false)) (.load 33 true 3 (.t 5)), .call (some (32, false)) (some 34) 9 [(false, (.t 33))], O1 (.pick 35 (.t 32) (.c (.bool true)) (.t 34))])
 (.cond (.t 35)
 (.seq
 (.ops [
 O1 (.asg 6 (.c (.bool true)))])
 .ret)
 .skip)))
 (.seq
 (.seq
 (.ops [
 O1 (.faddr 36 (.t 4) 3 3), O1 (.load 37 false 1 (.t 36)), O1 (.bin 38 .neq (.t 37) (.c (.int .i64 13)))])
 (.cond (.t 38)
 (.ops [
 O1 (.faddr 39 (.t 4) 3 3), O1 (.store 1 (.t 39) (.c (.int .i64 11)))])
 .skip))
 (.seq
 (.ops [
 O1 (.load 41 true 4 (.t 7)), O1 (.load 42 true 18 (.t 4)), .call none (some 43) 17 [(false, (.t 41)), (false, (.t 42))], O1 (.asg 40 (.t 43)), O1 (.ext 44 (.t 40) 0), O1 (.ext 45 (.t 40) 1), O1 (.alloc 11 (.one (.i (.agg [(.int .i64 0), (.list []), (.list []), (.list [])])))), O1 (.store 4 (.t 11) (.t 44)), O1 (.asg 12 (.t 45))])
 (.seq
 (.ops [
 O1 (.load 46 true 4 (.t 7)), O1 (.faddr 47 (.t 5) 0 0), O1 (.load 48 false 1 (.t 47)), O1 (.faddr 49 (.t 5) 1 1), O1 (.load 50 false 1 (.t 49)), O1 (.faddr 51 (.t 5) 2 2), O1 (.load 52 false 1 (.t 51)), .call none (some 53) 14 [(false, (.t 46)), (false, (.t 48)), (false, (.t 50)), (false, (.t 52))], O1 (.not 54 (.t 53)), O1 (.mv 55 (.t 54)), .op (some (55, false)) (.load 56 true 4 (.t 11)), .op (some (55, false)) (.faddr 57 (.t 5) 0 0), .op (some (55, false)) (.load 58 false 1 (.t 57)), .op (some (55, false)) (.faddr 59 (.t 5) 1 1), .op (some (55, false)) (.load 60 false 1 (.t 59)), .op (some (55, false)) (.faddr 61 (.t 5) 2 2), .op (some (55, false)) (.load 62 false 1 (.t 61)), .call (some (55, false)) (some 63) 14 [(false, (.t 56)), (false, (.t 58)), (false, (.t 60)), (false, (.t 62))], O1 (.pick 64 (.t 55) (.c (.bool true)) (.t 63)), O1 (.asg 6 (.t 64))])
 .ret)))))))
def rets_exchequerlaw16_AllowGrows : List Ret := [.t 6]
theorem of_exchequerlaw16_AllowGrows {args : List SV} {Post : SV → List SV → Prop} (h : wqF Try.prog 65 ir_exchequerlaw16_AllowGrows rets_exchequerlaw16_AllowGrows args Post) (hn : args.length ≤ 65) : Fn Try.prog 5 args Post :=
 Fn.of_body' Try.func5 rfl Try.ntmps5 (by kernel_rfl) (by kernel_rfl) hn (wqF_wp h)
end Go.Ab

set_option maxRecDepth 100000
set_option maxHeartbeats 4000000
namespace Go.Ab
open Go.Proofs

theorem findAt_names {α : Type} (nm : α → Str) (n : Str) : ∀ (k : Nat) (l : List α), findAt (fun t => decide (nm t = n)) k l = findAt (fun s : Str => decide (s = n)) k (l.map nm)
  | _, [] => rfl
  | k, a :: r => by
    simp only [List.map_cons, findAt]
    rw [findAt_names nm n (k + 1) r]
theorem names_set {α : Type} {nm : α → Str} {l : List α} {j : Nat} {x y : α} (h : l[j]? = some x) (hn : nm y = nm x) : (l.set j y).map nm = l.map nm := by
  rw [List.map_set]
  apply List.ext_getElem?
  intro i
  by_cases hi : j = i
  · subst hi
    have hj := (List.getElem?_eq_some_iff.1 h).1
    rw [List.getElem?_set_self (by simpa using hj), List.getElem?_map, h, hn]
    rfl
  · rw [List.getElem?_set_ne hi]
theorem findAt_set {α : Type} {nm : α → Str} {l : List α} {j : Nat} {x y : α} (h : l[j]? = some x) (hn : nm y = nm x) (n : Str) (k : Nat) :
    findAt (fun t => decide (nm t = n)) k (l.set j y) = findAt (fun t => decide (nm t = n)) k l := by
  rw [findAt_names nm n k (l.set j y), findAt_names nm n k l, names_set h hn]
theorem anyH_all {r : Roll} {u : Str} {w : Bool} {k : Str} : AnyH (allM r u w) k ↔ ∃ n ∈ rolesOf r u, ∃ g ∈ grantsOf r n, gsel w g = true ∧ SpR g.sp ∧ SpH g.sp k := by
  unfold AnyH allM spansOf
  constructor
  · rintro ⟨s, hs, h1, h2⟩
    obtain ⟨n, hn, hs⟩ := List.mem_flatMap.1 hs
    obtain ⟨g, hg, rfl⟩ := List.mem_map.1 hs
    obtain ⟨hg1, hg2⟩ := List.mem_filter.1 hg
    exact ⟨n, hn, g, hg1, hg2, h1, h2⟩
  · rintro ⟨n, hn, g, hg, hw, h1, h2⟩
    exact ⟨g.sp, List.mem_flatMap.2 ⟨n, hn, List.mem_map.2 ⟨g, List.mem_filter.2 ⟨hg, hw⟩, rfl⟩⟩, h1, h2⟩
theorem rCov_mono {l l' : List Sp} (h : ∀ k, AnyH l k → AnyH l' k) {s : Sp} (hc : RCov l s) : RCov l' s := by
  rw [rCov_iff] at hc ⊢
  exact ⟨hc.1, fun k hk => h k (hc.2 k hk)⟩
theorem mayM_mono {r r' : Roll} {u : Str} (h : ∀ w k, AnyH (allM r u w) k → AnyH (allM r' u w) k) {a c : List Sp} (hm : mayM r u a c = true) : mayM r' u a c = true := by
  unfold mayM at hm ⊢
  rw [Bool.and_eq_true, List.all_eq_true, List.all_eq_true] at hm ⊢
  exact ⟨fun s hs => decide_eq_true (rCov_mono (h false) (of_decide_eq_true (hm.1 s hs))), fun s hs => decide_eq_true (rCov_mono (h true) (of_decide_eq_true (hm.2 s hs)))⟩
/-- What one roll has of another one. -/
def Less (r r' : Roll) : Prop := (∀ u, ∀ n ∈ rolesOf r u, n ∈ rolesOf r' u) ∧ ∀ n, ∀ g ∈ grantsOf r n, g ∈ grantsOf r' n
theorem less_may {r r' : Roll} (h : Less r r') {u : Str} {a c : List Sp} (hm : mayM r u a c = true) : mayM r' u a c = true :=
  mayM_mono (fun w k => by
    rw [anyH_all, anyH_all]
    rintro ⟨n, hn, g, hg, h1⟩
    exact ⟨n, h.1 u n hn, g, h.2 n g hg, h1⟩) hm
theorem grants_set {r : Roll} {j : Nat} {x y : Rol} (h : r.rols[j]? = some x) (hn : y.name = x.name) (rev : Int) (n : Str) :
    grantsOf { r with rev := rev, rols := r.rols.set j y } n = if r.rolAt n = (j : Int) then y.grants else grantsOf r n := by
  have hr : Roll.rolAt { r with rev := rev, rols := r.rols.set j y } n = r.rolAt n := findAt_set (nm := Rol.name) h hn n 0
  have hj := (List.getElem?_eq_some_iff.1 h).1
  unfold grantsOf
  rw [hr]
  by_cases h0 : r.rolAt n < 0
  · rw [if_pos h0, if_neg (by omega), if_pos h0]
  · rw [if_neg h0, if_neg h0]
    by_cases he : r.rolAt n = (j : Int)
    · rw [if_pos he, he, Int.toNat_natCast]
      dsimp only
      rw [List.getElem?_set_self hj]
    · rw [if_neg he]
      dsimp only
      rw [List.getElem?_set_ne (by omega)]
theorem roles_set {r : Roll} {j : Nat} {x y : Usr} (h : r.usrs[j]? = some x) (hn : y.name = x.name) (rev : Int) (u : Str) :
    rolesOf { r with rev := rev, usrs := r.usrs.set j y } u = if r.usrAt u = (j : Int) then y.roles else rolesOf r u := by
  have hr : Roll.usrAt { r with rev := rev, usrs := r.usrs.set j y } u = r.usrAt u := findAt_set (nm := Usr.name) h hn u 0
  have hj := (List.getElem?_eq_some_iff.1 h).1
  unfold rolesOf
  rw [hr]
  by_cases h0 : r.usrAt u < 0
  · rw [if_pos h0, if_neg (by omega), if_pos h0]
  · rw [if_neg h0, if_neg h0]
    by_cases he : r.usrAt u = (j : Int)
    · rw [if_pos he, he, Int.toNat_natCast]
      dsimp only
      rw [List.getElem?_set_self hj]
    · rw [if_neg he]
      dsimp only
      rw [List.getElem?_set_ne (by omega)]
theorem less_refl (r : Roll) : Less r r := ⟨fun _ _ h => h, fun _ _ h => h⟩
theorem grant_less (r : Roll) (c : Cmd) : Less r (grantM r c).1 := by
  unfold grantM
  repeat' split
  all_goals first | exact less_refl r | skip
  rename_i h0 _ x hx _ _
  have hx' : r.rols[(r.rolAt c.name).toNat]? = some x := hx
  refine ⟨fun u n h => h, fun n g hg => ?_⟩
  show g ∈ grantsOf _ n
  refine (congrArg (g ∈ ·) (grants_set (y := { x with grants := x.grants ++ [c.grant] }) hx' rfl (r.rev + 1) n)).mpr ?_
  dsimp only
  split
  · rename_i he
    unfold grantsOf at hg
    rw [if_neg (by omega), he, Int.toNat_natCast, hx'] at hg
    exact List.mem_append_left _ hg
  · exact hg
theorem have_less (r : Roll) (c : Cmd) (hk : c.kind = 13) : Less r (haveM r c).1 := by
  unfold haveM
  repeat' split
  all_goals first | exact less_refl r | (exfalso; omega) | skip
  rename_i h0 _ x hx _ _ _ _ _ _ _ _
  have hx' : r.usrs[(r.usrAt c.name).toNat]? = some x := hx
  refine ⟨fun u n hn => ?_, fun n g hg => hg⟩
  show n ∈ rolesOf _ u
  refine (congrArg (n ∈ ·) (roles_set (y := { x with roles := insBy (fun e => decide (c.other < e)) c.other x.roles }) hx' rfl (r.rev + 1) u)).mpr ?_
  dsimp only
  split
  · rename_i he
    unfold rolesOf at hn
    rw [if_neg (by omega), he, Int.toNat_natCast, hx'] at hn
    exact insBy_mem.2 (.inr hn)
  · exact hn
theorem next_less (r : Roll) (c : Cmd) (hk : c.kind = 11 ∨ c.kind = 13) : Less r (next r c) := by
  unfold next doM
  rw [if_neg (by omega)]
  split
  · exact less_refl r
  rw [if_neg (by omega), if_neg (by omega), if_neg (by omega), if_neg (by omega), if_neg (by omega), if_neg (by omega), if_neg (by omega)]
  rcases hk with hk | hk
  · rw [if_pos hk]; exact grant_less r c
  · rw [if_neg (by omega), if_neg (by omega)]; exact have_less r c hk
end Go.Ab


set_option maxRecDepth 100000
set_option maxHeartbeats 40000000
namespace Go.Ab
open Go.Proofs

theorem beh_one {c : Cmd} (h : (behM [c]).2 = true) : bigC c = false := by
  unfold behM at h
  rw [if_neg (by simp)] at h
  rw [runL_cons] at h
  cases hb : bigC c
  · rfl
  · simp [behStep, hb, aft] at h
theorem big_bounds {c : Cmd} (h : bigC c = false) : c.word.length ≤ 1000000 ∧ c.salt.length ≤ 1000000 := by
  unfold bigC at h
  simp only [Bool.or_eq_false_iff, decide_eq_false_iff_not] at h
  omega
theorem law_grows (l : List Cmd) (c0 : Cmd) (u : Str) (a c : List Sp) (hl : l.length ≤ 9223372036854775807) (ha : a.length ≤ 9223372036854775807) (hc : c.length ≤ 9223372036854775807) :
    Fn Try.prog F_exchequerlaw16_AllowGrows [.v (.list (l.map Cmd.toI)), .v c0.toI, .v (askI u a c)] (Is (.v (.bool true)) [.no, .no, .no]) := by
  refine of_exchequerlaw16_AllowGrows ?_ (by simp)
  have hB := spec_behind l hl
  have hf := behM_fit l
  have hB1 := spec_behind [c0] (by simp)
  have hbig := @beh_one c0
  obtain ⟨M1, hM1⟩ : ∃ M, M = behM [c0] := ⟨_, rfl⟩
  rw [← hM1] at hB1 hbig
  clear hM1
  obtain ⟨M, hM⟩ : ∃ M, M = behM l := ⟨_, rfl⟩
  rw [← hM] at hB hf
  clear hM
  obtain ⟨R, ok⟩ := M
  obtain ⟨R1, ok1⟩ := M1
  dsimp only at hB hf hB1 hbig
  have hG := spec_greatA u a c ha hc
  cases ok
  · repeat' ((conv => whnf); first
      | (refine And.intro (fun hb => ?_) (fun hb => ?_) <;> first | (exact absurd hb (by first | assumption | decide)) | (with_reducible exact absurd hb Bool.false_ne_true) | (with_reducible exact absurd hb.symm Bool.false_ne_true) | (exfalso; first | (simp only [LENS] at hb <;> omega) | omega) | ((try rw [hb]); (try simp only [NRMS] at hb); (try subst hb)))
      | (refine Exists.intro ?_ ?_; focus (and_intros <;> first | omega | exact rfl | assumption | (intro _ hh; cases hh; done) | exact all_size (by rfl) | exact size_map (fun _ => rfl) | exact size_one rfl | exact take_size (fun _ => rfl) | exact dsize_one rfl | exact dsize_map (fun _ => rfl) | exact dsize_its (fun _ => rfl) | (simp only [LENS]; omega) | (simp; done) | decide))
      | (intro hfact)
      | (refine CallWp.mk ⟨_, spec_awake, ?_⟩; rintro _ _ ⟨rfl, rfl⟩)
      | (refine CallWp.mk ⟨_, hB, ?_⟩; rintro _ _ ⟨rfl, rfl⟩)
      | (refine CallWp.mk ⟨_, hB1, ?_⟩; rintro _ _ ⟨rfl, rfl⟩)
      | (refine CallWp.mk ⟨_, hG, ?_⟩; rintro _ _ ⟨rfl, rfl⟩))
    all_goals (try (conv => whnf))
    all_goals exact Done.mk ⟨rfl, by kernel_rfl⟩ (by kernel_rfl)
  cases ok1
  · repeat' ((conv => whnf); first
      | (refine And.intro (fun hb => ?_) (fun hb => ?_) <;> first | (exact absurd hb (by first | assumption | decide)) | (with_reducible exact absurd hb Bool.false_ne_true) | (with_reducible exact absurd hb.symm Bool.false_ne_true) | (exfalso; first | (simp only [LENS] at hb <;> omega) | omega) | ((try rw [hb]); (try simp only [NRMS] at hb); (try subst hb)))
      | (refine Exists.intro ?_ ?_; focus (and_intros <;> first | omega | exact rfl | assumption | (intro _ hh; cases hh; done) | exact all_size (by rfl) | exact size_map (fun _ => rfl) | exact size_one rfl | exact take_size (fun _ => rfl) | exact dsize_one rfl | exact dsize_map (fun _ => rfl) | exact dsize_its (fun _ => rfl) | (simp only [LENS]; omega) | (simp; done) | decide))
      | (intro hfact)
      | (refine CallWp.mk ⟨_, spec_awake, ?_⟩; rintro _ _ ⟨rfl, rfl⟩)
      | (refine CallWp.mk ⟨_, hB, ?_⟩; rintro _ _ ⟨rfl, rfl⟩)
      | (refine CallWp.mk ⟨_, hB1, ?_⟩; rintro _ _ ⟨rfl, rfl⟩)
      | (refine CallWp.mk ⟨_, hG, ?_⟩; rintro _ _ ⟨rfl, rfl⟩))
    all_goals (try (conv => whnf))
    all_goals exact Done.mk ⟨rfl, by kernel_rfl⟩ (by kernel_rfl)
  cases hg : greatA u a c
  case true =>
    rw [hg] at hG
    repeat' ((conv => whnf); first
      | (refine And.intro (fun hb => ?_) (fun hb => ?_) <;> first | (exact absurd hb (by first | assumption | decide)) | (with_reducible exact absurd hb Bool.false_ne_true) | (with_reducible exact absurd hb.symm Bool.false_ne_true) | (exfalso; first | (simp only [LENS] at hb <;> omega) | omega) | ((try rw [hb]); (try simp only [NRMS] at hb); (try subst hb)))
      | (refine Exists.intro ?_ ?_; focus (and_intros <;> first | omega | exact rfl | assumption | (intro _ hh; cases hh; done) | exact all_size (by rfl) | exact size_map (fun _ => rfl) | exact size_one rfl | exact take_size (fun _ => rfl) | exact dsize_one rfl | exact dsize_map (fun _ => rfl) | exact dsize_its (fun _ => rfl) | (simp only [LENS]; omega) | (simp; done) | decide))
      | (intro hfact)
      | (refine CallWp.mk ⟨_, spec_awake, ?_⟩; rintro _ _ ⟨rfl, rfl⟩)
      | (refine CallWp.mk ⟨_, hB, ?_⟩; rintro _ _ ⟨rfl, rfl⟩)
      | (refine CallWp.mk ⟨_, hB1, ?_⟩; rintro _ _ ⟨rfl, rfl⟩)
      | (refine CallWp.mk ⟨_, hG, ?_⟩; rintro _ _ ⟨rfl, rfl⟩))
    all_goals (try (conv => whnf))
    all_goals exact Done.mk ⟨rfl, by kernel_rfl⟩ (by kernel_rfl)
  rw [hg] at hG
  obtain ⟨b1, b2, b3⟩ := great_bounds hg
  have hbb := big_bounds (hbig rfl)
  have m0 := spec_may sortNil R hf u a c (by omega) (by omega)
  obtain ⟨c1, hc1⟩ : ∃ c1 : Cmd, c1 = { c0 with kind := if c0.kind = 13 then 13 else 11 } := ⟨_, rfl⟩
  have hk1 : c1.kind = 11 ∨ c1.kind = 13 := by
    rw [hc1]; dsimp only; split <;> simp
  have hws : c1.word.length ≤ 1000000 ∧ c1.salt.length ≤ 1000000 := by rw [hc1]; exact hbb
  have hd := spec_do R hf.small c1 (by have := hf.hV; omega) hws
  have hn := next_fit hf c1
  have hle : mayM R u a c = true → mayM (next R c1) u a c = true := fun h => less_may (next_less R c1 hk1) h
  obtain ⟨D, hD⟩ : ∃ D, D = doM R c1 := ⟨_, rfl⟩
  have hD1 : next R c1 = D.1 := by rw [hD]; rfl
  rw [← hD] at hd
  rw [hD1] at hn hle
  clear hD hD1
  have m1 := spec_may sortNil D.1 hn u a c (by omega) (by omega)
  by_cases h13 : c0.kind = 13
  · have hc2 : c1 = c0 := by rw [hc1, if_pos h13, ← h13]
    rw [hc2] at hd
    cases hmay : mayM R u a c
    · rw [hmay] at m0
      repeat' ((conv => whnf); first
        | (refine And.intro (fun hb => ?_) (fun hb => ?_) <;> first | (exact absurd hb (by first | assumption | decide)) | (with_reducible exact absurd hb Bool.false_ne_true) | (with_reducible exact absurd hb.symm Bool.false_ne_true) | (exfalso; first | (simp only [LENS] at hb <;> omega) | omega) | ((try rw [hb]); (try simp only [NRMS] at hb); (try subst hb)))
        | (refine Exists.intro ?_ ?_; focus (and_intros <;> first | omega | exact rfl | assumption | (intro _ hh; cases hh; done) | exact all_size (by rfl) | exact size_map (fun _ => rfl) | exact size_one rfl | exact take_size (fun _ => rfl) | exact dsize_one rfl | exact dsize_map (fun _ => rfl) | exact dsize_its (fun _ => rfl) | (simp only [LENS]; omega) | (simp; done) | decide))
        | (intro hfact)
        | (refine CallWp.mk ⟨_, spec_awake, ?_⟩; rintro _ _ ⟨rfl, rfl⟩)
        | (refine CallWp.mk ⟨_, hB, ?_⟩; rintro _ _ ⟨rfl, rfl⟩)
        | (refine CallWp.mk ⟨_, hB1, ?_⟩; rintro _ _ ⟨rfl, rfl⟩)
        | (refine CallWp.mk ⟨_, hG, ?_⟩; rintro _ _ ⟨rfl, rfl⟩)
        | (refine CallWp.mk ⟨_, hd, ?_⟩; rintro _ _ ⟨rfl, rfl⟩)
        | (refine CallWp.mk ⟨_, m0, ?_⟩; rintro _ _ ⟨rfl, rfl⟩))
      all_goals (try (conv => whnf))
      all_goals exact Done.mk ⟨rfl, by kernel_rfl⟩ (by kernel_rfl)
    · rw [hmay] at m0
      rw [hle hmay] at m1
      repeat' ((conv => whnf); first
        | (refine And.intro (fun hb => ?_) (fun hb => ?_) <;> first | (exact absurd hb (by first | assumption | decide)) | (with_reducible exact absurd hb Bool.false_ne_true) | (with_reducible exact absurd hb.symm Bool.false_ne_true) | (exfalso; first | (simp only [LENS] at hb <;> omega) | omega) | ((try rw [hb]); (try simp only [NRMS] at hb); (try subst hb)))
        | (refine Exists.intro ?_ ?_; focus (and_intros <;> first | omega | exact rfl | assumption | (intro _ hh; cases hh; done) | exact all_size (by rfl) | exact size_map (fun _ => rfl) | exact size_one rfl | exact take_size (fun _ => rfl) | exact dsize_one rfl | exact dsize_map (fun _ => rfl) | exact dsize_its (fun _ => rfl) | (simp only [LENS]; omega) | (simp; done) | decide))
        | (intro hfact)
        | (refine CallWp.mk ⟨_, spec_awake, ?_⟩; rintro _ _ ⟨rfl, rfl⟩)
        | (refine CallWp.mk ⟨_, hB, ?_⟩; rintro _ _ ⟨rfl, rfl⟩)
        | (refine CallWp.mk ⟨_, hB1, ?_⟩; rintro _ _ ⟨rfl, rfl⟩)
        | (refine CallWp.mk ⟨_, hG, ?_⟩; rintro _ _ ⟨rfl, rfl⟩)
        | (refine CallWp.mk ⟨_, hd, ?_⟩; rintro _ _ ⟨rfl, rfl⟩)
        | (refine CallWp.mk ⟨_, m0, ?_⟩; rintro _ _ ⟨rfl, rfl⟩)
        | (refine CallWp.mk ⟨_, m1, ?_⟩; rintro _ _ ⟨rfl, rfl⟩))
      all_goals (try (conv => whnf))
      all_goals exact Done.mk ⟨rfl, by kernel_rfl⟩ (by kernel_rfl)
  · rw [if_neg h13] at hc1
    rw [hc1] at hd
    cases hmay : mayM R u a c
    · rw [hmay] at m0
      repeat' ((conv => whnf); first
        | (refine And.intro (fun hb => ?_) (fun hb => ?_) <;> first | (exact absurd hb (by first | assumption | decide)) | (with_reducible exact absurd hb Bool.false_ne_true) | (with_reducible exact absurd hb.symm Bool.false_ne_true) | (exfalso; first | (simp only [LENS] at hb <;> omega) | omega) | ((try rw [hb]); (try simp only [NRMS] at hb); (try subst hb)))
        | (refine Exists.intro ?_ ?_; focus (and_intros <;> first | omega | exact rfl | assumption | (intro _ hh; cases hh; done) | exact all_size (by rfl) | exact size_map (fun _ => rfl) | exact size_one rfl | exact take_size (fun _ => rfl) | exact dsize_one rfl | exact dsize_map (fun _ => rfl) | exact dsize_its (fun _ => rfl) | (simp only [LENS]; omega) | (simp; done) | decide))
        | (intro hfact)
        | (refine CallWp.mk ⟨_, spec_awake, ?_⟩; rintro _ _ ⟨rfl, rfl⟩)
        | (refine CallWp.mk ⟨_, hB, ?_⟩; rintro _ _ ⟨rfl, rfl⟩)
        | (refine CallWp.mk ⟨_, hB1, ?_⟩; rintro _ _ ⟨rfl, rfl⟩)
        | (refine CallWp.mk ⟨_, hG, ?_⟩; rintro _ _ ⟨rfl, rfl⟩)
        | (refine CallWp.mk ⟨_, hd, ?_⟩; rintro _ _ ⟨rfl, rfl⟩)
        | (refine CallWp.mk ⟨_, m0, ?_⟩; rintro _ _ ⟨rfl, rfl⟩))
      all_goals (try (conv => whnf))
      all_goals exact Done.mk ⟨rfl, by kernel_rfl⟩ (by kernel_rfl)
    · rw [hmay] at m0
      rw [hle hmay] at m1
      repeat' ((conv => whnf); first
        | (refine And.intro (fun hb => ?_) (fun hb => ?_) <;> first | (exact absurd hb (by first | assumption | decide)) | (with_reducible exact absurd hb Bool.false_ne_true) | (with_reducible exact absurd hb.symm Bool.false_ne_true) | (exfalso; first | (simp only [LENS] at hb <;> omega) | omega) | ((try rw [hb]); (try simp only [NRMS] at hb); (try subst hb)))
        | (refine Exists.intro ?_ ?_; focus (and_intros <;> first | omega | exact rfl | assumption | (intro _ hh; cases hh; done) | exact all_size (by rfl) | exact size_map (fun _ => rfl) | exact size_one rfl | exact take_size (fun _ => rfl) | exact dsize_one rfl | exact dsize_map (fun _ => rfl) | exact dsize_its (fun _ => rfl) | (simp only [LENS]; omega) | (simp; done) | decide))
        | (intro hfact)
        | (refine CallWp.mk ⟨_, spec_awake, ?_⟩; rintro _ _ ⟨rfl, rfl⟩)
        | (refine CallWp.mk ⟨_, hB, ?_⟩; rintro _ _ ⟨rfl, rfl⟩)
        | (refine CallWp.mk ⟨_, hB1, ?_⟩; rintro _ _ ⟨rfl, rfl⟩)
        | (refine CallWp.mk ⟨_, hG, ?_⟩; rintro _ _ ⟨rfl, rfl⟩)
        | (refine CallWp.mk ⟨_, hd, ?_⟩; rintro _ _ ⟨rfl, rfl⟩)
        | (refine CallWp.mk ⟨_, m0, ?_⟩; rintro _ _ ⟨rfl, rfl⟩)
        | (refine CallWp.mk ⟨_, m1, ?_⟩; rintro _ _ ⟨rfl, rfl⟩))
      all_goals (try (conv => whnf))
      all_goals exact Done.mk ⟨rfl, by kernel_rfl⟩ (by kernel_rfl)
end Go.Ab

