/- One text of the proof whose last text says what is proved. -/
import Derived.Test.YtoombangidlpjaaA0
import Derived.Test.YtoombangidlpjaaA20
import Derived.Test.YtoombangidlpjaaAb21c
import Derived.Test.YtoombangidlpjaaA21
set_option linter.unusedVariables false
set_option linter.unusedSimpArgs false
set_option maxRecDepth 100000
namespace Go.Ab
open Go.Proofs
/-- exchequer/exchequerlaw16.AllowKeys · parameters [[]api.Cmd, exchequerlaw16.Ask, string] -/
abbrev F_exchequerlaw16_AllowKeys : FuncId := 4
def ir_exchequerlaw16_AllowKeys : Stm :=
 (.seq
 (.ops [
 O1 (.box 4 (.t 1)), O1 (.asg 6 (.c (.bool false)))])
 (.seq
 (.seq
 (.ops [ .call none (some 14) 7 [], O1 (.not 15 (.t 14))])
 (.cond (.t 15)
 (.seq
 (.ops [
 O1 (.asg 6 (.c (.bool false)))])
 .ret)
 .skip))
 (.seq
 (.ops [
 O1 (.mv 17 (.t 0)), .call none (some 18) 8 [(false, (.t 17))], O1 (.asg 16 (.t 18)), O1 (.ext 19 (.t 16) 0), O1 (.ext 20 (.t 16) 1), O1 (.alloc 7 (.one (.i (.agg [(.int .i64 0), (.list []), (.list []), (.list [])])))), O1 (.store 4 (.t 7) (.t 19)), O1 (.asg 8 (.t 20))])
 (.seq
 (.seq
 (.ops [
 O1 (.mv 21 (.t 8)), O1 (.not 22 (.t 21)), O1 (.mv 23 (.t 22)), .op (some (23, false)) (.load 24 true 3 (.t 4)), .call (some (23, false)) (some 25) 9 [(false, (.t 24))], O1 (.pick 26 (.t 23) (.c (.bool true)) (.t 25)), O1 (.mv 27 (.t 26)), .op (some (27, false)) (.mv 28 (.t 2)), .op (some (27, false)) (.len 29 true (.t 28)), .op (some (27, false)) (.bin 30 .gtr (.t 29) (.c (.int .i64 64))), O1 (.pick 31 (.t 27) (.c (.bool true)) (.t 30)), O1 (.mv 32 (.t 31)), .op (some (32, false)) (.load 33 true 4 (.t 7)), .op (some (32, false)) (.faddr 34 (.t 4) 0 0), .op (some (32, false)) (.load 35 false 1 (.t 34)), .op (some (32, false)) (.faddr 36 (.t 4) 1 1), .op (some (32, false)) (.load 37 false 1 (.t 36)), .op (some (32, false)) (.faddr 38 (.t 4) 2 2), .op (some (32, false)) (.load 39 false 1 (.t 38)),
 .peek (some (32, false)) (some 40) 14 [(false, (.t 33)), (false, (.t 35)), (false, (.t 37)), (false, (.t 39))], .op (some (32, false)) (.not 41 (.t 40)), O1 (.pick 42 (.t 32) (.c (.bool true)) (.t 41))])
 (.cond (.t 42)
 (.seq
 (.ops [
 O1 (.asg 6 (.c (.bool true)))])
 .ret)
 .skip))
 (.seq
 (.ops [
 O1 (.mv 43 (.t 2)), O1 (.mv 44 (.t 2)), O1 (.bin 45 .add (.t 44) (.c (.str [0]))), O1 (.build 46 [(.str []), (.str [])] [(0, (.t 43)), (1, (.t 45))]), O1 (.bsl 47 41 2 (.agg [(.str []), (.str [])]) 1 [(0, (.t 46))]), O1 (.asg 9 (.t 47))])
 (.seq
 (.seq
 (.ops [
 O1 (.faddr 48 (.t 4) 1 1), O1 (.load 49 false 1 (.t 48)), O1 (.len 50 false (.t 49)), O1 (.mv 51 (.c (.int .i64 0)))])
 (.block 0
 (.loop [6, 11, 17, 52, 53, 54, 55, 56, 57, 58, 59, 60, 61, 62, 63, 64, 65, 66, 81]
 (.seq
 (.ops [
 O1 (.bin 52 .lss (.t 51) (.t 50))])
 (.seq
 (.cond (.t 52)
 .skip
 (.exit 0))
 (.seq
 (.block 1
 (.seq
 (.ops [
 O1 (.iaddr 53 2 (.t 49) (.t 51)), O1 (.load 54 true 2 (.t 53)), O1 (.alloc 11 (.one (.i (.agg [(.str []), (.str [])])))), O1 (.store 2 (.t 11) (.t 54))])
 (.seq
 (.ops [
 O1 (.load 55 true 2 (.t 11)), O1 (.mv 56 (.t 2)), .call none (some 57) 16 [(false, (.t 55)), (false, (.t 56))], O1 (.mv 58 (.t 57)), .op (some (58, true)) (.load 59 true 4 (.t 7)), .op (some (58, true)) (.faddr 60 (.t 4) 0 0), .op (some (58, true)) (.load 61 false 1 (.t 60)), .op (some (58, true)) (.mv 62 (.t 9)),
 .peek (some (58, true)) (some 63) 14 [(false, (.t 59)), (false, (.t 61)), (false, (.t 62)), (false, (.nils 41 2))], .op (some (58, true)) (.not 64 (.t 63)), O1 (.pick 65 (.t 58) (.t 64) (.c (.bool false)))])
 (.cond (.t 65)
 (.seq
 (.ops [
 O1 (.asg 6 (.c (.bool false)))])
 .ret)
 .skip))))
 (.ops [
 O1 (.bin 66 .add (.t 51) (.c (.int .i64 1))), O1 (.mv 51 (.t 66))])))))))
 (.seq
 (.seq
 (.ops [
 O1 (.faddr 67 (.t 4) 2 2), O1 (.load 68 false 1 (.t 67)), O1 (.len 69 false (.t 68)), O1 (.mv 70 (.c (.int .i64 0)))])
 (.block 2
 (.loop [6, 13, 17, 62, 71, 72, 73, 74, 75, 76, 77, 78, 79, 80, 81, 82, 83, 84, 85]
 (.seq
 (.ops [
 O1 (.bin 71 .lss (.t 70) (.t 69))])
 (.seq
 (.cond (.t 71)
 .skip
 (.exit 2))
 (.seq
 (.block 3
 (.seq
 (.ops [
 O1 (.iaddr 72 2 (.t 68) (.t 70)), O1 (.load 73 true 2 (.t 72)), O1 (.alloc 13 (.one (.i (.agg [(.str []), (.str [])])))), O1 (.store 2 (.t 13) (.t 73))])
 (.seq
 (.ops [
 O1 (.load 74 true 2 (.t 13)), O1 (.mv 75 (.t 2)), .call none (some 76) 16 [(false, (.t 74)), (false, (.t 75))], O1 (.mv 77 (.t 76)), .op (some (77, true)) (.load 78 true 4 (.t 7)), .op (some (77, true)) (.faddr 79 (.t 4) 0 0), .op (some (77, true)) (.load 80 false 1 (.t 79)), .op (some (77, true)) (.mv 81 (.t 9)),
 .peek (some (77, true)) (some 82) 14 [(false, (.t 78)), (false, (.t 80)), (false, (.nils 41 2)), (false, (.t 81))], .op (some (77, true)) (.not 83 (.t 82)), O1 (.pick 84 (.t 77) (.t 83) (.c (.bool false)))])
 (.cond (.t 84)
 (.seq
 (.ops [
 O1 (.asg 6 (.c (.bool false)))])
 .ret)
 .skip))))
 (.ops [
 O1 (.bin 85 .add (.t 70) (.c (.int .i64 1))), O1 (.mv 70 (.t 85))])))))))
 (.seq
 (.ops [
 O1 (.asg 6 (.c (.bool true)))])
 .ret))))))))
def rets_exchequerlaw16_AllowKeys : List Ret := [.t 6]
theorem of_exchequerlaw16_AllowKeys {args : List SV} {Post : SV → List SV → Prop} (h : wqF Try.prog 86 ir_exchequerlaw16_AllowKeys rets_exchequerlaw16_AllowKeys args Post) (hn : args.length ≤ 86) : Fn Try.prog 4 args Post :=
 Fn.of_body' Try.func4 rfl Try.ntmps4 (by kernel_rfl) (by kernel_rfl) hn (wqF_wp h)
end Go.Ab

set_option maxRecDepth 100000
set_option maxHeartbeats 4000000
namespace Go.Ab
open Go.Proofs

theorem findAt_names {α : Type} (nm : α → Str) (n : Str) : ∀ (k : Nat) (l : List α), findAt (fun t => decide (nm t = n)) k l = findAt (fun s : Str => decide (s = n)) k (l.map nm)
  | _, [] => rfl
  | k, a :: r => by
    simp only [List.map_cons, findAt]
    rw [findAt_names nm n (k + 1) r]
theorem names_set {α : Type} {nm : α → Str} {l : List α} {j : Nat} {x y : α} (h : l[j]? = some x) (hn : nm y = nm x) : (l.set j y).map nm = l.map nm := by
  rw [List.map_set]
  apply List.ext_getElem?
  intro i
  by_cases hi : j = i
  · subst hi
    have hj := (List.getElem?_eq_some_iff.1 h).1
    rw [List.getElem?_set_self (by simpa using hj), List.getElem?_map, h, hn]
    rfl
  · rw [List.getElem?_set_ne hi]
theorem findAt_set {α : Type} {nm : α → Str} {l : List α} {j : Nat} {x y : α} (h : l[j]? = some x) (hn : nm y = nm x) (n : Str) (k : Nat) :
    findAt (fun t => decide (nm t = n)) k (l.set j y) = findAt (fun t => decide (nm t = n)) k l := by
  rw [findAt_names nm n k (l.set j y), findAt_names nm n k l, names_set h hn]
theorem anyH_all {r : Roll} {u : Str} {w : Bool} {k : Str} : AnyH (allM r u w) k ↔ ∃ n ∈ rolesOf r u, ∃ g ∈ grantsOf r n, gsel w g = true ∧ SpR g.sp ∧ SpH g.sp k := by
  unfold AnyH allM spansOf
  constructor
  · rintro ⟨s, hs, h1, h2⟩
    obtain ⟨n, hn, hs⟩ := List.mem_flatMap.1 hs
    obtain ⟨g, hg, rfl⟩ := List.mem_map.1 hs
    obtain ⟨hg1, hg2⟩ := List.mem_filter.1 hg
    exact ⟨n, hn, g, hg1, hg2, h1, h2⟩
  · rintro ⟨n, hn, g, hg, hw, h1, h2⟩
    exact ⟨g.sp, List.mem_flatMap.2 ⟨n, hn, List.mem_map.2 ⟨g, List.mem_filter.2 ⟨hg, hw⟩, rfl⟩⟩, h1, h2⟩
theorem rCov_mono {l l' : List Sp} (h : ∀ k, AnyH l k → AnyH l' k) {s : Sp} (hc : RCov l s) : RCov l' s := by
  rw [rCov_iff] at hc ⊢
  exact ⟨hc.1, fun k hk => h k (hc.2 k hk)⟩
theorem mayM_mono {r r' : Roll} {u : Str} (h : ∀ w k, AnyH (allM r u w) k → AnyH (allM r' u w) k) {a c : List Sp} (hm : mayM r u a c = true) : mayM r' u a c = true := by
  unfold mayM at hm ⊢
  rw [Bool.and_eq_true, List.all_eq_true, List.all_eq_true] at hm ⊢
  exact ⟨fun s hs => decide_eq_true (rCov_mono (h false) (of_decide_eq_true (hm.1 s hs))), fun s hs => decide_eq_true (rCov_mono (h true) (of_decide_eq_true (hm.2 s hs)))⟩
/-- What one roll has of another one. -/
def Less (r r' : Roll) : Prop := (∀ u, ∀ n ∈ rolesOf r u, n ∈ rolesOf r' u) ∧ ∀ n, ∀ g ∈ grantsOf r n, g ∈ grantsOf r' n
theorem less_may {r r' : Roll} (h : Less r r') {u : Str} {a c : List Sp} (hm : mayM r u a c = true) : mayM r' u a c = true :=
  mayM_mono (fun w k => by
    rw [anyH_all, anyH_all]
    rintro ⟨n, hn, g, hg, h1⟩
    exact ⟨n, h.1 u n hn, g, h.2 n g hg, h1⟩) hm
theorem grants_set {r : Roll} {j : Nat} {x y : Rol} (h : r.rols[j]? = some x) (hn : y.name = x.name) (rev : Int) (n : Str) :
    grantsOf { r with rev := rev, rols := r.rols.set j y } n = if r.rolAt n = (j : Int) then y.grants else grantsOf r n := by
  have hr : Roll.rolAt { r with rev := rev, rols := r.rols.set j y } n = r.rolAt n := findAt_set (nm := Rol.name) h hn n 0
  have hj := (List.getElem?_eq_some_iff.1 h).1
  unfold grantsOf
  rw [hr]
  by_cases h0 : r.rolAt n < 0
  · rw [if_pos h0, if_neg (by omega), if_pos h0]
  · rw [if_neg h0, if_neg h0]
    by_cases he : r.rolAt n = (j : Int)
    · rw [if_pos he, he, Int.toNat_natCast]
      dsimp only
      rw [List.getElem?_set_self hj]
    · rw [if_neg he]
      dsimp only
      rw [List.getElem?_set_ne (by omega)]
theorem roles_set {r : Roll} {j : Nat} {x y : Usr} (h : r.usrs[j]? = some x) (hn : y.name = x.name) (rev : Int) (u : Str) :
    rolesOf { r with rev := rev, usrs := r.usrs.set j y } u = if r.usrAt u = (j : Int) then y.roles else rolesOf r u := by
  have hr : Roll.usrAt { r with rev := rev, usrs := r.usrs.set j y } u = r.usrAt u := findAt_set (nm := Usr.name) h hn u 0
  have hj := (List.getElem?_eq_some_iff.1 h).1
  unfold rolesOf
  rw [hr]
  by_cases h0 : r.usrAt u < 0
  · rw [if_pos h0, if_neg (by omega), if_pos h0]
  · rw [if_neg h0, if_neg h0]
    by_cases he : r.usrAt u = (j : Int)
    · rw [if_pos he, he, Int.toNat_natCast]
      dsimp only
      rw [List.getElem?_set_self hj]
    · rw [if_neg he]
      dsimp only
      rw [List.getElem?_set_ne (by omega)]
theorem less_refl (r : Roll) : Less r r := ⟨fun _ _ h => h, fun _ _ h => h⟩
theorem grant_less (r : Roll) (c : Cmd) : Less r (grantM r c).1 := by
  unfold grantM
  repeat' split
  all_goals first | exact less_refl r | skip
  rename_i h0 _ x hx _ _
  have hx' : r.rols[(r.rolAt c.name).toNat]? = some x := hx
  refine ⟨fun u n h => h, fun n g hg => ?_⟩
  show g ∈ grantsOf _ n
  refine (congrArg (g ∈ ·) (grants_set (y := { x with grants := x.grants ++ [c.grant] }) hx' rfl (r.rev + 1) n)).mpr ?_
  dsimp only
  split
  · rename_i he
    unfold grantsOf at hg
    rw [if_neg (by omega), he, Int.toNat_natCast, hx'] at hg
    exact List.mem_append_left _ hg
  · exact hg
theorem have_less (r : Roll) (c : Cmd) (hk : c.kind = 13) : Less r (haveM r c).1 := by
  unfold haveM
  repeat' split
  all_goals first | exact less_refl r | (exfalso; omega) | skip
  rename_i h0 _ x hx _ _ _ _ _ _ _ _
  have hx' : r.usrs[(r.usrAt c.name).toNat]? = some x := hx
  refine ⟨fun u n hn => ?_, fun n g hg => hg⟩
  show n ∈ rolesOf _ u
  refine (congrArg (n ∈ ·) (roles_set (y := { x with roles := insBy (fun e => decide (c.other < e)) c.other x.roles }) hx' rfl (r.rev + 1) u)).mpr ?_
  dsimp only
  split
  · rename_i he
    unfold rolesOf at hn
    rw [if_neg (by omega), he, Int.toNat_natCast, hx'] at hn
    exact insBy_mem.2 (.inr hn)
  · exact hn
theorem next_less (r : Roll) (c : Cmd) (hk : c.kind = 11 ∨ c.kind = 13) : Less r (next r c) := by
  unfold next doM
  rw [if_neg (by omega)]
  split
  · exact less_refl r
  rw [if_neg (by omega), if_neg (by omega), if_neg (by omega), if_neg (by omega), if_neg (by omega), if_neg (by omega), if_neg (by omega)]
  rcases hk with hk | hk
  · rw [if_pos hk]; exact grant_less r c
  · rw [if_neg (by omega), if_neg (by omega)]; exact have_less r c hk
end Go.Ab


namespace Go.Ab

theorem le_prefix_255 : ∀ {p k : Str}, (∀ x ∈ p, x = 255) → (p ≤ k ↔ p <+: k)
  | [], k, _ => by simp
  | c :: p, [], _ => by simp
  | c :: p, x :: k, h => by
    have hc := h c (List.mem_cons_self ..)
    subst hc
    have ih := le_prefix_255 (p := p) (k := k) fun y hy => h y (List.mem_cons_of_mem _ hy)
    rw [List.cons_le_cons_iff, List.cons_prefix_cons, ih]
    have h1 : ¬ (255 : UInt8) < x := by
      intro h2
      have h3 := UInt8.lt_iff_toNat_lt.1 h2
      have h4 := x.toNat_lt
      simp at h3
      omega
    simp [h1]
theorem lt_succ {x c : UInt8} (hc : c ≠ 255) : x < c + 1 ↔ x < c ∨ x = c := by
  have h1 : c.toNat ≠ 255 := fun e => hc (UInt8.toNat_inj.1 (by simpa using e))
  have h2 := c.toNat_lt
  have h3 : (c + 1).toNat = c.toNat + 1 := by
    rw [UInt8.toNat_add]
    simp
    omega
  rw [UInt8.lt_iff_toNat_lt, UInt8.lt_iff_toNat_lt, h3, ← UInt8.toNat_inj]
  omega
theorem under_has : ∀ {q : Str} {c : UInt8} {F k : Str}, c ≠ 255 → (∀ x ∈ F, x = 255) → ((q ++ c :: F ≤ k ∧ k < q ++ [c + 1]) ↔ q ++ c :: F <+: k)
  | [], c, F, [], hc, hF => by simp
  | [], c, F, x :: k, hc, hF => by
    have h1 := le_prefix_255 (k := k) hF
    simp only [List.nil_append]
    rw [List.cons_le_cons_iff, List.cons_lt_cons_iff, List.cons_prefix_cons, lt_succ hc, ← h1]
    have h2 : ¬ k < [] := List.not_lt_nil k
    constructor
    · rintro ⟨h3, h4⟩
      rcases h4 with (h4 | rfl) | ⟨_, h4⟩
      · rcases h3 with h3 | ⟨h3, _⟩
        · exact absurd (UInt8.lt_trans h3 h4) (UInt8.lt_irrefl _)
        · subst h3; exact absurd h4 (UInt8.lt_irrefl _)
      · rcases h3 with h3 | ⟨_, h3⟩
        · exact absurd h3 (UInt8.lt_irrefl _)
        · exact ⟨rfl, h3⟩
      · exact absurd h4 h2
    · rintro ⟨rfl, h3⟩
      exact ⟨.inr ⟨rfl, h3⟩, .inl (.inr rfl)⟩
  | a :: q, c, F, [], hc, hF => by simp
  | a :: q, c, F, x :: k, hc, hF => by
    have ih := under_has (q := q) (k := k) hc hF
    simp only [List.cons_append]
    rw [List.cons_le_cons_iff, List.cons_lt_cons_iff, List.cons_prefix_cons, ← ih]
    constructor
    · rintro ⟨h3, h4⟩
      rcases h3 with h3 | ⟨rfl, h3⟩
      · rcases h4 with h4 | ⟨rfl, _⟩
        · exact absurd (UInt8.lt_trans h3 h4) (UInt8.lt_irrefl _)
        · exact absurd h3 (UInt8.lt_irrefl _)
      · rcases h4 with h4 | ⟨_, h4⟩
        · exact absurd h4 (UInt8.lt_irrefl _)
        · exact ⟨rfl, h3, h4⟩
    · rintro ⟨rfl, h3, h4⟩
      exact ⟨.inr ⟨rfl, h3⟩, .inr ⟨rfl, h4⟩⟩
theorem key_has : ∀ {p k : Str}, (p ≤ k ∧ k < p ++ [0]) ↔ k = p
  | [], [] => by simp
  | [], x :: k => by
    simp only [List.nil_append]
    rw [List.cons_lt_cons_iff]
    have h1 : ¬ x < 0 := by
      intro h
      have := UInt8.lt_iff_toNat_lt.1 h
      simp at this
    have h2 : ¬ k < [] := List.not_lt_nil k
    simp [h1, h2]
  | a :: p, [] => by simp
  | a :: p, x :: k => by
    have ih := key_has (p := p) (k := k)
    simp only [List.cons_append]
    rw [List.cons_le_cons_iff, List.cons_lt_cons_iff, List.cons.injEq, ← ih]
    constructor
    · rintro ⟨h3, h4⟩
      rcases h3 with h3 | ⟨rfl, h3⟩
      · rcases h4 with h4 | ⟨rfl, _⟩
        · exact absurd (UInt8.lt_trans h3 h4) (UInt8.lt_irrefl _)
        · exact absurd h3 (UInt8.lt_irrefl _)
      · rcases h4 with h4 | ⟨_, h4⟩
        · exact absurd h4 (UInt8.lt_irrefl _)
        · exact ⟨rfl, h3, h4⟩
    · rintro ⟨rfl, h3, h4⟩
      exact ⟨.inr ⟨rfl, h3⟩, .inr ⟨rfl, h4⟩⟩
theorem prefix_take {p k : Str} : p <+: k ↔ p.length ≤ k.length ∧ k.take (min p.length k.length) = p := by
  constructor
  · intro h
    have h1 := h.length_le
    refine ⟨h1, ?_⟩
    rw [Nat.min_eq_left h1]
    exact (List.prefix_iff_eq_take.1 h).symm
  · rintro ⟨h1, h2⟩
    rw [Nat.min_eq_left h1] at h2
    exact List.prefix_iff_eq_take.2 h2.symm
end Go.Ab

set_option maxRecDepth 100000
set_option maxHeartbeats 40000000
namespace Go.Ab
open Go.Proofs

theorem one_cov {l : List Sp} {s : Sp} {key : Str} (hc : RCov l s) (hk : SpH s key) (h64 : key.length ≤ 64) : RCov l ⟨key, key ++ [0]⟩ := by
  rw [rCov_iff] at hc ⊢
  refine ⟨⟨by dsimp only; omega, by simp; omega, .inr ?_⟩, fun k h => ?_⟩
  · exact ((key_has (p := key) (k := key)).2 rfl).2
  · have : k = key := by
      refine (key_has (p := key) (k := k)).1 ⟨h.1, ?_⟩
      rcases h.2 with h | h
      · simp at h
      · exact h
    subst this
    exact hc.2 _ hk
theorem key_reads {r : Roll} {u : Str} {a c : List Sp} {s : Sp} {key : Str} (hm : mayM r u a c = true) (hs : s ∈ a) (hk : SpH s key) (h64 : key.length ≤ 64) : mayM r u [⟨key, key ++ [0]⟩] [] = true := by
  unfold mayM at hm ⊢
  rw [Bool.and_eq_true, List.all_eq_true, List.all_eq_true] at hm
  have := one_cov (of_decide_eq_true (hm.1 s hs)) hk h64
  simp [this]
theorem key_writes {r : Roll} {u : Str} {a c : List Sp} {s : Sp} {key : Str} (hm : mayM r u a c = true) (hs : s ∈ c) (hk : SpH s key) (h64 : key.length ≤ 64) : mayM r u [] [⟨key, key ++ [0]⟩] = true := by
  unfold mayM at hm ⊢
  rw [Bool.and_eq_true, List.all_eq_true, List.all_eq_true] at hm
  have := one_cov (of_decide_eq_true (hm.2 s hs)) hk h64
  simp [this]
theorem law_akeys (l : List Cmd) (u : Str) (a c : List Sp) (key : Str) (hl : l.length ≤ 9223372036854775807) (ha : a.length ≤ 9223372036854775807) (hc : c.length ≤ 9223372036854775807) :
    Fn Try.prog F_exchequerlaw16_AllowKeys [.v (.list (l.map Cmd.toI)), .v (askI u a c), .v (.str key)] (Is (.v (.bool true)) [.no, .no, .no]) := by
  refine of_exchequerlaw16_AllowKeys ?_ (by simp)
  have hB := spec_behind l hl
  have hf := behM_fit l
  obtain ⟨M, hM⟩ : ∃ M, M = behM l := ⟨_, rfl⟩
  rw [← hM] at hB hf
  clear hM
  obtain ⟨R, ok⟩ := M
  dsimp only at hB hf
  have hG := spec_greatA u a c ha hc
  cases ok
  · repeat' ((conv => whnf); first
      | (refine And.intro (fun hb => ?_) (fun hb => ?_) <;> first | (exact absurd hb (by first | assumption | decide)) | (with_reducible exact absurd hb Bool.false_ne_true) | (with_reducible exact absurd hb.symm Bool.false_ne_true) | (exfalso; first | (simp only [LENS] at hb <;> omega) | omega) | ((try rw [hb]); (try simp only [NRMS] at hb); (try subst hb)))
      | (refine Exists.intro ?_ ?_; focus (and_intros <;> first | omega | exact rfl | assumption | (intro _ hh; cases hh; done) | exact all_size (by rfl) | exact size_map (fun _ => rfl) | exact size_one rfl | exact take_size (fun _ => rfl) | exact dsize_one rfl | exact dsize_map (fun _ => rfl) | exact dsize_its (fun _ => rfl) | (simp only [LENS]; omega) | (simp; done) | decide))
      | (intro hfact)
      | (refine CallWp.mk ⟨_, spec_awake, ?_⟩; rintro _ _ ⟨rfl, rfl⟩)
      | (refine CallWp.mk ⟨_, hB, ?_⟩; rintro _ _ ⟨rfl, rfl⟩)
      | (refine CallWp.mk ⟨_, hG, ?_⟩; rintro _ _ ⟨rfl, rfl⟩))
    all_goals (try (conv => whnf))
    all_goals exact Done.mk ⟨rfl, by kernel_rfl⟩ (by kernel_rfl)
  cases hg : greatA u a c
  case true =>
    rw [hg] at hG
    repeat' ((conv => whnf); first
      | (refine And.intro (fun hb => ?_) (fun hb => ?_) <;> first | (exact absurd hb (by first | assumption | decide)) | (with_reducible exact absurd hb Bool.false_ne_true) | (with_reducible exact absurd hb.symm Bool.false_ne_true) | (exfalso; first | (simp only [LENS] at hb <;> omega) | omega) | ((try rw [hb]); (try simp only [NRMS] at hb); (try subst hb)))
      | (refine Exists.intro ?_ ?_; focus (and_intros <;> first | omega | exact rfl | assumption | (intro _ hh; cases hh; done) | exact all_size (by rfl) | exact size_map (fun _ => rfl) | exact size_one rfl | exact take_size (fun _ => rfl) | exact dsize_one rfl | exact dsize_map (fun _ => rfl) | exact dsize_its (fun _ => rfl) | (simp only [LENS]; omega) | (simp; done) | decide))
      | (intro hfact)
      | (refine CallWp.mk ⟨_, spec_awake, ?_⟩; rintro _ _ ⟨rfl, rfl⟩)
      | (refine CallWp.mk ⟨_, hB, ?_⟩; rintro _ _ ⟨rfl, rfl⟩)
      | (refine CallWp.mk ⟨_, hG, ?_⟩; rintro _ _ ⟨rfl, rfl⟩))
    all_goals (try (conv => whnf))
    all_goals exact Done.mk ⟨rfl, by kernel_rfl⟩ (by kernel_rfl)
  rw [hg] at hG
  obtain ⟨b1, b2, b3⟩ := great_bounds hg
  have m0 := spec_may sortNil R hf u a c (by omega) (by omega)
  by_cases h64 : 64 < (key.length : Int)
  · repeat' ((conv => whnf); first
      | (refine And.intro (fun hb => ?_) (fun hb => ?_) <;> first | (exact absurd hb (by first | assumption | decide)) | (with_reducible exact absurd hb Bool.false_ne_true) | (with_reducible exact absurd hb.symm Bool.false_ne_true) | (exfalso; first | (simp only [LENS] at hb <;> omega) | omega) | ((try rw [hb]); (try simp only [NRMS] at hb); (try subst hb)))
      | (refine Exists.intro ?_ ?_; focus (and_intros <;> first | omega | exact rfl | assumption | (intro _ hh; cases hh; done) | exact all_size (by rfl) | exact size_map (fun _ => rfl) | exact size_one rfl | exact take_size (fun _ => rfl) | exact dsize_one rfl | exact dsize_map (fun _ => rfl) | exact dsize_its (fun _ => rfl) | (simp only [LENS]; omega) | (simp; done) | decide))
      | (intro hfact)
      | (refine CallWp.mk ⟨_, spec_awake, ?_⟩; rintro _ _ ⟨rfl, rfl⟩)
      | (refine CallWp.mk ⟨_, hB, ?_⟩; rintro _ _ ⟨rfl, rfl⟩)
      | (refine CallWp.mk ⟨_, hG, ?_⟩; rintro _ _ ⟨rfl, rfl⟩))
    all_goals (try (conv => whnf))
    all_goals exact Done.mk ⟨rfl, by kernel_rfl⟩ (by kernel_rfl)
  cases hmay : mayM R u a c
  case false =>
    rw [hmay] at m0
    repeat' ((conv => whnf); first
      | (refine And.intro (fun hb => ?_) (fun hb => ?_) <;> first | (exact absurd hb (by first | assumption | decide)) | (with_reducible exact absurd hb Bool.false_ne_true) | (with_reducible exact absurd hb.symm Bool.false_ne_true) | (exfalso; first | (simp only [LENS] at hb <;> omega) | omega) | ((try rw [hb]); (try simp only [NRMS] at hb); (try subst hb)))
      | (refine Exists.intro ?_ ?_; focus (and_intros <;> first | omega | exact rfl | assumption | (intro _ hh; cases hh; done) | exact all_size (by rfl) | exact size_map (fun _ => rfl) | exact size_one rfl | exact take_size (fun _ => rfl) | exact dsize_one rfl | exact dsize_map (fun _ => rfl) | exact dsize_its (fun _ => rfl) | (simp only [LENS]; omega) | (simp; done) | decide))
      | (intro hfact)
      | (refine CallWp.mk ⟨_, spec_awake, ?_⟩; rintro _ _ ⟨rfl, rfl⟩)
      | (refine CallWp.mk ⟨_, hB, ?_⟩; rintro _ _ ⟨rfl, rfl⟩)
      | (refine CallWp.mk ⟨_, hG, ?_⟩; rintro _ _ ⟨rfl, rfl⟩)
      | (refine CallWp.mk ⟨_, m0, ?_⟩; rintro _ _ ⟨rfl, rfl⟩))
    all_goals (try (conv => whnf))
    all_goals exact Done.mk ⟨rfl, by kernel_rfl⟩ (by kernel_rfl)
  rw [hmay] at m0
  have m1 := spec_may sortNil R hf u [⟨key, key ++ [0]⟩] [] (by simp) (by simp)
  have m2 := spec_may sortNil R hf u [] [⟨key, key ++ [0]⟩] (by simp) (by simp)
  repeat' ((conv => whnf); first
    | (refine And.intro (fun hb => ?_) (fun hb => ?_) <;> first | (exact absurd hb (by first | assumption | decide)) | (with_reducible exact absurd hb Bool.false_ne_true) | (with_reducible exact absurd hb.symm Bool.false_ne_true) | (exfalso; first | (simp only [LENS] at hb <;> omega) | omega) | ((try rw [hb]); (try simp only [NRMS] at hb); (try subst hb)))
    | (refine Exists.intro ?_ ?_; focus (and_intros <;> first | omega | exact rfl | assumption | (intro _ hh; cases hh; done) | exact all_size (by rfl) | exact size_map (fun _ => rfl) | exact size_one rfl | exact take_size (fun _ => rfl) | exact dsize_one rfl | exact dsize_map (fun _ => rfl) | exact dsize_its (fun _ => rfl) | (simp only [LENS]; omega) | (simp; done) | decide))
    | (intro hfact)
    | (refine CallWp.mk ⟨_, spec_awake, ?_⟩; rintro _ _ ⟨rfl, rfl⟩)
    | (refine CallWp.mk ⟨_, hB, ?_⟩; rintro _ _ ⟨rfl, rfl⟩)
    | (refine CallWp.mk ⟨_, hG, ?_⟩; rintro _ _ ⟨rfl, rfl⟩)
    | (refine CallWp.mk ⟨_, m0, ?_⟩; rintro _ _ ⟨rfl, rfl⟩))
  all_goals (try (conv => whnf))
  have hm : a.length ≤ maxLen := by simp only [maxLen]; omega
  have hAns : runL (foldStep (fun (_ : Unit) (_ : Sp) => ())) foldFin a () = () := by rw [fold_run]
  refine each a _ _ _ (fun k s => [(51, .v (.int .i64 k))]) (fun k s => True) () (by kernel_rfl) trivial hAns ?_ ?_ <;> clear hAns
  · rintro k ⟨⟩ e he hk _ _
    dsimp only
    have hh := spec_srhas e key
    by_cases hek : SpH e key
    · rw [key_reads hmay (List.mem_of_getElem? he) hek (by omega)] at m1
      rw [decide_eq_true hek] at hh
      repeat' ((conv => whnf); first
        | (refine And.intro (fun hb => ?_) (fun hb => ?_) <;> first | (exact absurd hb (by first | assumption | decide)) | (with_reducible exact absurd hb Bool.false_ne_true) | (with_reducible exact absurd hb.symm Bool.false_ne_true) | (exfalso; first | (simp only [LENS] at hb <;> omega) | omega) | ((try rw [hb]); (try simp only [NRMS] at hb); (try subst hb)))
        | (refine Exists.intro ?_ ?_; focus (and_intros <;> first | omega | exact rfl | assumption | (intro _ hh; cases hh; done) | exact all_size (by rfl) | exact size_map (fun _ => rfl) | exact size_one rfl | exact take_size (fun _ => rfl) | exact dsize_one rfl | exact dsize_map (fun _ => rfl) | exact dsize_its (fun _ => rfl) | (simp only [LENS]; omega) | (simp; done) | decide))
        | (intro hfact)
        | ((try dsimp only); first | rw [map_get he] | rw [map_getD he] | rw [map_getN he])
        | (refine CallWp.mk ⟨_, hh, ?_⟩; rintro _ _ ⟨rfl, rfl⟩)
        | (refine CallWp.mk ⟨_, m1, ?_⟩; rintro _ _ ⟨rfl, rfl⟩))
      all_goals (try (conv => whnf))
      refine RoundE.by () ?_ trivial rfl
      rw [wrap_succ hk hm]
      show norm _ _ = upd _ _
      kernel_rfl
    · rw [decide_eq_false hek] at hh
      repeat' ((conv => whnf); first
        | (refine And.intro (fun hb => ?_) (fun hb => ?_) <;> first | (exact absurd hb (by first | assumption | decide)) | (with_reducible exact absurd hb Bool.false_ne_true) | (with_reducible exact absurd hb.symm Bool.false_ne_true) | (exfalso; first | (simp only [LENS] at hb <;> omega) | omega) | ((try rw [hb]); (try simp only [NRMS] at hb); (try subst hb)))
        | (refine Exists.intro ?_ ?_; focus (and_intros <;> first | omega | exact rfl | assumption | (intro _ hh; cases hh; done) | exact all_size (by rfl) | exact size_map (fun _ => rfl) | exact size_one rfl | exact take_size (fun _ => rfl) | exact dsize_one rfl | exact dsize_map (fun _ => rfl) | exact dsize_its (fun _ => rfl) | (simp only [LENS]; omega) | (simp; done) | decide))
        | (intro hfact)
        | ((try dsimp only); first | rw [map_get he] | rw [map_getD he] | rw [map_getN he])
        | (refine CallWp.mk ⟨_, hh, ?_⟩; rintro _ _ ⟨rfl, rfl⟩))
      all_goals (try (conv => whnf))
      refine RoundE.by () ?_ trivial rfl
      rw [wrap_succ hk hm]
      show norm _ _ = upd _ _
      kernel_rfl
  · rintro ⟨⟩ k rfl _ _
    dsimp only
    repeat' ((conv => whnf); first
      | (refine And.intro (fun hb => ?_) (fun hb => ?_) <;> first | (exact absurd hb (by first | assumption | decide)) | (with_reducible exact absurd hb Bool.false_ne_true) | (with_reducible exact absurd hb.symm Bool.false_ne_true) | (exfalso; first | (simp only [LENS] at hb <;> omega) | omega) | ((try rw [hb]); (try simp only [NRMS] at hb); (try subst hb)))
      | (refine Exists.intro ?_ ?_; focus (and_intros <;> first | omega | exact rfl | assumption | (intro _ hh; cases hh; done) | exact all_size (by rfl) | exact size_map (fun _ => rfl) | exact size_one rfl | exact take_size (fun _ => rfl) | exact dsize_one rfl | exact dsize_map (fun _ => rfl) | exact dsize_its (fun _ => rfl) | (simp only [LENS]; omega) | (simp; done) | decide))
      | (intro hfact))
    all_goals (try (conv => whnf))
    clear hm
    have hm : c.length ≤ maxLen := by simp only [maxLen]; omega
    have hAns : runL (foldStep (fun (_ : Unit) (_ : Sp) => ())) foldFin c () = () := by rw [fold_run]
    refine each c _ _ _ (fun k s => [(70, .v (.int .i64 k))]) (fun k s => True) () (by kernel_rfl) trivial hAns ?_ ?_ <;> clear hAns
    · rintro k ⟨⟩ e he hk _ _
      dsimp only
      have hh := spec_srhas e key
      by_cases hek : SpH e key
      · rw [key_writes hmay (List.mem_of_getElem? he) hek (by omega)] at m2
        rw [decide_eq_true hek] at hh
        repeat' ((conv => whnf); first
          | (refine And.intro (fun hb => ?_) (fun hb => ?_) <;> first | (exact absurd hb (by first | assumption | decide)) | (with_reducible exact absurd hb Bool.false_ne_true) | (with_reducible exact absurd hb.symm Bool.false_ne_true) | (exfalso; first | (simp only [LENS] at hb <;> omega) | omega) | ((try rw [hb]); (try simp only [NRMS] at hb); (try subst hb)))
          | (refine Exists.intro ?_ ?_; focus (and_intros <;> first | omega | exact rfl | assumption | (intro _ hh; cases hh; done) | exact all_size (by rfl) | exact size_map (fun _ => rfl) | exact size_one rfl | exact take_size (fun _ => rfl) | exact dsize_one rfl | exact dsize_map (fun _ => rfl) | exact dsize_its (fun _ => rfl) | (simp only [LENS]; omega) | (simp; done) | decide))
          | (intro hfact)
          | ((try dsimp only); first | rw [map_get he] | rw [map_getD he] | rw [map_getN he])
          | (refine CallWp.mk ⟨_, hh, ?_⟩; rintro _ _ ⟨rfl, rfl⟩)
          | (refine CallWp.mk ⟨_, m2, ?_⟩; rintro _ _ ⟨rfl, rfl⟩))
        all_goals (try (conv => whnf))
        refine RoundE.by () ?_ trivial rfl
        rw [wrap_succ hk hm]
        show norm _ _ = upd _ _
        kernel_rfl
      · rw [decide_eq_false hek] at hh
        repeat' ((conv => whnf); first
          | (refine And.intro (fun hb => ?_) (fun hb => ?_) <;> first | (exact absurd hb (by first | assumption | decide)) | (with_reducible exact absurd hb Bool.false_ne_true) | (with_reducible exact absurd hb.symm Bool.false_ne_true) | (exfalso; first | (simp only [LENS] at hb <;> omega) | omega) | ((try rw [hb]); (try simp only [NRMS] at hb); (try subst hb)))
          | (refine Exists.intro ?_ ?_; focus (and_intros <;> first | omega | exact rfl | assumption | (intro _ hh; cases hh; done) | exact all_size (by rfl) | exact size_map (fun _ => rfl) | exact size_one rfl | exact take_size (fun _ => rfl) | exact dsize_one rfl | exact dsize_map (fun _ => rfl) | exact dsize_its (fun _ => rfl) | (simp only [LENS]; omega) | (simp; done) | decide))
          | (intro hfact)
          | ((try dsimp only); first | rw [map_get he] | rw [map_getD he] | rw [map_getN he])
          | (refine CallWp.mk ⟨_, hh, ?_⟩; rintro _ _ ⟨rfl, rfl⟩))
        all_goals (try (conv => whnf))
        refine RoundE.by () ?_ trivial rfl
        rw [wrap_succ hk hm]
        show norm _ _ = upd _ _
        kernel_rfl
    · rintro ⟨⟩ k rfl _ _
      dsimp only
      repeat' ((conv => whnf); first
        | (refine And.intro (fun hb => ?_) (fun hb => ?_) <;> first | (exact absurd hb (by first | assumption | decide)) | (with_reducible exact absurd hb Bool.false_ne_true) | (with_reducible exact absurd hb.symm Bool.false_ne_true) | (exfalso; first | (simp only [LENS] at hb <;> omega) | omega) | ((try rw [hb]); (try simp only [NRMS] at hb); (try subst hb)))
        | (refine Exists.intro ?_ ?_; focus (and_intros <;> first | omega | exact rfl | assumption | (intro _ hh; cases hh; done) | exact all_size (by rfl) | exact size_map (fun _ => rfl) | exact size_one rfl | exact take_size (fun _ => rfl) | exact dsize_one rfl | exact dsize_map (fun _ => rfl) | exact dsize_its (fun _ => rfl) | (simp only [LENS]; omega) | (simp; done) | decide))
        | (intro hfact))
      all_goals (try (conv => whnf))
      exact Done.mk ⟨rfl, by kernel_rfl⟩ (by kernel_rfl)
end Go.Ab

