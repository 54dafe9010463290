/- One text of the proof whose last text says what is proved. -/
import Derived.Test.YtoombangidlpjaaR2
import Derived.Shelf.SlSortCmp.WholeK
import Derived.Laws.Cover1
set_option linter.unusedVariables false
set_option linter.unusedSimpArgs false
set_option maxRecDepth 100000
namespace Go.Ab
open Go.Proofs Go.Shelf
def sortRen : Ren := ⟨fun n => if n = 6 then 54 else if n = 14 then 67 else if n = 15 then 68 else if n = 20 then 78 else if n = 21 then 79 else if n = 22 then 80 else if n = 23 then 81 else if n = 24 then 82 else if n = 25 then 83 else if n = 26 then 84 else if n = 27 then 85 else if n = 28 then 86 else if n = 29 then 87 else if n = 46 then 88 else if n = 47 then 89 else if n = 48 then 90 else if n = 49 then 91 else if n = 50 then 92 else if n = 57 then 93 else n, fun n => if n = 0 then 0 else if n = 3 then 3 else if n = 4 then 4 else if n = 5 then 5 else if n = 9 then 9 else if n = 22 then 23 else if n = 24 then 41 else if n = 25 then 96 else if n = 39 then 104 else if n = 45 then 117 else if n = 46 then 118 else if n = 50 then 122 else if n = 53 then 112 else if n = 55 then 111 else if n = 66 then 126 else if n = 70 then 130 else if n = 76 then 132 else if n = 77 then 133 else n, fun n => n⟩
theorem sortT : SlLaysF0.n6 Try.prog sortRen where
  mixed := by kernel_rfl
  f6 := ⟨Try.f54.name, by kernel_rfl, by kernel_rfl⟩
  f14 := ⟨Try.f67.name, by kernel_rfl, by kernel_rfl⟩
  f15 := by kernel_rfl
  f20 := ⟨Try.f78.name, by kernel_rfl, by kernel_rfl⟩
  f21 := ⟨Try.f79.name, by kernel_rfl, by kernel_rfl⟩
  f22 := ⟨Try.f80.name, by kernel_rfl, by kernel_rfl⟩
  f23 := ⟨Try.f81.name, by kernel_rfl, by kernel_rfl⟩
  f24 := ⟨Try.f82.name, by kernel_rfl, by kernel_rfl⟩
  f25 := ⟨Try.f83.name, by kernel_rfl, by kernel_rfl⟩
  f26 := ⟨Try.f84.name, by kernel_rfl, by kernel_rfl⟩
  f27 := ⟨Try.f85.name, by kernel_rfl, by kernel_rfl⟩
  f28 := by kernel_rfl
  f29 := by kernel_rfl
  f46 := ⟨Try.f88.name, by kernel_rfl, by kernel_rfl⟩
  f47 := by kernel_rfl
  f48 := by kernel_rfl
  f49 := ⟨Try.f91.name, by kernel_rfl, by kernel_rfl⟩
  f50 := ⟨Try.f92.name, by kernel_rfl, by kernel_rfl⟩
  f57 := ⟨Try.f93.name, by kernel_rfl, by kernel_rfl⟩
  t0 := by kernel_rfl
  a0 := fun _ => by kernel_rfl
  z0 := fun _ => by kernel_rfl
  v0 := fun _ => by kernel_rfl
  t3 := by kernel_rfl
  a3 := fun _ => by kernel_rfl
  z3 := fun _ => by kernel_rfl
  v3 := fun _ => by kernel_rfl
  t4 := by kernel_rfl
  a4 := fun _ => by kernel_rfl
  z4 := fun _ => by kernel_rfl
  v4 := fun _ => by kernel_rfl
  t5 := by kernel_rfl
  a5 := fun _ => by kernel_rfl
  z5 := fun _ => by kernel_rfl
  v5 := fun _ => by kernel_rfl
  t9 := by kernel_rfl
  a9 := fun _ => by kernel_rfl
  z9 := fun _ => by kernel_rfl
  v9 := fun _ => by kernel_rfl
  t22 := by kernel_rfl
  a22 := fun _ => by kernel_rfl
  z22 := fun _ => by kernel_rfl
  v22 := fun _ => by kernel_rfl
  t25 := by kernel_rfl
  a25 := fun _ => by kernel_rfl
  z25 := fun _ => by kernel_rfl
  v25 := fun _ => by kernel_rfl
  t39 := by kernel_rfl
  a39 := fun _ => by kernel_rfl
  z39 := fun _ => by kernel_rfl
  v39 := fun _ => by kernel_rfl
  t45 := by kernel_rfl
  a45 := fun _ => by kernel_rfl
  z45 := fun _ => by kernel_rfl
  v45 := fun _ => by kernel_rfl
  t46 := by kernel_rfl
  a46 := fun _ => by kernel_rfl
  z46 := fun _ => by kernel_rfl
  v46 := fun _ => by kernel_rfl
  t50 := by kernel_rfl
  a50 := fun _ => by kernel_rfl
  z50 := fun _ => by kernel_rfl
  v50 := fun _ => by kernel_rfl
  t53 := by kernel_rfl
  a53 := fun _ => by kernel_rfl
  z53 := fun _ => by kernel_rfl
  v53 := fun _ => by kernel_rfl
  t55 := by kernel_rfl
  a55 := fun _ => by kernel_rfl
  z55 := fun _ => by kernel_rfl
  v55 := fun _ => by kernel_rfl
  t66 := by kernel_rfl
  a66 := fun _ => by kernel_rfl
  z66 := fun _ => by kernel_rfl
  v66 := fun _ => by kernel_rfl
  t70 := by kernel_rfl
  a70 := fun _ => by kernel_rfl
  z70 := fun _ => by kernel_rfl
  v70 := fun _ => by kernel_rfl
  t76 := by kernel_rfl
  a76 := fun _ => by kernel_rfl
  z76 := fun _ => by kernel_rfl
  v76 := fun _ => by kernel_rfl
  t77 := by kernel_rfl
  a77 := fun _ => by kernel_rfl
  z77 := fun _ => by kernel_rfl
  v77 := fun _ => by kernel_rfl
end Go.Ab

set_option maxRecDepth 100000
namespace Go.Ab
open Go.Proofs Go.Shelf Go.RowKit Go.Lib Go.Sort

set_option maxHeartbeats 1000000 in
theorem kit_isnan (x : ByteArray) (w : World) : Calls Try.prog 69 #[.string x] w fun e w' => e = .returned (.bool false) ∧ w' = w := by
  go_enter Try.func69, Try.ntmps69
  go_wp2
  go_ret
  exact ⟨by simp, rfl⟩
set_option maxHeartbeats 1000000 in
theorem kit_compare (x y : Str) (w : World) : Calls Try.prog 56 #[.string ⟨⟨x⟩⟩, .string ⟨⟨y⟩⟩] w fun e w' => e = .returned (.int .i64 (cmpS x y)) ∧ w' = w := by
  go_enter Try.func56, Try.ntmps56
  go_wp2_with (go_at_call 69; refine (kit_isnan _ _).mono ?_; rintro e w' ⟨rfl, hw⟩; rw [hw])
  all_goals (go_ret; refine ⟨?_, rfl⟩)
  all_goals (refine congrArg (fun n => Ending.returned (Value.int .i64 n)) ?_)
  all_goals (simp [cmpS, bless_eq] at *)
  all_goals grind
def encSp (s : Sp) : List Value := [.string ⟨⟨s.f⟩⟩, .string ⟨⟨s.t⟩⟩]
set_option maxHeartbeats 1000000 in
theorem kit_u2 (x y : Sp) (w : World) : Calls Try.prog 55 #[.agg (encSp x).toArray, .agg (encSp y).toArray] w fun e w' => e = .returned (.int .i64 (cmpS x.f y.f)) ∧ ∃ q os', w' = grow (w.drewN q) os' := by
  have hcon := fun W' => kit_compare x.f y.f W'
  generalize cmpS x.f y.f = r at hcon ⊢
  unfold encSp
  go_enter Try.func55, Try.ntmps55
  go_wp2_with (go_at_call 56; refine (hcon _).mono ?_; rintro e w' ⟨rfl, rfl⟩)
  go_ret
  exact ⟨rfl, 0, _, by rw [alloc_eq_grow, alloc_eq_grow, grow_grow]; rfl⟩
instance : Inhabited Sp := ⟨⟨[], []⟩⟩
theorem kit_lays (blk off size : Nat) (w : World) : CmpLays Try.prog 55 #[] encSp 2 (fun x y => cmpS x.f y.f) blk off size w :=
  fun _ _ _ _ x y => kit_u2 x y _
theorem ltF (x y : Sp) : ltOf (fun x y : Sp => cmpS x.f y.f) x y = decide (x.f < y.f) := by
  unfold ltOf cmpS
  by_cases h : x.f < y.f
  · simp [h]
  · by_cases h2 : y.f < x.f <;> simp [h, h2]
theorem swoF : SWO (ltOf fun x y : Sp => cmpS x.f y.f) where
  irrefl x := by rw [ltF]; simp
  trans x y z h1 h2 := by rw [ltF] at *; simp at *; grind
  ntrans x y z h1 h2 := by rw [ltF] at *; simp at *; grind
end Go.Ab

set_option maxRecDepth 100000
set_option maxHeartbeats 1000000
namespace Go.Ab
open Go.Proofs

theorem put_at {l : List I} {n : Nat} {y u : I} (h : l[n]? = some y) : putV l [n] u = l.set n u := by
  have : y.put [] u = u := by cases y <;> rfl
  simp [putV, h, this]
def goodB (s : Sp) : Bool := decide (SpR s)
theorem idxF_none : ∀ {l : List Sp} {k : Nat}, idxF badB k l = -1 → l.filter goodB = l
  | [], _, _ => rfl
  | s :: r, k, h => by
    unfold idxF at h
    split at h
    · omega
    · rename_i hs
      have hg : goodB s = true := by simpa [badB, goodB] using hs
      rw [List.filter_cons, if_pos hg, idxF_none h]
theorem idxF_some : ∀ {l : List Sp} {k : Nat}, idxF badB k l ≠ -1 → ∃ i : Nat, idxF badB k l = k + i ∧ i < l.length ∧ (l.take i).filter goodB = l.take i ∧ ∃ s, l[i]? = some s ∧ badB s = true
  | [], k, h => by simp [idxF] at h
  | s :: r, k, h => by
    unfold idxF at h ⊢
    split
    · rename_i hs
      exact ⟨0, by simp, by simp, rfl, s, rfl, hs⟩
    · rename_i hs
      rw [if_neg hs] at h
      obtain ⟨i, h1, h2, h3, h4⟩ := idxF_some h
      have hg : goodB s = true := by simpa [badB, goodB] using hs
      refine ⟨i + 1, by rw [h1]; simp; omega, by simpa using h2, ?_, by simpa using h4⟩
      rw [List.take_succ_cons, List.filter_cons, if_pos hg, h3]
theorem spec_delete (l : List Sp) (hl : l.length ≤ 1000000) : Fn Try.prog F_slices_DeleteFunc_L_api_Span_api_Span [.vec 41 2 (sps l), .v (.fn 52)] (Is (.vec 41 2 (sps (l.filter goodB))) [.no, .no]) := by
  refine ofv_slices_DeleteFunc_L_api_Span_api_Span ?_ (by simp)
  have hidx := spec_index l hl
  by_cases hn : idxF badB 0 l = -1
  · rw [hn] at hidx
    repeat' ((conv => whnf); first
      | (refine And.intro (fun hb => ?_) (fun hb => ?_) <;> first | (exact absurd hb (by first | assumption | decide)) | (rw [hb]) | skip)
      | (refine Exists.intro ?_ ?_; focus (and_intros <;> first | omega | exact rfl | assumption | (intro _ hh; cases hh; done) | exact all_size (by rfl) | (simp; done) | decide))
      | (intro hfact)
      | ((with_reducible apply Drawn.by0); (focus kernel_rfl); intro hfact)
      | (refine CallWp.mk ⟨_, hidx, ?_⟩; rintro _ _ ⟨rfl, rfl⟩))
    all_goals (try (conv => whnf))
    exact Done.mk ⟨by rw [idxF_none hn], by kernel_rfl⟩ (by kernel_rfl)
  obtain ⟨i0, hi0, hlt0, hf0, b0, hb0, hbad0⟩ := idxF_some hn
  rw [hi0, show ((0 : Nat) : Int) + (i0 : Int) = (i0 : Int) from by omega] at hidx
  have n1 : ¬ decide ((i0 : Int) = -1) = true := by simp
  have hw0 : IntKind.i64.wrap ((i0 : Int) + 1) = ((i0 + 1 : Nat) : Int) := (wrap_id (by omega)).trans (by omega)
  repeat' ((conv => whnf); first
    | (refine And.intro (fun hb => ?_) (fun hb => ?_) <;> first | (exact absurd hb (by first | assumption | decide)) | (rw [hb]) | skip)
    | (refine Exists.intro ?_ ?_; focus (and_intros <;> first | omega | exact rfl | assumption | (intro _ hh; cases hh; done) | exact all_size (by rfl) | (simp; done) | decide))
    | (intro hfact)
    | ((with_reducible apply Drawn.by0); (focus kernel_rfl); intro hfact)
    | (refine CallWp.mk ⟨_, hidx, ?_⟩; rintro _ _ ⟨rfl, rfl⟩)
    | ((try dsimp only); rw [hw0]))
  all_goals (try (conv => whnf))
  have hmax : l.length ≤ maxLen := by simp only [maxLen]; omega
  refine LoopWq.by (X := Nat × Nat × List Sp) (fun x => [(42, .vec 41 2 (sps x.2.2)), (5, .v (.int .i64 x.2.1)), (6, .v (.int .i64 x.1))])
    (fun x => x.2.1 < x.1 ∧ x.1 ≤ l.length ∧ x.2.2.length = l.length ∧ x.2.2.drop x.1 = l.drop x.1 ∧ x.2.2.take x.2.1 = (l.take x.1).filter goodB) (fun x => l.length - x.1)
    (i0 + 1, i0, l) (by kernel_rfl) ⟨Nat.lt_succ_self _, hlt0, rfl, rfl, by
      have hbg : ¬ goodB b0 = true := by simpa [badB, goodB] using hbad0
      rw [List.take_add_one, hb0, List.filter_append, hf0]
      simp [hbg]⟩ ?_
  rintro ⟨j, i, c⟩ ⟨h1, h2, h3, h4, h5⟩
  dsimp only at h1 h2 h3 h4 h5 ⊢
  by_cases hj : j < l.length
  case neg =>
    have hlt : ¬ decide ((j : Int) < ((sps c).length : Int)) = true := by simp; omega
    have hle : (i : Int) ≤ ((sps c).length : Int) := by simp; omega
    have hle0 : Int.toNat (i : Int) ≤ (sps c).length := by simp; omega
    rw [show l.take j = l from List.take_of_length_le (by omega)] at h5
    have hle2 : (i : Int) ≤ (((sps c).take (i : Int).toNat ++ List.replicate ((sps c).length - (i : Int).toNat) (I.agg [I.str [], I.str []])).length : Int) := by
      simp only [List.length_append, List.length_take, List.length_replicate, List.length_map]; omega
    repeat' ((conv => whnf); first
      | (refine And.intro (fun hb => ?_) (fun hb => ?_) <;> first | (exact absurd hb (by first | assumption | decide)) | (rw [hb]) | skip)
      | (refine Exists.intro ?_ ?_; focus (and_intros <;> first | omega | exact rfl | assumption | (intro _ hh; cases hh; done) | exact all_size (by rfl) | (simp; done) | decide))
      | (intro hfact)
      | ((with_reducible apply Drawn.by0); (focus kernel_rfl); intro hfact))
    all_goals (try (conv => whnf))
    refine Done.mk ⟨congrArg (fun l => SV.vec 41 2 l) ?_, by kernel_rfl⟩ (by kernel_rfl)
    rw [← h5, Int.toNat_natCast, List.take_append_of_le_length (by simp; omega), List.take_take, Nat.min_self]
    simp [sps]
  obtain ⟨e, he⟩ : ∃ e, l[j]? = some e := ⟨_, List.getElem?_eq_getElem hj⟩
  have hce : c[j]? = some e := by
    have := congrArg (fun q => q[0]?) h4
    simp only [List.getElem?_drop, Nat.add_zero] at this
    rw [this, he]
  have hlt : ¬ decide ((j : Int) < ((sps c).length : Int)) = false := by simp; omega
  have hgc : (sps c)[Int.toNat (j : Int)]? = some e.toI := sps_get hce
  have hh := hit_at (e := 41) (sz := 2) hgc
  have hkl : Int.toNat (j : Int) < (sps c).length := by simp; omega
  have hki : Int.toNat (i : Int) < (sps c).length := by simp; omega
  obtain ⟨y, hy⟩ : ∃ y, c[i]? = some y := ⟨_, List.getElem?_eq_getElem (by omega)⟩
  have hgi : (sps c)[Int.toNat (i : Int)]? = some y.toI := sps_get hy
  have hhi := hit_at (e := 41) (sz := 2) hgi
  have hround : l.length - (j + 1) < l.length - j := by omega
  have hwj : IntKind.i64.wrap ((j : Int) + 1) = ((j + 1 : Nat) : Int) := (wrap_id (by omega)).trans (by omega)
  have hwi : IntKind.i64.wrap ((i : Int) + 1) = ((i + 1 : Nat) : Int) := (wrap_id (by omega)).trans (by omega)
  have htk : (l.take (j + 1)).filter goodB = (l.take j).filter goodB ++ [e].filter goodB := by rw [List.take_add_one, he, List.filter_append]; rfl
  by_cases hr : SpR e
  · have n2 : ¬ (!(!decide (SpR e))) = false := by simp [hr]
    have hg2 : goodB e = true := by simp [goodB, hr]
    repeat' ((conv => whnf); first
      | (refine And.intro (fun hb => ?_) (fun hb => ?_) <;> first | (exact absurd hb (by first | assumption | decide)) | (rw [hb]) | skip)
      | (refine Exists.intro ?_ ?_; focus (and_intros <;> first | omega | exact rfl | assumption | (intro _ hh; cases hh; done) | exact all_size (by rfl) | (simp; done) | decide))
      | (intro hfact)
      | ((with_reducible apply Drawn.by0); (focus kernel_rfl); intro hfact)
      | ((try dsimp only); rw [hh])
      | ((try dsimp only); rw [hhi])
      | (refine CallWp.mk ⟨_, spec_u1 _, ?_⟩; rintro _ _ ⟨rfl, rfl⟩))
    all_goals (try (conv => whnf))
    refine Round.by (j + 1, i + 1, c.set i e) ?_ ⟨by dsimp only; omega, hj, by simp [h3], ?_, ?_⟩ hround
    · have hput : sps (c.set i e) = putV (sps c) [Int.toNat (i : Int)] ((I.agg [I.str [], I.str []]).put [] e.toI) := by
        rw [put_at hgi, Int.toNat_natCast]
        simp only [sps, List.map_set]
        rfl
      dsimp only
      rw [hwj, hwi, hput]
      show norm _ _ = upd _ _
      kernel_rfl
    · dsimp only
      have := congrArg (List.drop 1) h4
      rw [List.drop_set_of_lt (by omega)]
      simpa [List.drop_drop] using this
    · dsimp only
      rw [htk, ← h5, List.take_add_one, List.getElem?_set_self (by omega), List.take_set_of_le (by omega)]
      simp [hg2]
  · have n2 : ¬ (!(!decide (SpR e))) = true := by simp [hr]
    have hg2 : ¬ goodB e = true := by simp [goodB, hr]
    repeat' ((conv => whnf); first
      | (refine And.intro (fun hb => ?_) (fun hb => ?_) <;> first | (exact absurd hb (by first | assumption | decide)) | (rw [hb]) | skip)
      | (refine Exists.intro ?_ ?_; focus (and_intros <;> first | omega | exact rfl | assumption | (intro _ hh; cases hh; done) | exact all_size (by rfl) | (simp; done) | decide))
      | (intro hfact)
      | ((with_reducible apply Drawn.by0); (focus kernel_rfl); intro hfact)
      | ((try dsimp only); rw [hh])
      | ((try dsimp only); rw [hhi])
      | (refine CallWp.mk ⟨_, spec_u1 _, ?_⟩; rintro _ _ ⟨rfl, rfl⟩))
    all_goals (try (conv => whnf))
    refine Round.by (j + 1, i, c) ?_ ⟨by dsimp only; omega, hj, h3, ?_, ?_⟩ hround
    · rw [hwj]
      show norm _ _ = upd _ _
      kernel_rfl
    · have := congrArg (List.drop 1) h4
      simpa [List.drop_drop] using this
    · rw [htk, h5]
      simp [hg2]
end Go.Ab


set_option maxRecDepth 100000
namespace Go.Ab
open Go.Proofs Go.Shelf Go.RowKit Go.Lib Go.Sort

theorem flat_get : ∀ (l : List Sp) (t : Nat), t < l.length * 2 → ((l.map encSp).flatten)[t]? = some ((encSp (l[t / 2]!))[t % 2]!)
  | [], t, h => by simp at h
  | s :: r, 0, _ => by simp [encSp]
  | s :: r, 1, _ => by simp [encSp]
  | s :: r, t + 2, h => by
    have := flat_get r t (by simp at h; omega)
    rw [show (t + 2) / 2 = t / 2 + 1 by omega, show (t + 2) % 2 = t % 2 by omega]
    simp only [List.map_cons, List.flatten_cons]
    rw [List.getElem?_append_right (by simp [encSp])]
    simpa [encSp] using this
theorem flat_length : ∀ l : List Sp, ((l.map encSp).flatten).length = l.length * 2
  | [] => rfl
  | s :: r => by
    simp only [List.map_cons, List.flatten_cons, List.length_append, flat_length r, List.length_cons]
    simp [encSp]
    omega
theorem flat_list (l : List Sp) : (flatK encSp 2 l.toArray).toList = (l.map encSp).flatten := by
  apply List.ext_getElem?
  intro t
  by_cases h : t < l.length * 2
  · rw [flat_get l t h]
    have hs : t < (flatK encSp 2 l.toArray).size := by simpa using h
    have := get_flatK encSp 2 l.toArray t (by simpa using h)
    rw [getElem!_pos _ t hs] at this
    rw [Array.getElem?_toList, Array.getElem?_eq_getElem hs, this]
    simp
  · rw [List.getElem?_eq_none (by simp; omega), List.getElem?_eq_none (by rw [flat_length]; omega)]
theorem rep_sp {G : Mem} {s : Sp} {cs : List Value} : RepI G s.toI cs ↔ cs = encSp s ∧ s.f.length ≤ maxLen ∧ s.t.length ≤ maxLen := by
  unfold Sp.toI encSp
  simp only [RepI, RepIs]
  constructor
  · rintro ⟨c, d, rfl, ⟨rfl, h1⟩, c', d', rfl, ⟨rfl, h2⟩, rfl⟩
    exact ⟨rfl, h1, h2⟩
  · rintro ⟨rfl, h1, h2⟩
    exact ⟨_, _, rfl, ⟨rfl, h1⟩, _, _, rfl, ⟨rfl, h2⟩, rfl⟩
theorem rep_sps {G : Mem} : ∀ {l : List Sp} {cs : List Value}, RepIs G (sps l) cs ↔ cs = (l.map encSp).flatten ∧ ∀ s ∈ l, s.f.length ≤ maxLen ∧ s.t.length ≤ maxLen
  | [], cs => by simp [RepIs, sps]
  | s :: r, cs => by
    simp only [sps, List.map_cons, RepIs, List.flatten_cons]
    constructor
    · rintro ⟨c, d, rfl, h1, h2⟩
      obtain ⟨rfl, h3⟩ := rep_sp.1 h1
      obtain ⟨rfl, h4⟩ := rep_sps.1 h2
      refine ⟨rfl, fun x hx => ?_⟩
      rcases List.mem_cons.1 hx with rfl | hx
      · exact h3
      · exact h4 x hx
    · rintro ⟨rfl, h⟩
      exact ⟨_, _, rfl, rep_sp.2 ⟨rfl, h s (List.mem_cons_self ..)⟩, rep_sps.2 ⟨rfl, fun x hx => h x (List.mem_cons_of_mem _ hx)⟩⟩

theorem holds_of_blockK {w : World} {g : Nat} {cur : Array Value} {e : TypeId} {l : List Sp} (hb : w.heap[g]? = some (.cells cur e (0, 0))) (ht : cur.toList.take (l.length * 2) = (l.map encSp).flatten) : HoldsK encSp 2 w g 0 l.toArray := by
  intro j hj
  have hj' : j < l.length * 2 := by simpa using hj
  refine ⟨?_, by simp [World.frozen?, hb]⟩
  have h1 : (cur.toList.take (l.length * 2))[j]? = ((l.map encSp).flatten)[j]? := by rw [ht]
  rw [List.getElem?_take_of_lt hj', flat_get l j hj'] at h1
  simp only [World.cell?, hb, Nat.zero_add]
  simp only [Option.isSome_none, Bool.false_eq_true, if_false]
  rw [← Array.getElem?_toList, h1, get_flatK encSp 2 l.toArray j (by simpa using hj')]
  simp
theorem heap_sortedK {w : World} {g n : Nat} {os : Array Obj} {cur : Array Value} {e : TypeId} {fr : Nat × Nat} (d : Array Sp) (hb : w.heap[g]? = some (.cells cur e fr)) :
    (sortWorldK encSp 2 w g 0 n d os).heap[g]? = some (.cells (putCells id 0 (flatK encSp 2 d) cur) e fr) := by
  have hg : g < w.heap.size := (Array.getElem?_eq_some_iff.1 hb).1
  unfold sortWorldK putRowK
  rw [heap_grow_old _ _ (by simpa using hg)]
  simp [putRow, mapBlock, Sort.ahead, Array.getElem?_modify, hb, onCells]
theorem grownBy_sortedK {w : World} {g n : Nat} {os : Array Obj} (d : Array Sp) : w.grownBy (sortWorldK encSp 2 w g 0 n d os) (some g) := by
  unfold sortWorldK putRowK
  refine ⟨rfl, rfl, rfl, by simp, fun k hk hne => ?_⟩
  rw [heap_grow_old _ _ (by simpa using hk)]
  have : g ≠ k := fun e => hne (by rw [e])
  simp [putRow, mapBlock, Sort.ahead, Array.getElem?_modify, this]
theorem take_putCellsK (cur : Array Value) (F : Array Value) (h : F.size ≤ cur.size) : (putCells id 0 F cur).toList.take F.size = F.toList := by
  apply List.ext_getElem?
  intro j
  by_cases hj : j < F.size
  · rw [List.getElem?_take_of_lt hj, Array.getElem?_toList]
    simp [putCells, hj, show j < cur.size by omega]
  · rw [List.getElem?_take_eq_none (by omega), List.getElem?_eq_none (by simp; omega)]

/-- slices.SortFunc by the beginnings. -/
theorem spec_sort (l : List Sp) (hne : l ≠ []) (hlen : l.length ≤ 1000000) : Fn Try.prog 54 [.vec 41 2 (sps l), .v (.fn 55)]
    (fun r outs => ∃ p : List Sp, p.Perm l ∧ (p.Pairwise fun x y => x.f ≤ y.f) ∧ r = .tup [] ∧ outs = [.vec 41 2 (sps p), .no]) := by
  intro G σ Fr w cargs hok hcl hargs
  have hc0 := (hargs 0 _ rfl).2
  have hc1 : RepV G (.fn 55) (cargs.getD 1 undef) := (hargs 1 _ rfl).2
  rw [RepV.fn] at hc1
  have hca : cargs = #[cargs.getD 0 undef, .func (.func 55) #[] #[]] := by
    rw [← hc1]
    apply Array.ext
    · simpa using hcl
    · intro j h1 h2
      have : j = 0 ∨ j = 1 := by simp at h2; omega
      rcases this with rfl | rfl <;> simp [Array.getD, h1]
  generalize cargs.getD 0 undef = c0 at hc0 hca
  obtain ⟨xs, hown, hrep, hsz, hlab⟩ := (show VecAt G σ w (0, 0) 41 2 (sps l) c0 from hc0)
  obtain ⟨hxs, hlens⟩ := rep_sps.1 hrep
  have hlm : (sps l).length = l.length := List.length_map ..
  rcases hown.2 with ⟨_, h0⟩ | ⟨g, cap, cur, rfl, _, hrow, hn, hcm, hcur, htk⟩
  · rw [hlm] at h0
    exact absurd (List.eq_nil_of_length_eq_zero h0) hne
  have hg := hrow.to (by decide)
  rw [hlm] at hn htk
  have hgs : g < w.heap.size := (Array.getElem?_eq_some_iff.1 hg).1
  have hH : HoldsK encSp 2 w g 0 l.toArray := holds_of_blockK hg (by rw [htk, hxs])
  have hlb : σ g = some (0, 0) := hlab g rfl
  have eg : ∀ args w, (callFunc 55 args).run Try.prog w = .ok (.enter 55 args) w := enters_of Try.func55 (by kernel_rfl) rfl
  have aE : ∀ w, (isAgg (sortRen.t 24)).run Try.prog w = .ok true w := fun _ => by kernel_rfl
  have zE : ∀ w, (Go.sizeOf (sortRen.t 24)).run Try.prog w = .ok 2 w := fun _ => by kernel_rfl
  have hcall := AnyQ.slices_SortFunc sortT 2 aE zE encSp (fun _ => rfl) (fun x v hv => by simp [encSp] at hv; rcases hv with rfl | rfl <;> rfl) (fun x y => cmpS x.f y.f) swoF 55 #[] g 0 cap l.toArray w eg (kit_lays g 0 _ w) hH hgs (by simp; omega)
  rw [hca]
  rw [hlm]
  have hsize : l.toArray.size = l.length := by simp
  rw [hsize] at hcall
  refine Calls.mono hcall ?_
  rintro e w' ⟨rfl, d', n, os, hperm, hsorted, rfl⟩
  obtain ⟨hps, _, hpp⟩ := hperm
  have hd : d'.size = l.length := by rw [hps]; simp
  have hp : d'.toList.Perm l := by
    have e1 : (d'.extract 0 l.length).toList = d'.toList := by
      rw [← hd]; simp
    have e2 : (l.toArray.extract 0 l.length).toList = l := by simp
    rw [e1, e2] at hpp
    exact hpp
  have hgr := grownBy_sortedK (w := w) (g := g) (n := n) (os := os) d'
  have hnew := heap_sortedK (n := n) (os := os) d' hg
  have hdl : d' = d'.toList.toArray := by simp
  have hplen : d'.toList.length = l.length := by simpa using hd
  have hok' : WOk G σ Fr ⟨w, 0, #[]⟩ (sortWorldK encSp 2 w g 0 n d' os) := by
    refine ⟨?_, ?_, hok.inj, ?_, hgr.os, hgr.tape, hgr.output, hgr.size, hok.apart⟩
    · intro b o hb
      have := hok.fixed b o hb
      rw [hgr.block b (Array.getElem?_eq_some_iff.1 this).1 (by rintro e; cases e; rw [(hok.own g _ hlb).1] at hb; cases hb)]
      exact this
    · intro b lab hb
      obtain ⟨h1, h2, h3⟩ := hok.own b lab hb
      exact ⟨h1, h2, Nat.lt_of_lt_of_le h3 hgr.size⟩
    · intro b o hb
      have := hok.frame b o hb
      rw [hgr.block b (Array.getElem?_eq_some_iff.1 this).1 (by rintro e; cases e; rw [(hok.own g _ hlb).2.1] at hb; cases hb)]
      exact this
  refine ⟨_, _, _, G, σ, rfl, ⟨d'.toList, hp, ?_, rfl, rfl⟩, Mem.le.refl G, hok', rfl, ⟨#[], rfl, rfl⟩, by simp, ?_⟩
  · rw [List.pairwise_iff_getElem]
    intro i j hi hj hij
    have := hsorted i j (Nat.zero_le _) hij (by simpa [hd] using hj)
    rw [ltF] at this
    have hi' : i < d'.size := by simpa using hi
    have hj' : j < d'.size := by simpa using hj
    rw [getElem!_pos d' j hj', getElem!_pos d' i hi'] at this
    simp at this
    simpa using this
  · intro i sv hi
    have hi2 : i = 0 ∨ i = 1 := by
      have := (List.getElem?_eq_some_iff.1 hi).1
      simp at this
      omega
    rcases hi2 with rfl | rfl
    · cases hi
      refine ⟨rfl, ?_⟩
      have hpl : (sps d'.toList).length = l.length := by rw [List.length_map, hplen]
      show VecAt G σ _ (0, 0) 41 2 (sps d'.toList) _
      refine ⟨(d'.toList.map encSp).flatten, ⟨by rw [flat_length, hpl, hplen], .inr ⟨g, cap, _, by rw [hpl]; rfl, Nat.zero_le _, Row.of hnew, by rw [hpl]; exact hn, hcm, by simpa [putCells] using hcur, ?_⟩⟩, rep_sps.2 ⟨rfl, fun s hs => hlens s (hp.mem_iff.1 hs)⟩, sps_size _, fun b hb => ?_⟩
      · have hF : (flatK encSp 2 d').size = l.length * 2 := by simp [hd]
        have := take_putCellsK cur (flatK encSp 2 d') (by rw [hF, hcur]; exact Nat.mul_le_mul_right _ hn)
        rw [hpl, ← hF, this]
        conv => lhs; rw [hdl]
        rw [flat_list]
      · cases hb
        exact hlb
    · cases hi
      exact ⟨rfl, trivial⟩
end Go.Ab
