/- One text of the proof whose last text says what is proved. -/
import Derived.Test.YtoombangidlpjaaA6
set_option linter.unusedVariables false
set_option linter.unusedSimpArgs false
set_option maxRecDepth 100000
set_option maxHeartbeats 40000000
namespace Go.Ab
open Go.Proofs

abbrev u32s (l : List Int) : List I := l.map (I.int .u32)
theorem u32s_get {l : List Int} {k : Nat} {e : Int} (h : l[k]? = some e) : (u32s l)[k]? = some (.int .u32 e) := by simp [h]
theorem hit_nat {e sz : Nat} {l : List I} {n : Nat} {u : I} (h : l[n]? = some u) : (SV.vec e sz l).hit 0 [Int.toNat (n : Int)] = some (Int.toNat (n : Int) * sz + 0, .item u) :=
  hit_at (by rw [Int.toNat_natCast]; exact h)
theorem blocks_bound (m : Str) : ∀ n, ∀ x ∈ (blocks m n).l, 0 ≤ x ∧ x < 4294967296
  | 0 => (by decide : ∀ x ∈ H0.l, 0 ≤ x ∧ x < 4294967296)
  | n + 1 => by
    intro x hx
    simp only [blocks, blockH, addH, H8.l, List.mem_cons, List.not_mem_nil, or_false] at hx
    rcases hx with rfl | rfl | rfl | rfl | rfl | rfl | rfl | rfl <;> exact W32_nonneg _
theorem outB_succ {h : H8} {t : Nat} {x : Int} (hx : h.l[t]? = some x) : outB h (t + 1) = outB h t ++ numB x.toNat 4 := by
  unfold outB
  rw [List.take_add_one, hx]
  simp
theorem outB_length (h : H8) : ∀ t, t ≤ 8 → (outB h t).length = 4 * t
  | 0, _ => rfl
  | t + 1, ht => by
    obtain ⟨x, hx⟩ : ∃ x, h.l[t]? = some x := ⟨_, List.getElem?_eq_getElem (show t < 8 by omega)⟩
    rw [outB_succ hx, List.length_append, outB_length h t (by omega), numB_length]
    omega
def pre (s : Str) (x : Nat) : Str := s ++ [128] ++ List.replicate x 0
theorem pre_length (s : Str) (x : Nat) : (pre s x).length = s.length + 1 + x := by simp [pre]; omega
theorem spec_sum (s : Str) (hl : s.length ≤ 100000000) : Fn Try.prog F_exchequerref02_Sum [.v (.str s)] (Is (.v (.str (sumB s))) [.no]) := by
  refine of_exchequerref02_Sum ?_ (by simp)
  have e1 : ((List.map byteI s).length + 1) * 1 ≤ 140737488355328 := by simp only [List.length_map]; omega
  have e2 : (List.map byteI s).length + 1 ≤ maxLen := by simp only [List.length_map, maxLen]; omega
  repeat' ((conv => whnf); first
    | (refine And.intro (fun hb => ?_) (fun hb => ?_) <;> first | (exact absurd hb (by first | assumption | decide)) | (rw [hb]) | skip)
    | (refine Exists.intro ?_ ?_; focus (and_intros <;> first | omega | exact rfl | assumption | (intro _ hh; cases hh; done) | exact all_size (by rfl) | (simp; done) | decide))
    | (intro hfact)
    | ((with_reducible apply Drawn.by0); (focus kernel_rfl); intro hfact))
  all_goals (try (conv => whnf))
  refine LoopWq.by (X := Nat) (fun x => [(3, .vec 1000005 1 (bys (pre s x)))]) (fun x => x ≤ zeros s.length) (fun x => zeros s.length - x)
    0 (by simp only [pre, List.replicate_zero, List.append_nil, bys, List.map_append]; kernel_rfl) (Nat.zero_le _) ?_
  intro x hx
  have htm : Int.tmod ((bys (pre s x)).length : Int) 64 = (((s.length + 1 + x) % 64 : Nat) : Int) := by
    rw [List.length_map, pre_length, Int.tmod_eq_emod_of_nonneg (by omega)]; omega
  have hzl : zeros s.length ≤ 63 := by unfold zeros; omega
  by_cases hz : x < zeros s.length
  · have n1 : ¬ (!decide (Int.tmod ((bys (pre s x)).length : Int) 64 = 56)) = false := by
      rw [htm]; simp; unfold zeros at hz; omega
    have e3 : ((bys (pre s x)).length + 1) * 1 ≤ 140737488355328 := by simp only [List.length_map, pre_length]; omega
    have e4 : (bys (pre s x)).length + 1 ≤ maxLen := by simp only [List.length_map, pre_length, maxLen]; omega
    repeat' ((conv => whnf); first
      | (refine And.intro (fun hb => ?_) (fun hb => ?_) <;> first | (exact absurd hb (by first | assumption | decide)) | (rw [hb]) | skip)
      | (refine Exists.intro ?_ ?_; focus (and_intros <;> first | omega | exact rfl | assumption | (intro _ hh; cases hh; done) | exact all_size (by rfl) | (simp; done) | decide))
      | (intro hfact)
      | ((with_reducible apply Drawn.by0); (focus kernel_rfl); intro hfact))
    all_goals (try (conv => whnf))
    refine Round.by (x + 1) ?_ hz (by omega)
    have hp : bys (pre s (x + 1)) = bys (pre s x) ++ (List.replicate 1 (I.int .u8 0)).set 0 (.int .u8 0) := by
      simp only [pre, List.replicate_succ', bys, List.map_append, List.append_assoc]
      rfl
    rw [hp]
    show norm _ _ = upd _ _
    kernel_rfl
  have n1 : ¬ (!decide (Int.tmod ((bys (pre s x)).length : Int) 64 = 56)) = true := by
    rw [htm]; simp; unfold zeros at hz hx; omega
  have hxz : x = zeros s.length := by omega
  have hw8 : IntKind.u64.wrap (8 * IntKind.u64.wrap (s.length : Int)) = ((8 * s.length : Nat) : Int) := by rw [wrap_u64, wrap_u64]; omega
  have hnum := spec_number (8 * s.length) 8 (by omega) (by omega)
  have hnl := numB_length (8 * s.length) 8
  have hsz := bys_size (numB (8 * s.length) 8)
  have e3 : ((bys (pre s x)).length + (bys (numB (8 * s.length) 8)).length) * 1 ≤ 140737488355328 := by simp only [List.length_map, pre_length, hnl]; omega
  have e4 : (bys (pre s x)).length + (bys (numB (8 * s.length) 8)).length ≤ maxLen := by simp only [List.length_map, pre_length, hnl, maxLen]; omega
  repeat' ((conv => whnf); first
    | (refine And.intro (fun hb => ?_) (fun hb => ?_) <;> first | (exact absurd hb (by first | assumption | decide)) | (rw [hb]) | skip)
    | (refine Exists.intro ?_ ?_; focus (and_intros <;> first | omega | exact rfl | assumption | (intro _ hh; cases hh; done) | exact all_size (by rfl) | (simp; done) | decide))
    | (intro hfact)
    | ((with_reducible apply Drawn.by0); (focus kernel_rfl); intro hfact)
    | ((try dsimp only); rw [hw8])
    | (refine CallWp.mk ⟨_, hnum, ?_⟩; rintro _ _ ⟨rfl, rfl⟩)
    | (refine CallWp.mk ⟨_, spec_constants, ?_⟩; rintro _ _ ⟨rfl, rfl⟩))
  all_goals (try (conv => whnf))
  have hM : bys (pre s x) ++ bys (numB (8 * s.length) 8) = bys (padB s) := by
    rw [hxz]; simp only [pre, padB, bys, List.map_append]
  rw [hM]
  have hMl := padB_length s
  have hMm : (padB s).length ≤ 100000300 := by
    simp only [padB, List.length_append, List.length_replicate, numB_length, List.length_singleton]; omega
  have hsum : sumB s = outB (blocks (padB s) ((padB s).length / 64)) 8 := rfl
  rw [hsum]
  clear hsum hM hnum hnl hsz e1 e2 e3 e4 hw8 htm n1
  obtain ⟨M, hMd⟩ : ∃ M, M = padB s := ⟨_, rfl⟩
  rw [← hMd] at hMl hMm ⊢
  obtain ⟨N, hN⟩ : ∃ N, N = M.length / 64 := ⟨_, rfl⟩
  rw [← hN] at hMl ⊢
  refine LoopWq.by (X := Nat) (fun n => [(4, .vec 112 1 (u32s (blocks M n).l)), (6, .v (.int .i64 ((64 * n : Nat) : Int)))]) (fun n => n ≤ N) (fun n => N - n)
    0 (by kernel_rfl) (Nat.zero_le _) ?_
  intro n hn
  by_cases hnN : n < N
  case neg =>
    have hlt : ¬ decide (((64 * n : Nat) : Int) < ((bys M).length : Int)) = true := by simp; omega
    have : n = N := by omega
    subst this
    obtain ⟨H, hH⟩ : ∃ H, H = blocks M n := ⟨_, rfl⟩
    have hbd : ∀ x ∈ H.l, 0 ≤ x ∧ x < 4294967296 := by rw [hH]; exact blocks_bound M n
    rw [← hH]
    repeat' ((conv => whnf); first
      | (refine And.intro (fun hb => ?_) (fun hb => ?_) <;> first | (exact absurd hb (by first | assumption | decide)) | (rw [hb]) | skip)
      | (refine Exists.intro ?_ ?_; focus (and_intros <;> first | omega | exact rfl | assumption | (intro _ hh; cases hh; done) | exact all_size (by rfl) | (simp; done) | decide))
      | (intro hfact)
      | ((with_reducible apply Drawn.by0); (focus kernel_rfl); intro hfact))
    all_goals (try (conv => whnf))
    refine LoopWq.by (X := Nat) (fun t => [(25, .vec 5 1 (bys (outB H t))), (26, .v (.int .i64 t))]) (fun t => t ≤ 8) (fun t => 8 - t)
      0 (by kernel_rfl) (by omega) ?_
    intro t ht
    have hol := outB_length H t ht
    by_cases ht8 : t < 8
    case pos =>
      have hlt1 : ¬ decide ((t : Int) < 8) = false := by simp; omega
      obtain ⟨x, hx⟩ : ∃ x, H.l[t]? = some x := ⟨_, List.getElem?_eq_getElem (show t < 8 by omega)⟩
      obtain ⟨hx0, hx1⟩ := hbd x (List.mem_of_getElem? hx)
      have hh := hit_nat (e := 112) (sz := 1) (u32s_get hx)
      have hl8 : (u32s H.l).length = 8 := rfl
      have bk : Int.toNat (t : Int) < (u32s H.l).length := by rw [Int.toNat_natCast, hl8]; exact ht8
      have bk2 : (t : Int) < ((u32s H.l).length : Int) := by rw [hl8]; exact_mod_cast ht8
      have hw : IntKind.u64.wrap x = ((x.toNat : Nat) : Int) := by rw [wrap_u64]; omega
      have hnum := spec_number x.toNat 4 (by omega) (by omega)
      have hnl := numB_length x.toNat 4
      have hsz := bys_size (numB x.toNat 4)
      have hos := outB_succ hx
      obtain ⟨O, hO⟩ : ∃ O, O = outB H t := ⟨_, rfl⟩
      rw [← hO] at hol hos ⊢
      have e1 : ((bys O).length + (bys (numB x.toNat 4)).length) * 1 ≤ 140737488355328 := by simp only [List.length_map, hnl]; omega
      have e2 : (bys O).length + (bys (numB x.toNat 4)).length ≤ maxLen := by simp only [List.length_map, hnl, maxLen]; omega
      repeat' ((conv => whnf); first
        | (refine And.intro (fun hb => ?_) (fun hb => ?_) <;> first | (exact absurd hb (by first | assumption | decide)) | (rw [hb]) | skip)
        | (refine Exists.intro ?_ ?_; focus (and_intros <;> first | omega | exact rfl | assumption | (intro _ hh; cases hh; done) | exact all_size (by rfl) | (simp; done) | decide))
        | (intro hfact)
        | ((with_reducible apply Drawn.by0); (focus kernel_rfl); intro hfact)
        | ((try dsimp only); rw [hh])
        | ((try dsimp only); rw [hw])
        | (refine CallIs.mk ⟨_, _, hnum, ?_⟩)
        | (refine CallWp.mk ⟨_, hnum, ?_⟩; rintro _ _ ⟨rfl, rfl⟩))
      all_goals (try (conv => whnf))
      refine Round.by (t + 1) ?_ ht8 (by omega)
      rw [wrap_succ ht8 (by simp only [maxLen]; omega), hos, show bys (O ++ numB x.toNat 4) = bys O ++ bys (numB x.toNat 4) from List.map_append]
      show norm _ _ = upd _ _
      kernel_rfl
    have hlt1 : ¬ decide ((t : Int) < 8) = true := by simp; omega
    have ht' : t = 8 := by omega
    subst ht'
    obtain ⟨O, hO⟩ : ∃ O, O = outB H 8 := ⟨_, rfl⟩
    rw [← hO] at hol ⊢
    have hml : O.length ≤ maxLen := by rw [hol]; simp only [maxLen]; omega
    repeat' ((conv => whnf); first
      | (refine And.intro (fun hb => ?_) (fun hb => ?_) <;> first | (exact absurd hb (by first | assumption | decide)) | (rw [hb]) | skip)
      | (refine Exists.intro ?_ ?_; focus (and_intros <;> first | omega | exact rfl | assumption | (intro _ hh; cases hh; done) | exact all_size (by rfl) | (simp; done) | decide))
      | (intro hfact)
      | ((with_reducible apply Drawn.by0); (focus kernel_rfl); intro hfact)
      | ((try dsimp only); rw [vecAt_vec])
      | ((try dsimp only); rw [bytesOf_bys]))
    all_goals (try (conv => whnf))
    exact Done.mk ⟨rfl, by kernel_rfl⟩ (by kernel_rfl)
  have hlt : ¬ decide (((64 * n : Nat) : Int) < ((bys M).length : Int)) = false := by simp; omega
  have hw64 : IntKind.i64.wrap (((64 * n : Nat) : Int) + 64) = ((64 * (n + 1) : Nat) : Int) := by
    rw [show ((64 * n : Nat) : Int) + 64 = ((64 * (n + 1) : Nat) : Int) by omega]; exact wrap_id (by omega)
  have hnext : blocks M (n + 1) = blockH M (64 * n) (blocks M n) := rfl
  obtain ⟨H, hH⟩ : ∃ H, H = blocks M n := ⟨_, rfl⟩
  rw [← hH] at hnext ⊢
  have hlist : u32s H.l = [.int .u32 H.a, .int .u32 H.b, .int .u32 H.c, .int .u32 H.d, .int .u32 H.e, .int .u32 H.f, .int .u32 H.g, .int .u32 H.i] := rfl
  rw [hlist]
  repeat' ((conv => whnf); first
    | (refine And.intro (fun hb => ?_) (fun hb => ?_) <;> first | (exact absurd hb (by first | assumption | decide)) | (rw [hb]) | skip)
    | (refine Exists.intro ?_ ?_; focus (and_intros <;> first | omega | exact rfl | assumption | (intro _ hh; cases hh; done) | exact all_size (by rfl) | (simp; done) | decide))
    | (intro hfact)
    | ((with_reducible apply Drawn.by0); (focus kernel_rfl); intro hfact))
  all_goals (try (conv => whnf))
  refine LoopWq.by (X := Nat) (fun t => [(7, .vec 112 1 (u32s (sched M (64 * n) t))), (8, .v (.int .i64 t))]) (fun t => t ≤ 16) (fun t => 16 - t)
    0 (by kernel_rfl) (by omega) ?_
  intro t ht
  by_cases ht16 : t < 16
  case pos =>
    have hlt1 : ¬ decide ((t : Int) < 16) = false := by simp; omega
    repeat' ((conv => whnf); first
      | (refine And.intro (fun hb => ?_) (fun hb => ?_) <;> first | (exact absurd hb (by first | assumption | decide)) | (rw [hb]) | skip)
      | (refine Exists.intro ?_ ?_; focus (and_intros <;> first | omega | exact rfl | assumption | (intro _ hh; cases hh; done) | exact all_size (by rfl) | (simp; done) | decide))
      | (intro hfact)
      | ((with_reducible apply Drawn.by0); (focus kernel_rfl); intro hfact))
    all_goals (try (conv => whnf))
    refine LoopWq.by (X := Nat) (fun i => [(9, .v (.int .u32 (wordI M (64 * n + 4 * t) i))), (10, .v (.int .i64 i))]) (fun i => i ≤ 4) (fun i => 4 - i)
      0 (by kernel_rfl) (by omega) ?_
    intro i hi
    by_cases hi4 : i < 4
    case pos =>
      have hlt2 : ¬ decide ((i : Int) < 4) = false := by simp; omega
      obtain ⟨b, hb0⟩ : ∃ b, M[64 * n + 4 * t + i]? = some b := ⟨_, List.getElem?_eq_getElem (by omega)⟩
      have hg : (bys M)[Int.toNat ((64 * n + 4 * t + i : Nat) : Int)]? = some (.int .u8 b.toNat) := bys_get hb0
      have hh := hit_at (e := 1000005) (sz := 1) hg
      have hkl : Int.toNat ((64 * n + 4 * t + i : Nat) : Int) < (bys M).length := by simp; omega
      have hkl2 : ((64 * n + 4 * t + i : Nat) : Int) < ((bys M).length : Int) := by simp; omega
      have hw4 : IntKind.i64.wrap (4 * (t : Int)) = ((4 * t : Nat) : Int) := by
        rw [show 4 * (t : Int) = ((4 * t : Nat) : Int) by omega]; exact wrap_id (by omega)
      have hw5 : IntKind.i64.wrap (((64 * n : Nat) : Int) + ((4 * t : Nat) : Int)) = ((64 * n + 4 * t : Nat) : Int) := by
        rw [show ((64 * n : Nat) : Int) + ((4 * t : Nat) : Int) = ((64 * n + 4 * t : Nat) : Int) by omega]; exact wrap_id (by omega)
      have hw6 : IntKind.i64.wrap (((64 * n + 4 * t : Nat) : Int) + (i : Int)) = ((64 * n + 4 * t + i : Nat) : Int) := by
        rw [show ((64 * n + 4 * t : Nat) : Int) + (i : Int) = ((64 * n + 4 * t + i : Nat) : Int) by omega]; exact wrap_id (by omega)
      have hby : wordI M (64 * n + 4 * t) (i + 1) = W32 (W32 (wordI M (64 * n + 4 * t) i * 256) + W32 (b.toNat : Int)) := by
        rw [wordI, byteAt, List.getD_eq_getElem?_getD, hb0]; rfl
      repeat' ((conv => whnf); first
        | (refine And.intro (fun hb => ?_) (fun hb => ?_) <;> first | (exact absurd hb (by first | assumption | decide)) | (rw [hb]) | skip)
        | (refine Exists.intro ?_ ?_; focus (and_intros <;> first | omega | exact rfl | assumption | (intro _ hh; cases hh; done) | exact all_size (by rfl) | (simp; done) | decide))
        | (intro hfact)
        | ((with_reducible apply Drawn.by0); (focus kernel_rfl); intro hfact)
        | ((try dsimp only); rw [hw4])
        | ((try dsimp only); rw [hw5])
        | ((try dsimp only); rw [hw6])
        | ((try dsimp only); rw [hh]))
      all_goals (try (conv => whnf))
      refine Round.by (i + 1) ?_ hi4 (by omega)
      rw [wrap_succ hi4 (by simp only [maxLen]; omega), hby]
      show norm _ _ = upd _ _
      kernel_rfl
    have hlt2 : ¬ decide ((i : Int) < 4) = true := by simp; omega
    have hi4 : i = 4 := by omega
    subst hi4
    have e1 : ((u32s (sched M (64 * n) t)).length + 1) * 4 ≤ 140737488355328 := by simp only [List.length_map, sched_length]; omega
    have e2 : (u32s (sched M (64 * n) t)).length + 1 ≤ maxLen := by simp only [List.length_map, sched_length, maxLen]; omega
    repeat' ((conv => whnf); first
      | (refine And.intro (fun hb => ?_) (fun hb => ?_) <;> first | (exact absurd hb (by first | assumption | decide)) | (rw [hb]) | skip)
      | (refine Exists.intro ?_ ?_; focus (and_intros <;> first | omega | exact rfl | assumption | (intro _ hh; cases hh; done) | exact all_size (by rfl) | (simp; done) | decide))
      | (intro hfact)
      | ((with_reducible apply Drawn.by0); (focus kernel_rfl); intro hfact))
    all_goals (try (conv => whnf))
    refine Round.by (t + 1) ?_ ht16 (by omega)
    have hs1 : u32s (sched M (64 * n) (t + 1)) = u32s (sched M (64 * n) t) ++ (List.replicate 1 (I.int .u32 0)).set 0 (.int .u32 (wordI M (64 * n + 4 * t) 4)) := by
      rw [sched, if_pos ht16, u32s, List.map_append]
      rfl
    rw [wrap_succ ht16 (by simp only [maxLen]; omega), hs1]
    show norm _ _ = upd _ _
    kernel_rfl
  have ht' : t = 16 := by omega
  subst ht'
  repeat' ((conv => whnf); first
    | (refine And.intro (fun hb => ?_) (fun hb => ?_) <;> first | (exact absurd hb (by first | assumption | decide)) | (rw [hb]) | skip)
    | (refine Exists.intro ?_ ?_; focus (and_intros <;> first | omega | exact rfl | assumption | (intro _ hh; cases hh; done) | exact all_size (by rfl) | (simp; done) | decide))
    | (intro hfact)
    | ((with_reducible apply Drawn.by0); (focus kernel_rfl); intro hfact))
  all_goals (try (conv => whnf))
  refine LoopWq.by (X := Nat) (fun t => [(7, .vec 112 1 (u32s (sched M (64 * n) t))), (11, .v (.int .i64 t))]) (fun t => 16 ≤ t ∧ t ≤ 64) (fun t => 64 - t)
    16 (by kernel_rfl) (by omega) ?_
  rintro t ⟨ht1, ht2⟩
  by_cases ht64 : t < 64
  case pos =>
    have hlt1 : ¬ decide ((t : Int) < 64) = false := by simp; omega
    have hs1 : u32s (sched M (64 * n) (t + 1)) = u32s (sched M (64 * n) t) ++ (List.replicate 1 (I.int .u32 0)).set 0 (.int .u32 (extI (sched M (64 * n) t) t)) := by
      rw [sched, if_neg (by omega), u32s, List.map_append]
      rfl
    have hsl := sched_length M (64 * n) t
    obtain ⟨w, hw⟩ : ∃ w, w = sched M (64 * n) t := ⟨_, rfl⟩
    rw [← hw] at hsl hs1 ⊢
    have g : ∀ j, j < t → w[j]? = some (wAt w j) := fun j hj => by
      rw [wAt, List.getD_eq_getElem?_getD, List.getElem?_eq_getElem (by omega)]; rfl
    have hwr : ∀ j : Nat, j ≤ t → IntKind.i64.wrap ((t : Int) - (j : Int)) = ((t - j : Nat) : Int) := fun j hj => by
      rw [show (t : Int) - (j : Int) = ((t - j : Nat) : Int) by omega]; exact wrap_id (by omega)
    have w2 : IntKind.i64.wrap ((t : Int) - 2) = ((t - 2 : Nat) : Int) := hwr 2 (by omega)
    have w7 : IntKind.i64.wrap ((t : Int) - 7) = ((t - 7 : Nat) : Int) := hwr 7 (by omega)
    have w15 : IntKind.i64.wrap ((t : Int) - 15) = ((t - 15 : Nat) : Int) := hwr 15 (by omega)
    have w16 : IntKind.i64.wrap ((t : Int) - 16) = ((t - 16 : Nat) : Int) := hwr 16 (by omega)
    have h2 := hit_nat (e := 112) (sz := 1) (u32s_get (g (t - 2) (by omega)))
    have h7 := hit_nat (e := 112) (sz := 1) (u32s_get (g (t - 7) (by omega)))
    have h15 := hit_nat (e := 112) (sz := 1) (u32s_get (g (t - 15) (by omega)))
    have h16 := hit_nat (e := 112) (sz := 1) (u32s_get (g (t - 16) (by omega)))
    have b2 : Int.toNat ((t - 2 : Nat) : Int) < (u32s w).length := by simp; omega
    have b7 : Int.toNat ((t - 7 : Nat) : Int) < (u32s w).length := by simp; omega
    have b15 : Int.toNat ((t - 15 : Nat) : Int) < (u32s w).length := by simp; omega
    have b16 : Int.toNat ((t - 16 : Nat) : Int) < (u32s w).length := by simp; omega
    have e1 : ((u32s w).length + 1) * 4 ≤ 140737488355328 := by simp only [List.length_map]; omega
    have e2 : (u32s w).length + 1 ≤ maxLen := by simp only [List.length_map, maxLen]; omega
    repeat' ((conv => whnf); first
      | (refine And.intro (fun hb => ?_) (fun hb => ?_) <;> first | (exact absurd hb (by first | assumption | decide)) | (rw [hb]) | skip)
      | (refine Exists.intro ?_ ?_; focus (and_intros <;> first | omega | exact rfl | assumption | (intro _ hh; cases hh; done) | exact all_size (by rfl) | (simp; done) | decide))
      | (intro hfact)
      | ((with_reducible apply Drawn.by0); (focus kernel_rfl); intro hfact)
      | ((try dsimp only); rw [w2])
      | ((try dsimp only); rw [w7])
      | ((try dsimp only); rw [w15])
      | ((try dsimp only); rw [w16])
      | ((try dsimp only); rw [h2])
      | ((try dsimp only); rw [h7])
      | ((try dsimp only); rw [h15])
      | ((try dsimp only); rw [h16])
      | (refine CallIs.mk ⟨_, _, spec_turn _ _ (by decide), ?_⟩))
    all_goals (try (conv => whnf))
    refine Round.by (t + 1) ?_ ⟨by omega, ht64⟩ (by omega)
    rw [wrap_succ ht64 (by simp only [maxLen]; omega), hs1]
    show norm _ _ = upd _ _
    kernel_rfl
  have ht' : t = 64 := by omega
  subst ht'
  have hsl := sched_length M (64 * n) 64
  unfold blockH at hnext
  obtain ⟨w, hw⟩ : ∃ w, w = sched M (64 * n) 64 := ⟨_, rfl⟩
  rw [← hw] at hsl hnext ⊢
  repeat' ((conv => whnf); first
    | (refine And.intro (fun hb => ?_) (fun hb => ?_) <;> first | (exact absurd hb (by first | assumption | decide)) | (rw [hb]) | skip)
    | (refine Exists.intro ?_ ?_; focus (and_intros <;> first | omega | exact rfl | assumption | (intro _ hh; cases hh; done) | exact all_size (by rfl) | (simp; done) | decide))
    | (intro hfact)
    | ((with_reducible apply Drawn.by0); (focus kernel_rfl); intro hfact))
  all_goals (try (conv => whnf))
  refine LoopWq.by (X := Nat) (fun t => [(14, .v (.int .u32 (rnds w H t).a)), (15, .v (.int .u32 (rnds w H t).b)), (16, .v (.int .u32 (rnds w H t).c)), (17, .v (.int .u32 (rnds w H t).d)), (18, .v (.int .u32 (rnds w H t).e)), (19, .v (.int .u32 (rnds w H t).f)), (20, .v (.int .u32 (rnds w H t).g)), (21, .v (.int .u32 (rnds w H t).i)), (22, .v (.int .i64 t))]) (fun t => t ≤ 64) (fun t => 64 - t)
    0 (by kernel_rfl) (by omega) ?_
  intro t ht
  by_cases ht64 : t < 64
  case pos =>
    have hlt1 : ¬ decide ((t : Int) < 64) = false := by simp; omega
    have hgk : kays[t]? = some (wAt kays t) := by
      rw [wAt, List.getD_eq_getElem?_getD, List.getElem?_eq_getElem (show t < kays.length from ht64)]; rfl
    have hgw : w[t]? = some (wAt w t) := by
      rw [wAt, List.getD_eq_getElem?_getD, List.getElem?_eq_getElem (by omega)]; rfl
    have hk := hit_nat (e := 112) (sz := 1) (u32s_get hgk)
    have hh := hit_nat (e := 112) (sz := 1) (u32s_get hgw)
    have bk : Int.toNat (t : Int) < (u32s kays).length := by rw [Int.toNat_natCast, List.length_map]; exact ht64
    have bk2 : (t : Int) < ((u32s kays).length : Int) := by rw [List.length_map]; exact_mod_cast ht64
    have bw : Int.toNat (t : Int) < (u32s w).length := by simp; omega
    have bw2 : (t : Int) < ((u32s w).length : Int) := by simp; omega
    have hr : rnds w H (t + 1) = rnd (rnds w H t) (wAt kays t) (wAt w t) := rfl
    obtain ⟨R, hR⟩ : ∃ R, R = rnds w H t := ⟨_, rfl⟩
    rw [← hR] at hr ⊢
    obtain ⟨kt, hkt⟩ : ∃ k, k = wAt kays t := ⟨_, rfl⟩
    rw [← hkt] at hr hk
    obtain ⟨wt, hwt⟩ : ∃ k, k = wAt w t := ⟨_, rfl⟩
    rw [← hwt] at hr hh
    repeat' ((conv => whnf); first
      | (refine And.intro (fun hb => ?_) (fun hb => ?_) <;> first | (exact absurd hb (by first | assumption | decide)) | (rw [hb]) | skip)
      | (refine Exists.intro ?_ ?_; focus (and_intros <;> first | omega | exact rfl | assumption | (intro _ hh; cases hh; done) | exact all_size (by rfl) | (simp; done) | decide))
      | (intro hfact)
      | ((with_reducible apply Drawn.by0); (focus kernel_rfl); intro hfact)
      | ((try dsimp only); rw [hk])
      | ((try dsimp only); rw [hh])
      | (refine CallIs.mk ⟨_, _, spec_turn _ _ (by decide), ?_⟩)
      | (refine CallWp.mk ⟨_, spec_turn _ _ (by decide), ?_⟩; rintro _ _ ⟨rfl, rfl⟩))
    all_goals (try (conv => whnf))
    refine Round.by (t + 1) ?_ ht64 (by omega)
    rw [wrap_succ ht64 (by simp only [maxLen]; omega), hr]
    show norm _ _ = upd _ _
    kernel_rfl
  have ht' : t = 64 := by omega
  subst ht'
  obtain ⟨R, hR⟩ : ∃ R, R = rnds w H 64 := ⟨_, rfl⟩
  rw [← hR] at hnext ⊢
  repeat' ((conv => whnf); first
    | (refine And.intro (fun hb => ?_) (fun hb => ?_) <;> first | (exact absurd hb (by first | assumption | decide)) | (rw [hb]) | skip)
    | (refine Exists.intro ?_ ?_; focus (and_intros <;> first | omega | exact rfl | assumption | (intro _ hh; cases hh; done) | exact all_size (by rfl) | (simp; done) | decide))
    | (intro hfact)
    | ((with_reducible apply Drawn.by0); (focus kernel_rfl); intro hfact))
  all_goals (try (conv => whnf))
  refine Round.by (n + 1) ?_ hnN (by omega)
  rw [hw64, hnext]
  show norm _ _ = upd _ _
  kernel_rfl
end Go.Ab

