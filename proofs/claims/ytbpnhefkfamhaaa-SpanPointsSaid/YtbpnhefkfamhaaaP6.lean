/- One text of the proof whose last text says what is proved. -/
import Derived.Test.YtbpnhefkfamhaaaP5
set_option linter.unusedVariables false
set_option linter.unusedSimpArgs false
set_option maxRecDepth 100000
set_option maxHeartbeats 1000000
namespace Go.Ab
open Go.Proofs

abbrev bys (s : Str) : List I := s.map byteI
theorem bytesOf_bys : ∀ s : Str, bytesOf (bys s) = some s
  | [] => rfl
  | b :: s => by simp [bys, byteI, bytesOf, bytesOf_bys s]
theorem bys_get {s : Str} {k : Nat} {x : UInt8} (h : s[k]? = some x) : (bys s)[k]? = some (.int .u8 x.toNat) := by simp [h, byteI]
def cutN (p : Str) : Nat := (p.reverse.dropWhile (· == 255)).length
theorem cutN_of {p : Str} {n : Nat} (hn : n ≤ p.length) (h : ∀ x ∈ p.drop n, x = 255) (h2 : n = 0 ∨ ∃ x, p[n - 1]? = some x ∧ x ≠ 255) : cutN p = n := by
  unfold cutN
  have h3 : p.reverse = (p.drop n).reverse ++ (p.take n).reverse := by rw [← List.reverse_append, List.take_append_drop]
  rw [h3, List.dropWhile_append_of_pos (by intro x hx; simp at hx; simp [h x hx])]
  by_cases h0 : n = 0
  · subst h0
    simp
  · rcases h2 with h2 | ⟨x, hx, hne⟩
    · exact absurd h2 h0
    · have hl := (List.getElem?_eq_some_iff.1 hx).1
      have : p.take n = p.take (n - 1) ++ [x] := by
        conv => lhs; rw [show n = n - 1 + 1 from by omega, List.take_add_one, hx]
        rfl
      rw [this, List.reverse_append]
      have hd : ([x].reverse ++ (p.take (n - 1)).reverse).dropWhile (· == 255) = [x].reverse ++ (p.take (n - 1)).reverse := by
        simp [hne]
      rw [hd]
      simp
      omega
def under (p : Str) : Str := match cutN p with
  | 0 => []
  | n + 1 => p.take n ++ [p.getD n 0 + 1]
theorem u8_succ {x : UInt8} (h : x ≠ 255) : IntKind.u8.wrap ((x.toNat : Int) + 1) = ((x + 1).toNat : Int) := by
  have h1 : x.toNat ≠ 255 := fun e => h (UInt8.toNat_inj.1 (by simpa using e))
  have h2 := x.toNat_lt
  rw [UInt8.toNat_add]
  simp [IntKind.wrap, IntKind.bits, IntKind.signed]
theorem hit_b {e : Nat} {l : List I} {n : Nat} {u : I} (h : l[n]? = some u) : (SV.vec e 1 l).hit 0 [n] = some (n * 1 + 0, .item u) := by
  have : u.sub [] = some (0, u) := by cases u <;> rfl
  simp [SV.hit, hitV, h, hitI, this]
theorem spec_under (p : Str) (hp : p.length ≤ 100000) : Fn Try.prog F_span_Under [.v (.str p)] (Is (.v (⟨p, under p⟩ : Sp).toI) [.no]) := by
  refine of_span_Under ?_ (by simp)
  repeat' ((conv => whnf); first
    | (refine And.intro (fun hb => ?_) (fun hb => ?_) <;> first | (exact absurd hb (by first | assumption | decide)) | (rw [hb]) | skip)
    | (refine Exists.intro ?_ ?_; focus (and_intros <;> first | omega | exact rfl | assumption | (intro _ hh; cases hh; done) | exact all_size (by rfl) | (simp; done) | decide))
    | (intro hfact)
    | (refine Drawn.mk (by kernel_rfl) (fun hfact => ?_)))
  all_goals (try (conv => whnf))
  refine LoopWq.by (X := Nat) (fun x => [(3, .vec 1000005 1 (bys (p.take x)))]) (fun x => x ≤ p.length ∧ ∀ y ∈ p.drop x, y = 255) (fun x => x)
    p.length (by rw [List.take_length]; kernel_rfl) ⟨Nat.le_refl _, by simp⟩ ?_
  rintro n ⟨h1, h2⟩
  have hlen : (bys (p.take n)).length = n := by simp; omega
  by_cases h0 : n = 0
  · subst h0
    rw [List.take_zero]
    have hcut := cutN_of h1 h2 (.inl rfl)
    have hu : under p = [] := by unfold under; rw [hcut]
    repeat' ((conv => whnf); first
      | (refine And.intro (fun hb => ?_) (fun hb => ?_) <;> first | (exact absurd hb (by first | assumption | decide)) | (rw [hb]) | skip)
      | (refine Exists.intro ?_ ?_; focus (and_intros <;> first | omega | exact rfl | assumption | (intro _ hh; cases hh; done) | exact all_size (by rfl) | (simp; done) | decide))
      | (intro hfact)
      | (refine Drawn.mk (by kernel_rfl) (fun hfact => ?_)))
    all_goals (try (conv => whnf))
    refine Done.mk ⟨?_, by kernel_rfl⟩ (by kernel_rfl)
    rw [hu]
    rfl
  obtain ⟨x, hx⟩ : ∃ x, p[n - 1]? = some x := ⟨_, List.getElem?_eq_getElem (by omega)⟩
  have n1 : ¬ decide ((0 : Int) < ((bys (p.take n)).length : Int)) = false := by rw [hlen]; simp; omega
  have hw : IntKind.i64.wrap (((bys (p.take n)).length : Int) - 1) = ((n - 1 : Nat) : Int) := by
    rw [hlen]
    exact (wrap_id (by omega)).trans (by omega)
  have hb0 : 0 ≤ IntKind.i64.wrap (((bys (p.take n)).length : Int) - 1) := by rw [hw]; omega
  have hb1 : IntKind.i64.wrap (((bys (p.take n)).length : Int) - 1) ≤ ((bys (p.take n)).length : Int) := by rw [hw, hlen]; omega
  have hb2 : Int.toNat (IntKind.i64.wrap (((bys (p.take n)).length : Int) - 1)) < (bys (p.take n)).length := by rw [hw, hlen]; omega
  have hg : (bys (p.take n))[Int.toNat (IntKind.i64.wrap (((bys (p.take n)).length : Int) - 1))]? = some (.int .u8 x.toNat) := by
    rw [hw, Int.toNat_natCast]
    exact bys_get (by rw [List.getElem?_take, if_pos (by omega), hx])
  have hh := hit_b (e := 1000005) hg
  by_cases hx2 : x = 255
  · have n2 : ¬ decide ((x.toNat : Int) = 255) = false := by simp [hx2]
    repeat' ((conv => whnf); first
      | (refine And.intro (fun hb => ?_) (fun hb => ?_) <;> first | (exact absurd hb (by first | assumption | decide)) | (rw [hb]) | skip)
      | (refine Exists.intro ?_ ?_; focus (and_intros <;> first | omega | exact rfl | assumption | (intro _ hh; cases hh; done) | exact all_size (by rfl) | (simp; done) | decide))
      | (intro hfact)
      | (refine Drawn.mk (by kernel_rfl) (fun hfact => ?_))
      | ((try dsimp only); rw [hh]))
    all_goals (try (conv => whnf))
    refine Round.by (n - 1) ?_ ⟨by omega, fun y hy => ?_⟩ (by omega)
    · have : bys (p.take (n - 1)) = (bys (p.take n)).take (Int.toNat (IntKind.i64.wrap (((bys (p.take n)).length : Int) - 1))) := by
        rw [hw, Int.toNat_natCast, ← List.map_take, List.take_take, Nat.min_eq_left (by omega)]
      rw [this]
      show norm _ _ = upd _ _
      kernel_rfl
    · rw [List.drop_eq_getElem_cons (by omega)] at hy
      rcases List.mem_cons.1 hy with rfl | hy
      · rw [List.getElem?_eq_getElem (by omega)] at hx
        simp only [Option.some.injEq] at hx
        rw [hx, hx2]
      · rw [show n - 1 + 1 = n from by omega] at hy
        exact h2 y hy
  · have n2 : ¬ decide ((x.toNat : Int) = 255) = true := by
      simp
      intro e
      exact hx2 (UInt8.toNat_inj.1 (by simpa using (by exact_mod_cast e : x.toNat = 255)))
    have hcut := cutN_of h1 h2 (.inr ⟨x, hx, hx2⟩)
    have hu : under p = p.take (n - 1) ++ [x + 1] := by
      unfold under
      rw [hcut]
      obtain ⟨m, rfl⟩ : ∃ m, n = m + 1 := ⟨n - 1, by omega⟩
      simp only [Nat.add_sub_cancel] at hx ⊢
      rw [List.getD, hx]
      rfl
    have hbl : bys (p.take (n - 1) ++ [x + 1]) = (bys (p.take n)).set (n - 1) (.int .u8 ((x + 1).toNat : Int)) := by
      have : p.take n = p.take (n - 1) ++ [x] := by
        conv => lhs; rw [show n = n - 1 + 1 from by omega, List.take_add_one, hx]
        rfl
      have hl : (bys (p.take (n - 1))).length = n - 1 := by simp; omega
      rw [this, bys, bys, List.map_append, List.map_append]
      conv => rhs; rw [List.set_append_right _ _ (by rw [hl]; exact Nat.le_refl _), hl, Nat.sub_self]
      rfl
    have hv : (SV.vec 1000005 1 (putV (bys (p.take n)) [Int.toNat (IntKind.i64.wrap (((bys (p.take n)).length : Int) - 1))] (.int .u8 (IntKind.u8.wrap ((x.toNat : Int) + 1))))).vecAt 0 = some (1000005, 1, putV (bys (p.take n)) [Int.toNat (IntKind.i64.wrap (((bys (p.take n)).length : Int) - 1))] (.int .u8 (IntKind.u8.wrap ((x.toNat : Int) + 1)))) := rfl
    have hbo : bytesOf (putV (bys (p.take n)) [Int.toNat (IntKind.i64.wrap (((bys (p.take n)).length : Int) - 1))] (.int .u8 (IntKind.u8.wrap ((x.toNat : Int) + 1)))) = some (under p) := by
      rw [put_at hg, hw, Int.toNat_natCast, u8_succ hx2, ← hbl, bytesOf_bys, hu]
    have hum : (under p).length ≤ maxLen := by rw [hu]; simp [maxLen]; omega
    repeat' ((conv => whnf); first
      | (refine And.intro (fun hb => ?_) (fun hb => ?_) <;> first | (exact absurd hb (by first | assumption | decide)) | (rw [hb]) | skip)
      | (refine Exists.intro ?_ ?_; focus (and_intros <;> first | omega | exact rfl | assumption | (intro _ hh; cases hh; done) | exact all_size (by rfl) | (simp; done) | decide))
      | (intro hfact)
      | (refine Drawn.mk (by kernel_rfl) (fun hfact => ?_))
      | ((try dsimp only); rw [hh])
      | ((try dsimp only); rw [hv])
      | ((try dsimp only); rw [hbo]))
    all_goals (try (conv => whnf))
    exact Done.mk ⟨rfl, by kernel_rfl⟩ (by kernel_rfl)
end Go.Ab

