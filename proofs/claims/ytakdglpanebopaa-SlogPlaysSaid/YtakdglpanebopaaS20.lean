/- One text of the proof whose last text says what is proved. -/
import Derived.Test.YtakdglpanebopaaS19
set_option linter.unusedVariables false
set_option linter.unusedSimpArgs false
set_option maxRecDepth 100000
set_option maxHeartbeats 1000000
namespace Go.Ab
open Go.Proofs

theorem spec_rat (ix tm : Int) (es : List Ent) (i : Int) (h : Right ix tm es) : Fn Try.prog F_exchequerref11_Log_At [.v (logI ix tm es), .v (.int .i64 i)] (Is (pairI (termAt ix tm es i)) [.no, .no]) := by
  refine of_exchequerref11_Log_At ?_ (by simp)
  have hlen := h.len
  have hmax : es.length ≤ maxLen := by simp only [maxLen]; omega
  by_cases h1 : i = ix
  · have n1 : ¬ decide (i = ix) = false := by simp [h1]
    repeat' ((conv => whnf); first
      | (refine And.intro (fun hb => ?_) (fun hb => ?_) <;> first | (exact absurd hb (by first | assumption | decide)) | (rw [hb]) | skip)
      | (refine Exists.intro ?_ ?_; focus (and_intros <;> first | omega | exact rfl | assumption | (intro _ hh; cases hh; done) | exact all_size (by rfl) | (simp; done) | decide))
      | (intro hfact)
      | (refine Drawn.mk (by kernel_rfl) (fun hfact => ?_)))
    all_goals (try (conv => whnf))
    refine Done.mk ⟨?_, by kernel_rfl⟩ (by kernel_rfl)
    subst h1
    rw [termAt_base]
    rfl
  have n1 : ¬ decide (i = ix) = true := by simp [h1]
  repeat' ((conv => whnf); first
    | (refine And.intro (fun hb => ?_) (fun hb => ?_) <;> first | (exact absurd hb (by first | assumption | decide)) | (rw [hb]) | skip)
    | (refine Exists.intro ?_ ?_; focus (and_intros <;> first | omega | exact rfl | assumption | (intro _ hh; cases hh; done) | exact all_size (by rfl) | (simp; done) | decide))
    | (intro hfact)
    | (refine Drawn.mk (by kernel_rfl) (fun hfact => ?_)))
  all_goals (try (conv => whnf))
  refine LoopWq.by (X := Nat) (fun x => [(6, .v (.int .i64 x))]) (fun x => x ≤ es.length ∧ ∀ (j : Nat) (e : Ent), j < x → es[j]? = some e → e.i ≠ i) (fun x => es.length - x)
    0 (by kernel_rfl) ⟨Nat.zero_le _, fun j e h => by omega⟩ ?_
  rintro k ⟨h2, h3⟩
  by_cases hk : k < es.length
  · obtain ⟨e, he⟩ : ∃ e, es[k]? = some e := ⟨es[k], List.getElem?_eq_getElem hk⟩
    have hg : (es.map Ent.toI)[Int.toNat (k : Int)]? = some e.toI := ents_get he
    have hlt : ¬ decide ((k : Int) < ((es.map Ent.toI).length : Int)) = false := by simp [hk]
    have hat := (h.at_ k e he).1
    by_cases he2 : e.i = i
    · have n2 : ¬ decide (e.i = i) = false := by simp [he2]
      repeat' ((conv => whnf); first
        | (refine And.intro (fun hb => ?_) (fun hb => ?_) <;> first | (exact absurd hb (by first | assumption | decide)) | (rw [hb]) | skip)
        | (refine Exists.intro ?_ ?_; focus (and_intros <;> first | omega | exact rfl | assumption | (intro _ hh; cases hh; done) | exact all_size (by rfl) | (simp; done) | decide))
        | (intro hfact)
        | (refine Drawn.mk (by kernel_rfl) (fun hfact => ?_))
        | ((try dsimp only); rw [hg]))
      all_goals (try (conv => whnf))
      refine Done.mk ⟨?_, by kernel_rfl⟩ (by kernel_rfl)
      rw [termAt_get (ix := ix) (tm := tm) (i := i) he (by omega)]
      rfl
    · have n2 : ¬ decide (e.i = i) = true := by simp [he2]
      repeat' ((conv => whnf); first
        | (refine And.intro (fun hb => ?_) (fun hb => ?_) <;> first | (exact absurd hb (by first | assumption | decide)) | (rw [hb]) | skip)
        | (refine Exists.intro ?_ ?_; focus (and_intros <;> first | omega | exact rfl | assumption | (intro _ hh; cases hh; done) | exact all_size (by rfl) | (simp; done) | decide))
        | (intro hfact)
        | (refine Drawn.mk (by kernel_rfl) (fun hfact => ?_))
        | ((try dsimp only); rw [hg]))
      all_goals (try (conv => whnf))
      refine Round.by (k + 1) ?_ ?_ ?_
      · rw [wrap_succ hk hmax]
        show norm _ _ = upd _ _
        kernel_rfl
      · refine ⟨hk, fun j x hj hx => ?_⟩
        by_cases hjk : j = k
        · subst hjk
          rw [he] at hx
          cases hx
          exact he2
        · exact h3 j x (by omega) hx
      · show es.length - (k + 1) < es.length - k
        omega
  · have hlt : ¬ decide ((k : Int) < ((es.map Ent.toI).length : Int)) = true := by simp; omega
    repeat' ((conv => whnf); first
      | (refine And.intro (fun hb => ?_) (fun hb => ?_) <;> first | (exact absurd hb (by first | assumption | decide)) | (rw [hb]) | skip)
      | (refine Exists.intro ?_ ?_; focus (and_intros <;> first | omega | exact rfl | assumption | (intro _ hh; cases hh; done) | exact all_size (by rfl) | (simp; done) | decide))
      | (intro hfact)
      | (refine Drawn.mk (by kernel_rfl) (fun hfact => ?_)))
    all_goals (try (conv => whnf))
    refine Done.mk ⟨?_, by kernel_rfl⟩ (by kernel_rfl)
    have hout : i < ix ∨ ix + es.length < i := by
      rcases Int.lt_or_le i ix with hc | hc
      · exact .inl hc
      · right
        rcases Int.lt_or_le (ix + (es.length : Int)) i with hd | hd
        · exact hd
        · exfalso
          obtain ⟨e, he⟩ : ∃ e, es[(i - ix - 1).toNat]? = some e := ⟨_, List.getElem?_eq_getElem (by omega)⟩
          have := (h.at_ _ e he).1
          exact h3 _ e (by omega) he (by omega)
    rw [termAt_out hout]
    rfl

theorem fromM_eq (ix : Int) (es : List Ent) (i most : Int) : fromM ix es i most = (es.drop (max i (ix + 1) - ix - 1).toNat).take most.toNat := by
  unfold fromM
  split
  · rename_i h
    rcases h with h | h
    · rw [List.drop_eq_nil_of_le (by omega), List.take_nil]
    · rw [show most.toNat = 0 from by omega]
      rfl
  · rfl
theorem part_step {es : List Ent} {k a m : Nat} {e : Ent} (he : es[k]? = some e) : ((es.take (k + 1)).drop a).take m = if a ≤ k ∧ (((es.take k).drop a).take m).length < m then ((es.take k).drop a).take m ++ [e] else ((es.take k).drop a).take m := by
  have hk := (List.getElem?_eq_some_iff.1 he).1
  have ht : es.take (k + 1) = es.take k ++ [e] := by rw [List.take_add_one, he]; rfl
  by_cases ha : a ≤ k
  · rw [ht, List.drop_append_of_le_length (by rw [List.length_take]; omega)]
    have hl : ((es.take k).drop a).length = k - a := by rw [List.length_drop, List.length_take]; omega
    by_cases hm : k - a < m
    · have e1 : ((es.take k).drop a ++ [e]).take m = (es.take k).drop a ++ [e] := List.take_of_length_le (by rw [List.length_append, hl]; simp; omega)
      have e2 : ((es.take k).drop a).take m = (es.take k).drop a := List.take_of_length_le (by omega)
      rw [e1, e2, if_pos ⟨ha, by rw [hl]; exact hm⟩]
    · rw [if_neg (by rintro ⟨_, h⟩; rw [List.length_take, hl] at h; omega), List.take_append_of_le_length (by omega)]
  · rw [if_neg (by omega), List.drop_eq_nil_of_le (by rw [List.length_take]; omega), List.drop_eq_nil_of_le (by rw [List.length_take]; omega)]
theorem spec_rfrom (ix tm : Int) (es : List Ent) (i most : Int) (h : Right ix tm es) : Fn Try.prog F_exchequerref11_Log_From [.v (logI ix tm es), .v (.int .i64 i), .v (.int .i64 most)] (Is (.v (ents (fromM ix es i most))) [.no, .no, .no]) := by
  rw [fromM_eq]
  refine of_exchequerref11_Log_From ?_ (by simp)
  have hlen := h.len
  have hix := h.hix
  have hmax : es.length ≤ maxLen := by simp only [maxLen]; omega
  obtain ⟨a, ha⟩ : ∃ a, a = (max i (ix + 1) - ix - 1).toNat := ⟨_, rfl⟩
  rw [← ha]
  repeat' ((conv => whnf); first
    | (refine And.intro (fun hb => ?_) (fun hb => ?_) <;> first | (exact absurd hb (by first | assumption | decide)) | (rw [hb]) | skip)
    | (refine Exists.intro ?_ ?_; focus (and_intros <;> first | omega | exact rfl | assumption | (intro _ hh; cases hh; done) | exact all_size (by rfl) | (simp; done) | decide))
    | (intro hfact)
    | (refine Drawn.mk (by kernel_rfl) (fun hfact => ?_)))
  all_goals (try (conv => whnf))
  refine LoopWq.by (X := Nat) (fun x => [(7, .vec 36 3 ((((es.take x).drop a).take most.toNat).map Ent.toI)), (8, .v (.int .i64 x))]) (fun x => x ≤ es.length) (fun x => es.length - x)
    0 (by rw [List.take_zero, List.drop_nil, List.take_nil]; kernel_rfl) (Nat.zero_le _) ?_
  intro k h2
  by_cases hk : k < es.length
  · obtain ⟨e, he⟩ : ∃ e, es[k]? = some e := ⟨es[k], List.getElem?_eq_getElem hk⟩
    have hg : (es.map Ent.toI)[Int.toNat (k : Int)]? = some e.toI := ents_get he
    have hlt : ¬ decide ((k : Int) < ((es.map Ent.toI).length : Int)) = false := by simp [hk]
    have hat := (h.at_ k e he).1
    have hstep := part_step (a := a) (m := most.toNat) he
    obtain ⟨out, hout⟩ : ∃ out, out = ((es.take k).drop a).take most.toNat := ⟨_, rfl⟩
    have hol : out.length ≤ 4096 := by rw [hout]; simp only [List.length_take, List.length_drop]; omega
    rw [← hout] at hstep ⊢
    have hl1 : ((out.map Ent.toI).length + [e.toI].length) * 32 ≤ 140737488355328 := by simp; omega
    have hl2 : (out.map Ent.toI).length + [e.toI].length ≤ maxLen := by simp [maxLen]; omega
    have hl3 : ∀ u ∈ [e.toI], u.size = 3 := ents_size [e]
    have hround : es.length - (k + 1) < es.length - k := by omega
    by_cases c1 : i ≤ e.i
    · have n1 : ¬ decide (i ≤ e.i) = false := by simp [c1]
      by_cases c2 : (out.length : Int) < most
      · have n2 : ¬ decide (((out.map Ent.toI).length : Int) < most) = false := by simp [c2]
        rw [if_pos (by omega)] at hstep
        have hap : out.map Ent.toI ++ [e.toI] = (((es.take (k + 1)).drop a).take most.toNat).map Ent.toI := by rw [hstep]; simp
        repeat' ((conv => whnf); first
          | (refine And.intro (fun hb => ?_) (fun hb => ?_) <;> first | (exact absurd hb (by first | assumption | decide)) | (rw [hb]) | skip)
          | (refine Exists.intro ?_ ?_; focus (and_intros <;> first | omega | exact rfl | assumption | (intro _ hh; cases hh; done) | exact all_size (by rfl) | (simp; done) | decide))
          | (intro hfact)
          | (refine Drawn.mk (by kernel_rfl) (fun hfact => ?_))
          | ((try dsimp only); rw [hg]))
        all_goals (try (conv => whnf))
        refine Round.by (k + 1) ?_ hk hround
        rw [wrap_succ hk hmax, ← hap]
        show norm _ _ = upd _ _
        kernel_rfl
      · have n2 : ¬ decide (((out.map Ent.toI).length : Int) < most) = true := by simp; omega
        rw [if_neg (by omega)] at hstep
        repeat' ((conv => whnf); first
          | (refine And.intro (fun hb => ?_) (fun hb => ?_) <;> first | (exact absurd hb (by first | assumption | decide)) | (rw [hb]) | skip)
          | (refine Exists.intro ?_ ?_; focus (and_intros <;> first | omega | exact rfl | assumption | (intro _ hh; cases hh; done) | exact all_size (by rfl) | (simp; done) | decide))
          | (intro hfact)
          | (refine Drawn.mk (by kernel_rfl) (fun hfact => ?_))
          | ((try dsimp only); rw [hg]))
        all_goals (try (conv => whnf))
        refine Round.by (k + 1) ?_ hk hround
        rw [wrap_succ hk hmax, hstep]
        show norm _ _ = upd _ _
        kernel_rfl
    · have n1 : ¬ decide (i ≤ e.i) = true := by simp; omega
      rw [if_neg (by omega)] at hstep
      repeat' ((conv => whnf); first
        | (refine And.intro (fun hb => ?_) (fun hb => ?_) <;> first | (exact absurd hb (by first | assumption | decide)) | (rw [hb]) | skip)
        | (refine Exists.intro ?_ ?_; focus (and_intros <;> first | omega | exact rfl | assumption | (intro _ hh; cases hh; done) | exact all_size (by rfl) | (simp; done) | decide))
        | (intro hfact)
        | (refine Drawn.mk (by kernel_rfl) (fun hfact => ?_))
        | ((try dsimp only); rw [hg]))
      all_goals (try (conv => whnf))
      refine Round.by (k + 1) ?_ hk hround
      rw [wrap_succ hk hmax, hstep]
      show norm _ _ = upd _ _
      kernel_rfl
  · have hlt : ¬ decide ((k : Int) < ((es.map Ent.toI).length : Int)) = true := by simp; omega
    rw [show es.take k = es from List.take_of_length_le (by omega)]
    repeat' ((conv => whnf); first
      | (refine And.intro (fun hb => ?_) (fun hb => ?_) <;> first | (exact absurd hb (by first | assumption | decide)) | (rw [hb]) | skip)
      | (refine Exists.intro ?_ ?_; focus (and_intros <;> first | omega | exact rfl | assumption | (intro _ hh; cases hh; done) | exact all_size (by rfl) | (simp; done) | decide))
      | (intro hfact)
      | (refine Drawn.mk (by kernel_rfl) (fun hfact => ?_)))
    all_goals (try (conv => whnf))
    exact Done.mk ⟨rfl, by kernel_rfl⟩ (by kernel_rfl)

theorem spec_radd (ix tm : Int) (es : List Ent) (term : Int) (d : List UInt8) (hl : es.length ≤ 900000) : Fn Try.prog F_exchequerref11_Log_Add [.v (logI ix tm es), .v (.int .i64 term), .v (.str d)]
    (Is (.tup (if right ix tm (addM ix tm es term d) then [.i (logI ix tm (addM ix tm es term d)), .i (.bool true)] else [.i (logI ix tm es), .i (.bool false)])) [.no, .no, .no]) := by
  refine of_exchequerref11_Log_Add ?_ (by simp)
  have hsz := ents_size es
  have hl0 : (([] : List I).length + (es.map Ent.toI).length) * 32 ≤ 140737488355328 := by simp; omega
  have hl00 : ([] : List I).length + (es.map Ent.toI).length ≤ maxLen := by simp [maxLen]; omega
  have hl1 : (([] ++ es.map Ent.toI).length + [(⟨w64 ((lastOf ix tm es).1 + 1), term, d⟩ : Ent).toI].length) * 32 ≤ 140737488355328 := by simp; omega
  have hl2 : ([] ++ es.map Ent.toI).length + [(⟨w64 ((lastOf ix tm es).1 + 1), term, d⟩ : Ent).toI].length ≤ maxLen := by simp [maxLen]; omega
  have hl3 : ∀ u ∈ [(⟨w64 ((lastOf ix tm es).1 + 1), term, d⟩ : Ent).toI], u.size = 3 := ents_size [⟨w64 ((lastOf ix tm es).1 + 1), term, d⟩]
  have hap : [] ++ es.map Ent.toI ++ [(⟨w64 ((lastOf ix tm es).1 + 1), term, d⟩ : Ent).toI] = (addM ix tm es term d).map Ent.toI := by simp [addM]
  have hright : Fn Try.prog 18 [.v (.agg [.int .i64 ix, .int .i64 tm, .list ([] ++ es.map Ent.toI ++ [(⟨w64 ((lastOf ix tm es).1 + 1), term, d⟩ : Ent).toI])])] (Is (.v (.bool (right ix tm (addM ix tm es term d)))) [.no]) := by
    rw [hap]
    exact spec_rright _ _ _
  repeat' ((conv => whnf); first
    | (refine And.intro (fun hb => ?_) (fun hb => ?_) <;> first | (exact absurd hb (by first | assumption | decide)) | (rw [hb]) | skip)
    | (refine Exists.intro ?_ ?_; focus (and_intros <;> first | omega | exact rfl | assumption | (intro _ hh; cases hh; done) | exact all_size (by rfl) | (simp; done) | decide))
    | (intro hfact)
    | (refine Drawn.mk (by kernel_rfl) (fun hfact => ?_))
    | (refine CallWp.mk ⟨_, spec_rlast _ _ _, ?_⟩; rintro _ _ ⟨rfl, rfl⟩)
    | (refine CallWp.mk ⟨_, hright, ?_⟩; rintro _ _ ⟨rfl, rfl⟩))
  all_goals (try (conv => whnf))
  · refine Done.mk ⟨?_, by kernel_rfl⟩ (by kernel_rfl)
    rw [if_pos (by simp)]
    show SV.tup [.i (.agg [.int .i64 ix, .int .i64 tm, .list ([] ++ es.map Ent.toI ++ [(⟨w64 ((lastOf ix tm es).1 + 1), term, d⟩ : Ent).toI])]), .i (.bool true)] = _
    rw [hap]
  · refine Done.mk ⟨?_, by kernel_rfl⟩ (by kernel_rfl)
    rw [if_neg (by simp)]
    rfl

theorem spec_rcut (ix tm : Int) (es : List Ent) (i : Int) (h : Right ix tm es) : Fn Try.prog F_exchequerref11_Log_Cut [.v (logI ix tm es), .v (.int .i64 i)]
    (Is (.tup (if (termAt ix tm es i).2 then [.i (logI i (termAt ix tm es i).1 (es.drop (i - ix).toNat)), .i (.bool true)] else [.i (logI ix tm es), .i (.bool false)])) [.no, .no]) := by
  refine of_exchequerref11_Log_Cut ?_ (by simp)
  have hlen := h.len
  have hix := h.hix
  have hmax : es.length ≤ maxLen := by simp only [maxLen]; omega
  have hat := spec_rat ix tm es i h
  by_cases ht : (termAt ix tm es i).2 = true
  case neg =>
    rw [if_neg ht]
    have n1 : ¬ (!(termAt ix tm es i).2) = false := by simpa using ht
    repeat' ((conv => whnf); first
      | (refine And.intro (fun hb => ?_) (fun hb => ?_) <;> first | (exact absurd hb (by first | assumption | decide)) | (rw [hb]) | skip)
      | (refine Exists.intro ?_ ?_; focus (and_intros <;> first | omega | exact rfl | assumption | (intro _ hh; cases hh; done) | exact all_size (by rfl) | (simp; done) | decide))
      | (intro hfact)
      | (refine Drawn.mk (by kernel_rfl) (fun hfact => ?_))
      | (refine CallWp.mk ⟨_, hat, ?_⟩; rintro _ _ ⟨rfl, rfl⟩))
    all_goals (try (conv => whnf))
    exact Done.mk ⟨rfl, by kernel_rfl⟩ (by kernel_rfl)
  rw [if_pos ht]
  have n1 : ¬ (!(termAt ix tm es i).2) = true := by simp [ht]
  have hi := (termAt_iff _).1 ht
  obtain ⟨a, ha⟩ : ∃ a, a = (i - ix).toNat := ⟨_, rfl⟩
  rw [← ha]
  repeat' ((conv => whnf); first
    | (refine And.intro (fun hb => ?_) (fun hb => ?_) <;> first | (exact absurd hb (by first | assumption | decide)) | (rw [hb]) | skip)
    | (refine Exists.intro ?_ ?_; focus (and_intros <;> first | omega | exact rfl | assumption | (intro _ hh; cases hh; done) | exact all_size (by rfl) | (simp; done) | decide))
    | (intro hfact)
    | (refine Drawn.mk (by kernel_rfl) (fun hfact => ?_))
    | (refine CallWp.mk ⟨_, hat, ?_⟩; rintro _ _ ⟨rfl, rfl⟩))
  all_goals (try (conv => whnf))
  refine LoopWq.by (X := Nat) (fun x => [(8, .vec 36 3 ((((es.take x).drop a).take 5000).map Ent.toI)), (9, .v (.int .i64 x))]) (fun x => x ≤ es.length) (fun x => es.length - x)
    0 (by rw [List.take_zero, List.drop_nil, List.take_nil]; kernel_rfl) (Nat.zero_le _) ?_
  intro k h2
  by_cases hk : k < es.length
  · obtain ⟨e, he⟩ : ∃ e, es[k]? = some e := ⟨es[k], List.getElem?_eq_getElem hk⟩
    have hg : (es.map Ent.toI)[Int.toNat (k : Int)]? = some e.toI := ents_get he
    have hlt : ¬ decide ((k : Int) < ((es.map Ent.toI).length : Int)) = false := by simp [hk]
    have hat := (h.at_ k e he).1
    have hstep := part_step (a := a) (m := 5000) he
    obtain ⟨out, hout⟩ : ∃ out, out = ((es.take k).drop a).take 5000 := ⟨_, rfl⟩
    have hol : out.length ≤ 4096 := by rw [hout]; simp only [List.length_take, List.length_drop]; omega
    rw [← hout] at hstep ⊢
    have hl1 : ((out.map Ent.toI).length + [e.toI].length) * 32 ≤ 140737488355328 := by simp; omega
    have hl2 : (out.map Ent.toI).length + [e.toI].length ≤ maxLen := by simp [maxLen]; omega
    have hl3 : ∀ u ∈ [e.toI], u.size = 3 := ents_size [e]
    have hround : es.length - (k + 1) < es.length - k := by omega
    by_cases c1 : i < e.i
    · have n1 : ¬ decide (i < e.i) = false := by simp [c1]
      rw [if_pos (by omega)] at hstep
      have hap : out.map Ent.toI ++ [e.toI] = (((es.take (k + 1)).drop a).take 5000).map Ent.toI := by rw [hstep]; simp
      repeat' ((conv => whnf); first
        | (refine And.intro (fun hb => ?_) (fun hb => ?_) <;> first | (exact absurd hb (by first | assumption | decide)) | (rw [hb]) | skip)
        | (refine Exists.intro ?_ ?_; focus (and_intros <;> first | omega | exact rfl | assumption | (intro _ hh; cases hh; done) | exact all_size (by rfl) | (simp; done) | decide))
        | (intro hfact)
        | (refine Drawn.mk (by kernel_rfl) (fun hfact => ?_))
        | ((try dsimp only); rw [hg]))
      all_goals (try (conv => whnf))
      refine Round.by (k + 1) ?_ hk hround
      rw [wrap_succ hk hmax, ← hap]
      show norm _ _ = upd _ _
      kernel_rfl
    · have n1 : ¬ decide (i < e.i) = true := by simp; omega
      rw [if_neg (by omega)] at hstep
      repeat' ((conv => whnf); first
        | (refine And.intro (fun hb => ?_) (fun hb => ?_) <;> first | (exact absurd hb (by first | assumption | decide)) | (rw [hb]) | skip)
        | (refine Exists.intro ?_ ?_; focus (and_intros <;> first | omega | exact rfl | assumption | (intro _ hh; cases hh; done) | exact all_size (by rfl) | (simp; done) | decide))
        | (intro hfact)
        | (refine Drawn.mk (by kernel_rfl) (fun hfact => ?_))
        | ((try dsimp only); rw [hg]))
      all_goals (try (conv => whnf))
      refine Round.by (k + 1) ?_ hk hround
      rw [wrap_succ hk hmax, hstep]
      show norm _ _ = upd _ _
      kernel_rfl
  · have hlt : ¬ decide ((k : Int) < ((es.map Ent.toI).length : Int)) = true := by simp; omega
    rw [show es.take k = es from List.take_of_length_le (by omega), List.take_of_length_le (by rw [List.length_drop]; omega)]
    repeat' ((conv => whnf); first
      | (refine And.intro (fun hb => ?_) (fun hb => ?_) <;> first | (exact absurd hb (by first | assumption | decide)) | (rw [hb]) | skip)
      | (refine Exists.intro ?_ ?_; focus (and_intros <;> first | omega | exact rfl | assumption | (intro _ hh; cases hh; done) | exact all_size (by rfl) | (simp; done) | decide))
      | (intro hfact)
      | (refine Drawn.mk (by kernel_rfl) (fun hfact => ?_)))
    all_goals (try (conv => whnf))
    exact Done.mk ⟨rfl, by kernel_rfl⟩ (by kernel_rfl)
end Go.Ab

