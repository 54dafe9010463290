/- One text of the proof whose last text says what is proved. -/
import Derived.Test.YtakdglpanebopaaS20
set_option linter.unusedVariables false
set_option linter.unusedSimpArgs false
set_option maxRecDepth 100000
set_option maxHeartbeats 2000000
namespace Go.Ab
open Go.Proofs

/-! the document's Put -/
def rstep (ix tm : Int) (es : List Ent) (s : Bool × List Ent) (e : Ent) : Bool × List Ent :=
  if e.i ≤ ix then s
  else if s.1 = true then (if (termAt ix tm es e.i).2 = true ∧ (termAt ix tm es e.i).1 = e.t then s else (false, s.2.take (e.i - ix - 1).toNat ++ [e]))
  else (false, s.2 ++ [e])
def rloop (ix tm : Int) (es l : List Ent) : Bool × List Ent := l.foldl (rstep ix tm es) (true, es)
theorem foldl_stay {α β : Type} {f : β → α → β} {s : β} : ∀ {l : List α}, (∀ e ∈ l, f s e = s) → l.foldl f s = s
  | [], _ => rfl
  | e :: r, h => by
    rw [List.foldl_cons, h e (List.mem_cons_self ..)]
    exact foldl_stay fun x hx => h x (List.mem_cons_of_mem _ hx)
theorem rloop_differ {ix tm : Int} {es : List Ent} : ∀ {l : List Ent} {out : List Ent}, (∀ e ∈ l, ix < e.i) → l.foldl (rstep ix tm es) (false, out) = (false, out ++ l)
  | [], out, _ => by simp
  | e :: r, out, h => by
    have he := h e (List.mem_cons_self ..)
    rw [List.foldl_cons, rstep, if_neg (by omega), if_neg (by simp), rloop_differ fun x hx => h x (List.mem_cons_of_mem _ hx)]
    simp
theorem rloop_agree {ix tm : Int} {es : List Ent} : ∀ {l : List Ent}, (∀ e ∈ l, ix < e.i) → l.foldl (rstep ix tm es) (true, es) = match putLoop ix tm es l with
    | none => (true, es)
    | some h => (false, h)
  | [], _ => rfl
  | e :: r, h => by
    have he := h e (List.mem_cons_self ..)
    rw [List.foldl_cons, rstep, if_neg (by omega), if_pos rfl, putLoop]
    by_cases hc : (termAt ix tm es e.i).2 = true ∧ (termAt ix tm es e.i).1 = e.t
    · rw [if_pos hc, if_pos hc]
      exact rloop_agree fun x hx => h x (List.mem_cons_of_mem _ hx)
    · rw [if_neg hc, if_neg hc, rloop_differ fun x hx => h x (List.mem_cons_of_mem _ hx)]
      simp
theorem putEnd_eq {ix tm : Int} {es l : List Ent} {index : Int} (h : Right ix tm es) (hi : ∀ (j : Nat) (e : Ent), l[j]? = some e → e.i = index + 1 + j) (M : Int) :
    putEnd ix tm es M (l.drop (ix - index).toNat) = if right ix tm (rloop ix tm es l).2 = true then ((rloop ix tm es l).2, M, true) else (es, 0, false) := by
  have h1 : rloop ix tm es l = (l.drop (ix - index).toNat).foldl (rstep ix tm es) (true, es) := by
    unfold rloop
    conv => lhs; rw [← List.take_append_drop (ix - index).toNat l, List.foldl_append]
    have hst : (l.take (ix - index).toNat).foldl (rstep ix tm es) (true, es) = (true, es) := by
      refine foldl_stay fun e he => ?_
      obtain ⟨j, hj, rfl⟩ := List.mem_iff_getElem.1 he
      have hj' : j < (ix - index).toNat ∧ j < l.length := by rw [List.length_take] at hj; omega
      rw [List.getElem_take]
      have := hi j l[j] (List.getElem?_eq_getElem hj'.2)
      rw [rstep, if_pos (by omega)]
    rw [hst]
  rw [rloop_agree] at h1
  · rw [h1]
    unfold putEnd
    split
    · rename_i hn
      rw [hn]
      simp only
      rw [if_pos h.right]
    · rename_i out hn
      rw [hn]
  · intro e he
    obtain ⟨j, hj, rfl⟩ := List.mem_iff_getElem.1 he
    rw [List.getElem_drop]
    rw [List.length_drop] at hj
    have := hi ((ix - index).toNat + j) _ (List.getElem?_eq_getElem (by omega))
    omega

theorem spec_rput (ix tm : Int) (es : List Ent) (index term : Int) (l : List Ent) (h : Right ix tm es) (hr : ∀ e ∈ l, i64r e.i) (hl : l.length ≤ 100000) :
    Fn Try.prog F_exchequerref11_Log_Put [.v (logI ix tm es), .v (.int .i64 index), .v (.int .i64 term), .v (.list (l.map Ent.toI))] (Is (putSV ix tm (putM ix tm es index term l)) [.no, .no, .no, .no]) := by
  refine of_exchequerref11_Log_Put ?_ (by simp)
  have hsz := ents_size es
  have hix := h.hix
  have hlen := h.len
  have hlast := h.last
  have hmax : l.length ≤ maxLen := by simp only [maxLen]; omega
  have hno : ¬ (inB index = true ∧ inB term = true ∧ fitsAt index 0 term l = true) → putM ix tm es index term l = (es, 0, false) := fun hc => by rw [putM, if_neg hc]
  by_cases c1 : index < 0
  · have n1 : ¬ decide (index < 0) = false := by simp [c1]
    rw [hno (by rintro ⟨a, _⟩; have := inB_iff.1 a; omega)]
    repeat' ((conv => whnf); first
      | (refine And.intro (fun hb => ?_) (fun hb => ?_) <;> first | (exact absurd hb (by first | assumption | decide)) | (rw [hb]) | skip)
      | (refine Exists.intro ?_ ?_; focus (and_intros <;> first | omega | exact rfl | assumption | (intro _ hh; cases hh; done) | exact all_size (by rfl) | (simp; done) | decide))
      | (intro hfact)
      | (refine Drawn.mk (by kernel_rfl) (fun hfact => ?_)))
    all_goals (try (conv => whnf))
    exact Done.mk ⟨rfl, by kernel_rfl⟩ (by kernel_rfl)
  have n1 : ¬ decide (index < 0) = true := by simp; omega
  by_cases c2 : (1099511627776 : Int) < index
  · have n2 : ¬ decide ((1099511627776 : Int) < index) = false := by simp [c2]
    rw [hno (by rintro ⟨a, _⟩; have := inB_iff.1 a; omega)]
    repeat' ((conv => whnf); first
      | (refine And.intro (fun hb => ?_) (fun hb => ?_) <;> first | (exact absurd hb (by first | assumption | decide)) | (rw [hb]) | skip)
      | (refine Exists.intro ?_ ?_; focus (and_intros <;> first | omega | exact rfl | assumption | (intro _ hh; cases hh; done) | exact all_size (by rfl) | (simp; done) | decide))
      | (intro hfact)
      | (refine Drawn.mk (by kernel_rfl) (fun hfact => ?_)))
    all_goals (try (conv => whnf))
    exact Done.mk ⟨rfl, by kernel_rfl⟩ (by kernel_rfl)
  have n2 : ¬ decide ((1099511627776 : Int) < index) = true := by simp; omega
  by_cases c3 : term < 0
  · have n3 : ¬ decide (term < 0) = false := by simp [c3]
    rw [hno (by rintro ⟨_, a, _⟩; have := inB_iff.1 a; omega)]
    repeat' ((conv => whnf); first
      | (refine And.intro (fun hb => ?_) (fun hb => ?_) <;> first | (exact absurd hb (by first | assumption | decide)) | (rw [hb]) | skip)
      | (refine Exists.intro ?_ ?_; focus (and_intros <;> first | omega | exact rfl | assumption | (intro _ hh; cases hh; done) | exact all_size (by rfl) | (simp; done) | decide))
      | (intro hfact)
      | (refine Drawn.mk (by kernel_rfl) (fun hfact => ?_)))
    all_goals (try (conv => whnf))
    exact Done.mk ⟨rfl, by kernel_rfl⟩ (by kernel_rfl)
  have n3 : ¬ decide (term < 0) = true := by simp; omega
  by_cases c4 : (1099511627776 : Int) < term
  · have n4 : ¬ decide ((1099511627776 : Int) < term) = false := by simp [c4]
    rw [hno (by rintro ⟨_, a, _⟩; have := inB_iff.1 a; omega)]
    repeat' ((conv => whnf); first
      | (refine And.intro (fun hb => ?_) (fun hb => ?_) <;> first | (exact absurd hb (by first | assumption | decide)) | (rw [hb]) | skip)
      | (refine Exists.intro ?_ ?_; focus (and_intros <;> first | omega | exact rfl | assumption | (intro _ hh; cases hh; done) | exact all_size (by rfl) | (simp; done) | decide))
      | (intro hfact)
      | (refine Drawn.mk (by kernel_rfl) (fun hfact => ?_)))
    all_goals (try (conv => whnf))
    exact Done.mk ⟨rfl, by kernel_rfl⟩ (by kernel_rfl)
  have n4 : ¬ decide ((1099511627776 : Int) < term) = true := by simp; omega
  have hfit := spec_rfits index term l ⟨by omega, by omega⟩ hr (by omega)
  by_cases c5 : fitsAt index 0 term l = true
  case neg =>
    have n5 : ¬ (!fitsAt index 0 term l) = false := by simpa using c5
    rw [hno (by rintro ⟨_, _, a⟩; exact c5 a)]
    repeat' ((conv => whnf); first
      | (refine And.intro (fun hb => ?_) (fun hb => ?_) <;> first | (exact absurd hb (by first | assumption | decide)) | (rw [hb]) | skip)
      | (refine Exists.intro ?_ ?_; focus (and_intros <;> first | omega | exact rfl | assumption | (intro _ hh; cases hh; done) | exact all_size (by rfl) | (simp; done) | decide))
      | (intro hfact)
      | (refine Drawn.mk (by kernel_rfl) (fun hfact => ?_))
      | (refine CallWp.mk ⟨_, hfit, ?_⟩; rintro _ _ ⟨rfl, rfl⟩))
    all_goals (try (conv => whnf))
    exact Done.mk ⟨rfl, by kernel_rfl⟩ (by kernel_rfl)
  have n5 : ¬ (!fitsAt index 0 term l) = true := by simp [c5]
  have hidx : 0 ≤ index ∧ index ≤ 1099511627776 := ⟨by omega, by omega⟩
  have hcons := (fitsAt_spec hidx (by omega) hr c5).1
  have hi : ∀ (j : Nat) (e : Ent), l[j]? = some e → e.i = index + 1 + j := fun j e hj => by have := (hcons j e hj).1; omega
  have hput : putM ix tm es index term l = if index < ix then putEnd ix tm es (max (index + l.length) ix) (l.drop (min (l.length : Int) (ix - index)).toNat)
    else if (termAt ix tm es index).2 = true ∧ (termAt ix tm es index).1 = term then putEnd ix tm es (max (index + l.length) ix) l
    else (es, max (min (index - 1) (lastOf ix tm es).1) ix, false) := by rw [putM, if_pos ⟨inB_iff.2 hidx, inB_iff.2 ⟨by omega, by omega⟩, c5⟩]
  rw [hput]
  have hw1 : IntKind.i64.wrap (index + ((l.map Ent.toI).length : Int)) = index + l.length := by rw [List.length_map]; exact wrap_id (by omega)
  have hw2 : IntKind.i64.wrap (index - 1) = index - 1 := wrap_id (by omega)
  have hl0 : (([] : List I).length + (es.map Ent.toI).length) * 32 ≤ 140737488355328 := by simp; omega
  have hl00 : ([] : List I).length + (es.map Ent.toI).length ≤ maxLen := by simp [maxLen]; omega
  have hrl := spec_rlast ix tm es
  by_cases c9 : index < ix
  · have n9 : ¬ decide (ix ≤ index) = true := by simp; omega
    rw [if_pos c9]
    have hdr : l.drop (min (l.length : Int) (ix - index)).toNat = l.drop (ix - index).toNat := by
      by_cases hc : (l.length : Int) ≤ ix - index
      · rw [List.drop_eq_nil_of_le (by omega), List.drop_eq_nil_of_le (by omega)]
      · rw [show (min (l.length : Int) (ix - index)) = ix - index from by omega]
    rw [hdr]
    by_cases c10 : index + (l.length : Int) < ix
    · have n10 : ¬ decide (IntKind.i64.wrap (index + ((l.map Ent.toI).length : Int)) < ix) = false := by rw [hw1]; simp [c10]
      rw [show max (index + (l.length : Int)) ix = ix from by omega]
      repeat' ((conv => whnf); first
        | (refine And.intro (fun hb => ?_) (fun hb => ?_) <;> first | (exact absurd hb (by first | assumption | decide)) | (rw [hb]) | skip)
        | (refine Exists.intro ?_ ?_; focus (and_intros <;> first | omega | exact rfl | assumption | (intro _ hh; cases hh; done) | exact all_size (by rfl) | (simp; done) | decide))
        | (intro hfact)
        | (refine Drawn.mk (by kernel_rfl) (fun hfact => ?_))
        | (refine CallWp.mk ⟨_, hfit, ?_⟩; rintro _ _ ⟨rfl, rfl⟩)
        | (refine CallWp.mk ⟨_, hrl, ?_⟩; rintro _ _ ⟨rfl, rfl⟩))
      all_goals (try (conv => whnf))
      have hpe := putEnd_eq h hi ix
      refine LoopWq.by (X := Nat × Bool × List Ent) (fun x => [(17, .vec 36 3 (x.2.2.map Ent.toI)), (18, .v (.bool x.2.1)), (19, .v (.int .i64 x.1))]) (fun x => x.1 ≤ l.length ∧ (x.2.1, x.2.2) = (l.take x.1).foldl (rstep ix tm es) (true, es) ∧ x.2.2.length ≤ 4096 + x.1 ∧ (x.2.1 = true → x.2.2 = es ∧ index + x.1 ≤ ix + es.length)) (fun x => l.length - x.1)
        (0, true, es) (by kernel_rfl) ⟨Nat.zero_le _, rfl, hlen, fun _ => ⟨rfl, by show index + ((0 : Nat) : Int) ≤ _; omega⟩⟩ ?_
      rintro ⟨k, ag, out⟩ ⟨h2, h3, h4, h5⟩
      dsimp only at h2 h3 h4 h5 ⊢
      by_cases hk : k < l.length
      case neg =>
        have hlt : ¬ decide ((k : Int) < ((l.map Ent.toI).length : Int)) = true := by simp; omega
        rw [show l.take k = l from List.take_of_length_le (by omega)] at h3
        have h3' : rloop ix tm es l = (ag, out) := h3.symm
        rw [h3'] at hpe
        dsimp only at hpe
        have hrr := spec_rright ix tm out
        by_cases hrt : right ix tm out = true
        · rw [if_pos hrt] at hpe
          rw [hrt] at hrr
          rw [hpe]
          repeat' ((conv => whnf); first
            | (refine And.intro (fun hb => ?_) (fun hb => ?_) <;> first | (exact absurd hb (by first | assumption | decide)) | (rw [hb]) | skip)
            | (refine Exists.intro ?_ ?_; focus (and_intros <;> first | omega | exact rfl | assumption | (intro _ hh; cases hh; done) | exact all_size (by rfl) | (simp; done) | decide))
            | (intro hfact)
            | (refine Drawn.mk (by kernel_rfl) (fun hfact => ?_))
            | (refine CallWp.mk ⟨_, hrr, ?_⟩; rintro _ _ ⟨rfl, rfl⟩))
          all_goals (try (conv => whnf))
          exact Done.mk ⟨rfl, by kernel_rfl⟩ (by kernel_rfl)
        · rw [if_neg hrt] at hpe
          rw [show right ix tm out = false from by simpa using hrt] at hrr
          rw [hpe]
          repeat' ((conv => whnf); first
            | (refine And.intro (fun hb => ?_) (fun hb => ?_) <;> first | (exact absurd hb (by first | assumption | decide)) | (rw [hb]) | skip)
            | (refine Exists.intro ?_ ?_; focus (and_intros <;> first | omega | exact rfl | assumption | (intro _ hh; cases hh; done) | exact all_size (by rfl) | (simp; done) | decide))
            | (intro hfact)
            | (refine Drawn.mk (by kernel_rfl) (fun hfact => ?_))
            | (refine CallWp.mk ⟨_, hrr, ?_⟩; rintro _ _ ⟨rfl, rfl⟩))
          all_goals (try (conv => whnf))
          exact Done.mk ⟨rfl, by kernel_rfl⟩ (by kernel_rfl)
      obtain ⟨e, he⟩ : ∃ e, l[k]? = some e := ⟨_, List.getElem?_eq_getElem hk⟩
      have hg : (l.map Ent.toI)[Int.toNat (k : Int)]? = some e.toI := ents_get he
      have hlt : ¬ decide ((k : Int) < ((l.map Ent.toI).length : Int)) = false := by simp [hk]
      have hei := hi k e he
      have hround : l.length - (k + 1) < l.length - k := by omega
      have hsucc : (l.take (k + 1)).foldl (rstep ix tm es) (true, es) = rstep ix tm es (ag, out) e := by
        rw [List.take_add_one, he, List.foldl_append, ← h3]
        rfl
      by_cases c6 : e.i ≤ ix
      · have n6 : ¬ decide (e.i ≤ ix) = false := by simp [c6]
        rw [rstep, if_pos c6] at hsucc
        repeat' ((conv => whnf); first
          | (refine And.intro (fun hb => ?_) (fun hb => ?_) <;> first | (exact absurd hb (by first | assumption | decide)) | (rw [hb]) | skip)
          | (refine Exists.intro ?_ ?_; focus (and_intros <;> first | omega | exact rfl | assumption | (intro _ hh; cases hh; done) | exact all_size (by rfl) | (simp; done) | decide))
          | (intro hfact)
          | (refine Drawn.mk (by kernel_rfl) (fun hfact => ?_))
          | ((try dsimp only); rw [hg]))
        all_goals (try (conv => whnf))
        refine Round.by (k + 1, ag, out) ?_ ⟨hk, hsucc.symm, by dsimp only; omega, fun ha => ⟨(h5 ha).1, by dsimp only; omega⟩⟩ hround
        rw [wrap_succ hk hmax]
        show norm _ _ = upd _ _
        kernel_rfl
      have n6 : ¬ decide (e.i ≤ ix) = true := by simp; omega
      have hate := spec_rat ix tm es e.i h
      cases ag with
      | false =>
        rw [rstep, if_neg c6, if_neg (by simp)] at hsucc
        have hl1 : ((out.map Ent.toI).length + [e.toI].length) * 32 ≤ 140737488355328 := by simp; omega
        have hl2 : (out.map Ent.toI).length + [e.toI].length ≤ maxLen := by simp [maxLen]; omega
        have hl3 : ∀ u ∈ [e.toI], u.size = 3 := ents_size [e]
        have hap : out.map Ent.toI ++ [e.toI] = (out ++ [e]).map Ent.toI := by simp
        repeat' ((conv => whnf); first
          | (refine And.intro (fun hb => ?_) (fun hb => ?_) <;> first | (exact absurd hb (by first | assumption | decide)) | (rw [hb]) | skip)
          | (refine Exists.intro ?_ ?_; focus (and_intros <;> first | omega | exact rfl | assumption | (intro _ hh; cases hh; done) | exact all_size (by rfl) | (simp; done) | decide))
          | (intro hfact)
          | (refine Drawn.mk (by kernel_rfl) (fun hfact => ?_))
          | ((try dsimp only); rw [hg])
          | (refine CallIs.mk ⟨_, _, hate, ?_⟩))
        all_goals (try (conv => whnf))
        refine Round.by (k + 1, false, out ++ [e]) ?_ ⟨hk, hsucc.symm, by simp; omega, fun ha => by cases ha⟩ hround
        dsimp only
        rw [wrap_succ hk hmax, ← hap]
        show norm _ _ = upd _ _
        kernel_rfl
      | true =>
        obtain ⟨hoe, hle⟩ := h5 rfl
        subst hoe
        rw [rstep, if_neg c6, if_pos rfl] at hsucc
        by_cases c7 : (termAt ix tm out e.i).2 = true ∧ (termAt ix tm out e.i).1 = e.t
        · have n7 : ¬ (!(termAt ix tm out e.i).2) = true := by simp [c7.1]
          have n8 : ¬ (!decide ((termAt ix tm out e.i).1 = e.t)) = true := by simp [c7.2]
          have hin := (termAt_iff _).1 c7.1
          rw [if_pos c7] at hsucc
          repeat' ((conv => whnf); first
            | (refine And.intro (fun hb => ?_) (fun hb => ?_) <;> first | (exact absurd hb (by first | assumption | decide)) | (rw [hb]) | skip)
            | (refine Exists.intro ?_ ?_; focus (and_intros <;> first | omega | exact rfl | assumption | (intro _ hh; cases hh; done) | exact all_size (by rfl) | (simp; done) | decide))
            | (intro hfact)
            | (refine Drawn.mk (by kernel_rfl) (fun hfact => ?_))
            | ((try dsimp only); rw [hg])
            | (refine CallIs.mk ⟨_, _, hate, ?_⟩))
          all_goals (try (conv => whnf))
          refine Round.by (k + 1, true, out) ?_ ⟨hk, hsucc.symm, by dsimp only; omega, fun _ => ⟨rfl, by dsimp only; omega⟩⟩ hround
          rw [wrap_succ hk hmax]
          show norm _ _ = upd _ _
          kernel_rfl
        · rw [if_neg c7] at hsucc
          have hw3 : IntKind.i64.wrap (IntKind.i64.wrap (e.i - ix) - 1) = e.i - ix - 1 := by
            rw [show IntKind.i64.wrap (e.i - ix) = e.i - ix from wrap_id (by omega)]
            exact wrap_id (by omega)
          have hb0 : 0 ≤ IntKind.i64.wrap (IntKind.i64.wrap (e.i - ix) - 1) := by rw [hw3]; omega
          have hb1 : IntKind.i64.wrap (IntKind.i64.wrap (e.i - ix) - 1) ≤ ((out.map Ent.toI).length : Int) := by rw [hw3, List.length_map]; omega
          have hl1 : (((out.map Ent.toI).take (IntKind.i64.wrap (IntKind.i64.wrap (e.i - ix) - 1)).toNat).length + [e.toI].length) * 32 ≤ 140737488355328 := by rw [List.length_take, List.length_map]; simp; omega
          have hl2 : ((out.map Ent.toI).take (IntKind.i64.wrap (IntKind.i64.wrap (e.i - ix) - 1)).toNat).length + [e.toI].length ≤ maxLen := by rw [List.length_take, List.length_map]; simp [maxLen]; omega
          have hl3 : ∀ u ∈ [e.toI], u.size = 3 := ents_size [e]
          have hap : (out.map Ent.toI).take (IntKind.i64.wrap (IntKind.i64.wrap (e.i - ix) - 1)).toNat ++ [e.toI] = (out.take (e.i - ix - 1).toNat ++ [e]).map Ent.toI := by rw [hw3]; simp
          have hlt2 : (out.take (e.i - ix - 1).toNat ++ [e]).length ≤ 4096 + (k + 1) := by simp; omega
          by_cases c8 : (termAt ix tm out e.i).2 = true
          · have n7 : ¬ (!(termAt ix tm out e.i).2) = true := by simp [c8]
            have n8 : ¬ (!decide ((termAt ix tm out e.i).1 = e.t)) = false := by simp; exact fun hc => c7 ⟨c8, hc⟩
            repeat' ((conv => whnf); first
              | (refine And.intro (fun hb => ?_) (fun hb => ?_) <;> first | (exact absurd hb (by first | assumption | decide)) | (rw [hb]) | skip)
              | (refine Exists.intro ?_ ?_; focus (and_intros <;> first | omega | exact rfl | assumption | (intro _ hh; cases hh; done) | exact all_size (by rfl) | (simp; done) | decide))
              | (intro hfact)
              | (refine Drawn.mk (by kernel_rfl) (fun hfact => ?_))
              | ((try dsimp only); rw [hg])
              | (refine CallIs.mk ⟨_, _, hate, ?_⟩))
            all_goals (try (conv => whnf))
            refine Round.by (k + 1, false, out.take (e.i - ix - 1).toNat ++ [e]) ?_ ⟨hk, hsucc.symm, hlt2, fun ha => by cases ha⟩ hround
            dsimp only
            rw [wrap_succ hk hmax, ← hap]
            show norm _ _ = upd _ _
            kernel_rfl
          · have n7 : ¬ (!(termAt ix tm out e.i).2) = false := by simpa using c8
            repeat' ((conv => whnf); first
              | (refine And.intro (fun hb => ?_) (fun hb => ?_) <;> first | (exact absurd hb (by first | assumption | decide)) | (rw [hb]) | skip)
              | (refine Exists.intro ?_ ?_; focus (and_intros <;> first | omega | exact rfl | assumption | (intro _ hh; cases hh; done) | exact all_size (by rfl) | (simp; done) | decide))
              | (intro hfact)
              | (refine Drawn.mk (by kernel_rfl) (fun hfact => ?_))
              | ((try dsimp only); rw [hg])
              | (refine CallIs.mk ⟨_, _, hate, ?_⟩))
            all_goals (try (conv => whnf))
            refine Round.by (k + 1, false, out.take (e.i - ix - 1).toNat ++ [e]) ?_ ⟨hk, hsucc.symm, hlt2, fun ha => by cases ha⟩ hround
            dsimp only
            rw [wrap_succ hk hmax, ← hap]
            show norm _ _ = upd _ _
            kernel_rfl
    · have n10 : ¬ decide (IntKind.i64.wrap (index + ((l.map Ent.toI).length : Int)) < ix) = true := by rw [hw1]; simp; omega
      rw [show max (index + (l.length : Int)) ix = IntKind.i64.wrap (index + ((l.map Ent.toI).length : Int)) from by rw [hw1]; omega]
      repeat' ((conv => whnf); first
        | (refine And.intro (fun hb => ?_) (fun hb => ?_) <;> first | (exact absurd hb (by first | assumption | decide)) | (rw [hb]) | skip)
        | (refine Exists.intro ?_ ?_; focus (and_intros <;> first | omega | exact rfl | assumption | (intro _ hh; cases hh; done) | exact all_size (by rfl) | (simp; done) | decide))
        | (intro hfact)
        | (refine Drawn.mk (by kernel_rfl) (fun hfact => ?_))
        | (refine CallWp.mk ⟨_, hfit, ?_⟩; rintro _ _ ⟨rfl, rfl⟩)
        | (refine CallWp.mk ⟨_, hrl, ?_⟩; rintro _ _ ⟨rfl, rfl⟩))
      all_goals (try (conv => whnf))
      have hpe := putEnd_eq h hi (IntKind.i64.wrap (index + ((l.map Ent.toI).length : Int)))
      refine LoopWq.by (X := Nat × Bool × List Ent) (fun x => [(17, .vec 36 3 (x.2.2.map Ent.toI)), (18, .v (.bool x.2.1)), (19, .v (.int .i64 x.1))]) (fun x => x.1 ≤ l.length ∧ (x.2.1, x.2.2) = (l.take x.1).foldl (rstep ix tm es) (true, es) ∧ x.2.2.length ≤ 4096 + x.1 ∧ (x.2.1 = true → x.2.2 = es ∧ index + x.1 ≤ ix + es.length)) (fun x => l.length - x.1)
        (0, true, es) (by kernel_rfl) ⟨Nat.zero_le _, rfl, hlen, fun _ => ⟨rfl, by show index + ((0 : Nat) : Int) ≤ _; omega⟩⟩ ?_
      rintro ⟨k, ag, out⟩ ⟨h2, h3, h4, h5⟩
      dsimp only at h2 h3 h4 h5 ⊢
      by_cases hk : k < l.length
      case neg =>
        have hlt : ¬ decide ((k : Int) < ((l.map Ent.toI).length : Int)) = true := by simp; omega
        rw [show l.take k = l from List.take_of_length_le (by omega)] at h3
        have h3' : rloop ix tm es l = (ag, out) := h3.symm
        rw [h3'] at hpe
        dsimp only at hpe
        have hrr := spec_rright ix tm out
        by_cases hrt : right ix tm out = true
        · rw [if_pos hrt] at hpe
          rw [hrt] at hrr
          rw [hpe]
          repeat' ((conv => whnf); first
            | (refine And.intro (fun hb => ?_) (fun hb => ?_) <;> first | (exact absurd hb (by first | assumption | decide)) | (rw [hb]) | skip)
            | (refine Exists.intro ?_ ?_; focus (and_intros <;> first | omega | exact rfl | assumption | (intro _ hh; cases hh; done) | exact all_size (by rfl) | (simp; done) | decide))
            | (intro hfact)
            | (refine Drawn.mk (by kernel_rfl) (fun hfact => ?_))
            | (refine CallWp.mk ⟨_, hrr, ?_⟩; rintro _ _ ⟨rfl, rfl⟩))
          all_goals (try (conv => whnf))
          exact Done.mk ⟨rfl, by kernel_rfl⟩ (by kernel_rfl)
        · rw [if_neg hrt] at hpe
          rw [show right ix tm out = false from by simpa using hrt] at hrr
          rw [hpe]
          repeat' ((conv => whnf); first
            | (refine And.intro (fun hb => ?_) (fun hb => ?_) <;> first | (exact absurd hb (by first | assumption | decide)) | (rw [hb]) | skip)
            | (refine Exists.intro ?_ ?_; focus (and_intros <;> first | omega | exact rfl | assumption | (intro _ hh; cases hh; done) | exact all_size (by rfl) | (simp; done) | decide))
            | (intro hfact)
            | (refine Drawn.mk (by kernel_rfl) (fun hfact => ?_))
            | (refine CallWp.mk ⟨_, hrr, ?_⟩; rintro _ _ ⟨rfl, rfl⟩))
          all_goals (try (conv => whnf))
          exact Done.mk ⟨rfl, by kernel_rfl⟩ (by kernel_rfl)
      obtain ⟨e, he⟩ : ∃ e, l[k]? = some e := ⟨_, List.getElem?_eq_getElem hk⟩
      have hg : (l.map Ent.toI)[Int.toNat (k : Int)]? = some e.toI := ents_get he
      have hlt : ¬ decide ((k : Int) < ((l.map Ent.toI).length : Int)) = false := by simp [hk]
      have hei := hi k e he
      have hround : l.length - (k + 1) < l.length - k := by omega
      have hsucc : (l.take (k + 1)).foldl (rstep ix tm es) (true, es) = rstep ix tm es (ag, out) e := by
        rw [List.take_add_one, he, List.foldl_append, ← h3]
        rfl
      by_cases c6 : e.i ≤ ix
      · have n6 : ¬ decide (e.i ≤ ix) = false := by simp [c6]
        rw [rstep, if_pos c6] at hsucc
        repeat' ((conv => whnf); first
          | (refine And.intro (fun hb => ?_) (fun hb => ?_) <;> first | (exact absurd hb (by first | assumption | decide)) | (rw [hb]) | skip)
          | (refine Exists.intro ?_ ?_; focus (and_intros <;> first | omega | exact rfl | assumption | (intro _ hh; cases hh; done) | exact all_size (by rfl) | (simp; done) | decide))
          | (intro hfact)
          | (refine Drawn.mk (by kernel_rfl) (fun hfact => ?_))
          | ((try dsimp only); rw [hg]))
        all_goals (try (conv => whnf))
        refine Round.by (k + 1, ag, out) ?_ ⟨hk, hsucc.symm, by dsimp only; omega, fun ha => ⟨(h5 ha).1, by dsimp only; omega⟩⟩ hround
        rw [wrap_succ hk hmax]
        show norm _ _ = upd _ _
        kernel_rfl
      have n6 : ¬ decide (e.i ≤ ix) = true := by simp; omega
      have hate := spec_rat ix tm es e.i h
      cases ag with
      | false =>
        rw [rstep, if_neg c6, if_neg (by simp)] at hsucc
        have hl1 : ((out.map Ent.toI).length + [e.toI].length) * 32 ≤ 140737488355328 := by simp; omega
        have hl2 : (out.map Ent.toI).length + [e.toI].length ≤ maxLen := by simp [maxLen]; omega
        have hl3 : ∀ u ∈ [e.toI], u.size = 3 := ents_size [e]
        have hap : out.map Ent.toI ++ [e.toI] = (out ++ [e]).map Ent.toI := by simp
        repeat' ((conv => whnf); first
          | (refine And.intro (fun hb => ?_) (fun hb => ?_) <;> first | (exact absurd hb (by first | assumption | decide)) | (rw [hb]) | skip)
          | (refine Exists.intro ?_ ?_; focus (and_intros <;> first | omega | exact rfl | assumption | (intro _ hh; cases hh; done) | exact all_size (by rfl) | (simp; done) | decide))
          | (intro hfact)
          | (refine Drawn.mk (by kernel_rfl) (fun hfact => ?_))
          | ((try dsimp only); rw [hg])
          | (refine CallIs.mk ⟨_, _, hate, ?_⟩))
        all_goals (try (conv => whnf))
        refine Round.by (k + 1, false, out ++ [e]) ?_ ⟨hk, hsucc.symm, by simp; omega, fun ha => by cases ha⟩ hround
        dsimp only
        rw [wrap_succ hk hmax, ← hap]
        show norm _ _ = upd _ _
        kernel_rfl
      | true =>
        obtain ⟨hoe, hle⟩ := h5 rfl
        subst hoe
        rw [rstep, if_neg c6, if_pos rfl] at hsucc
        by_cases c7 : (termAt ix tm out e.i).2 = true ∧ (termAt ix tm out e.i).1 = e.t
        · have n7 : ¬ (!(termAt ix tm out e.i).2) = true := by simp [c7.1]
          have n8 : ¬ (!decide ((termAt ix tm out e.i).1 = e.t)) = true := by simp [c7.2]
          have hin := (termAt_iff _).1 c7.1
          rw [if_pos c7] at hsucc
          repeat' ((conv => whnf); first
            | (refine And.intro (fun hb => ?_) (fun hb => ?_) <;> first | (exact absurd hb (by first | assumption | decide)) | (rw [hb]) | skip)
            | (refine Exists.intro ?_ ?_; focus (and_intros <;> first | omega | exact rfl | assumption | (intro _ hh; cases hh; done) | exact all_size (by rfl) | (simp; done) | decide))
            | (intro hfact)
            | (refine Drawn.mk (by kernel_rfl) (fun hfact => ?_))
            | ((try dsimp only); rw [hg])
            | (refine CallIs.mk ⟨_, _, hate, ?_⟩))
          all_goals (try (conv => whnf))
          refine Round.by (k + 1, true, out) ?_ ⟨hk, hsucc.symm, by dsimp only; omega, fun _ => ⟨rfl, by dsimp only; omega⟩⟩ hround
          rw [wrap_succ hk hmax]
          show norm _ _ = upd _ _
          kernel_rfl
        · rw [if_neg c7] at hsucc
          have hw3 : IntKind.i64.wrap (IntKind.i64.wrap (e.i - ix) - 1) = e.i - ix - 1 := by
            rw [show IntKind.i64.wrap (e.i - ix) = e.i - ix from wrap_id (by omega)]
            exact wrap_id (by omega)
          have hb0 : 0 ≤ IntKind.i64.wrap (IntKind.i64.wrap (e.i - ix) - 1) := by rw [hw3]; omega
          have hb1 : IntKind.i64.wrap (IntKind.i64.wrap (e.i - ix) - 1) ≤ ((out.map Ent.toI).length : Int) := by rw [hw3, List.length_map]; omega
          have hl1 : (((out.map Ent.toI).take (IntKind.i64.wrap (IntKind.i64.wrap (e.i - ix) - 1)).toNat).length + [e.toI].length) * 32 ≤ 140737488355328 := by rw [List.length_take, List.length_map]; simp; omega
          have hl2 : ((out.map Ent.toI).take (IntKind.i64.wrap (IntKind.i64.wrap (e.i - ix) - 1)).toNat).length + [e.toI].length ≤ maxLen := by rw [List.length_take, List.length_map]; simp [maxLen]; omega
          have hl3 : ∀ u ∈ [e.toI], u.size = 3 := ents_size [e]
          have hap : (out.map Ent.toI).take (IntKind.i64.wrap (IntKind.i64.wrap (e.i - ix) - 1)).toNat ++ [e.toI] = (out.take (e.i - ix - 1).toNat ++ [e]).map Ent.toI := by rw [hw3]; simp
          have hlt2 : (out.take (e.i - ix - 1).toNat ++ [e]).length ≤ 4096 + (k + 1) := by simp; omega
          by_cases c8 : (termAt ix tm out e.i).2 = true
          · have n7 : ¬ (!(termAt ix tm out e.i).2) = true := by simp [c8]
            have n8 : ¬ (!decide ((termAt ix tm out e.i).1 = e.t)) = false := by simp; exact fun hc => c7 ⟨c8, hc⟩
            repeat' ((conv => whnf); first
              | (refine And.intro (fun hb => ?_) (fun hb => ?_) <;> first | (exact absurd hb (by first | assumption | decide)) | (rw [hb]) | skip)
              | (refine Exists.intro ?_ ?_; focus (and_intros <;> first | omega | exact rfl | assumption | (intro _ hh; cases hh; done) | exact all_size (by rfl) | (simp; done) | decide))
              | (intro hfact)
              | (refine Drawn.mk (by kernel_rfl) (fun hfact => ?_))
              | ((try dsimp only); rw [hg])
              | (refine CallIs.mk ⟨_, _, hate, ?_⟩))
            all_goals (try (conv => whnf))
            refine Round.by (k + 1, false, out.take (e.i - ix - 1).toNat ++ [e]) ?_ ⟨hk, hsucc.symm, hlt2, fun ha => by cases ha⟩ hround
            dsimp only
            rw [wrap_succ hk hmax, ← hap]
            show norm _ _ = upd _ _
            kernel_rfl
          · have n7 : ¬ (!(termAt ix tm out e.i).2) = false := by simpa using c8
            repeat' ((conv => whnf); first
              | (refine And.intro (fun hb => ?_) (fun hb => ?_) <;> first | (exact absurd hb (by first | assumption | decide)) | (rw [hb]) | skip)
              | (refine Exists.intro ?_ ?_; focus (and_intros <;> first | omega | exact rfl | assumption | (intro _ hh; cases hh; done) | exact all_size (by rfl) | (simp; done) | decide))
              | (intro hfact)
              | (refine Drawn.mk (by kernel_rfl) (fun hfact => ?_))
              | ((try dsimp only); rw [hg])
              | (refine CallIs.mk ⟨_, _, hate, ?_⟩))
            all_goals (try (conv => whnf))
            refine Round.by (k + 1, false, out.take (e.i - ix - 1).toNat ++ [e]) ?_ ⟨hk, hsucc.symm, hlt2, fun ha => by cases ha⟩ hround
            dsimp only
            rw [wrap_succ hk hmax, ← hap]
            show norm _ _ = upd _ _
            kernel_rfl
  · have n9 : ¬ decide (ix ≤ index) = false := by simp; omega
    rw [if_neg c9]
    have hati := spec_rat ix tm es index h
    have n10 : ¬ decide (IntKind.i64.wrap (index + ((l.map Ent.toI).length : Int)) < ix) = true := by rw [hw1]; simp; omega
    by_cases c11 : (termAt ix tm es index).2 = true ∧ (termAt ix tm es index).1 = term
    · have n11 : ¬ (!(termAt ix tm es index).2) = true := by simp [c11.1]
      have n12 : ¬ (!decide ((termAt ix tm es index).1 = term)) = true := by simp [c11.2]
      have hin := (termAt_iff _).1 c11.1
      rw [if_pos c11, show max (index + (l.length : Int)) ix = IntKind.i64.wrap (index + ((l.map Ent.toI).length : Int)) from by rw [hw1]; omega]
      have hdr : l = l.drop (ix - index).toNat := by rw [show (ix - index).toNat = 0 from by omega]; rfl
      rw [show putEnd ix tm es (IntKind.i64.wrap (index + ((l.map Ent.toI).length : Int))) l = putEnd ix tm es (IntKind.i64.wrap (index + ((l.map Ent.toI).length : Int))) (l.drop (ix - index).toNat) from by rw [← hdr]]
      repeat' ((conv => whnf); first
        | (refine And.intro (fun hb => ?_) (fun hb => ?_) <;> first | (exact absurd hb (by first | assumption | decide)) | (rw [hb]) | skip)
        | (refine Exists.intro ?_ ?_; focus (and_intros <;> first | omega | exact rfl | assumption | (intro _ hh; cases hh; done) | exact all_size (by rfl) | (simp; done) | decide))
        | (intro hfact)
        | (refine Drawn.mk (by kernel_rfl) (fun hfact => ?_))
        | (refine CallWp.mk ⟨_, hfit, ?_⟩; rintro _ _ ⟨rfl, rfl⟩)
        | (refine CallWp.mk ⟨_, hrl, ?_⟩; rintro _ _ ⟨rfl, rfl⟩)
        | (refine CallWp.mk ⟨_, hati, ?_⟩; rintro _ _ ⟨rfl, rfl⟩))
      all_goals (try (conv => whnf))
      have hpe := putEnd_eq h hi (IntKind.i64.wrap (index + ((l.map Ent.toI).length : Int)))
      refine LoopWq.by (X := Nat × Bool × List Ent) (fun x => [(17, .vec 36 3 (x.2.2.map Ent.toI)), (18, .v (.bool x.2.1)), (19, .v (.int .i64 x.1))]) (fun x => x.1 ≤ l.length ∧ (x.2.1, x.2.2) = (l.take x.1).foldl (rstep ix tm es) (true, es) ∧ x.2.2.length ≤ 4096 + x.1 ∧ (x.2.1 = true → x.2.2 = es ∧ index + x.1 ≤ ix + es.length)) (fun x => l.length - x.1)
        (0, true, es) (by kernel_rfl) ⟨Nat.zero_le _, rfl, hlen, fun _ => ⟨rfl, by show index + ((0 : Nat) : Int) ≤ _; omega⟩⟩ ?_
      rintro ⟨k, ag, out⟩ ⟨h2, h3, h4, h5⟩
      dsimp only at h2 h3 h4 h5 ⊢
      by_cases hk : k < l.length
      case neg =>
        have hlt : ¬ decide ((k : Int) < ((l.map Ent.toI).length : Int)) = true := by simp; omega
        rw [show l.take k = l from List.take_of_length_le (by omega)] at h3
        have h3' : rloop ix tm es l = (ag, out) := h3.symm
        rw [h3'] at hpe
        dsimp only at hpe
        have hrr := spec_rright ix tm out
        by_cases hrt : right ix tm out = true
        · rw [if_pos hrt] at hpe
          rw [hrt] at hrr
          rw [hpe]
          repeat' ((conv => whnf); first
            | (refine And.intro (fun hb => ?_) (fun hb => ?_) <;> first | (exact absurd hb (by first | assumption | decide)) | (rw [hb]) | skip)
            | (refine Exists.intro ?_ ?_; focus (and_intros <;> first | omega | exact rfl | assumption | (intro _ hh; cases hh; done) | exact all_size (by rfl) | (simp; done) | decide))
            | (intro hfact)
            | (refine Drawn.mk (by kernel_rfl) (fun hfact => ?_))
            | (refine CallWp.mk ⟨_, hrr, ?_⟩; rintro _ _ ⟨rfl, rfl⟩))
          all_goals (try (conv => whnf))
          exact Done.mk ⟨rfl, by kernel_rfl⟩ (by kernel_rfl)
        · rw [if_neg hrt] at hpe
          rw [show right ix tm out = false from by simpa using hrt] at hrr
          rw [hpe]
          repeat' ((conv => whnf); first
            | (refine And.intro (fun hb => ?_) (fun hb => ?_) <;> first | (exact absurd hb (by first | assumption | decide)) | (rw [hb]) | skip)
            | (refine Exists.intro ?_ ?_; focus (and_intros <;> first | omega | exact rfl | assumption | (intro _ hh; cases hh; done) | exact all_size (by rfl) | (simp; done) | decide))
            | (intro hfact)
            | (refine Drawn.mk (by kernel_rfl) (fun hfact => ?_))
            | (refine CallWp.mk ⟨_, hrr, ?_⟩; rintro _ _ ⟨rfl, rfl⟩))
          all_goals (try (conv => whnf))
          exact Done.mk ⟨rfl, by kernel_rfl⟩ (by kernel_rfl)
      obtain ⟨e, he⟩ : ∃ e, l[k]? = some e := ⟨_, List.getElem?_eq_getElem hk⟩
      have hg : (l.map Ent.toI)[Int.toNat (k : Int)]? = some e.toI := ents_get he
      have hlt : ¬ decide ((k : Int) < ((l.map Ent.toI).length : Int)) = false := by simp [hk]
      have hei := hi k e he
      have hround : l.length - (k + 1) < l.length - k := by omega
      have hsucc : (l.take (k + 1)).foldl (rstep ix tm es) (true, es) = rstep ix tm es (ag, out) e := by
        rw [List.take_add_one, he, List.foldl_append, ← h3]
        rfl
      by_cases c6 : e.i ≤ ix
      · have n6 : ¬ decide (e.i ≤ ix) = false := by simp [c6]
        rw [rstep, if_pos c6] at hsucc
        repeat' ((conv => whnf); first
          | (refine And.intro (fun hb => ?_) (fun hb => ?_) <;> first | (exact absurd hb (by first | assumption | decide)) | (rw [hb]) | skip)
          | (refine Exists.intro ?_ ?_; focus (and_intros <;> first | omega | exact rfl | assumption | (intro _ hh; cases hh; done) | exact all_size (by rfl) | (simp; done) | decide))
          | (intro hfact)
          | (refine Drawn.mk (by kernel_rfl) (fun hfact => ?_))
          | ((try dsimp only); rw [hg]))
        all_goals (try (conv => whnf))
        refine Round.by (k + 1, ag, out) ?_ ⟨hk, hsucc.symm, by dsimp only; omega, fun ha => ⟨(h5 ha).1, by dsimp only; omega⟩⟩ hround
        rw [wrap_succ hk hmax]
        show norm _ _ = upd _ _
        kernel_rfl
      have n6 : ¬ decide (e.i ≤ ix) = true := by simp; omega
      have hate := spec_rat ix tm es e.i h
      cases ag with
      | false =>
        rw [rstep, if_neg c6, if_neg (by simp)] at hsucc
        have hl1 : ((out.map Ent.toI).length + [e.toI].length) * 32 ≤ 140737488355328 := by simp; omega
        have hl2 : (out.map Ent.toI).length + [e.toI].length ≤ maxLen := by simp [maxLen]; omega
        have hl3 : ∀ u ∈ [e.toI], u.size = 3 := ents_size [e]
        have hap : out.map Ent.toI ++ [e.toI] = (out ++ [e]).map Ent.toI := by simp
        repeat' ((conv => whnf); first
          | (refine And.intro (fun hb => ?_) (fun hb => ?_) <;> first | (exact absurd hb (by first | assumption | decide)) | (rw [hb]) | skip)
          | (refine Exists.intro ?_ ?_; focus (and_intros <;> first | omega | exact rfl | assumption | (intro _ hh; cases hh; done) | exact all_size (by rfl) | (simp; done) | decide))
          | (intro hfact)
          | (refine Drawn.mk (by kernel_rfl) (fun hfact => ?_))
          | ((try dsimp only); rw [hg])
          | (refine CallIs.mk ⟨_, _, hate, ?_⟩))
        all_goals (try (conv => whnf))
        refine Round.by (k + 1, false, out ++ [e]) ?_ ⟨hk, hsucc.symm, by simp; omega, fun ha => by cases ha⟩ hround
        dsimp only
        rw [wrap_succ hk hmax, ← hap]
        show norm _ _ = upd _ _
        kernel_rfl
      | true =>
        obtain ⟨hoe, hle⟩ := h5 rfl
        subst hoe
        rw [rstep, if_neg c6, if_pos rfl] at hsucc
        by_cases c7 : (termAt ix tm out e.i).2 = true ∧ (termAt ix tm out e.i).1 = e.t
        · have n7 : ¬ (!(termAt ix tm out e.i).2) = true := by simp [c7.1]
          have n8 : ¬ (!decide ((termAt ix tm out e.i).1 = e.t)) = true := by simp [c7.2]
          have hin := (termAt_iff _).1 c7.1
          rw [if_pos c7] at hsucc
          repeat' ((conv => whnf); first
            | (refine And.intro (fun hb => ?_) (fun hb => ?_) <;> first | (exact absurd hb (by first | assumption | decide)) | (rw [hb]) | skip)
            | (refine Exists.intro ?_ ?_; focus (and_intros <;> first | omega | exact rfl | assumption | (intro _ hh; cases hh; done) | exact all_size (by rfl) | (simp; done) | decide))
            | (intro hfact)
            | (refine Drawn.mk (by kernel_rfl) (fun hfact => ?_))
            | ((try dsimp only); rw [hg])
            | (refine CallIs.mk ⟨_, _, hate, ?_⟩))
          all_goals (try (conv => whnf))
          refine Round.by (k + 1, true, out) ?_ ⟨hk, hsucc.symm, by dsimp only; omega, fun _ => ⟨rfl, by dsimp only; omega⟩⟩ hround
          rw [wrap_succ hk hmax]
          show norm _ _ = upd _ _
          kernel_rfl
        · rw [if_neg c7] at hsucc
          have hw3 : IntKind.i64.wrap (IntKind.i64.wrap (e.i - ix) - 1) = e.i - ix - 1 := by
            rw [show IntKind.i64.wrap (e.i - ix) = e.i - ix from wrap_id (by omega)]
            exact wrap_id (by omega)
          have hb0 : 0 ≤ IntKind.i64.wrap (IntKind.i64.wrap (e.i - ix) - 1) := by rw [hw3]; omega
          have hb1 : IntKind.i64.wrap (IntKind.i64.wrap (e.i - ix) - 1) ≤ ((out.map Ent.toI).length : Int) := by rw [hw3, List.length_map]; omega
          have hl1 : (((out.map Ent.toI).take (IntKind.i64.wrap (IntKind.i64.wrap (e.i - ix) - 1)).toNat).length + [e.toI].length) * 32 ≤ 140737488355328 := by rw [List.length_take, List.length_map]; simp; omega
          have hl2 : ((out.map Ent.toI).take (IntKind.i64.wrap (IntKind.i64.wrap (e.i - ix) - 1)).toNat).length + [e.toI].length ≤ maxLen := by rw [List.length_take, List.length_map]; simp [maxLen]; omega
          have hl3 : ∀ u ∈ [e.toI], u.size = 3 := ents_size [e]
          have hap : (out.map Ent.toI).take (IntKind.i64.wrap (IntKind.i64.wrap (e.i - ix) - 1)).toNat ++ [e.toI] = (out.take (e.i - ix - 1).toNat ++ [e]).map Ent.toI := by rw [hw3]; simp
          have hlt2 : (out.take (e.i - ix - 1).toNat ++ [e]).length ≤ 4096 + (k + 1) := by simp; omega
          by_cases c8 : (termAt ix tm out e.i).2 = true
          · have n7 : ¬ (!(termAt ix tm out e.i).2) = true := by simp [c8]
            have n8 : ¬ (!decide ((termAt ix tm out e.i).1 = e.t)) = false := by simp; exact fun hc => c7 ⟨c8, hc⟩
            repeat' ((conv => whnf); first
              | (refine And.intro (fun hb => ?_) (fun hb => ?_) <;> first | (exact absurd hb (by first | assumption | decide)) | (rw [hb]) | skip)
              | (refine Exists.intro ?_ ?_; focus (and_intros <;> first | omega | exact rfl | assumption | (intro _ hh; cases hh; done) | exact all_size (by rfl) | (simp; done) | decide))
              | (intro hfact)
              | (refine Drawn.mk (by kernel_rfl) (fun hfact => ?_))
              | ((try dsimp only); rw [hg])
              | (refine CallIs.mk ⟨_, _, hate, ?_⟩))
            all_goals (try (conv => whnf))
            refine Round.by (k + 1, false, out.take (e.i - ix - 1).toNat ++ [e]) ?_ ⟨hk, hsucc.symm, hlt2, fun ha => by cases ha⟩ hround
            dsimp only
            rw [wrap_succ hk hmax, ← hap]
            show norm _ _ = upd _ _
            kernel_rfl
          · have n7 : ¬ (!(termAt ix tm out e.i).2) = false := by simpa using c8
            repeat' ((conv => whnf); first
              | (refine And.intro (fun hb => ?_) (fun hb => ?_) <;> first | (exact absurd hb (by first | assumption | decide)) | (rw [hb]) | skip)
              | (refine Exists.intro ?_ ?_; focus (and_intros <;> first | omega | exact rfl | assumption | (intro _ hh; cases hh; done) | exact all_size (by rfl) | (simp; done) | decide))
              | (intro hfact)
              | (refine Drawn.mk (by kernel_rfl) (fun hfact => ?_))
              | ((try dsimp only); rw [hg])
              | (refine CallIs.mk ⟨_, _, hate, ?_⟩))
            all_goals (try (conv => whnf))
            refine Round.by (k + 1, false, out.take (e.i - ix - 1).toNat ++ [e]) ?_ ⟨hk, hsucc.symm, hlt2, fun ha => by cases ha⟩ hround
            dsimp only
            rw [wrap_succ hk hmax, ← hap]
            show norm _ _ = upd _ _
            kernel_rfl
    · rw [if_neg c11]
      by_cases c12 : (termAt ix tm es index).2 = true
      · have n11 : ¬ (!(termAt ix tm es index).2) = true := by simp [c12]
        have n12 : ¬ (!decide ((termAt ix tm es index).1 = term)) = false := by simp; exact fun hc => c11 ⟨c12, hc⟩
        repeat' ((conv => whnf); first
          | (refine And.intro (fun hb => ?_) (fun hb => ?_) <;> first | (exact absurd hb (by first | assumption | decide)) | (rw [hb]) | skip)
          | (refine Exists.intro ?_ ?_; focus (and_intros <;> first | omega | exact rfl | assumption | (intro _ hh; cases hh; done) | exact all_size (by rfl) | (simp; done) | decide))
          | (intro hfact)
          | (refine Drawn.mk (by kernel_rfl) (fun hfact => ?_))
          | (refine CallWp.mk ⟨_, hfit, ?_⟩; rintro _ _ ⟨rfl, rfl⟩)
          | (refine CallWp.mk ⟨_, hrl, ?_⟩; rintro _ _ ⟨rfl, rfl⟩)
          | (refine CallWp.mk ⟨_, hati, ?_⟩; rintro _ _ ⟨rfl, rfl⟩)
          | ((try dsimp only); rw [hw2]))
        all_goals (try (conv => whnf))
        all_goals (refine Done.mk ⟨?_, by kernel_rfl⟩ (by kernel_rfl))
        all_goals (refine congrArg (fun v => SV.tup [.i (logI ix tm es), .i (.int .i64 v), .i (.bool false)]) ?_)
        all_goals (simp at *; omega)
      · have n11 : ¬ (!(termAt ix tm es index).2) = false := by simpa using c12
        repeat' ((conv => whnf); first
          | (refine And.intro (fun hb => ?_) (fun hb => ?_) <;> first | (exact absurd hb (by first | assumption | decide)) | (rw [hb]) | skip)
          | (refine Exists.intro ?_ ?_; focus (and_intros <;> first | omega | exact rfl | assumption | (intro _ hh; cases hh; done) | exact all_size (by rfl) | (simp; done) | decide))
          | (intro hfact)
          | (refine Drawn.mk (by kernel_rfl) (fun hfact => ?_))
          | (refine CallWp.mk ⟨_, hfit, ?_⟩; rintro _ _ ⟨rfl, rfl⟩)
          | (refine CallWp.mk ⟨_, hrl, ?_⟩; rintro _ _ ⟨rfl, rfl⟩)
          | (refine CallWp.mk ⟨_, hati, ?_⟩; rintro _ _ ⟨rfl, rfl⟩)
          | ((try dsimp only); rw [hw2]))
        all_goals (try (conv => whnf))
        all_goals (refine Done.mk ⟨?_, by kernel_rfl⟩ (by kernel_rfl))
        all_goals (refine congrArg (fun v => SV.tup [.i (logI ix tm es), .i (.int .i64 v), .i (.bool false)]) ?_)
        all_goals (simp at *; omega)
end Go.Ab

