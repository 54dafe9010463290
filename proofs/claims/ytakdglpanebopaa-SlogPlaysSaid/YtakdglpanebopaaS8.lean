/- One text of the proof whose last text says what is proved. -/
import Derived.Test.YtakdglpanebopaaS7
set_option linter.unusedVariables false
set_option linter.unusedSimpArgs false
set_option maxRecDepth 100000
set_option maxHeartbeats 1000000
namespace Go.Ab
open Go.Proofs

def putLoop (ix tm : Int) (es : List Ent) : List Ent → Option (List Ent)
  | [] => none
  | e :: r => if (termAt ix tm es e.i).2 = true ∧ (termAt ix tm es e.i).1 = e.t then putLoop ix tm es r else some (es.take (e.i - ix - 1).toNat ++ e :: r)
def putEnd (ix tm : Int) (es : List Ent) (m : Int) (l : List Ent) : List Ent × Int × Bool := match putLoop ix tm es l with
  | none => (es, m, true)
  | some h => if right ix tm h = true then (h, m, true) else (es, 0, false)
def putM (ix tm : Int) (es : List Ent) (index term : Int) (l : List Ent) : List Ent × Int × Bool :=
  if inB index = true ∧ inB term = true ∧ fitsAt index 0 term l = true then
    if index < ix then putEnd ix tm es (max (index + l.length) ix) (l.drop (min (l.length : Int) (ix - index)).toNat)
    else if (termAt ix tm es index).2 = true ∧ (termAt ix tm es index).1 = term then putEnd ix tm es (max (index + l.length) ix) l
    else (es, max (min (index - 1) (lastOf ix tm es).1) ix, false)
  else (es, 0, false)
theorem termAt_ok {ix tm : Int} {es : List Ent} {i : Int} (h : (termAt ix tm es i).2 = true) : ix ≤ i ∧ i ≤ ix + es.length := by
  unfold termAt at h
  split at h
  · cases h
  · omega
def putSV (ix tm : Int) (r : List Ent × Int × Bool) : SV := .tup [.i (logI ix tm r.1), .i (.int .i64 r.2.1), .i (.bool r.2.2)]
theorem spec_put (hgrow : GrowOk) (ix tm : Int) (es : List Ent) (index term : Int) (l : List Ent) (h : Right ix tm es) (hr : ∀ e ∈ l, i64r e.i) (hl : l.length ≤ 100000) :
    Fn Try.prog F_slog_Log_Put [.v (logI ix tm es), .v (.int .i64 index), .v (.int .i64 term), .v (.list (l.map Ent.toI))] (Is (putSV ix tm (putM ix tm es index term l)) [.no, .no, .no, .no]) := by
  refine of_slog_Log_Put ?_ (by simp)
  have hsz := ents_size es
  have hix := h.hix
  have hlen := h.len
  have hlast := h.last
  by_cases hi : inB index = true
  case neg =>
    have n1 : ¬ (!inB index) = false := by simpa using hi
    repeat' ((conv => whnf); first
      | (refine And.intro (fun hb => ?_) (fun hb => ?_) <;> first | (exact absurd hb (by first | assumption | decide)) | (rw [hb]) | skip)
      | (refine Exists.intro ?_ ?_; focus (and_intros <;> first | omega | exact rfl | assumption | (intro _ hh; cases hh; done) | exact all_size (by rfl) | (simp; done) | decide))
      | (intro hfact)
      | (refine Drawn.mk (by kernel_rfl) (fun hfact => ?_))
      | (refine CallWp.mk ⟨_, spec_in _, ?_⟩; rintro _ _ ⟨rfl, rfl⟩))
    all_goals (try (conv => whnf))
    refine Done.mk ⟨?_, by kernel_rfl⟩ (by kernel_rfl)
    rw [putM, if_neg (by simp [hi])]
    rfl
  have n1 : ¬ (!inB index) = true := by simp [hi]
  by_cases ht : inB term = true
  case neg =>
    have n2 : ¬ (!inB term) = false := by simpa using ht
    repeat' ((conv => whnf); first
      | (refine And.intro (fun hb => ?_) (fun hb => ?_) <;> first | (exact absurd hb (by first | assumption | decide)) | (rw [hb]) | skip)
      | (refine Exists.intro ?_ ?_; focus (and_intros <;> first | omega | exact rfl | assumption | (intro _ hh; cases hh; done) | exact all_size (by rfl) | (simp; done) | decide))
      | (intro hfact)
      | (refine Drawn.mk (by kernel_rfl) (fun hfact => ?_))
      | (refine CallWp.mk ⟨_, spec_in _, ?_⟩; rintro _ _ ⟨rfl, rfl⟩))
    all_goals (try (conv => whnf))
    refine Done.mk ⟨?_, by kernel_rfl⟩ (by kernel_rfl)
    rw [putM, if_neg (by simp [ht])]
    rfl
  have n2 : ¬ (!inB term) = true := by simp [ht]
  by_cases hf : fitsAt index 0 term l = true
  case neg =>
    have n3 : ¬ (!fitsAt index 0 term l) = false := by simpa using hf
    repeat' ((conv => whnf); first
      | (refine And.intro (fun hb => ?_) (fun hb => ?_) <;> first | (exact absurd hb (by first | assumption | decide)) | (rw [hb]) | skip)
      | (refine Exists.intro ?_ ?_; focus (and_intros <;> first | omega | exact rfl | assumption | (intro _ hh; cases hh; done) | exact all_size (by rfl) | (simp; done) | decide))
      | (intro hfact)
      | (refine Drawn.mk (by kernel_rfl) (fun hfact => ?_))
      | (refine CallWp.mk ⟨_, spec_in _, ?_⟩; rintro _ _ ⟨rfl, rfl⟩)
      | (refine CallWp.mk ⟨_, spec_fits _ _ _, ?_⟩; rintro _ _ ⟨rfl, rfl⟩))
    all_goals (try (conv => whnf))
    refine Done.mk ⟨?_, by kernel_rfl⟩ (by kernel_rfl)
    rw [putM, if_neg (by simp [hf])]
    rfl
  have n3 : ¬ (!fitsAt index 0 term l) = true := by simp [hf]
  have hidx := inB_iff.1 hi
  have hfit := fitsAt_spec hidx (by omega) hr hf
  have hput : putM ix tm es index term l = if index < ix then putEnd ix tm es (max (index + l.length) ix) (l.drop (min (l.length : Int) (ix - index)).toNat)
    else if (termAt ix tm es index).2 = true ∧ (termAt ix tm es index).1 = term then putEnd ix tm es (max (index + l.length) ix) l
    else (es, max (min (index - 1) (lastOf ix tm es).1) ix, false) := by rw [putM, if_pos ⟨hi, ht, hf⟩]
  rw [hput]
  have hw1 : IntKind.i64.wrap (index + ((l.map Ent.toI).length : Int)) = index + l.length := by rw [List.length_map]; exact wrap_id (by omega)
  have hw2 : IntKind.i64.wrap (index - 1) = index - 1 := wrap_id (by omega)
  have hw3 : IntKind.i64.wrap (ix - index) = ix - index := wrap_id (by omega)
  by_cases hlt : index < ix
  · have n4 : ¬ decide (index < ix) = false := by simp [hlt]
    rw [if_pos hlt]
    have hszl := ents_size l
    have hm1 : 0 ≤ min ((l.map Ent.toI).length : Int) (ix - index) := by omega
    have hm2 : min ((l.map Ent.toI).length : Int) (ix - index) ≤ ((l.map Ent.toI).length : Int) := by omega
    have hL' : ((l.map Ent.toI).take ((l.map Ent.toI).length : Int).toNat).drop (min ((l.map Ent.toI).length : Int) (ix - index)).toNat = (l.drop (min (l.length : Int) (ix - index)).toNat).map Ent.toI := by
      rw [Int.toNat_natCast, List.take_length, List.length_map, List.map_drop]
    repeat' ((conv => whnf); first
      | (refine And.intro (fun hb => ?_) (fun hb => ?_) <;> first | (exact absurd hb (by first | assumption | decide)) | (rw [hb]) | skip)
      | (refine Exists.intro ?_ ?_; focus (and_intros <;> first | omega | exact rfl | assumption | (intro _ hh; cases hh; done) | exact all_size (by rfl) | (simp; done) | decide))
      | (intro hfact)
      | (refine Drawn.mk (by kernel_rfl) (fun hfact => ?_))
      | (refine CallWp.mk ⟨_, spec_in _, ?_⟩; rintro _ _ ⟨rfl, rfl⟩)
      | (refine CallWp.mk ⟨_, spec_fits _ _ _, ?_⟩; rintro _ _ ⟨rfl, rfl⟩)
      | ((try dsimp only); rw [hw1])
      | ((try dsimp only); rw [hw3])
      | (refine CallWp.mk ⟨_, spec_last _ _ _, ?_⟩; rintro _ _ ⟨rfl, rfl⟩))
    all_goals (try (conv => whnf))
    rw [hL']
    obtain ⟨L, hL⟩ : ∃ L, L = l.drop (min (l.length : Int) (ix - index)).toNat := ⟨_, rfl⟩
    rw [← hL]
    have hLl : L.length ≤ 100000 := by rw [hL, List.length_drop]; omega
    have hszL := ents_size L
    have hcons : ∀ (j : Nat) (e : Ent), L[j]? = some e → e.i = ix + 1 + j := by
      intro j e hj
      rw [hL, List.getElem?_drop] at hj
      have hjl := (List.getElem?_eq_some_iff.1 hj).1
      have := (hfit.1 _ e hj).1
      omega

    refine LoopWq.by (X := Nat) (fun x => [(85, .v (.int .i64 x))]) (fun x => x ≤ L.length ∧ putLoop ix tm es (L.drop x) = putLoop ix tm es L ∧ ∀ e, L[x]? = some e → ix + 1 ≤ e.i ∧ e.i ≤ ix + es.length + 1) (fun x => L.length - x)
      0 (by kernel_rfl) ⟨Nat.zero_le _, rfl, fun e he => by have := hcons 0 e he; omega⟩ ?_
    rintro k ⟨h1, h2, h3⟩
    have hLm : L.length ≤ maxLen := by simp only [maxLen]; omega
    by_cases hk : k < L.length
    · obtain ⟨e, he⟩ : ∃ e, L[k]? = some e := ⟨L[k], List.getElem?_eq_getElem hk⟩
      have hg : (L.map Ent.toI)[Int.toNat (k : Int)]? = some e.toI := ents_get he
      have hlt : ¬ decide ((k : Int) < ((L.map Ent.toI).length : Int)) = false := by simp [hk]
      have hke : L[k] = e := by rw [List.getElem?_eq_getElem hk] at he; simpa using he
      have hd : L.drop k = e :: L.drop (k + 1) := by rw [List.drop_eq_getElem_cons hk, hke]
      rw [hd] at h2
      have hb3 := h3 e he
      have hq1 : IntKind.i64.wrap (e.i - ix) = e.i - ix := wrap_id (by omega)
      have hq2 : IntKind.i64.wrap (e.i - ix - 1) = e.i - ix - 1 := wrap_id (by omega)
      have hj1 : 0 ≤ e.i - ix - 1 := by omega
      have hj2 : e.i - ix - 1 ≤ ((es.map Ent.toI).length : Int) := by rw [List.length_map]; omega
      have hj3 : (0 : Int) ≤ k := by omega
      have hj4 : (k : Int) ≤ ((L.map Ent.toI).length : Int) := by rw [List.length_map]; omega
      have hAB : ((es.map Ent.toI).take (e.i - ix - 1).toNat).drop (0 : Int).toNat ++ ((L.map Ent.toI).take ((L.map Ent.toI).length : Int).toNat).drop (k : Int).toNat = (es.take (e.i - ix - 1).toNat ++ e :: L.drop (k + 1)).map Ent.toI := by
        rw [← hd, List.map_append, List.map_take, List.map_drop, Int.toNat_natCast, Int.toNat_natCast, List.take_length]
        simp
      have hcc := spec_concat hgrow [((es.map Ent.toI).take (e.i - ix - 1).toNat).drop (0 : Int).toNat, ((L.map Ent.toI).take ((L.map Ent.toI).length : Int).toNat).drop (k : Int).toNat] (by
        intro x hx
        simp only [List.mem_cons, List.not_mem_nil, or_false] at hx
        rcases hx with rfl | rfl
        · exact fun u hu => hsz u (List.mem_of_mem_take (List.mem_of_mem_drop hu))
        · exact fun u hu => hszL u (List.mem_of_mem_take (List.mem_of_mem_drop hu))) (by simp [tot]; omega)
      have hfl : [((es.map Ent.toI).take (e.i - ix - 1).toNat).drop (0 : Int).toNat, ((L.map Ent.toI).take ((L.map Ent.toI).length : Int).toNat).drop (k : Int).toNat].flatten = (es.take (e.i - ix - 1).toNat ++ e :: L.drop (k + 1)).map Ent.toI := by rw [← hAB]; simp only [List.flatten_cons, List.flatten_nil, List.append_nil]
      rw [hfl] at hcc
      repeat' ((conv => whnf); first
        | (refine And.intro (fun hb => ?_) (fun hb => ?_) <;> first | (exact absurd hb (by first | assumption | decide)) | (rw [hb]) | skip)
        | (refine Exists.intro ?_ ?_; focus (and_intros <;> first | omega | exact rfl | assumption | (intro _ hh; cases hh; done) | exact all_size (by rfl) | (simp; done) | decide))
        | (intro hfact)
        | (refine Drawn.mk (by kernel_rfl) (fun hfact => ?_))
        | ((try dsimp only); rw [hg])
        | ((try dsimp only); rw [hq1])
        | ((try dsimp only); rw [hq2])
        | (refine CallWp.mk ⟨_, spec_term _ _ _ _ h, ?_⟩; rintro _ _ ⟨rfl, rfl⟩)
        | (refine CallIs.mk ⟨_, _, hcc, ?_⟩)
        | (refine CallWp.mk ⟨_, spec_right _ _ _, ?_⟩; rintro _ _ ⟨rfl, rfl⟩))
      all_goals (try (conv => whnf))
      · refine Round.by (k + 1) ?_ ?_ ?_
        · rw [wrap_succ hk hLm]
          show norm _ _ = upd _ _
          kernel_rfl
        · have z1 : (termAt ix tm es e.i).2 = true := by assumption
          have z2 : decide ((termAt ix tm es e.i).1 = e.t) = true := by assumption
          refine ⟨hk, ?_, ?_⟩
          · rw [← h2, putLoop, if_pos ⟨z1, by simpa using z2⟩]
          · intro e' he'
            have q1 := hcons (k + 1) e' he'
            have q2 := hcons k e he
            have q3 := termAt_ok z1
            omega
        · show L.length - (k + 1) < L.length - k
          omega
      all_goals
        refine Done.mk ⟨?_, by kernel_rfl⟩ (by kernel_rfl)
        have hP : putLoop ix tm es L = some (es.take (e.i - ix - 1).toNat ++ e :: L.drop (k + 1)) := by
          rw [← h2, putLoop, if_neg]
          intro q
          first
            | (have z : (termAt ix tm es e.i).2 = false := by assumption
               rw [z] at q
               cases q.1)
            | (have z : decide ((termAt ix tm es e.i).1 = e.t) = false := by assumption
               simp [q.2] at z)
        rw [putEnd, hP]
        first
          | (have z : (!right ix tm (es.take (e.i - ix - 1).toNat ++ e :: L.drop (k + 1))) = true := by assumption
             simp only []
             rw [if_neg (by simpa using z)]
             rfl)
          | (have z : (!right ix tm (es.take (e.i - ix - 1).toNat ++ e :: L.drop (k + 1))) = false := by assumption
             simp only []
             rw [if_pos (by simpa using z)]
             rfl)
    · have hlt : ¬ decide ((k : Int) < ((L.map Ent.toI).length : Int)) = true := by simp; omega
      rw [List.drop_eq_nil_of_le (by omega)] at h2
      repeat' ((conv => whnf); first
        | (refine And.intro (fun hb => ?_) (fun hb => ?_) <;> first | (exact absurd hb (by first | assumption | decide)) | (rw [hb]) | skip)
        | (refine Exists.intro ?_ ?_; focus (and_intros <;> first | omega | exact rfl | assumption | (intro _ hh; cases hh; done) | exact all_size (by rfl) | (simp; done) | decide))
        | (intro hfact)
        | (refine Drawn.mk (by kernel_rfl) (fun hfact => ?_)))
      all_goals (try (conv => whnf))
      refine Done.mk ⟨?_, by kernel_rfl⟩ (by kernel_rfl)
      rw [putEnd, ← h2]
      rfl
  have n4 : ¬ decide (index < ix) = true := by simp [hlt]
  rw [if_neg hlt]
  by_cases hok : (termAt ix tm es index).2 = true
  case neg =>
    have n5 : ¬ (!(termAt ix tm es index).2) = false := by simpa using hok
    repeat' ((conv => whnf); first
      | (refine And.intro (fun hb => ?_) (fun hb => ?_) <;> first | (exact absurd hb (by first | assumption | decide)) | (rw [hb]) | skip)
      | (refine Exists.intro ?_ ?_; focus (and_intros <;> first | omega | exact rfl | assumption | (intro _ hh; cases hh; done) | exact all_size (by rfl) | (simp; done) | decide))
      | (intro hfact)
      | (refine Drawn.mk (by kernel_rfl) (fun hfact => ?_))
      | (refine CallWp.mk ⟨_, spec_in _, ?_⟩; rintro _ _ ⟨rfl, rfl⟩)
      | (refine CallWp.mk ⟨_, spec_fits _ _ _, ?_⟩; rintro _ _ ⟨rfl, rfl⟩)
      | ((try dsimp only); rw [hw1])
      | ((try dsimp only); rw [hw2])
      | (refine CallWp.mk ⟨_, spec_last _ _ _, ?_⟩; rintro _ _ ⟨rfl, rfl⟩)
      | (refine CallWp.mk ⟨_, spec_term _ _ _ _ h, ?_⟩; rintro _ _ ⟨rfl, rfl⟩))
    all_goals (try (conv => whnf))
    refine Done.mk ⟨?_, by kernel_rfl⟩ (by kernel_rfl)
    rw [if_neg (fun q => hok q.1), ← hw2]
    rfl
  have n5 : ¬ (!(termAt ix tm es index).2) = true := by simp [hok]
  by_cases htm : (termAt ix tm es index).1 = term
  case neg =>
    have n6 : ¬ (!decide ((termAt ix tm es index).1 = term)) = false := by simp [htm]
    repeat' ((conv => whnf); first
      | (refine And.intro (fun hb => ?_) (fun hb => ?_) <;> first | (exact absurd hb (by first | assumption | decide)) | (rw [hb]) | skip)
      | (refine Exists.intro ?_ ?_; focus (and_intros <;> first | omega | exact rfl | assumption | (intro _ hh; cases hh; done) | exact all_size (by rfl) | (simp; done) | decide))
      | (intro hfact)
      | (refine Drawn.mk (by kernel_rfl) (fun hfact => ?_))
      | (refine CallWp.mk ⟨_, spec_in _, ?_⟩; rintro _ _ ⟨rfl, rfl⟩)
      | (refine CallWp.mk ⟨_, spec_fits _ _ _, ?_⟩; rintro _ _ ⟨rfl, rfl⟩)
      | ((try dsimp only); rw [hw1])
      | ((try dsimp only); rw [hw2])
      | (refine CallWp.mk ⟨_, spec_last _ _ _, ?_⟩; rintro _ _ ⟨rfl, rfl⟩)
      | (refine CallWp.mk ⟨_, spec_term _ _ _ _ h, ?_⟩; rintro _ _ ⟨rfl, rfl⟩))
    all_goals (try (conv => whnf))
    refine Done.mk ⟨?_, by kernel_rfl⟩ (by kernel_rfl)
    rw [if_neg (fun q => htm q.2), ← hw2]
    rfl
  have n6 : ¬ (!decide ((termAt ix tm es index).1 = term)) = true := by simp [htm]
  rw [if_pos ⟨hok, htm⟩]
  repeat' ((conv => whnf); first
    | (refine And.intro (fun hb => ?_) (fun hb => ?_) <;> first | (exact absurd hb (by first | assumption | decide)) | (rw [hb]) | skip)
    | (refine Exists.intro ?_ ?_; focus (and_intros <;> first | omega | exact rfl | assumption | (intro _ hh; cases hh; done) | exact all_size (by rfl) | (simp; done) | decide))
    | (intro hfact)
    | (refine Drawn.mk (by kernel_rfl) (fun hfact => ?_))
    | (refine CallWp.mk ⟨_, spec_in _, ?_⟩; rintro _ _ ⟨rfl, rfl⟩)
    | (refine CallWp.mk ⟨_, spec_fits _ _ _, ?_⟩; rintro _ _ ⟨rfl, rfl⟩)
    | ((try dsimp only); rw [hw1])
    | ((try dsimp only); rw [hw2])
    | (refine CallWp.mk ⟨_, spec_last _ _ _, ?_⟩; rintro _ _ ⟨rfl, rfl⟩)
    | (refine CallWp.mk ⟨_, spec_term _ _ _ _ h, ?_⟩; rintro _ _ ⟨rfl, rfl⟩))
  all_goals (try (conv => whnf))
  · obtain ⟨L, hL⟩ : ∃ L, L = l := ⟨_, rfl⟩
    have hLl : L.length ≤ 100000 := by rw [hL]; exact hl
    have hszL := ents_size L
    have hb0 := termAt_ok hok
    have hcons : ∀ (j : Nat) (e : Ent), L[j]? = some e → e.i = index + 1 + j := by
      intro j e hj
      rw [hL] at hj
      have := (hfit.1 _ e hj).1
      omega
    rw [← hL]

    refine LoopWq.by (X := Nat) (fun x => [(85, .v (.int .i64 x))]) (fun x => x ≤ L.length ∧ putLoop ix tm es (L.drop x) = putLoop ix tm es L ∧ ∀ e, L[x]? = some e → ix + 1 ≤ e.i ∧ e.i ≤ ix + es.length + 1) (fun x => L.length - x)
      0 (by kernel_rfl) ⟨Nat.zero_le _, rfl, fun e he => by have := hcons 0 e he; omega⟩ ?_
    rintro k ⟨h1, h2, h3⟩
    have hLm : L.length ≤ maxLen := by simp only [maxLen]; omega
    by_cases hk : k < L.length
    · obtain ⟨e, he⟩ : ∃ e, L[k]? = some e := ⟨L[k], List.getElem?_eq_getElem hk⟩
      have hg : (L.map Ent.toI)[Int.toNat (k : Int)]? = some e.toI := ents_get he
      have hlt : ¬ decide ((k : Int) < ((L.map Ent.toI).length : Int)) = false := by simp [hk]
      have hke : L[k] = e := by rw [List.getElem?_eq_getElem hk] at he; simpa using he
      have hd : L.drop k = e :: L.drop (k + 1) := by rw [List.drop_eq_getElem_cons hk, hke]
      rw [hd] at h2
      have hb3 := h3 e he
      have hq1 : IntKind.i64.wrap (e.i - ix) = e.i - ix := wrap_id (by omega)
      have hq2 : IntKind.i64.wrap (e.i - ix - 1) = e.i - ix - 1 := wrap_id (by omega)
      have hj1 : 0 ≤ e.i - ix - 1 := by omega
      have hj2 : e.i - ix - 1 ≤ ((es.map Ent.toI).length : Int) := by rw [List.length_map]; omega
      have hj3 : (0 : Int) ≤ k := by omega
      have hj4 : (k : Int) ≤ ((L.map Ent.toI).length : Int) := by rw [List.length_map]; omega
      have hAB : ((es.map Ent.toI).take (e.i - ix - 1).toNat).drop (0 : Int).toNat ++ ((L.map Ent.toI).take ((L.map Ent.toI).length : Int).toNat).drop (k : Int).toNat = (es.take (e.i - ix - 1).toNat ++ e :: L.drop (k + 1)).map Ent.toI := by
        rw [← hd, List.map_append, List.map_take, List.map_drop, Int.toNat_natCast, Int.toNat_natCast, List.take_length]
        simp
      have hcc := spec_concat hgrow [((es.map Ent.toI).take (e.i - ix - 1).toNat).drop (0 : Int).toNat, ((L.map Ent.toI).take ((L.map Ent.toI).length : Int).toNat).drop (k : Int).toNat] (by
        intro x hx
        simp only [List.mem_cons, List.not_mem_nil, or_false] at hx
        rcases hx with rfl | rfl
        · exact fun u hu => hsz u (List.mem_of_mem_take (List.mem_of_mem_drop hu))
        · exact fun u hu => hszL u (List.mem_of_mem_take (List.mem_of_mem_drop hu))) (by simp [tot]; omega)
      have hfl : [((es.map Ent.toI).take (e.i - ix - 1).toNat).drop (0 : Int).toNat, ((L.map Ent.toI).take ((L.map Ent.toI).length : Int).toNat).drop (k : Int).toNat].flatten = (es.take (e.i - ix - 1).toNat ++ e :: L.drop (k + 1)).map Ent.toI := by rw [← hAB]; simp only [List.flatten_cons, List.flatten_nil, List.append_nil]
      rw [hfl] at hcc
      repeat' ((conv => whnf); first
        | (refine And.intro (fun hb => ?_) (fun hb => ?_) <;> first | (exact absurd hb (by first | assumption | decide)) | (rw [hb]) | skip)
        | (refine Exists.intro ?_ ?_; focus (and_intros <;> first | omega | exact rfl | assumption | (intro _ hh; cases hh; done) | exact all_size (by rfl) | (simp; done) | decide))
        | (intro hfact)
        | (refine Drawn.mk (by kernel_rfl) (fun hfact => ?_))
        | ((try dsimp only); rw [hg])
        | ((try dsimp only); rw [hq1])
        | ((try dsimp only); rw [hq2])
        | (refine CallWp.mk ⟨_, spec_term _ _ _ _ h, ?_⟩; rintro _ _ ⟨rfl, rfl⟩)
        | (refine CallIs.mk ⟨_, _, hcc, ?_⟩)
        | (refine CallWp.mk ⟨_, spec_right _ _ _, ?_⟩; rintro _ _ ⟨rfl, rfl⟩))
      all_goals (try (conv => whnf))
      · refine Round.by (k + 1) ?_ ?_ ?_
        · rw [wrap_succ hk hLm]
          show norm _ _ = upd _ _
          kernel_rfl
        · have z1 : (termAt ix tm es e.i).2 = true := by assumption
          have z2 : decide ((termAt ix tm es e.i).1 = e.t) = true := by assumption
          refine ⟨hk, ?_, ?_⟩
          · rw [← h2, putLoop, if_pos ⟨z1, by simpa using z2⟩]
          · intro e' he'
            have q1 := hcons (k + 1) e' he'
            have q2 := hcons k e he
            have q3 := termAt_ok z1
            omega
        · show L.length - (k + 1) < L.length - k
          omega
      all_goals
        refine Done.mk ⟨?_, by kernel_rfl⟩ (by kernel_rfl)
        have hP : putLoop ix tm es L = some (es.take (e.i - ix - 1).toNat ++ e :: L.drop (k + 1)) := by
          rw [← h2, putLoop, if_neg]
          intro q
          first
            | (have z : (termAt ix tm es e.i).2 = false := by assumption
               rw [z] at q
               cases q.1)
            | (have z : decide ((termAt ix tm es e.i).1 = e.t) = false := by assumption
               simp [q.2] at z)
        rw [putEnd, hP]
        first
          | (have z : (!right ix tm (es.take (e.i - ix - 1).toNat ++ e :: L.drop (k + 1))) = true := by assumption
             simp only []
             rw [if_neg (by simpa using z)]
             rfl)
          | (have z : (!right ix tm (es.take (e.i - ix - 1).toNat ++ e :: L.drop (k + 1))) = false := by assumption
             simp only []
             rw [if_pos (by simpa using z)]
             rfl)
    · have hlt : ¬ decide ((k : Int) < ((L.map Ent.toI).length : Int)) = true := by simp; omega
      rw [List.drop_eq_nil_of_le (by omega)] at h2
      repeat' ((conv => whnf); first
        | (refine And.intro (fun hb => ?_) (fun hb => ?_) <;> first | (exact absurd hb (by first | assumption | decide)) | (rw [hb]) | skip)
        | (refine Exists.intro ?_ ?_; focus (and_intros <;> first | omega | exact rfl | assumption | (intro _ hh; cases hh; done) | exact all_size (by rfl) | (simp; done) | decide))
        | (intro hfact)
        | (refine Drawn.mk (by kernel_rfl) (fun hfact => ?_)))
      all_goals (try (conv => whnf))
      refine Done.mk ⟨?_, by kernel_rfl⟩ (by kernel_rfl)
      rw [putEnd, ← h2]
      rfl
end Go.Ab

