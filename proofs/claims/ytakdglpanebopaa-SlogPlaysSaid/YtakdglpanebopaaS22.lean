/- One text of the proof whose last text says what is proved. -/
import Derived.Test.YtakdglpanebopaaS21
set_option linter.unusedVariables false
set_option linter.unusedSimpArgs false
set_option maxRecDepth 100000
set_option maxHeartbeats 2000000
namespace Go.Ab
open Go.Proofs

theorem spec_samelog {ix tm : Int} {es : List Ent} (h : Right ix tm es) : Fn Try.prog F_exchequerlaw11_same [.v (logI ix tm es), .v (logI ix tm es)] (Is (.v (.bool true)) [.no, .no]) := by
  refine of_exchequerlaw11_same ?_ (by simp)
  have n1 : ¬ decide (ix = ix) = false := by simp
  have n2 : ¬ decide (tm = tm) = false := by simp
  have n3 : ¬ decide ((lastOf ix tm es).1 = (lastOf ix tm es).1) = false := by simp
  have n4 : ¬ decide ((lastOf ix tm es).2 = (lastOf ix tm es).2) = false := by simp
  have hf := spec_from ix tm es 0 9999 h
  rw [from_all h (by have := h.hix; omega)] at hf
  have hs := spec_same_yes (rfl : es = es)
  repeat' ((conv => whnf); first
    | (refine And.intro (fun hb => ?_) (fun hb => ?_) <;> first | (exact absurd hb (by first | assumption | decide)) | (rw [hb]) | skip)
    | (refine Exists.intro ?_ ?_; focus (and_intros <;> first | omega | exact rfl | assumption | (intro _ hh; cases hh; done) | exact all_size (by rfl) | (simp; done) | decide))
    | (intro hfact)
    | (refine Drawn.mk (by kernel_rfl) (fun hfact => ?_))
    | (refine CallWp.mk ⟨_, spec_base _ _ _, ?_⟩; rintro _ _ ⟨rfl, rfl⟩)
    | (refine CallWp.mk ⟨_, spec_last _ _ _, ?_⟩; rintro _ _ ⟨rfl, rfl⟩)
    | (refine CallWp.mk ⟨_, spec_rlast _ _ _, ?_⟩; rintro _ _ ⟨rfl, rfl⟩)
    | (refine CallIs.mk ⟨_, _, hf, ?_⟩)
    | (refine CallIs.mk ⟨_, _, hs, ?_⟩))
  all_goals (try (conv => whnf))
  exact Done.mk ⟨rfl, by kernel_rfl⟩ (by kernel_rfl)
theorem putM_right {ix tm : Int} {es : List Ent} (h : Right ix tm es) (index term : Int) (l : List Ent) : Right ix tm (putM ix tm es index term l).1 := by
  have hend : ∀ (M : Int) (L : List Ent), Right ix tm (putEnd ix tm es M L).1 := by
    intro M L
    unfold putEnd
    split
    · exact h
    · split
      · rename_i hr
        exact right_spec hr
      · exact h
  unfold putM
  split
  · split
    · exact hend _ _
    · split
      · exact hend _ _
      · exact h
  · exact h
theorem spec_radd_ok {ix tm : Int} {es : List Ent} {term : Int} {d : List UInt8} (hl : es.length ≤ 900000) (h : right ix tm (addM ix tm es term d) = true) : Fn Try.prog F_exchequerref11_Log_Add [.v (logI ix tm es), .v (.int .i64 term), .v (.str d)]
    (Is (.tup [.i (logI ix tm (addM ix tm es term d)), .i (.bool true)]) [.no, .no, .no]) := by
  have := spec_radd ix tm es term d hl
  rwa [if_pos h] at this
theorem spec_radd_no {ix tm : Int} {es : List Ent} {term : Int} {d : List UInt8} (hl : es.length ≤ 900000) (h : ¬ right ix tm (addM ix tm es term d) = true) : Fn Try.prog F_exchequerref11_Log_Add [.v (logI ix tm es), .v (.int .i64 term), .v (.str d)]
    (Is (.tup [.i (logI ix tm es), .i (.bool false)]) [.no, .no, .no]) := by
  have := spec_radd ix tm es term d hl
  rwa [if_neg h] at this
theorem spec_rcut_ok {ix tm : Int} {es : List Ent} {i : Int} (h : Right ix tm es) (hc : (termAt ix tm es i).2 = true) : Fn Try.prog F_exchequerref11_Log_Cut [.v (logI ix tm es), .v (.int .i64 i)]
    (Is (.tup [.i (logI i (termAt ix tm es i).1 (es.drop (i - ix).toNat)), .i (.bool true)]) [.no, .no]) := by
  have := spec_rcut ix tm es i h
  rwa [if_pos hc] at this
theorem spec_rcut_no {ix tm : Int} {es : List Ent} {i : Int} (h : Right ix tm es) (hc : ¬ (termAt ix tm es i).2 = true) : Fn Try.prog F_exchequerref11_Log_Cut [.v (logI ix tm es), .v (.int .i64 i)]
    (Is (.tup [.i (logI ix tm es), .i (.bool false)]) [.no, .no]) := by
  have := spec_rcut ix tm es i h
  rwa [if_neg hc] at this

structure Opr where
  k : Int
  a : Int
  b : Int
  d : List UInt8
  l : List Ent
def Opr.toI (o : Opr) : I := .agg [.int .i64 o.k, .int .i64 o.a, .int .i64 o.b, .str o.d, .list (o.l.map Ent.toI)]
theorem law_plays (hgrow : GrowOk) (b0 b1 : Int) (l : List Ent) (s : List Opr) (hs : ∀ o ∈ s, ∀ e ∈ o.l, i64r e.i) :
    Fn Try.prog F_exchequerlaw11_SlogPlays [.v (.arr 1 [.int .i64 b0, .int .i64 b1]), .v (.list (l.map Ent.toI)), .v (.list (s.map Opr.toI))] (Is (.v (.bool true)) [.no, .no, .no]) := by
  refine of_exchequerlaw11_SlogPlays ?_ (by simp)
  have haw := spec_awake hgrow
  by_cases hg1 : greatAt 0 l = true
  · have n1 : ¬ greatAt 0 l = false := by simp [hg1]
    repeat' ((conv => whnf); first
      | (refine And.intro (fun hb => ?_) (fun hb => ?_) <;> first | (exact absurd hb (by first | assumption | decide)) | (rw [hb]) | skip)
      | (refine Exists.intro ?_ ?_; focus (and_intros <;> first | omega | exact rfl | assumption | (intro _ hh; cases hh; done) | exact all_size (by rfl) | (simp; done) | decide))
      | (intro hfact)
      | (refine Drawn.mk (by kernel_rfl) (fun hfact => ?_))
      | (refine CallWp.mk ⟨_, haw, ?_⟩; rintro _ _ ⟨rfl, rfl⟩)
      | (refine CallWp.mk ⟨_, spec_great _, ?_⟩; rintro _ _ ⟨rfl, rfl⟩))
    all_goals (try (conv => whnf))
    exact Done.mk ⟨rfl, by kernel_rfl⟩ (by kernel_rfl)
  by_cases hs60 : (60 : Int) < s.length
  · have n1 : ¬ greatAt 0 l = true := hg1
    have n2 : ¬ decide ((60 : Int) < ((s.map Opr.toI).length : Int)) = false := by simpa using hs60
    repeat' ((conv => whnf); first
      | (refine And.intro (fun hb => ?_) (fun hb => ?_) <;> first | (exact absurd hb (by first | assumption | decide)) | (rw [hb]) | skip)
      | (refine Exists.intro ?_ ?_; focus (and_intros <;> first | omega | exact rfl | assumption | (intro _ hh; cases hh; done) | exact all_size (by rfl) | (simp; done) | decide))
      | (intro hfact)
      | (refine Drawn.mk (by kernel_rfl) (fun hfact => ?_))
      | (refine CallWp.mk ⟨_, haw, ?_⟩; rintro _ _ ⟨rfl, rfl⟩)
      | (refine CallWp.mk ⟨_, spec_great _, ?_⟩; rintro _ _ ⟨rfl, rfl⟩))
    all_goals (try (conv => whnf))
    exact Done.mk ⟨rfl, by kernel_rfl⟩ (by kernel_rfl)
  have n2 : ¬ decide ((60 : Int) < ((s.map Opr.toI).length : Int)) = true := by simpa using hs60
  have hl1 := (great_spec (by simpa using hg1 : greatAt 0 l = false)).1
  have hmax : s.length ≤ maxLen := by simp only [maxLen]; omega
  have hb1 : (([] : List I).length + (l.map Ent.toI).length) * 32 ≤ 140737488355328 := by simp; omega
  have hb2 : ([] : List I).length + (l.map Ent.toI).length ≤ maxLen := by simp [maxLen]; omega
  have hb3 := ents_size l
  have hrr := spec_rright b0 b1 l
  by_cases hr1 : right b0 b1 l = true
  case neg =>
    have hn1 := spec_new_no (by omega) hr1
    rw [show right b0 b1 l = false from by simpa using hr1] at hrr
    have hla := spec_last 0 0 []
    repeat' ((conv => whnf); first
      | (refine And.intro (fun hb => ?_) (fun hb => ?_) <;> first | (exact absurd hb (by first | assumption | decide)) | (rw [hb]) | skip)
      | (refine Exists.intro ?_ ?_; focus (and_intros <;> first | omega | exact rfl | assumption | (intro _ hh; cases hh; done) | exact all_size (by rfl) | (simp; done) | decide))
      | (intro hfact)
      | (refine Drawn.mk (by kernel_rfl) (fun hfact => ?_))
      | (refine CallWp.mk ⟨_, haw, ?_⟩; rintro _ _ ⟨rfl, rfl⟩)
      | (refine CallWp.mk ⟨_, spec_great _, ?_⟩; rintro _ _ ⟨rfl, rfl⟩)
      | (refine CallWp.mk ⟨_, hn1, ?_⟩; rintro _ _ ⟨rfl, rfl⟩)
      | (refine CallWp.mk ⟨_, hrr, ?_⟩; rintro _ _ ⟨rfl, rfl⟩)
      | (refine CallWp.mk ⟨_, hla, ?_⟩; rintro _ _ ⟨rfl, rfl⟩))
    all_goals (try (conv => whnf))
    exact Done.mk ⟨rfl, by kernel_rfl⟩ (by kernel_rfl)
  have hn1 := spec_new_ok (by omega) hr1
  rw [hr1] at hrr
  have hR := right_spec hr1
  have hsm := spec_samelog hR
  repeat' ((conv => whnf); first
    | (refine And.intro (fun hb => ?_) (fun hb => ?_) <;> first | (exact absurd hb (by first | assumption | decide)) | (rw [hb]) | skip)
    | (refine Exists.intro ?_ ?_; focus (and_intros <;> first | omega | exact rfl | assumption | (intro _ hh; cases hh; done) | exact all_size (by rfl) | (simp; done) | decide))
    | (intro hfact)
    | (refine Drawn.mk (by kernel_rfl) (fun hfact => ?_))
    | (refine CallWp.mk ⟨_, haw, ?_⟩; rintro _ _ ⟨rfl, rfl⟩)
    | (refine CallWp.mk ⟨_, spec_great _, ?_⟩; rintro _ _ ⟨rfl, rfl⟩)
    | (refine CallWp.mk ⟨_, hn1, ?_⟩; rintro _ _ ⟨rfl, rfl⟩)
    | (refine CallWp.mk ⟨_, hrr, ?_⟩; rintro _ _ ⟨rfl, rfl⟩)
    | (refine CallWp.mk ⟨_, hsm, ?_⟩; rintro _ _ ⟨rfl, rfl⟩))
  all_goals (try (conv => whnf))
  refine LoopWq.by (X := Nat × Int × Int × List Ent) (fun x => [(7, .box (.one (.i (logI x.2.1 x.2.2.1 x.2.2.2)))), (9, .box (.one (.i (logI x.2.1 x.2.2.1 x.2.2.2)))), (86, .v (.int .i64 x.1))]) (fun x => x.1 ≤ s.length ∧ Right x.2.1 x.2.2.1 x.2.2.2) (fun x => s.length - x.1)
    (0, b0, b1, l) (by kernel_rfl) ⟨Nat.zero_le _, hR⟩ ?_
  rintro ⟨k, ix, tm, es⟩ ⟨h1, h⟩
  dsimp only at h1 h ⊢
  clear hsm hR hrr hn1 hr1 hb1 hb2 hb3 hl1 hg1 haw
  by_cases hk : k < s.length
  case neg =>
    have hlt : ¬ decide ((k : Int) < ((s.map Opr.toI).length : Int)) = true := by simp; omega
    repeat' ((conv => whnf); first
      | (refine And.intro (fun hb => ?_) (fun hb => ?_) <;> first | (exact absurd hb (by first | assumption | decide)) | (rw [hb]) | skip)
      | (refine Exists.intro ?_ ?_; focus (and_intros <;> first | omega | exact rfl | assumption | (intro _ hh; cases hh; done) | exact all_size (by rfl) | (simp; done) | decide))
      | (intro hfact)
      | (refine Drawn.mk (by kernel_rfl) (fun hfact => ?_)))
    all_goals (try (conv => whnf))
    exact Done.mk ⟨rfl, by kernel_rfl⟩ (by kernel_rfl)
  obtain ⟨o, he⟩ : ∃ o, s[k]? = some o := ⟨_, List.getElem?_eq_getElem hk⟩
  have ho := hs o (List.mem_of_getElem? he)
  have hg : (s.map Opr.toI)[Int.toNat (k : Int)]? = some o.toI := by simp [he]
  have hlt : ¬ decide ((k : Int) < ((s.map Opr.toI).length : Int)) = false := by simp [hk]
  have hround : s.length - (k + 1) < s.length - k := by omega
  have hlen := h.len
  by_cases hg2 : greatAt 0 o.l = true
  · have n3 : ¬ greatAt 0 o.l = false := by simp [hg2]
    repeat' ((conv => whnf); first
      | (refine And.intro (fun hb => ?_) (fun hb => ?_) <;> first | (exact absurd hb (by first | assumption | decide)) | (rw [hb]) | skip)
      | (refine Exists.intro ?_ ?_; focus (and_intros <;> first | omega | exact rfl | assumption | (intro _ hh; cases hh; done) | exact all_size (by rfl) | (simp; done) | decide))
      | (intro hfact)
      | (refine Drawn.mk (by kernel_rfl) (fun hfact => ?_))
      | ((try dsimp only); rw [hg])
      | (refine CallWp.mk ⟨_, spec_great _, ?_⟩; rintro _ _ ⟨rfl, rfl⟩))
    all_goals (try (conv => whnf))
    exact Done.mk ⟨rfl, by kernel_rfl⟩ (by kernel_rfl)
  have hl2 := (great_spec (by simpa using hg2 : greatAt 0 o.l = false)).1
  by_cases hd : (10000 : Int) < o.d.length
  · have n3 : ¬ decide ((10000 : Int) < (o.d.length : Int)) = false := by simpa using hd
    repeat' ((conv => whnf); first
      | (refine And.intro (fun hb => ?_) (fun hb => ?_) <;> first | (exact absurd hb (by first | assumption | decide)) | (rw [hb]) | skip)
      | (refine Exists.intro ?_ ?_; focus (and_intros <;> first | omega | exact rfl | assumption | (intro _ hh; cases hh; done) | exact all_size (by rfl) | (simp; done) | decide))
      | (intro hfact)
      | (refine Drawn.mk (by kernel_rfl) (fun hfact => ?_))
      | ((try dsimp only); rw [hg])
      | (refine CallWp.mk ⟨_, spec_great _, ?_⟩; rintro _ _ ⟨rfl, rfl⟩))
    all_goals (try (conv => whnf))
    exact Done.mk ⟨rfl, by kernel_rfl⟩ (by kernel_rfl)
  have n3 : ¬ decide ((10000 : Int) < (o.d.length : Int)) = true := by simpa using hd
  have hsm := spec_samelog h
  have hmaxd : o.d.length ≤ maxLen := by simp only [maxLen]; omega
  by_cases q0 : o.k = 0
  · have m0 : ¬ decide (o.k = 0) = false := by simp [q0]
    by_cases hr3 : right ix tm (addM ix tm es o.a o.d) = true
    · have pa := spec_add_ok (by omega) hr3
      have pb := spec_radd_ok (by omega) hr3
      have h' := right_spec hr3
      have hsm' := spec_samelog h'
      repeat' ((conv => whnf); first
        | (refine And.intro (fun hb => ?_) (fun hb => ?_) <;> first | (exact absurd hb (by first | assumption | decide)) | (rw [hb]) | skip)
        | (refine Exists.intro ?_ ?_; focus (and_intros <;> first | omega | exact rfl | assumption | (intro _ hh; cases hh; done) | exact all_size (by rfl) | (simp; done) | decide))
        | (intro hfact)
        | (refine Drawn.mk (by kernel_rfl) (fun hfact => ?_))
        | ((try dsimp only); rw [hg])
        | (refine CallWp.mk ⟨_, spec_great _, ?_⟩; rintro _ _ ⟨rfl, rfl⟩)
        | (refine CallWp.mk ⟨_, pa, ?_⟩; rintro _ _ ⟨rfl, rfl⟩)
        | (refine CallWp.mk ⟨_, pb, ?_⟩; rintro _ _ ⟨rfl, rfl⟩)
        | (refine CallWp.mk ⟨_, hsm', ?_⟩; rintro _ _ ⟨rfl, rfl⟩))
      all_goals (try (conv => whnf))
      refine Round.by (k + 1, ix, tm, addM ix tm es o.a o.d) ?_ ⟨hk, h'⟩ hround
      rw [wrap_succ hk hmax]
      show norm _ _ = upd _ _
      kernel_rfl
    · have pa := spec_add_no (by omega) hr3
      have pb := spec_radd_no (by omega) hr3
      repeat' ((conv => whnf); first
        | (refine And.intro (fun hb => ?_) (fun hb => ?_) <;> first | (exact absurd hb (by first | assumption | decide)) | (rw [hb]) | skip)
        | (refine Exists.intro ?_ ?_; focus (and_intros <;> first | omega | exact rfl | assumption | (intro _ hh; cases hh; done) | exact all_size (by rfl) | (simp; done) | decide))
        | (intro hfact)
        | (refine Drawn.mk (by kernel_rfl) (fun hfact => ?_))
        | ((try dsimp only); rw [hg])
        | (refine CallWp.mk ⟨_, spec_great _, ?_⟩; rintro _ _ ⟨rfl, rfl⟩)
        | (refine CallWp.mk ⟨_, pa, ?_⟩; rintro _ _ ⟨rfl, rfl⟩)
        | (refine CallWp.mk ⟨_, pb, ?_⟩; rintro _ _ ⟨rfl, rfl⟩)
        | (refine CallWp.mk ⟨_, hsm, ?_⟩; rintro _ _ ⟨rfl, rfl⟩))
      all_goals (try (conv => whnf))
      refine Round.by (k + 1, ix, tm, es) ?_ ⟨hk, h⟩ hround
      rw [wrap_succ hk hmax]
      show norm _ _ = upd _ _
      kernel_rfl
  have m0 : ¬ decide (o.k = 0) = true := by simp [q0]
  by_cases q1 : o.k = 1
  · have m1 : ¬ decide (o.k = 1) = false := by simp [q1]
    have pa := spec_put hgrow ix tm es o.a o.b o.l h ho (by omega)
    have pb := spec_rput ix tm es o.a o.b o.l h ho (by omega)
    have h' := putM_right h o.a o.b o.l
    obtain ⟨got, at_, is, hp⟩ : ∃ a b c, putM ix tm es o.a o.b o.l = (a, b, c) := ⟨_, _, _, rfl⟩
    rw [hp] at pa pb h'
    dsimp only [putSV] at pa pb h'
    have hsm' := spec_samelog h'
    have m2 : ¬ (!decide (is = is)) = true := by simp
    have m3 : ¬ (!decide (at_ = at_)) = true := by simp
    repeat' ((conv => whnf); first
      | (refine And.intro (fun hb => ?_) (fun hb => ?_) <;> first | (exact absurd hb (by first | assumption | decide)) | (rw [hb]) | skip)
      | (refine Exists.intro ?_ ?_; focus (and_intros <;> first | omega | exact rfl | assumption | (intro _ hh; cases hh; done) | exact all_size (by rfl) | (simp; done) | decide))
      | (intro hfact)
      | (refine Drawn.mk (by kernel_rfl) (fun hfact => ?_))
      | ((try dsimp only); rw [hg])
      | (refine CallWp.mk ⟨_, spec_great _, ?_⟩; rintro _ _ ⟨rfl, rfl⟩)
      | (refine CallWp.mk ⟨_, pa, ?_⟩; rintro _ _ ⟨rfl, rfl⟩)
      | (refine CallWp.mk ⟨_, pb, ?_⟩; rintro _ _ ⟨rfl, rfl⟩)
      | (refine CallWp.mk ⟨_, hsm, ?_⟩; rintro _ _ ⟨rfl, rfl⟩)
      | (refine CallWp.mk ⟨_, hsm', ?_⟩; rintro _ _ ⟨rfl, rfl⟩))
    all_goals (try (conv => whnf))
    refine Round.by (k + 1, ix, tm, got) ?_ ⟨hk, h'⟩ hround
    rw [wrap_succ hk hmax]
    show norm _ _ = upd _ _
    kernel_rfl
  have m1 : ¬ decide (o.k = 1) = true := by simp [q1]
  by_cases q2 : o.k = 2
  · have m2 : ¬ decide (o.k = 2) = false := by simp [q2]
    by_cases hc : (termAt ix tm es o.a).2 = true
    · have pa := spec_cut_ok h hc
      have pb := spec_rcut_ok h hc
      have h' := h.cut ((termAt_iff _).1 hc)
      have hsm' := spec_samelog h'
      repeat' ((conv => whnf); first
        | (refine And.intro (fun hb => ?_) (fun hb => ?_) <;> first | (exact absurd hb (by first | assumption | decide)) | (rw [hb]) | skip)
        | (refine Exists.intro ?_ ?_; focus (and_intros <;> first | omega | exact rfl | assumption | (intro _ hh; cases hh; done) | exact all_size (by rfl) | (simp; done) | decide))
        | (intro hfact)
        | (refine Drawn.mk (by kernel_rfl) (fun hfact => ?_))
        | ((try dsimp only); rw [hg])
        | (refine CallWp.mk ⟨_, spec_great _, ?_⟩; rintro _ _ ⟨rfl, rfl⟩)
        | (refine CallWp.mk ⟨_, pa, ?_⟩; rintro _ _ ⟨rfl, rfl⟩)
        | (refine CallWp.mk ⟨_, pb, ?_⟩; rintro _ _ ⟨rfl, rfl⟩)
        | (refine CallWp.mk ⟨_, hsm, ?_⟩; rintro _ _ ⟨rfl, rfl⟩)
        | (refine CallWp.mk ⟨_, hsm', ?_⟩; rintro _ _ ⟨rfl, rfl⟩))
      all_goals (try (conv => whnf))
      refine Round.by (k + 1, o.a, (termAt ix tm es o.a).1, es.drop (o.a - ix).toNat) ?_ ⟨hk, h'⟩ hround
      rw [wrap_succ hk hmax]
      show norm _ _ = upd _ _
      kernel_rfl
    · have pa := spec_cut_no h hc
      have pb := spec_rcut_no h hc
      repeat' ((conv => whnf); first
        | (refine And.intro (fun hb => ?_) (fun hb => ?_) <;> first | (exact absurd hb (by first | assumption | decide)) | (rw [hb]) | skip)
        | (refine Exists.intro ?_ ?_; focus (and_intros <;> first | omega | exact rfl | assumption | (intro _ hh; cases hh; done) | exact all_size (by rfl) | (simp; done) | decide))
        | (intro hfact)
        | (refine Drawn.mk (by kernel_rfl) (fun hfact => ?_))
        | ((try dsimp only); rw [hg])
        | (refine CallWp.mk ⟨_, spec_great _, ?_⟩; rintro _ _ ⟨rfl, rfl⟩)
        | (refine CallWp.mk ⟨_, pa, ?_⟩; rintro _ _ ⟨rfl, rfl⟩)
        | (refine CallWp.mk ⟨_, pb, ?_⟩; rintro _ _ ⟨rfl, rfl⟩)
        | (refine CallWp.mk ⟨_, hsm, ?_⟩; rintro _ _ ⟨rfl, rfl⟩))
      all_goals (try (conv => whnf))
      refine Round.by (k + 1, ix, tm, es) ?_ ⟨hk, h⟩ hround
      rw [wrap_succ hk hmax]
      show norm _ _ = upd _ _
      kernel_rfl
  have m2 : ¬ decide (o.k = 2) = true := by simp [q2]
  by_cases q3 : o.k = 3
  · have m3 : ¬ decide (o.k = 3) = false := by simp [q3]
    have pa := spec_from ix tm es o.a o.b h
    have pb := spec_rfrom ix tm es o.a o.b h
    have pc := spec_same_yes (rfl : fromM ix es o.a o.b = fromM ix es o.a o.b)
    repeat' ((conv => whnf); first
      | (refine And.intro (fun hb => ?_) (fun hb => ?_) <;> first | (exact absurd hb (by first | assumption | decide)) | (rw [hb]) | skip)
      | (refine Exists.intro ?_ ?_; focus (and_intros <;> first | omega | exact rfl | assumption | (intro _ hh; cases hh; done) | exact all_size (by rfl) | (simp; done) | decide))
      | (intro hfact)
      | (refine Drawn.mk (by kernel_rfl) (fun hfact => ?_))
      | ((try dsimp only); rw [hg])
      | (refine CallWp.mk ⟨_, spec_great _, ?_⟩; rintro _ _ ⟨rfl, rfl⟩)
      | (refine CallIs.mk ⟨_, _, pa, ?_⟩)
      | (refine CallIs.mk ⟨_, _, pb, ?_⟩)
      | (refine CallIs.mk ⟨_, _, pc, ?_⟩)
      | (refine CallWp.mk ⟨_, hsm, ?_⟩; rintro _ _ ⟨rfl, rfl⟩))
    all_goals (try (conv => whnf))
    refine Round.by (k + 1, ix, tm, es) ?_ ⟨hk, h⟩ hround
    rw [wrap_succ hk hmax]
    show norm _ _ = upd _ _
    kernel_rfl
  have m3 : ¬ decide (o.k = 3) = true := by simp [q3]
  by_cases q4 : o.k = 4
  · have m4 : ¬ decide (o.k = 4) = false := by simp [q4]
    have pa := spec_newer ix tm es o.a o.b
    have pb := spec_rnewer ix tm es o.a o.b
    have m5 : ¬ (!decide (newer ix tm es o.a o.b = newer ix tm es o.a o.b)) = true := by simp
    repeat' ((conv => whnf); first
      | (refine And.intro (fun hb => ?_) (fun hb => ?_) <;> first | (exact absurd hb (by first | assumption | decide)) | (rw [hb]) | skip)
      | (refine Exists.intro ?_ ?_; focus (and_intros <;> first | omega | exact rfl | assumption | (intro _ hh; cases hh; done) | exact all_size (by rfl) | (simp; done) | decide))
      | (intro hfact)
      | (refine Drawn.mk (by kernel_rfl) (fun hfact => ?_))
      | ((try dsimp only); rw [hg])
      | (refine CallWp.mk ⟨_, spec_great _, ?_⟩; rintro _ _ ⟨rfl, rfl⟩)
      | (refine CallIs.mk ⟨_, _, pa, ?_⟩)
      | (refine CallIs.mk ⟨_, _, pb, ?_⟩)
      | (refine CallWp.mk ⟨_, hsm, ?_⟩; rintro _ _ ⟨rfl, rfl⟩))
    all_goals (try (conv => whnf))
    refine Round.by (k + 1, ix, tm, es) ?_ ⟨hk, h⟩ hround
    rw [wrap_succ hk hmax]
    show norm _ _ = upd _ _
    kernel_rfl
  have m4 : ¬ decide (o.k = 4) = true := by simp [q4]
  have pa := spec_term ix tm es o.a h
  have pb := spec_rat ix tm es o.a h
  have m5 : ¬ (!decide ((termAt ix tm es o.a).1 = (termAt ix tm es o.a).1)) = true := by simp
  have m6 : ¬ (!decide ((termAt ix tm es o.a).2 = (termAt ix tm es o.a).2)) = true := by simp
  repeat' ((conv => whnf); first
    | (refine And.intro (fun hb => ?_) (fun hb => ?_) <;> first | (exact absurd hb (by first | assumption | decide)) | (rw [hb]) | skip)
    | (refine Exists.intro ?_ ?_; focus (and_intros <;> first | omega | exact rfl | assumption | (intro _ hh; cases hh; done) | exact all_size (by rfl) | (simp; done) | decide))
    | (intro hfact)
    | (refine Drawn.mk (by kernel_rfl) (fun hfact => ?_))
    | ((try dsimp only); rw [hg])
    | (refine CallWp.mk ⟨_, spec_great _, ?_⟩; rintro _ _ ⟨rfl, rfl⟩)
    | (refine CallWp.mk ⟨_, pa, ?_⟩; rintro _ _ ⟨rfl, rfl⟩)
    | (refine CallWp.mk ⟨_, pb, ?_⟩; rintro _ _ ⟨rfl, rfl⟩)
    | (refine CallWp.mk ⟨_, hsm, ?_⟩; rintro _ _ ⟨rfl, rfl⟩))
  all_goals (try (conv => whnf))
  refine Round.by (k + 1, ix, tm, es) ?_ ⟨hk, h⟩ hround
  rw [wrap_succ hk hmax]
  show norm _ _ = upd _ _
  kernel_rfl
end Go.Ab

