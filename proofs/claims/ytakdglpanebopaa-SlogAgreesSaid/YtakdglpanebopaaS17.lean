/- One text of the proof whose last text says what is proved. -/
import Derived.Test.YtakdglpanebopaaS16
set_option linter.unusedVariables false
set_option linter.unusedSimpArgs false
set_option maxRecDepth 100000
set_option maxHeartbeats 1000000
namespace Go.Ab
open Go.Proofs

theorem spec_same_of {x y : List I} {a : List Ent} (hx : x = a.map Ent.toI) (hy : y = a.map Ent.toI) : Fn Try.prog F_exchequerref11_Same [.v (.list x), .v (.list y)] (Is (.v (.bool true)) [.no, .no]) := by
  subst hx hy
  exact spec_same_yes rfl
theorem law_agrees (hgrow : GrowOk) (l m : List Ent) (index : Int) (hm : ∀ e ∈ m, i64r e.i) : Fn Try.prog F_exchequerlaw11_SlogAgrees [.v (.list (l.map Ent.toI)), .v (.int .i64 index), .v (.list (m.map Ent.toI))] (Is (.v (.bool true)) [.no, .no, .no]) := by
  refine of_exchequerlaw11_SlogAgrees ?_ (by simp)
  have haw := spec_awake hgrow
  by_cases hg1 : greatAt 0 l = true
  · have n1 : ¬ greatAt 0 l = false := by simp [hg1]
    repeat' ((conv => whnf); first
      | (refine And.intro (fun hb => ?_) (fun hb => ?_) <;> first | (exact absurd hb (by first | assumption | decide)) | (rw [hb]) | skip)
      | (refine Exists.intro ?_ ?_; focus (and_intros <;> first | omega | exact rfl | assumption | (intro _ hh; cases hh; done) | exact all_size (by rfl) | (simp; done) | decide))
      | (intro hfact)
      | (refine Drawn.mk (by kernel_rfl) (fun hfact => ?_))
      | (refine CallWp.mk ⟨_, haw, ?_⟩; rintro _ _ ⟨rfl, rfl⟩)
      | (refine CallWp.mk ⟨_, spec_great _, ?_⟩; rintro _ _ ⟨rfl, rfl⟩))
    all_goals (try (conv => whnf))
    exact Done.mk ⟨rfl, by kernel_rfl⟩ (by kernel_rfl)
  by_cases hg2 : greatAt 0 m = true
  · have n2 : ¬ greatAt 0 m = false := by simp [hg2]
    repeat' ((conv => whnf); first
      | (refine And.intro (fun hb => ?_) (fun hb => ?_) <;> first | (exact absurd hb (by first | assumption | decide)) | (rw [hb]) | skip)
      | (refine Exists.intro ?_ ?_; focus (and_intros <;> first | omega | exact rfl | assumption | (intro _ hh; cases hh; done) | exact all_size (by rfl) | (simp; done) | decide))
      | (intro hfact)
      | (refine Drawn.mk (by kernel_rfl) (fun hfact => ?_))
      | (refine CallWp.mk ⟨_, haw, ?_⟩; rintro _ _ ⟨rfl, rfl⟩)
      | (refine CallWp.mk ⟨_, spec_great _, ?_⟩; rintro _ _ ⟨rfl, rfl⟩))
    all_goals (try (conv => whnf))
    exact Done.mk ⟨rfl, by kernel_rfl⟩ (by kernel_rfl)
  have hl1 := (great_spec (by simpa using hg1 : greatAt 0 l = false)).1
  have hl2 := (great_spec (by simpa using hg2 : greatAt 0 m = false)).1
  by_cases hr1 : right 0 0 l = true
  case neg =>
    have hn1 := spec_new_no (by omega) hr1
    repeat' ((conv => whnf); first
      | (refine And.intro (fun hb => ?_) (fun hb => ?_) <;> first | (exact absurd hb (by first | assumption | decide)) | (rw [hb]) | skip)
      | (refine Exists.intro ?_ ?_; focus (and_intros <;> first | omega | exact rfl | assumption | (intro _ hh; cases hh; done) | exact all_size (by rfl) | (simp; done) | decide))
      | (intro hfact)
      | (refine Drawn.mk (by kernel_rfl) (fun hfact => ?_))
      | (refine CallWp.mk ⟨_, haw, ?_⟩; rintro _ _ ⟨rfl, rfl⟩)
      | (refine CallWp.mk ⟨_, spec_great _, ?_⟩; rintro _ _ ⟨rfl, rfl⟩)
      | (refine CallWp.mk ⟨_, hn1, ?_⟩; rintro _ _ ⟨rfl, rfl⟩))
    all_goals (try (conv => whnf))
    exact Done.mk ⟨rfl, by kernel_rfl⟩ (by kernel_rfl)
  have hn1 := spec_new_ok (by omega) hr1
  have hR := right_spec hr1
  have hlen := hR.len
  have hput := spec_put hgrow 0 0 l index (termAt 0 0 l index).1 m hR hm (by omega)
  obtain ⟨got, at_, is, hp⟩ : ∃ a b c, putM 0 0 l index (termAt 0 0 l index).1 m = (a, b, c) := ⟨_, _, _, rfl⟩
  rw [hp] at hput
  dsimp only [putSV] at hput
  rcases putM_agrees hR hm (by omega) hp with ⟨rfl, rfl⟩ | ⟨rfl, p, rfl, hpl, rfl, hRg, hge, htake, hat, hdif⟩
  · have hf := spec_from 0 0 got 0 9999 hR
    rw [from_all hR (by omega)] at hf
    have hs := spec_same_yes (rfl : got = got)
    repeat' ((conv => whnf); first
      | (refine And.intro (fun hb => ?_) (fun hb => ?_) <;> first | (exact absurd hb (by first | assumption | decide)) | (rw [hb]) | skip)
      | (refine Exists.intro ?_ ?_; focus (and_intros <;> first | omega | exact rfl | assumption | (intro _ hh; cases hh; done) | exact all_size (by rfl) | (simp; done) | decide))
      | (intro hfact)
      | (refine Drawn.mk (by kernel_rfl) (fun hfact => ?_))
      | (refine CallWp.mk ⟨_, haw, ?_⟩; rintro _ _ ⟨rfl, rfl⟩)
      | (refine CallWp.mk ⟨_, spec_great _, ?_⟩; rintro _ _ ⟨rfl, rfl⟩)
      | (refine CallWp.mk ⟨_, hn1, ?_⟩; rintro _ _ ⟨rfl, rfl⟩)
      | (refine CallWp.mk ⟨_, spec_term _ _ _ _ hR, ?_⟩; rintro _ _ ⟨rfl, rfl⟩)
      | (refine CallWp.mk ⟨_, hput, ?_⟩; rintro _ _ ⟨rfl, rfl⟩)
      | (refine CallWp.mk ⟨_, hf, ?_⟩; rintro _ _ ⟨rfl, rfl⟩)
      | (refine CallWp.mk ⟨_, hs, ?_⟩; rintro _ _ ⟨rfl, rfl⟩))
    all_goals (try (conv => whnf))
    exact Done.mk ⟨rfl, by kernel_rfl⟩ (by kernel_rfl)
  have hglen := hRg.len
  have hf := spec_from 0 0 got 0 9999 hRg
  rw [from_all hRg (by omega)] at hf
  have hw1 : IntKind.i64.wrap ((p : Int) + ((m.map Ent.toI).length : Int)) = (p : Int) + (m.length : Int) := by rw [List.length_map]; exact wrap_id (by omega)
  have n3 : ¬ (!decide ((p : Int) + (m.length : Int) = IntKind.i64.wrap ((p : Int) + ((m.map Ent.toI).length : Int)))) = true := by rw [hw1]; simp
  have n4 : ¬ decide (((got.map Ent.toI).length : Int) < (p : Int) + (m.length : Int)) = true := by simp; omega
  have hp1 : (p : Int) ≤ ((got.map Ent.toI).length : Int) := by rw [List.length_map]; omega
  have hp2 : (p : Int) ≤ ((l.map Ent.toI).length : Int) := by rw [List.length_map]; omega
  have hp0 : (0 : Int) ≤ (p : Int) := by omega
  have hx1 : ((got.map Ent.toI).take (p : Int).toNat).drop (0 : Int).toNat = (l.take p).map Ent.toI := by
    rw [Int.toNat_natCast, ← List.map_take, htake]
    rfl
  have hx2 : ((l.map Ent.toI).take (p : Int).toNat).drop (0 : Int).toNat = (l.take p).map Ent.toI := by
    rw [Int.toNat_natCast, ← List.map_take]
    rfl
  have hs := spec_same_of hx1 hx2
  have hsz1 := ents_size got
  have hsz2 := ents_size l
  repeat' ((conv => whnf); first
    | (refine And.intro (fun hb => ?_) (fun hb => ?_) <;> first | (exact absurd hb (by first | assumption | decide)) | (rw [hb]) | skip)
    | (refine Exists.intro ?_ ?_; focus (and_intros <;> first | omega | exact rfl | assumption | (intro _ hh; cases hh; done) | exact all_size (by rfl) | (simp; done) | decide))
    | (intro hfact)
    | (refine Drawn.mk (by kernel_rfl) (fun hfact => ?_))
    | (refine CallWp.mk ⟨_, haw, ?_⟩; rintro _ _ ⟨rfl, rfl⟩)
    | (refine CallWp.mk ⟨_, spec_great _, ?_⟩; rintro _ _ ⟨rfl, rfl⟩)
    | (refine CallWp.mk ⟨_, hn1, ?_⟩; rintro _ _ ⟨rfl, rfl⟩)
    | (refine CallWp.mk ⟨_, spec_term _ _ _ _ hR, ?_⟩; rintro _ _ ⟨rfl, rfl⟩)
    | (refine CallWp.mk ⟨_, hput, ?_⟩; rintro _ _ ⟨rfl, rfl⟩)
    | (refine CallWp.mk ⟨_, hf, ?_⟩; rintro _ _ ⟨rfl, rfl⟩)
    | (refine CallIs.mk ⟨_, _, hs, ?_⟩))
  all_goals (try (conv => whnf))
  have hmax : m.length ≤ maxLen := by simp only [maxLen]; omega
  refine LoopWq.by (X := Nat × Bool) (fun x => [(15, .v (.bool x.2)), (80, .v (.int .i64 x.1))]) (fun x => x.1 ≤ m.length ∧ x.2 = differs l m p x.1) (fun x => m.length - x.1)
    (0, false) (by kernel_rfl) ⟨Nat.zero_le _, rfl⟩ ?_
  rintro ⟨k, d⟩ ⟨h1, h2⟩
  dsimp only at h1 h2 ⊢
  by_cases hk : k < m.length
  case neg =>
    have hlt : ¬ decide ((k : Int) < ((m.map Ent.toI).length : Int)) = true := by simp; omega
    have hke : k = m.length := by omega
    rw [hke] at h2
    rcases hdif with ⟨hd, hgl⟩ | ⟨hd, hgl⟩
    · rw [hd] at h2
      subst h2
      have hs3 := spec_same_yes hgl
      repeat' ((conv => whnf); first
        | (refine And.intro (fun hb => ?_) (fun hb => ?_) <;> first | (exact absurd hb (by first | assumption | decide)) | (rw [hb]) | skip)
        | (refine Exists.intro ?_ ?_; focus (and_intros <;> first | omega | exact rfl | assumption | (intro _ hh; cases hh; done) | exact all_size (by rfl) | (simp; done) | decide))
        | (intro hfact)
        | (refine Drawn.mk (by kernel_rfl) (fun hfact => ?_))
        | (refine CallWp.mk ⟨_, hs3, ?_⟩; rintro _ _ ⟨rfl, rfl⟩))
      all_goals (try (conv => whnf))
      exact Done.mk ⟨rfl, by kernel_rfl⟩ (by kernel_rfl)
    · rw [hd] at h2
      subst h2
      repeat' ((conv => whnf); first
        | (refine And.intro (fun hb => ?_) (fun hb => ?_) <;> first | (exact absurd hb (by first | assumption | decide)) | (rw [hb]) | skip)
        | (refine Exists.intro ?_ ?_; focus (and_intros <;> first | omega | exact rfl | assumption | (intro _ hh; cases hh; done) | exact all_size (by rfl) | (simp; done) | decide))
        | (intro hfact)
        | (refine Drawn.mk (by kernel_rfl) (fun hfact => ?_)))
      all_goals (try (conv => whnf))
      refine Done.mk ⟨SV.bool_congr ?_, by kernel_rfl⟩ (by kernel_rfl)
      simp [hgl]
  obtain ⟨e, he⟩ : ∃ e, m[k]? = some e := ⟨_, List.getElem?_eq_getElem hk⟩
  obtain ⟨a, ha, hai, hate⟩ := hat k e he
  have hlt : ¬ decide ((k : Int) < ((m.map Ent.toI).length : Int)) = false := by simp [hk]
  have hw2 : IntKind.i64.wrap ((p : Int) + (k : Int)) = ((p + k : Nat) : Int) := (wrap_id (by omega)).trans (by omega)
  have h0 : 0 ≤ IntKind.i64.wrap ((p : Int) + (k : Int)) := by rw [hw2]; omega
  have hg : (m.map Ent.toI)[Int.toNat (k : Int)]? = some e.toI := ents_get he
  have hga : (got.map Ent.toI)[Int.toNat (IntKind.i64.wrap ((p : Int) + (k : Int)))]? = some a.toI := by rw [hw2]; exact ents_get ha
  have n5 : ¬ (!decide (a.i = e.i)) = true := by simp [hai]
  have n6 : ¬ (!decide (a.t = e.t)) = true := by simp [hate]
  have hsucc := differs_succ l m p k
  rw [← h2] at hsucc
  have hround : m.length - (k + 1) < m.length - k := by omega
  cases d with
  | true =>
    repeat' ((conv => whnf); first
      | (refine And.intro (fun hb => ?_) (fun hb => ?_) <;> first | (exact absurd hb (by first | assumption | decide)) | (rw [hb]) | skip)
      | (refine Exists.intro ?_ ?_; focus (and_intros <;> first | omega | exact rfl | assumption | (intro _ hh; cases hh; done) | exact all_size (by rfl) | (simp; done) | decide))
      | (intro hfact)
      | (refine Drawn.mk (by kernel_rfl) (fun hfact => ?_))
      | ((try dsimp only); rw [hg])
      | ((try dsimp only); rw [hga]))
    all_goals (try (conv => whnf))
    refine Round.by (k + 1, true) ?_ ⟨hk, by rw [hsucc]; rfl⟩ hround
    rw [wrap_succ hk hmax]
    show norm _ _ = upd _ _
    kernel_rfl
  | false =>
    rw [Bool.false_or] at hsucc
    by_cases hpk : p + k < l.length
    · obtain ⟨b, hb⟩ : ∃ b, l[p + k]? = some b := ⟨_, List.getElem?_eq_getElem hpk⟩
      have hgb : (l.map Ent.toI)[Int.toNat (IntKind.i64.wrap ((p : Int) + (k : Int)))]? = some b.toI := by rw [hw2]; exact ents_get hb
      have n7 : ¬ decide (((l.map Ent.toI).length : Int) ≤ IntKind.i64.wrap ((p : Int) + (k : Int))) = true := by rw [hw2]; simp; omega
      have hda : differAt l m p k = !decide (b.t = e.t) := by simp only [differAt, hb, he]
      repeat' ((conv => whnf); first
        | (refine And.intro (fun hb => ?_) (fun hb => ?_) <;> first | (exact absurd hb (by first | assumption | decide)) | (rw [hb]) | skip)
        | (refine Exists.intro ?_ ?_; focus (and_intros <;> first | omega | exact rfl | assumption | (intro _ hh; cases hh; done) | exact all_size (by rfl) | (simp; done) | decide))
        | (intro hfact)
        | (refine Drawn.mk (by kernel_rfl) (fun hfact => ?_))
        | ((try dsimp only); rw [hg])
        | ((try dsimp only); rw [hga])
        | ((try dsimp only); rw [hgb]))
      all_goals (try (conv => whnf))
      refine Round.by (k + 1, !decide (b.t = e.t)) ?_ ⟨hk, by rw [hsucc, hda]⟩ hround
      rw [wrap_succ hk hmax]
      show norm _ _ = upd _ _
      kernel_rfl
    · have n7 : ¬ decide (((l.map Ent.toI).length : Int) ≤ IntKind.i64.wrap ((p : Int) + (k : Int))) = false := by rw [hw2]; simp; omega
      have hda : differAt l m p k = true := by simp only [differAt, List.getElem?_eq_none (show l.length ≤ p + k by omega)]
      repeat' ((conv => whnf); first
        | (refine And.intro (fun hb => ?_) (fun hb => ?_) <;> first | (exact absurd hb (by first | assumption | decide)) | (rw [hb]) | skip)
        | (refine Exists.intro ?_ ?_; focus (and_intros <;> first | omega | exact rfl | assumption | (intro _ hh; cases hh; done) | exact all_size (by rfl) | (simp; done) | decide))
        | (intro hfact)
        | (refine Drawn.mk (by kernel_rfl) (fun hfact => ?_))
        | ((try dsimp only); rw [hg])
        | ((try dsimp only); rw [hga]))
      all_goals (try (conv => whnf))
      refine Round.by (k + 1, true) ?_ ⟨hk, by rw [hsucc, hda]⟩ hround
      rw [wrap_succ hk hmax]
      show norm _ _ = upd _ _
      kernel_rfl
end Go.Ab

