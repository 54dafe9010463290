/- One text of the proof whose last text says what is proved. -/
import Derived.Test.YtbpnhefkfamhaaaP7
import Derived.Test.YtbpnhefkfamhaaaQ1
import Derived.Shelf.SlSortCmp.NoneTotal
set_option linter.unusedVariables false
set_option linter.unusedSimpArgs false
set_option maxRecDepth 100000
set_option maxHeartbeats 1000000
namespace Go.Ab
open Go.Proofs

theorem law_shas (hnil : SortNil) (s : Sp) (k : Str) : Fn Try.prog F_exchequerlaw05_SpanHas [.v s.toI, .v (.str k)] (Is (.v (.bool true)) [.no, .no]) := by
  refine of_exchequerlaw05_SpanHas ?_ (by simp)
  have haw := spec_awakeS hnil
  have hgr := spec_greatS [s] [k]
  have n1 : ¬ decide (decide (SpR s) = decide (SpR s)) = false := by simp
  have n2 : ¬ decide (decide (SpH s k) = decide (SpH s k)) = false := by simp
  by_cases hg : (greatS 0 [s] || greatT [k]) = true
  · rw [hg] at hgr
    repeat' ((conv => whnf); first
      | (refine And.intro (fun hb => ?_) (fun hb => ?_) <;> first | (exact absurd hb (by first | assumption | decide)) | (rw [hb]) | skip)
      | (refine Exists.intro ?_ ?_; focus (and_intros <;> first | omega | exact rfl | assumption | (intro _ hh; cases hh; done) | exact all_size (by rfl) | (simp; done) | decide))
      | (intro hfact)
      | (refine Drawn.mk (by kernel_rfl) (fun hfact => ?_))
      | (refine CallWp.mk ⟨_, haw, ?_⟩; rintro _ _ ⟨rfl, rfl⟩)
      | (refine CallIs.mk ⟨_, _, hgr, ?_⟩))
    all_goals (try (conv => whnf))
    exact Done.mk ⟨rfl, by kernel_rfl⟩ (by kernel_rfl)
  · rw [show (greatS 0 [s] || greatT [k]) = false from by simpa using hg] at hgr
    repeat' ((conv => whnf); first
      | (refine And.intro (fun hb => ?_) (fun hb => ?_) <;> first | (exact absurd hb (by first | assumption | decide)) | (rw [hb]) | skip)
      | (refine Exists.intro ?_ ?_; focus (and_intros <;> first | omega | exact rfl | assumption | (intro _ hh; cases hh; done) | exact all_size (by rfl) | (simp; done) | decide))
      | (intro hfact)
      | (refine Drawn.mk (by kernel_rfl) (fun hfact => ?_))
      | (refine CallWp.mk ⟨_, haw, ?_⟩; rintro _ _ ⟨rfl, rfl⟩)
      | (refine CallIs.mk ⟨_, _, hgr, ?_⟩)
      | (refine CallIs.mk ⟨_, _, spec_sright _, ?_⟩)
      | (refine CallIs.mk ⟨_, _, spec_srright _, ?_⟩)
      | (refine CallIs.mk ⟨_, _, spec_shas _ _, ?_⟩)
      | (refine CallIs.mk ⟨_, _, spec_srhas _ _, ?_⟩))
    all_goals (try (conv => whnf))
    exact Done.mk ⟨SV.bool_congr (by simp), by kernel_rfl⟩ (by kernel_rfl)
theorem split255 : ∀ p : Str, (∀ x ∈ p, x = 255) ∨ ∃ (q : Str) (c : UInt8) (F : Str), p = q ++ c :: F ∧ c ≠ 255 ∧ ∀ x ∈ F, x = 255
  | [] => .inl (by simp)
  | a :: p => by
    rcases split255 p with h | ⟨q, c, F, rfl, h1, h2⟩
    · by_cases ha : a = 255
      · left
        intro x hx
        rcases List.mem_cons.1 hx with rfl | hx
        · exact ha
        · exact h x hx
      · exact .inr ⟨[], a, p, rfl, ha, h⟩
    · exact .inr ⟨a :: q, c, F, rfl, h1, h2⟩
theorem under_nil {p : Str} (h : ∀ x ∈ p, x = 255) : under p = [] := by
  unfold under
  rw [cutN_of (n := 0) (Nat.zero_le _) h (.inl rfl)]
theorem under_some {q F : Str} {c : UInt8} (hc : c ≠ 255) (hF : ∀ x ∈ F, x = 255) : under (q ++ c :: F) = q ++ [c + 1] := by
  have h0 : (q ++ c :: F)[q.length]? = some c := by simp
  unfold under
  rw [cutN_of (n := q.length + 1) (by simp) (by
    have : (q ++ c :: F).drop (q.length + 1) = F := by
      rw [List.drop_append]
      simp
    rw [this]; exact hF) (.inr ⟨c, by simp, hc⟩)]
  simp only
  rw [List.getD, h0]
  simp
theorem under_spec (p k : Str) : SpH ⟨p, under p⟩ k ↔ p <+: k := by
  unfold SpH
  rcases split255 p with h | ⟨q, c, F, rfl, h1, h2⟩
  · rw [under_nil h]
    simp [le_prefix_255 h]
  · rw [under_some h1 h2, ← under_has h1 h2]
    simp
theorem under_gt (p : Str) : under p = [] ∨ p < under p := by
  rcases split255 p with h | ⟨q, c, F, rfl, h1, h2⟩
  · exact .inl (under_nil h)
  · right
    rw [under_some h1 h2]
    exact ((under_has h1 h2).2 (List.prefix_refl _)).2
theorem key_spec (p k : Str) : SpH ⟨p, p ++ [0]⟩ k ↔ k = p := by
  have h := key_has (p := p) (k := k)
  have hne : ¬ p ++ [0] = [] := by simp
  constructor
  · rintro ⟨h1, h2 | h2⟩
    · exact absurd h2 hne
    · exact h.1 ⟨h1, h2⟩
  · intro e
    obtain ⟨h1, h2⟩ := h.2 e
    exact ⟨h1, .inr h2⟩
theorem law_skeys (hnil : SortNil) (p k : Str) : Fn Try.prog F_exchequerlaw05_SpanKeys [.v (.str p), .v (.str k)] (Is (.v (.bool true)) [.no, .no]) := by
  refine of_exchequerlaw05_SpanKeys ?_ (by simp)
  have haw := spec_awakeS hnil
  have hgr := spec_greatS [] [p, k]
  by_cases hg : (greatS 0 [] || greatT [p, k]) = true
  · rw [hg] at hgr
    repeat' ((conv => whnf); first
      | (refine And.intro (fun hb => ?_) (fun hb => ?_) <;> first | (exact absurd hb (by first | assumption | decide)) | (rw [hb]) | skip)
      | (refine Exists.intro ?_ ?_; focus (and_intros <;> first | omega | exact rfl | assumption | (intro _ hh; cases hh; done) | exact all_size (by rfl) | (simp; done) | decide))
      | (intro hfact)
      | (refine Drawn.mk (by kernel_rfl) (fun hfact => ?_))
      | (refine CallWp.mk ⟨_, haw, ?_⟩; rintro _ _ ⟨rfl, rfl⟩)
      | (refine CallWp.mk ⟨_, hgr, ?_⟩; rintro _ _ ⟨rfl, rfl⟩))
    all_goals (try (conv => whnf))
    exact Done.mk ⟨rfl, by kernel_rfl⟩ (by kernel_rfl)
  · have hg' : (greatS 0 [] || greatT [p, k]) = false := by simpa using hg
    rw [hg'] at hgr
    have hl := greatT_no (m := [p, k]) (Bool.or_eq_false_iff.1 hg').2
    have hp := hl p (by simp)
    have hkl := hl k (by simp)
    have hu := spec_under p (by omega)
    have hk := spec_key p (by omega)
    have hh1 := spec_shas ⟨p, p ++ [0]⟩ k
    have hh2 := spec_shas ⟨p, under p⟩ k
    rw [show decide (SpH ⟨p, p ++ [0]⟩ k) = decide (k = p) from by simp [key_spec]] at hh1
    have a1 : ¬ decide (decide (k = p) = decide (k = p)) = false := by simp
    have a3 : ¬ decide ((⟨p, under p⟩ : Sp).f = p) = false := by simp
    have hfin : (!(Op.bytesLess (under p) p || decide (under p = p))) = true ∨ under p = [] := by
      rcases under_gt p with h | h
      · exact .inr h
      · left
        rw [bless_eq]
        simp
        grind
    by_cases hle : p.length ≤ k.length
    · have n1 : ¬ decide ((p.length : Int) ≤ (k.length : Int)) = false := by simp; omega
      have m0 : 0 ≤ min (p.length : Int) (k.length : Int) := by omega
      have m1 : min (p.length : Int) (k.length : Int) ≤ (k.length : Int) := by omega
      have hE : decide ((k.take (min (p.length : Int) (k.length : Int)).toNat).drop (0 : Int).toNat = p) = decide (SpH ⟨p, under p⟩ k) := by
        rw [show (min (p.length : Int) (k.length : Int)).toNat = min p.length k.length from by omega]
        simp only [under_spec, prefix_take, hle, true_and]
        rfl
      have a2 : ¬ decide (decide (SpH ⟨p, under p⟩ k) = decide ((k.take (min (p.length : Int) (k.length : Int)).toNat).drop (0 : Int).toNat = p)) = false := by rw [hE]; simp
      repeat' ((conv => whnf); first
        | (refine And.intro (fun hb => ?_) (fun hb => ?_) <;> first | (exact absurd hb (by first | assumption | decide)) | (rw [hb]) | skip)
        | (refine Exists.intro ?_ ?_; focus (and_intros <;> first | omega | exact rfl | assumption | (intro _ hh; cases hh; done) | exact all_size (by rfl) | (simp; done) | decide))
        | (intro hfact)
        | (refine Drawn.mk (by kernel_rfl) (fun hfact => ?_))
        | (refine CallWp.mk ⟨_, haw, ?_⟩; rintro _ _ ⟨rfl, rfl⟩)
        | (refine CallWp.mk ⟨_, hgr, ?_⟩; rintro _ _ ⟨rfl, rfl⟩)
        | (refine CallWp.mk ⟨_, hu, ?_⟩; rintro _ _ ⟨rfl, rfl⟩)
        | (refine CallWp.mk ⟨_, hk, ?_⟩; rintro _ _ ⟨rfl, rfl⟩)
        | (refine CallWp.mk ⟨_, hh1, ?_⟩; rintro _ _ ⟨rfl, rfl⟩)
        | (refine CallWp.mk ⟨_, hh2, ?_⟩; rintro _ _ ⟨rfl, rfl⟩))
      all_goals (try (conv => whnf))
      · exact Done.mk ⟨rfl, by kernel_rfl⟩ (by kernel_rfl)
      · rename_i hz _ _ _ _ _
        refine Done.mk ⟨SV.bool_congr ?_, by kernel_rfl⟩ (by kernel_rfl)
        rcases hfin with h | h
        · exact h
        · simp_all
    · have n1 : ¬ decide ((p.length : Int) ≤ (k.length : Int)) = true := by simp; omega
      have hE : decide (SpH ⟨p, under p⟩ k) = false := by
        simp only [under_spec, prefix_take, hle, false_and, decide_false]
      rw [hE] at hh2
      repeat' ((conv => whnf); first
        | (refine And.intro (fun hb => ?_) (fun hb => ?_) <;> first | (exact absurd hb (by first | assumption | decide)) | (rw [hb]) | skip)
        | (refine Exists.intro ?_ ?_; focus (and_intros <;> first | omega | exact rfl | assumption | (intro _ hh; cases hh; done) | exact all_size (by rfl) | (simp; done) | decide))
        | (intro hfact)
        | (refine Drawn.mk (by kernel_rfl) (fun hfact => ?_))
        | (refine CallWp.mk ⟨_, haw, ?_⟩; rintro _ _ ⟨rfl, rfl⟩)
        | (refine CallWp.mk ⟨_, hgr, ?_⟩; rintro _ _ ⟨rfl, rfl⟩)
        | (refine CallWp.mk ⟨_, hu, ?_⟩; rintro _ _ ⟨rfl, rfl⟩)
        | (refine CallWp.mk ⟨_, hk, ?_⟩; rintro _ _ ⟨rfl, rfl⟩)
        | (refine CallWp.mk ⟨_, hh1, ?_⟩; rintro _ _ ⟨rfl, rfl⟩)
        | (refine CallWp.mk ⟨_, hh2, ?_⟩; rintro _ _ ⟨rfl, rfl⟩))
      all_goals (try (conv => whnf))
      · exact Done.mk ⟨rfl, by kernel_rfl⟩ (by kernel_rfl)
      · refine Done.mk ⟨SV.bool_congr ?_, by kernel_rfl⟩ (by kernel_rfl)
        rcases hfin with h | h
        · exact h
        · simp_all
end Go.Ab


set_option maxRecDepth 100000
namespace Go.Ab
open Go.Proofs Go.Shelf

theorem sortNil : SortNil := by
  intro G σ Fr w cargs hok hcl hargs
  have hc0 : RepV G (.list []) (cargs.getD 0 undef) := (hargs 0 _ rfl).2
  have hc1 : RepV G (.fn 31) (cargs.getD 1 undef) := (hargs 1 _ rfl).2
  rw [RepV.fn] at hc1
  obtain ⟨ad, cap, hc, _⟩ := RepV.list.1 hc0
  have hca : cargs = #[.slice ad 0 cap, .func (.func 31) #[] #[]] := by
    rw [← hc1, show (.slice ad 0 cap : Value) = cargs.getD 0 undef from hc.symm]
    apply Array.ext
    · simpa using hcl
    · intro j h1 h2
      have : j = 0 ∨ j = 1 := by simp at h2; omega
      rcases this with rfl | rfl <;> simp [Array.getD, h1]
  have hcall := AnyF.slices_SortFunc_none sortT ad cap (.func (.func 31) #[] #[]) w
  rw [hca]
  refine Calls.mono hcall ?_
  rintro e w' ⟨rfl, rfl⟩
  refine ⟨_, _, _, G, fun _ => none, rfl, ⟨rfl, rfl⟩, Mem.le.refl G, ⟨hok.fixed, fun b lab h => by (cases h), fun b b' lab h => by (cases h), hok.frame, rfl, rfl, rfl, Nat.le_refl _, hok.apart⟩, rfl, ⟨#[], rfl, rfl⟩, rfl, ?_⟩
  intro i sv hi
  have : sv = .no := by
    have := List.mem_of_getElem? hi
    simpa using this
  subst this
  exact ⟨rfl, trivial⟩
end Go.Ab
