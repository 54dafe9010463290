/- One text of the proof whose last text says what is proved. -/
import Derived.Test.YtoombangidlpjaaA16b
set_option linter.unusedVariables false
set_option linter.unusedSimpArgs false
set_option maxRecDepth 100000
set_option maxHeartbeats 40000000
namespace Go.Ab
open Go.Proofs

theorem insBy_mem {α : Type} {gt : α → Bool} {x y : α} : ∀ {l : List α}, y ∈ insBy gt x l ↔ y = x ∨ y ∈ l
  | [] => by simp [insBy]
  | a :: r => by
    unfold insBy
    split
    · simp
    · simp only [List.mem_cons, insBy_mem (l := r)]
      constructor
      · rintro (h | h | h) <;> simp [h]
      · rintro (h | h | h) <;> simp [h]
theorem set_mem {α : Type} {l : List α} {j : Nat} {x y : α} (h : y ∈ l.set j x) : y = x ∨ y ∈ l := (List.mem_or_eq_of_mem_set h).symm
theorem doM_fit {r : Roll} (hf : r.Fit) (c : Cmd) : (doM r c).1.Fit := by
  obtain ⟨hV, hT, hU, hX, hR, hG⟩ := hf
  unfold doM
  split
  · exact ⟨hV, hT, hU, hX, hR, hG⟩
  split
  · exact ⟨hV, hT, hU, hX, hR, hG⟩
  rename_i h1 h2
  have hV' : 1 ≤ r.rev + 1 ∧ r.rev + 1 ≤ 1099511627776 := by omega
  split
  · unfold tenantM
    repeat' split
    all_goals first | exact ⟨hV, hT, hU, hX, hR, hG⟩ | skip
    refine ⟨hV', ?_, hU, hX, hR, hG⟩
    rw [insBy_length]; omega
  split
  · unfold quotaM
    repeat' split
    all_goals first | exact ⟨hV, hT, hU, hX, hR, hG⟩ | skip
    exact ⟨hV', by simpa using hT, hU, hX, hR, hG⟩
  split
  · unfold userM
    repeat' split
    all_goals first | exact ⟨hV, hT, hU, hX, hR, hG⟩ | skip
    refine ⟨hV', hT, ?_, hX, ?_, hG⟩
    · rw [insBy_length]; omega
    · intro u hu
      rcases insBy_mem.1 hu with rfl | hu
      · simp
      · exact hR u hu
  split
  · unfold wordM
    repeat' split
    all_goals first | exact ⟨hV, hT, hU, hX, hR, hG⟩ | skip
    rename_i u hu
    refine ⟨hV', hT, by simpa using hU, hX, ?_, hG⟩
    intro v hv
    rcases set_mem hv with rfl | hv
    · exact hR u (List.mem_of_getElem? hu)
    · exact hR v hv
  split
  · unfold leaveM
    repeat' split
    all_goals first | exact ⟨hV, hT, hU, hX, hR, hG⟩ | skip
    refine ⟨hV', hT, ?_, hX, ?_, hG⟩
    · simp; omega
    · intro v hv
      rcases List.mem_append.1 hv with hv | hv
      · exact hR v (List.mem_of_mem_take hv)
      · exact hR v (List.mem_of_mem_drop hv)
  split
  · unfold roleM
    repeat' split
    all_goals first | exact ⟨hV, hT, hU, hX, hR, hG⟩ | skip
    refine ⟨hV', hT, hU, ?_, hR, ?_⟩
    · rw [insBy_length]; omega
    · intro u hu
      rcases insBy_mem.1 hu with rfl | hu
      · simp
      · exact hG u hu
  split
  · unfold dropM
    repeat' split
    all_goals first | exact ⟨hV, hT, hU, hX, hR, hG⟩ | skip
    refine ⟨hV', hT, by simpa using hU, ?_, ?_, ?_⟩
    · simp; omega
    · intro v hv
      obtain ⟨u, hu, rfl⟩ := List.mem_map.1 hv
      exact Nat.le_trans (List.length_filter_le _ _) (hR u hu)
    · intro v hv
      rcases List.mem_append.1 hv with hv | hv
      · exact hG v (List.mem_of_mem_take hv)
      · exact hG v (List.mem_of_mem_drop hv)
  split
  · unfold grantM
    repeat' split
    all_goals first | exact ⟨hV, hT, hU, hX, hR, hG⟩ | skip
    refine ⟨hV', hT, hU, by simpa using hX, hR, ?_⟩
    intro v hv
    rcases set_mem hv with rfl | hv
    · simp; omega
    · exact hG v hv
  split
  · unfold revokeM
    repeat' split
    all_goals first | exact ⟨hV, hT, hU, hX, hR, hG⟩ | skip
    refine ⟨hV', hT, hU, by simpa using hX, hR, ?_⟩
    intro v hv
    rcases set_mem hv with rfl | hv
    · dsimp only; omega
    · exact hG v hv
  · unfold haveM
    repeat' split
    all_goals first | exact ⟨hV, hT, hU, hX, hR, hG⟩ | skip
    · rename_i u hu _ _
      refine ⟨hV', hT, by simpa using hU, hX, ?_, hG⟩
      intro v hv
      rcases set_mem hv with rfl | hv
      · exact Nat.le_trans (List.length_filter_le _ _) (hR u (List.mem_of_getElem? hu))
      · exact hR v hv
    · refine ⟨hV', hT, by simpa using hU, hX, ?_, hG⟩
      intro v hv
      rcases set_mem hv with rfl | hv
      · rw [insBy_length]; omega
      · exact hR v hv
end Go.Ab


set_option maxRecDepth 100000
set_option maxHeartbeats 40000000
namespace Go.Ab
open Go.Proofs

def gra0 : Gra := ⟨⟨[], []⟩, false, false⟩
def cmdOf (kind : Int) (name other : Str) : Cmd := ⟨0, 0, [], kind, name, other, [], [], 0, 0, gra0, 0, [], [], []⟩
def b1 : Cmd := cmdOf 4 [116] []
def b2 : Cmd := cmdOf 6 [117, 97] [116]
def b3 : Cmd := cmdOf 9 [114, 97] [116]
def b4 : Cmd := cmdOf 13 [117, 97] [114, 97]
def next (r : Roll) (c : Cmd) : Roll := (doM r c).1
theorem next_fit {r : Roll} (h : r.Fit) (c : Cmd) : (next r c).Fit := doM_fit h c
def basisM : Roll := [b1, b2, b3, b4].foldl next (newRoll [115] [119])
theorem new_fit (a b : Str) : (newRoll a b).Fit := ⟨⟨by show (1 : Int) ≤ 1; omega, by show (1 : Int) ≤ 1099511627776; omega⟩, Nat.zero_le _, by show 1 ≤ 16; decide, Nat.zero_le _, by intro u hu; simp [newRoll] at hu; subst hu; simp, by intro x hx; simp [newRoll] at hx⟩
theorem basis_eq : basisM = ⟨5, [⟨[116], 0, 0⟩], [⟨[114, 111, 111, 116], [], [115], hashM [115] [119], []⟩, ⟨[117, 97], [116], [], hashM [] [], [[114, 97]]⟩], [⟨[114, 97], [116], []⟩]⟩ := by kernel_rfl
theorem basis_fit : basisM.Fit := next_fit (next_fit (next_fit (next_fit (new_fit _ _) _) _) _) _
theorem spec_basis : Fn Try.prog F_exchequerlaw16_basis [] (Is (.v basisM.toI) []) := by
  refine of_exchequerlaw16_basis ?_ (by simp)
  have n0 := spec_new [115] [119] (by decide) (by decide)
  have hAns : runL (foldStep next) foldFin [b1, b2, b3, b4] (newRoll [115] [119]) = basisM := fold_run _ _ _
  have hm : [b1, b2, b3, b4].length ≤ maxLen := by simp [maxLen]
  have hfit := new_fit [115] [119]
  obtain ⟨R0, hR0⟩ : ∃ R, R = newRoll [115] [119] := ⟨_, rfl⟩
  rw [← hR0] at n0 hAns hfit
  generalize basisM = A at hAns ⊢
  clear hR0
  repeat' ((conv => whnf); first
    | (refine And.intro (fun hb => ?_) (fun hb => ?_) <;> first | (exact absurd hb (by first | assumption | decide)) | (with_reducible exact absurd hb Bool.false_ne_true) | (with_reducible exact absurd hb.symm Bool.false_ne_true) | (exfalso; first | (simp only [LENS] at hb <;> omega) | omega) | ((try rw [hb]); (try simp only [NRMS] at hb); (try subst hb)))
    | (refine Exists.intro ?_ ?_; focus (and_intros <;> first | omega | exact rfl | assumption | (intro _ hh; cases hh; done) | exact all_size (by rfl) | exact size_map (fun _ => rfl) | exact size_one rfl | exact take_size (fun _ => rfl) | exact dsize_one rfl | exact dsize_map (fun _ => rfl) | exact dsize_its (fun _ => rfl) | (simp only [LENS]; omega) | (simp; done) | decide))
    | (intro hfact)
    | (refine CallWp.mk ⟨_, n0, ?_⟩; rintro _ _ ⟨rfl, rfl⟩))
  all_goals (try (conv => whnf))
  refine each [b1, b2, b3, b4] _ _ _ (fun k s => [(1, .box (.one (.i (Roll.toI s)))), (15, .v (.int .i64 k))]) (fun k s => s.Fit) R0 (by kernel_rfl) hfit hAns ?_ ?_ <;> clear hAns
  · rintro k s e he hk hi hA
    have hd := spec_do s hi.small e (by have := hi.hV; omega) (by
      have := List.mem_of_getElem? he
      simp only [List.mem_cons, List.not_mem_nil, or_false] at this
      rcases this with rfl | rfl | rfl | rfl <;> exact ⟨by decide, by decide⟩)
    have hwk := wrap_succ hk hm
    have hn := next_fit hi e
    obtain ⟨D, hD⟩ : ∃ D, D = doM s e := ⟨_, rfl⟩
    have hD1 : next s e = D.1 := by rw [hD]; rfl
    rw [← hD] at hd
    rw [hD1] at hn
    clear hD
    rcases k with _ | _ | _ | _ | k
    rotate_left 4
    · exact absurd hk (by simp only [List.length_cons, List.length_nil]; omega)
    all_goals (cases he; dsimp only at hi hA ⊢)
    all_goals (
      repeat' ((conv => whnf); first
        | (refine And.intro (fun hb => ?_) (fun hb => ?_) <;> first | (exact absurd hb (by first | assumption | decide)) | (with_reducible exact absurd hb Bool.false_ne_true) | (with_reducible exact absurd hb.symm Bool.false_ne_true) | (exfalso; first | (simp only [LENS] at hb <;> omega) | omega) | ((try rw [hb]); (try simp only [NRMS] at hb); (try subst hb)))
        | (refine Exists.intro ?_ ?_; focus (and_intros <;> first | omega | exact rfl | assumption | (intro _ hh; cases hh; done) | exact all_size (by rfl) | exact size_map (fun _ => rfl) | exact size_one rfl | exact take_size (fun _ => rfl) | exact dsize_one rfl | exact dsize_map (fun _ => rfl) | exact dsize_its (fun _ => rfl) | (simp only [LENS]; omega) | (simp; done) | decide))
        | (intro hfact)
        | (refine CallWp.mk ⟨_, hd, ?_⟩; rintro _ _ ⟨rfl, rfl⟩))
      all_goals (try (conv => whnf)))
    all_goals (refine RoundE.by D.1 ?_ hn (by rw [← hD1]; exact hA))
    all_goals (rw [hwk]; show norm _ _ = upd _ _; kernel_rfl)
  · rintro s k rfl hi hA
    dsimp only at hi hA ⊢
    obtain rfl : s = A := hA
    repeat' ((conv => whnf); first
      | (refine And.intro (fun hb => ?_) (fun hb => ?_) <;> first | (exact absurd hb (by first | assumption | decide)) | (with_reducible exact absurd hb Bool.false_ne_true) | (with_reducible exact absurd hb.symm Bool.false_ne_true) | (exfalso; first | (simp only [LENS] at hb <;> omega) | omega) | ((try rw [hb]); (try simp only [NRMS] at hb); (try subst hb)))
      | (refine Exists.intro ?_ ?_; focus (and_intros <;> first | omega | exact rfl | assumption | (intro _ hh; cases hh; done) | exact all_size (by rfl) | exact size_map (fun _ => rfl) | exact size_one rfl | exact take_size (fun _ => rfl) | exact dsize_one rfl | exact dsize_map (fun _ => rfl) | exact dsize_its (fun _ => rfl) | (simp only [LENS]; omega) | (simp; done) | decide))
      | (intro hfact))
    all_goals (try (conv => whnf))
    exact Done.mk ⟨rfl, by kernel_rfl⟩ (by kernel_rfl)
end Go.Ab


set_option maxRecDepth 100000
set_option maxHeartbeats 40000000
namespace Go.Ab
open Go.Proofs

def ga : Gra := ⟨⟨[97], [99]⟩, true, false⟩
def gb : Gra := ⟨⟨[99], [102]⟩, true, false⟩
def grantCmd (g : Gra) : Cmd := ⟨0, 0, [], 11, [114, 97], [], [], [], 0, 0, g, 0, [], [], []⟩
def awR : Roll := [ga, gb].foldl (fun r g => next r (grantCmd g)) basisM
theorem awR_fit : awR.Fit := next_fit (next_fit basis_fit _) _
theorem awR_eq : awR = ⟨7, [⟨[116], 0, 0⟩], [⟨[114, 111, 111, 116], [], [115], hashM [115] [119], []⟩, ⟨[117, 97], [116], [], hashM [] [], [[114, 97]]⟩], [⟨[114, 97], [116], [ga, gb]⟩]⟩ := by
  unfold awR
  rw [basis_eq]
  kernel_rfl
def be : Sp := ⟨[98], [101]⟩
theorem aw_read : allM awR [117, 97] false = [⟨[97], [99]⟩, ⟨[99], [102]⟩] := by rw [awR_eq]; kernel_rfl
theorem aw_write : allM awR [117, 97] true = [] := by rw [awR_eq]; kernel_rfl
theorem aw1 : mayM awR [117, 97] [be] [] = true := by unfold mayM; rw [aw_read, aw_write]; kernel_rfl
theorem aw2 : mayM awR [117, 97] [] [be] = false := by unfold mayM; rw [aw_read, aw_write]; kernel_rfl
theorem aw3 : uni (allM awR [117, 97] false) = [⟨[97], [102]⟩] := by rw [aw_read, ← rUnion_eq]; kernel_rfl
theorem spec_awake : Fn Try.prog F_exchequerlaw16_awake [] (Is (.v (.bool true)) []) := by
  refine of_exchequerlaw16_awake ?_ (by simp)
  have n0 := spec_basis
  have hAns : runL (foldStep (fun r g => next r (grantCmd g))) foldFin [ga, gb] basisM = awR := fold_run _ _ _
  have hm : [ga, gb].length ≤ maxLen := by simp [maxLen]
  have hfit := basis_fit
  have m1 := spec_may sortNil awR awR_fit [117, 97] [be] [] (by simp) (by simp)
  have m2 := spec_may sortNil awR awR_fit [117, 97] [] [be] (by simp) (by simp)
  have m3 := spec_spans sortNil awR awR_fit [117, 97] false
  rw [aw1] at m1
  rw [aw2] at m2
  rw [aw3] at m3
  obtain ⟨R0, hR0⟩ : ∃ R, R = basisM := ⟨_, rfl⟩
  rw [← hR0] at n0 hAns hfit
  generalize awR = A at hAns m1 m2 m3
  clear hR0
  repeat' ((conv => whnf); first
    | (refine And.intro (fun hb => ?_) (fun hb => ?_) <;> first | (exact absurd hb (by first | assumption | decide)) | (with_reducible exact absurd hb Bool.false_ne_true) | (with_reducible exact absurd hb.symm Bool.false_ne_true) | (exfalso; first | (simp only [LENS] at hb <;> omega) | omega) | ((try rw [hb]); (try simp only [NRMS] at hb); (try subst hb)))
    | (refine Exists.intro ?_ ?_; focus (and_intros <;> first | omega | exact rfl | assumption | (intro _ hh; cases hh; done) | exact all_size (by rfl) | exact size_map (fun _ => rfl) | exact size_one rfl | exact take_size (fun _ => rfl) | exact dsize_one rfl | exact dsize_map (fun _ => rfl) | exact dsize_its (fun _ => rfl) | (simp only [LENS]; omega) | (simp; done) | decide))
    | (intro hfact)
    | (refine CallWp.mk ⟨_, n0, ?_⟩; rintro _ _ ⟨rfl, rfl⟩))
  all_goals (try (conv => whnf))
  refine each [ga, gb] _ _ _ (fun k s => [(1, .box (.one (.i (Roll.toI s)))), (12, .v (.int .i64 k))]) (fun k s => s.Fit) R0 (by kernel_rfl) hfit hAns ?_ ?_ <;> clear hAns
  · rintro k s e he hk hi hA
    have hd := spec_do s hi.small (grantCmd e) (by have := hi.hV; omega) ⟨Nat.zero_le _, Nat.zero_le _⟩
    have hwk := wrap_succ hk hm
    have hn := next_fit hi (grantCmd e)
    obtain ⟨D, hD⟩ : ∃ D, D = doM s (grantCmd e) := ⟨_, rfl⟩
    have hD1 : next s (grantCmd e) = D.1 := by rw [hD]; rfl
    rw [← hD] at hd
    rw [hD1] at hn
    have hA' : runL (foldStep (fun r g => next r (grantCmd g))) foldFin ([ga, gb].drop (k + 1)) D.1 = A := by rw [← hD1]; exact hA
    clear hD hA
    rcases k with _ | _ | k
    · cases he
      dsimp only at hi ⊢
      repeat' ((conv => whnf); first
        | (refine And.intro (fun hb => ?_) (fun hb => ?_) <;> first | (exact absurd hb (by first | assumption | decide)) | (with_reducible exact absurd hb Bool.false_ne_true) | (with_reducible exact absurd hb.symm Bool.false_ne_true) | (exfalso; first | (simp only [LENS] at hb <;> omega) | omega) | ((try rw [hb]); (try simp only [NRMS] at hb); (try subst hb)))
        | (refine Exists.intro ?_ ?_; focus (and_intros <;> first | omega | exact rfl | assumption | (intro _ hh; cases hh; done) | exact all_size (by rfl) | exact size_map (fun _ => rfl) | exact size_one rfl | exact take_size (fun _ => rfl) | exact dsize_one rfl | exact dsize_map (fun _ => rfl) | exact dsize_its (fun _ => rfl) | (simp only [LENS]; omega) | (simp; done) | decide))
        | (intro hfact)
        | (refine CallWp.mk ⟨_, hd, ?_⟩; rintro _ _ ⟨rfl, rfl⟩))
      all_goals (try (conv => whnf))
      refine RoundE.by D.1 ?_ hn hA'
      rw [hwk]
      show norm _ _ = upd _ _
      kernel_rfl
    · cases he
      dsimp only at hi ⊢
      repeat' ((conv => whnf); first
        | (refine And.intro (fun hb => ?_) (fun hb => ?_) <;> first | (exact absurd hb (by first | assumption | decide)) | (with_reducible exact absurd hb Bool.false_ne_true) | (with_reducible exact absurd hb.symm Bool.false_ne_true) | (exfalso; first | (simp only [LENS] at hb <;> omega) | omega) | ((try rw [hb]); (try simp only [NRMS] at hb); (try subst hb)))
        | (refine Exists.intro ?_ ?_; focus (and_intros <;> first | omega | exact rfl | assumption | (intro _ hh; cases hh; done) | exact all_size (by rfl) | exact size_map (fun _ => rfl) | exact size_one rfl | exact take_size (fun _ => rfl) | exact dsize_one rfl | exact dsize_map (fun _ => rfl) | exact dsize_its (fun _ => rfl) | (simp only [LENS]; omega) | (simp; done) | decide))
        | (intro hfact)
        | (refine CallWp.mk ⟨_, hd, ?_⟩; rintro _ _ ⟨rfl, rfl⟩))
      all_goals (try (conv => whnf))
      refine RoundE.by D.1 ?_ hn hA'
      rw [hwk]
      show norm _ _ = upd _ _
      kernel_rfl
    · exact absurd hk (by simp only [List.length_cons, List.length_nil]; omega)
  · rintro s k rfl hi hA
    dsimp only at hi hA ⊢
    obtain rfl : s = A := hA
    repeat' ((conv => whnf); first
      | (refine And.intro (fun hb => ?_) (fun hb => ?_) <;> first | (exact absurd hb (by first | assumption | decide)) | (with_reducible exact absurd hb Bool.false_ne_true) | (with_reducible exact absurd hb.symm Bool.false_ne_true) | (exfalso; first | (simp only [LENS] at hb <;> omega) | omega) | ((try rw [hb]); (try simp only [NRMS] at hb); (try subst hb)))
      | (refine Exists.intro ?_ ?_; focus (and_intros <;> first | omega | exact rfl | assumption | (intro _ hh; cases hh; done) | exact all_size (by rfl) | exact size_map (fun _ => rfl) | exact size_one rfl | exact take_size (fun _ => rfl) | exact dsize_one rfl | exact dsize_map (fun _ => rfl) | exact dsize_its (fun _ => rfl) | (simp only [LENS]; omega) | (simp; done) | decide))
      | (intro hfact)
      | (refine CallWp.mk ⟨_, m1, ?_⟩; rintro _ _ ⟨rfl, rfl⟩)
      | (refine CallWp.mk ⟨_, m2, ?_⟩; rintro _ _ ⟨rfl, rfl⟩)
      | (refine CallWp.mk ⟨_, m3, ?_⟩; rintro _ _ ⟨rfl, rfl⟩))
    all_goals (try (conv => whnf))
    exact Done.mk ⟨rfl, by kernel_rfl⟩ (by kernel_rfl)
end Go.Ab

