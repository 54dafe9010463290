/- One text of the proof whose last text says what is proved. -/
import Derived.Test.YtbpnhefkfamhaaaP4b
import Derived.Test.YtbpnhefkfamhaaaP3
set_option linter.unusedVariables false
set_option linter.unusedSimpArgs false
set_option maxRecDepth 100000
namespace Go.Ab
open Go.Proofs Go.Shelf Go.RowKit Go.Lib Go.Sort

theorem flat_get : ∀ (l : List Sp) (t : Nat), t < l.length * 2 → ((l.map encSp).flatten)[t]? = some ((encSp (l[t / 2]!))[t % 2]!)
  | [], t, h => by simp at h
  | s :: r, 0, _ => by simp [encSp]
  | s :: r, 1, _ => by simp [encSp]
  | s :: r, t + 2, h => by
    have := flat_get r t (by simp at h; omega)
    rw [show (t + 2) / 2 = t / 2 + 1 by omega, show (t + 2) % 2 = t % 2 by omega]
    simp only [List.map_cons, List.flatten_cons]
    rw [List.getElem?_append_right (by simp [encSp])]
    simpa [encSp] using this
theorem flat_length : ∀ l : List Sp, ((l.map encSp).flatten).length = l.length * 2
  | [] => rfl
  | s :: r => by
    simp only [List.map_cons, List.flatten_cons, List.length_append, flat_length r, List.length_cons]
    simp [encSp]
    omega
theorem flat_list (l : List Sp) : (flatK encSp 2 l.toArray).toList = (l.map encSp).flatten := by
  apply List.ext_getElem?
  intro t
  by_cases h : t < l.length * 2
  · rw [flat_get l t h]
    have hs : t < (flatK encSp 2 l.toArray).size := by simpa using h
    have := get_flatK encSp 2 l.toArray t (by simpa using h)
    rw [getElem!_pos _ t hs] at this
    rw [Array.getElem?_toList, Array.getElem?_eq_getElem hs, this]
    simp
  · rw [List.getElem?_eq_none (by simp; omega), List.getElem?_eq_none (by rw [flat_length]; omega)]
theorem rep_sp {G : Mem} {s : Sp} {cs : List Value} : RepI G s.toI cs ↔ cs = encSp s ∧ s.f.length ≤ maxLen ∧ s.t.length ≤ maxLen := by
  unfold Sp.toI encSp
  simp only [RepI, RepIs]
  constructor
  · rintro ⟨c, d, rfl, ⟨rfl, h1⟩, c', d', rfl, ⟨rfl, h2⟩, rfl⟩
    exact ⟨rfl, h1, h2⟩
  · rintro ⟨rfl, h1, h2⟩
    exact ⟨_, _, rfl, ⟨rfl, h1⟩, _, _, rfl, ⟨rfl, h2⟩, rfl⟩
theorem rep_sps {G : Mem} : ∀ {l : List Sp} {cs : List Value}, RepIs G (sps l) cs ↔ cs = (l.map encSp).flatten ∧ ∀ s ∈ l, s.f.length ≤ maxLen ∧ s.t.length ≤ maxLen
  | [], cs => by simp [RepIs, sps]
  | s :: r, cs => by
    simp only [sps, List.map_cons, RepIs, List.flatten_cons]
    constructor
    · rintro ⟨c, d, rfl, h1, h2⟩
      obtain ⟨rfl, h3⟩ := rep_sp.1 h1
      obtain ⟨rfl, h4⟩ := rep_sps.1 h2
      refine ⟨rfl, fun x hx => ?_⟩
      rcases List.mem_cons.1 hx with rfl | hx
      · exact h3
      · exact h4 x hx
    · rintro ⟨rfl, h⟩
      exact ⟨_, _, rfl, rep_sp.2 ⟨rfl, h s (List.mem_cons_self ..)⟩, rep_sps.2 ⟨rfl, fun x hx => h x (List.mem_cons_of_mem _ hx)⟩⟩

theorem holds_of_blockK {w : World} {g : Nat} {cur : Array Value} {e : TypeId} {l : List Sp} (hb : w.heap[g]? = some (.cells cur e (0, 0))) (ht : cur.toList.take (l.length * 2) = (l.map encSp).flatten) : HoldsK encSp 2 w g 0 l.toArray := by
  intro j hj
  have hj' : j < l.length * 2 := by simpa using hj
  refine ⟨?_, by simp [World.frozen?, hb]⟩
  have h1 : (cur.toList.take (l.length * 2))[j]? = ((l.map encSp).flatten)[j]? := by rw [ht]
  rw [List.getElem?_take_of_lt hj', flat_get l j hj'] at h1
  simp only [World.cell?, hb, Nat.zero_add]
  simp only [Option.isSome_none, Bool.false_eq_true, if_false]
  rw [← Array.getElem?_toList, h1, get_flatK encSp 2 l.toArray j (by simpa using hj')]
  simp
theorem heap_sortedK {w : World} {g n : Nat} {os : Array Obj} {cur : Array Value} {e : TypeId} {fr : Nat × Nat} (d : Array Sp) (hb : w.heap[g]? = some (.cells cur e fr)) :
    (sortWorldK encSp 2 w g 0 n d os).heap[g]? = some (.cells (putCells id 0 (flatK encSp 2 d) cur) e fr) := by
  have hg : g < w.heap.size := (Array.getElem?_eq_some_iff.1 hb).1
  unfold sortWorldK putRowK
  rw [heap_grow_old _ _ (by simpa using hg)]
  simp [putRow, mapBlock, Sort.ahead, Array.getElem?_modify, hb, onCells]
theorem grownBy_sortedK {w : World} {g n : Nat} {os : Array Obj} (d : Array Sp) : w.grownBy (sortWorldK encSp 2 w g 0 n d os) (some g) := by
  unfold sortWorldK putRowK
  refine ⟨rfl, rfl, rfl, by simp, fun k hk hne => ?_⟩
  rw [heap_grow_old _ _ (by simpa using hk)]
  have : g ≠ k := fun e => hne (by rw [e])
  simp [putRow, mapBlock, Sort.ahead, Array.getElem?_modify, this]
theorem take_putCellsK (cur : Array Value) (F : Array Value) (h : F.size ≤ cur.size) : (putCells id 0 F cur).toList.take F.size = F.toList := by
  apply List.ext_getElem?
  intro j
  by_cases hj : j < F.size
  · rw [List.getElem?_take_of_lt hj, Array.getElem?_toList]
    simp [putCells, hj, show j < cur.size by omega]
  · rw [List.getElem?_take_eq_none (by omega), List.getElem?_eq_none (by simp; omega)]

/-- slices.SortFunc by the beginnings. -/
theorem spec_sort (l : List Sp) (hne : l ≠ []) (hlen : l.length ≤ 1000000) : Fn Try.prog 30 [.vec 29 2 (sps l), .v (.fn 31)]
    (fun r outs => ∃ p : List Sp, p.Perm l ∧ (p.Pairwise fun x y => x.f ≤ y.f) ∧ r = .tup [] ∧ outs = [.vec 29 2 (sps p), .no]) := by
  intro G σ Fr w cargs hok hcl hargs
  have hc0 := (hargs 0 _ rfl).2
  have hc1 : RepV G (.fn 31) (cargs.getD 1 undef) := (hargs 1 _ rfl).2
  rw [RepV.fn] at hc1
  have hca : cargs = #[cargs.getD 0 undef, .func (.func 31) #[] #[]] := by
    rw [← hc1]
    apply Array.ext
    · simpa using hcl
    · intro j h1 h2
      have : j = 0 ∨ j = 1 := by simp at h2; omega
      rcases this with rfl | rfl <;> simp [Array.getD, h1]
  generalize cargs.getD 0 undef = c0 at hc0 hca
  obtain ⟨xs, hown, hrep, hsz, hlab⟩ := (show VecAt G σ w (0, 0) 29 2 (sps l) c0 from hc0)
  obtain ⟨hxs, hlens⟩ := rep_sps.1 hrep
  have hlm : (sps l).length = l.length := List.length_map ..
  rcases hown.2 with ⟨_, h0⟩ | ⟨g, cap, cur, rfl, _, hrow, hn, hcm, hcur, htk⟩
  · rw [hlm] at h0
    exact absurd (List.eq_nil_of_length_eq_zero h0) hne
  have hg := hrow.to (by decide)
  rw [hlm] at hn htk
  have hgs : g < w.heap.size := (Array.getElem?_eq_some_iff.1 hg).1
  have hH : HoldsK encSp 2 w g 0 l.toArray := holds_of_blockK hg (by rw [htk, hxs])
  have hlb : σ g = some (0, 0) := hlab g rfl
  have eg : ∀ args w, (callFunc 31 args).run Try.prog w = .ok (.enter 31 args) w := enters_of Try.func31 (by kernel_rfl) rfl
  have aE : ∀ w, (isAgg (sortRen.t 24)).run Try.prog w = .ok true w := fun _ => by kernel_rfl
  have zE : ∀ w, (Go.sizeOf (sortRen.t 24)).run Try.prog w = .ok 2 w := fun _ => by kernel_rfl
  have hcall := AnyQ.slices_SortFunc sortT 2 aE zE encSp (fun _ => rfl) (fun x v hv => by simp [encSp] at hv; rcases hv with rfl | rfl <;> rfl) (fun x y => cmpS x.f y.f) swoF 31 #[] g 0 cap l.toArray w eg (kit_lays g 0 _ w) hH hgs (by simp; omega)
  rw [hca]
  rw [hlm]
  have hsize : l.toArray.size = l.length := by simp
  rw [hsize] at hcall
  refine Calls.mono hcall ?_
  rintro e w' ⟨rfl, d', n, os, hperm, hsorted, rfl⟩
  obtain ⟨hps, _, hpp⟩ := hperm
  have hd : d'.size = l.length := by rw [hps]; simp
  have hp : d'.toList.Perm l := by
    have e1 : (d'.extract 0 l.length).toList = d'.toList := by
      rw [← hd]; simp
    have e2 : (l.toArray.extract 0 l.length).toList = l := by simp
    rw [e1, e2] at hpp
    exact hpp
  have hgr := grownBy_sortedK (w := w) (g := g) (n := n) (os := os) d'
  have hnew := heap_sortedK (n := n) (os := os) d' hg
  have hdl : d' = d'.toList.toArray := by simp
  have hplen : d'.toList.length = l.length := by simpa using hd
  have hok' : WOk G σ Fr ⟨w, 0, #[]⟩ (sortWorldK encSp 2 w g 0 n d' os) := by
    refine ⟨?_, ?_, hok.inj, ?_, hgr.os, hgr.tape, hgr.output, hgr.size, hok.apart⟩
    · intro b o hb
      have := hok.fixed b o hb
      rw [hgr.block b (Array.getElem?_eq_some_iff.1 this).1 (by rintro e; cases e; rw [(hok.own g _ hlb).1] at hb; cases hb)]
      exact this
    · intro b lab hb
      obtain ⟨h1, h2, h3⟩ := hok.own b lab hb
      exact ⟨h1, h2, Nat.lt_of_lt_of_le h3 hgr.size⟩
    · intro b o hb
      have := hok.frame b o hb
      rw [hgr.block b (Array.getElem?_eq_some_iff.1 this).1 (by rintro e; cases e; rw [(hok.own g _ hlb).2.1] at hb; cases hb)]
      exact this
  refine ⟨_, _, _, G, σ, rfl, ⟨d'.toList, hp, ?_, rfl, rfl⟩, Mem.le.refl G, hok', rfl, ⟨#[], rfl, rfl⟩, by simp, ?_⟩
  · rw [List.pairwise_iff_getElem]
    intro i j hi hj hij
    have := hsorted i j (Nat.zero_le _) hij (by simpa [hd] using hj)
    rw [ltF] at this
    have hi' : i < d'.size := by simpa using hi
    have hj' : j < d'.size := by simpa using hj
    rw [getElem!_pos d' j hj', getElem!_pos d' i hi'] at this
    simp at this
    simpa using this
  · intro i sv hi
    have hi2 : i = 0 ∨ i = 1 := by
      have := (List.getElem?_eq_some_iff.1 hi).1
      simp at this
      omega
    rcases hi2 with rfl | rfl
    · cases hi
      refine ⟨rfl, ?_⟩
      have hpl : (sps d'.toList).length = l.length := by rw [List.length_map, hplen]
      show VecAt G σ _ (0, 0) 29 2 (sps d'.toList) _
      refine ⟨(d'.toList.map encSp).flatten, ⟨by rw [flat_length, hpl, hplen], .inr ⟨g, cap, _, by rw [hpl]; rfl, Nat.zero_le _, Row.of hnew, by rw [hpl]; exact hn, hcm, by simpa [putCells] using hcur, ?_⟩⟩, rep_sps.2 ⟨rfl, fun s hs => hlens s (hp.mem_iff.1 hs)⟩, sps_size _, fun b hb => ?_⟩
      · have hF : (flatK encSp 2 d').size = l.length * 2 := by simp [hd]
        have := take_putCellsK cur (flatK encSp 2 d') (by rw [hF, hcur]; exact Nat.mul_le_mul_right _ hn)
        rw [hpl, ← hF, this]
        conv => lhs; rw [hdl]
        rw [flat_list]
      · cases hb
        exact hlb
    · cases hi
      exact ⟨rfl, trivial⟩
end Go.Ab
