/- One text of the proof whose last text says what is proved. -/
import Derived.Test.YtakdglpanebopaaAb21
import Derived.Shelf.Spec.SlicesGrow
set_option linter.unusedVariables false
set_option linter.unusedSimpArgs false
namespace Go.Ab
open Go.Shelf Go.RowKit

theorem zeroCells_size (z : Array Value) (n : Nat) : (Builtin.zeroCells z n).size = n * z.size := by
  simp [Builtin.zeroCells]

theorem grow_fn {P : Program} {ρ : Ren} (L : Go.Proofs.Lays8.n4 P ρ) {i : TypeInfo} {z : Value} (hi : P.info? (ρ.t 25) = some i) (hz : i.zero = some z) (hzs : z.cells.size = i.size) (h0 : 0 < i.size) (hb : i.bytes ≤ 100000) (n : Nat) (hn : n ≤ 1000000) :
    Fn P (ρ.f 4) [.vec (ρ.t 25) i.size [], .v (.int .i64 n)] (Is (.vec (ρ.t 25) i.size []) [.no, .no]) := by
  intro G σ Fr w cargs hok hlen hargs
  have hc0 := (hargs 0 _ rfl).2
  have hc1 : RepV G (.int .i64 n) (cargs.getD 1 undef) := (hargs 1 _ rfl).2
  rw [RepV.int] at hc1
  have hca : cargs = #[cargs.getD 0 undef, .int .i64 n] := by
    rw [← hc1]
    apply Array.ext
    · simpa using hlen
    · intro j h1 h2
      have : j = 0 ∨ j = 1 := by simp at h2; omega
      rcases this with rfl | rfl <;> simp [Array.getD, h1]
  generalize cargs.getD 0 undef = c0 at hc0 hca
  obtain ⟨xs, hown, hrep0, _, hlab⟩ := (show VecAt G σ w (0, 0) (ρ.t 25) i.size [] c0 from hc0)
  have outs : ∀ (w' : World) (σ' : Lab), ∀ (j : Nat) (sv : SV), [SV.no, SV.no][j]? = some sv → sv.root = none ∧ RepOwn G σ' w' j sv (cargs.getD j undef) := by
    intro w' σ' j sv hj
    have : sv = .no := by
      have := List.mem_of_getElem? hj
      simpa using this
    subst this
    exact ⟨rfl, trivial⟩
  have room : ∀ (base : Option Addr) (cap : Nat), c0 = .slice base 0 cap → n ≤ cap → cap ≤ maxLen → Calls P (ρ.f 4) cargs w fun e w' => ∃ (r : SV) (os : List SV) (c : Value) (G' : Mem) (σ' : Lab), e = .returned c ∧ Is (.vec (ρ.t 25) i.size []) [.no, .no] r os ∧ G.le G' ∧ WOk G' σ' Fr ⟨w, 0, #[]⟩ w' ∧
      r.root = none ∧ RepOwn G' σ' w' 2 r c ∧ os.length = 2 ∧ ∀ i sv, os[i]? = some sv → sv.root = none ∧ RepOwn G' σ' w' i sv (cargs.getD i undef) := by
    intro base cap hc hnc hcm
    rw [hca, hc]
    refine (Go.Proofs.Any8.slices_Grow_room L base 0 cap n w (Nat.zero_le _) (by simpa [maxLen] using hcm) (by omega) (by omega)).mono ?_
    rintro e w' ⟨rfl, rfl⟩
    let σ' : Lab := fun b => if σ b = some (0, 0) then some (2, 0) else none
    have inv : ∀ {b lab}, σ' b = some lab → σ b = some (0, 0) ∧ lab = (2, 0) := by
      intro b lab h
      simp only [σ'] at h
      split at h
      · rename_i h1; cases h; exact ⟨h1, rfl⟩
      · cases h
    refine ⟨_, _, _, G, σ', rfl, ⟨rfl, rfl⟩, Mem.le.refl G, ⟨hok.fixed, fun b lab h => hok.own b _ (inv h).1, fun b b' lab h h' => hok.inj b b' _ (inv h).1 (inv h').1, hok.frame, rfl, rfl, rfl, Nat.le_refl _, hok.apart⟩, rfl, ?_, rfl, ?_⟩
    · refine ⟨xs, by rw [← hc]; exact hown, hrep0, by simp, ?_⟩
      intro b hb'
      rw [← hc] at hb'
      simp only [σ', hlab b hb', if_true]
    · rw [← hc, ← hca]
      exact outs w' σ'
  have grow : ∀ (base : Option Addr) (cap : Nat) (cs : List Value), c0 = .slice base 0 cap → cap < n → cs.length = cap * i.size → (base = none → cap = 0) → (∀ a, base = some a → ∀ j v, cs[j]? = some v → w.cell? (a.add j) = some v) →
      Calls P (ρ.f 4) cargs w fun e w' => ∃ (r : SV) (os : List SV) (c : Value) (G' : Mem) (σ' : Lab), e = .returned c ∧ Is (.vec (ρ.t 25) i.size []) [.no, .no] r os ∧ G.le G' ∧ WOk G' σ' Fr ⟨w, 0, #[]⟩ w' ∧
      r.root = none ∧ RepOwn G' σ' w' 2 r c ∧ os.length = 2 ∧ ∀ i sv, os[i]? = some sv → sv.root = none ∧ RepOwn G' σ' w' i sv (cargs.getD i undef) := by
    intro base cap cs hc hcn hcl hnil hcs
    have hbig : (0 + n) * i.bytes ≤ 140737488355328 := by
      have : (0 + n) * i.bytes ≤ 1000000 * 100000 := Nat.mul_le_mul (by omega) hb
      omega
    rw [hca, hc]
    refine (Go.Proofs.Any8.slices_Grow_grow L i z hi hz h0 base 0 cap n cs w (Nat.zero_le _) (by omega) hbig (by omega) hcl hnil hcs).mono ?_
    rintro e w' ⟨rfl, rfl⟩
    have hge := grownCap_ge w (0 + n) cap (ρ.t 25)
    have hle := grownCap_le_maxLen w (0 + n) cap (ρ.t 25) (by simp only [maxLen]; omega)
    generalize grownCap w (0 + n) cap (ρ.t 25) = gc at hge hle ⊢
    let σ' : Lab := fun b => if b = w.heap.size then some (2, 0) else none
    have inv : ∀ {b lab}, σ' b = some lab → b = w.heap.size ∧ lab = (2, 0) := by
      intro b lab h
      simp only [σ'] at h
      split at h
      · rename_i h1; cases h; exact ⟨h1, rfl⟩
      · cases h
    have hold : ∀ (o : Obj) (b : Nat) (o' : Obj), w.heap[b]? = some o' → (w.drew.alloc o).heap[b]? = some o' := by
      intro o b o' hb'
      have hlt := (Array.getElem?_eq_some_iff.1 hb').1
      show (w.heap.push o)[b]? = _
      rw [Array.getElem?_push, if_neg (by omega)]
      exact hb'
    have hfr : ∀ (M : Mem), (∀ (b : Nat) (o : Obj), M b = some o → w.heap[b]? = some o) → M w.heap.size = none := by
      intro M hM
      cases hx : M w.heap.size with
      | none => rfl
      | some o =>
        have := (Array.getElem?_eq_some_iff.1 (hM _ _ hx)).1
        omega
    refine ⟨_, _, _, G, σ', rfl, ⟨rfl, rfl⟩, Mem.le.refl G, ⟨fun b o h => hold _ b o (hok.fixed b o h), ?_, ?_, fun b o h => hold _ b o (hok.frame b o h), rfl, rfl, rfl, ?_, hok.apart⟩, rfl, ?_, rfl, ?_⟩
    · intro b lab h
      rw [(inv h).1]
      exact ⟨hfr G hok.fixed, hfr Fr hok.frame, by show _ < (w.heap.push _).size; simp⟩
    · intro b b' lab h h'
      rw [(inv h).1, (inv h').1]
    · show w.heap.size ≤ (w.heap.push _).size
      simp
    · refine ⟨[], ⟨by simp, .inr ⟨w.heap.size, gc, cs.toArray ++ Builtin.zeroCells z.cells (0 + n - cap) ++ Builtin.zeroCells z.cells (gc - (0 + n)), rfl, Nat.zero_le _, ?_, Nat.zero_le _, hle, ?_, by simp⟩⟩, rfl, by simp, ?_⟩
      · show (w.heap.push _)[w.heap.size]? = _
        rw [Array.getElem?_push, if_pos rfl]
      · simp only [Array.size_append, List.size_toArray, hcl, zeroCells_size, hzs]
        rw [← Nat.add_mul, ← Nat.add_mul]
        congr 1
        omega
      · intro b hb'
        simp only [Value.ownBlock, Option.some.injEq] at hb'
        simp only [σ', ← hb', if_true]
    · rw [← hc, ← hca]
      exact outs _ σ'
  rcases hown.2 with ⟨hc, _⟩ | ⟨g, cap, cur, hc, _, hg, _, hcm, hcur, _⟩
  · by_cases hn0 : n = 0
    · exact room none 0 hc (by omega) (by simp [maxLen])
    · exact grow none 0 [] hc (by omega) (by simp) (fun _ => rfl) (fun a h => by cases h)
  · by_cases hnc : n ≤ cap
    · exact room _ cap hc hnc hcm
    · refine grow _ cap cur.toList hc (by omega) (by simpa using hcur) (fun h => by cases h) ?_
      rintro a ha j v hj
      cases ha
      rw [add_lit, cell_of_row w g (0 + j) cur _ _ hg]
      simpa using hj
end Go.Ab
