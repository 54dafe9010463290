/- One text of the proof whose last text says what is proved. -/
import Derived.Test.YtbpnhefkfamhaaaAb22
import Derived.ChangeSame
set_option linter.unusedVariables false
set_option linter.unusedSimpArgs false
namespace Go.Ab
open Go.ChangeShapes Go.Deep

theorem mapM_again {α β : Type} {f g : α → Option β} : ∀ {l : List α} {xs : List β}, l.mapM f = some xs → (∀ a ∈ l, ∀ y ∈ xs, f a = some y → g a = some y) → l.mapM g = some xs
  | [], xs, h, _ => by simpa using h
  | a :: l, xs, h, hg => by
    simp only [List.mapM_cons] at h ⊢
    obtain ⟨y, g1, g2⟩ := Option.bind_eq_some_iff.1 h
    obtain ⟨z, g3, g4⟩ := Option.bind_eq_some_iff.1 g2
    cases g4
    rw [hg a (List.mem_cons_self ..) y (List.mem_cons_self ..) g1]
    have := mapM_again (l := l) g3 fun b hb x hx => hg b (List.mem_cons_of_mem _ hb) x (List.mem_cons_of_mem _ hx)
    simp [this]

section
variable {H : Type} {enc : TypeId × Value → H} {P : Program} {W W' : World} {sp' : Nat → Bool} {held : Bool}

theorem cell_again (hk : ∀ (b : Nat) (o : Obj), W.heap[b]? = some o → W'.heap[b]? = some o) {a : Addr} {v : Value} (h : W.cell? a = some v) : W'.cell? a = some v := by
  unfold World.cell? at h ⊢
  split at h
  · rename_i bl ty fz hb
    rw [hk _ _ hb]
    exact h
  · cases h
theorem cells_again (hk : ∀ (b : Nat) (o : Obj), W.heap[b]? = some o → W'.heap[b]? = some o) {a : Addr} {n : Nat} {cs : List Value} (h : W.cells? 0 a n = some cs) : W'.cells? 0 a n = some cs := by
  unfold World.cells? at h ⊢
  split at h
  · rename_i h0
    rw [if_pos h0]
    exact mapM_again h fun i _ y _ hy => cell_again hk hy
  · cases h

/-- What was read is read again, where the old blocks are as they were. -/
theorem trod_again (hk : ∀ (b : Nat) (o : Obj), W.heap[b]? = some o → W'.heap[b]? = some o) : ∀ (fuel : Nat) (sh : Sh) {t : TypeId} {cs : List Value} {x : DataW H × List MemPlace}, sh.ok P t = true →
    DataW.trod enc P W 0 (fun _ => true) held fuel t cs = some x → (∀ p ∈ x.2, sp' p.block = true) → DataW.trod enc P W' 0 sp' held fuel t cs = some x
  | 0, sh, t, cs, x, ho, h, hp => by simp [DataW.trod] at h
  | fuel + 1, .int k, t, cs, x, ho, h, hp => by
    simp only [Sh.ok] at ho
    split at ho
    · rename_i k' ht
      obtain ⟨n, rfl, rfl, hw⟩ := DataW.trod_int ht h
      simp [DataW.trod, ht, hw]
    · cases ho
  | fuel + 1, .bool, t, cs, x, ho, h, hp => by
    simp only [Sh.ok] at ho
    split at ho
    · rename_i ht
      obtain ⟨b, rfl, rfl⟩ := DataW.trod_bool ht h
      simp [DataW.trod, ht]
    · cases ho
  | fuel + 1, .str, t, cs, x, ho, h, hp => by
    simp only [Sh.ok] at ho
    split at ho
    · rename_i ht
      obtain ⟨s, rfl, rfl, hs⟩ := DataW.trod_string ht h
      simp [DataW.trod, ht, hs]
    · cases ho
  | fuel + 1, .st l, t, cs, x, ho, h, hp => by
    simp only [Sh.ok] at ho
    split at ho
    · rename_i fs ht
      simp only [DataW.trod, ht] at h ⊢
      split at h
      · rename_i hl
        rw [if_pos hl]
        obtain ⟨xs, h1, rfl⟩ := Option.map_eq_some_iff.1 h
        have fld : ∀ (l : List Sh) (fs : List Field) (off tot : Nat) (xs : List (DataW H × List MemPlace)), Sh.oks P off tot fs l = true →
            (fs.mapM fun f => DataW.trod enc P W 0 (fun _ => true) held fuel f.type ((cs.drop f.offset).take (P.cellsOf f.type))) = some xs → (∀ y ∈ xs, ∀ p ∈ y.2, sp' p.block = true) →
            (fs.mapM fun f => DataW.trod enc P W' 0 sp' held fuel f.type ((cs.drop f.offset).take (P.cellsOf f.type))) = some xs := by
          intro l
          induction l with
          | nil =>
            intro fs off tot xs ho h hp
            cases fs with
            | nil => simpa using h
            | cons f fs => simp [Sh.oks] at ho
          | cons s l ih =>
            intro fs off tot xs ho h hp
            cases fs with
            | nil => simp [Sh.oks] at ho
            | cons f fs =>
              simp only [Sh.oks, Bool.and_eq_true, beq_iff_eq] at ho
              simp only [List.mapM_cons] at h ⊢
              obtain ⟨y, g1, g2⟩ := Option.bind_eq_some_iff.1 h
              obtain ⟨z, g3, g4⟩ := Option.bind_eq_some_iff.1 g2
              cases g4
              rw [trod_again hk fuel s ho.1.2 g1 (hp y (List.mem_cons_self ..))]
              have := ih fs _ _ z ho.2 g3 fun y hy => hp y (List.mem_cons_of_mem _ hy)
              simp [this]
        rw [fld l fs.toList 0 _ xs ho h1 fun y hy p hp' => hp p (List.mem_flatMap.2 ⟨y, hy, hp'⟩)]
        rfl
      · cases h
    · cases ho
  | fuel + 1, .ar sz n e, t, cs, x, ho, h, hp => by
    simp only [Sh.ok] at ho
    split at ho
    · rename_i m e' ht
      simp only [Bool.and_eq_true, beq_iff_eq] at ho
      simp only [DataW.trod, ht] at h ⊢
      split at h
      · rename_i hl
        rw [if_pos hl]
        obtain ⟨xs, h1, rfl⟩ := Option.map_eq_some_iff.1 h
        rw [mapM_again h1 fun i _ y hy h2 => trod_again hk fuel e ho.2 h2 fun p hp' => hp p (List.mem_flatMap.2 ⟨y, hy, hp'⟩)]
        rfl
      · cases h
    · cases ho
  | fuel + 1, .sl sz e, t, cs, x, ho, h, hp => by
    simp only [Sh.ok] at ho
    split at ho
    · rename_i e' ht
      simp only [Bool.and_eq_true, beq_iff_eq, bne_iff_ne, ne_eq] at ho
      obtain ⟨⟨hsz, hz⟩, he⟩ := ho
      have elem : ∀ {a : Addr} {i : Nat} {y : DataW H × List MemPlace}, (∀ p ∈ y.2, sp' p.block = true) → ((W.cells? 0 (a.add (i * P.cellsOf e')) (P.cellsOf e')).bind (DataW.trod enc P W 0 (fun _ => true) held fuel e')) = some y →
          ((W'.cells? 0 (a.add (i * P.cellsOf e')) (P.cellsOf e')).bind (DataW.trod enc P W' 0 sp' held fuel e')) = some y := by
        intro a i y hy h
        obtain ⟨cs', g1, g2⟩ := Option.bind_eq_some_iff.1 h
        rw [cells_again hk g1]
        exact trod_again hk fuel e he g2 hy
      have hcs : cs = [.slice none 0 0] ∨ ∃ a len cap, cs = [.slice (some a) len cap] := by
        rcases open_slice ht h with ⟨h1, _⟩ | ⟨a, len, cap, _, _, _, _, h1, _⟩
        · exact .inl h1
        · exact .inr ⟨a, len, cap, h1⟩
      rcases hcs with rfl | ⟨a, len, cap, rfl⟩
      · simp only [DataW.trod, ht] at h ⊢
        exact h
      · simp only [DataW.trod, ht] at h ⊢
        split at h
        · rename_i hc
          rw [if_pos hc]
          obtain ⟨elems, g1, g2⟩ := Option.bind_eq_some_iff.1 h
          obtain ⟨rest, g3, rfl⟩ := Option.map_eq_some_iff.1 g2
          have hrow : 0 < elems.length + rest.length → sp' a.block = true := by
            intro h0
            refine hp (.cell a.block (a.off + 0)) (List.mem_append_left _ ?_)
            unfold MemPlace.row
            refine List.mem_map.2 ⟨0, List.mem_range.2 (Nat.mul_pos h0 (by omega)), rfl⟩
          have hel : ∀ y ∈ elems ++ rest, ∀ p ∈ y.2, sp' p.block = true := fun y hy p hp' => hp p (List.mem_append_right _ (List.mem_flatMap.2 ⟨y, hy, hp'⟩))
          have k1 := mapM_again g1 fun i _ y hy h => elem (hel y (List.mem_append_left _ hy)) h
          rw [k1]
          simp only [if_true] at g3
          have k2 : (if sp' a.block = true then (List.range (cap - len)).mapM fun j => ((W'.cells? 0 (a.add ((len + j) * P.cellsOf e')) (P.cellsOf e')).bind (DataW.trod enc P W' 0 sp' held fuel e')) else some []) = some rest := by
            have k3 := mapM_again g3 fun j _ y hy h => elem (hel y (List.mem_append_right _ hy)) h
            cases hs : sp' a.block with
            | true => rw [if_pos rfl]; exact k3
            | false =>
              rw [if_neg (by decide)]
              have hr0 : rest = [] := by
                cases rest with
                | nil => rfl
                | cons r rs =>
                  have := hrow (by simp; omega)
                  rw [hs] at this
                  cases this
              rw [hr0]
          simp only [Option.bind_some]
          rw [k2]
          rfl
        · cases h
    · cases ho
end
end Go.Ab
