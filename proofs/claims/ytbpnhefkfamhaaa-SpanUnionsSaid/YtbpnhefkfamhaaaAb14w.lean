/- One text of the proof whose last text says what is proved. -/
import Derived.Test.YtbpnhefkfamhaaaAb14z
import Derived.Laws.IdiomStrings
import Derived.Laws.BytesString
set_option linter.unusedVariables false
set_option linter.unusedSimpArgs false
namespace Go.Ab

def byteI (b : UInt8) : I := .int .u8 b.toNat
/-- A string's bytes, in a row of its own (its type's number lies beyond 1000000: it may be frozen behind its end). -/
def semS2B (d : Nat) (e : TypeId) (x : Opd) : M := rdI x fun u => match u with
  | .str s => setN d (.vec e 1 (s.map byteI))
  | _ => .fail
def s2bOk (P : Program) (src dst : TypeId) (e : TypeId) : Bool := decide (1000000 ≤ e) && match P.underlying src, P.underlying dst with
  | some .string, some (.slice e') => match P.underlying e' with
    | some (.int .u8) => true
    | _ => false
  | _, _ => false

def bytesOf : List I → Option (List UInt8)
  | [] => some []
  | .int .u8 n :: l => match bytesOf l with
    | some r => some (UInt8.ofNat n.toNat :: r)
    | none => none
  | _ :: _ => none
/-- A string of bytes. -/
def semB2S (d : Nat) (x : Opd) : M := match x with
  | .t n => .get n fun _ sv => match sv with
    | .bor s k v => .get s fun cur sv' => .need (v = cur) fun _ => match sv'.vecAt k with
      | some (_, sz, l) => match bytesOf l with
        | some r => .need (sz = 1 ∧ r.length ≤ maxLen) fun _ => setN d (.v (.str r))
        | none => .fail
      | none => .fail
    | _ => .fail
  | _ => .fail
def b2sOk (P : Program) (src dst : TypeId) : Bool := match P.underlying src, P.underlying dst with
  | some (.slice e), some .string => match P.underlying e with
    | some (.int .u8) => true
    | _ => false
  | _, _ => false

section
variable {P : Program} {N : Nat} {G : Mem} {σ : Lab} {Fr : Mem} {w0 : Base} {w : World} {st : St} {a : Act}

theorem bytes_reps {G : Mem} : ∀ (s : List UInt8), RepIs G (s.map byteI) (s.map fun b => Value.int .u8 b.toNat)
  | [] => by simp [RepIs]
  | b :: s => by
    simp only [List.map_cons, RepIs]
    exact ⟨[.int .u8 b.toNat], _, rfl, by simp [byteI, RepI], bytes_reps s⟩
theorem bytesOf_cells {G : Mem} : ∀ {l : List I} {cs : List Value} {r : List UInt8}, bytesOf l = some r → RepIs G l cs → r.length = l.length ∧ ∃ ns : List Int, cs = ns.map (Value.int .u8) ∧ r = ns.map fun n => UInt8.ofNat n.toNat
  | [], cs, r, h, hr => by
    cases h
    simp only [RepIs] at hr
    exact ⟨rfl, [], by simp [hr], rfl⟩
  | .int .u8 n :: l, cs, r, h, hr => by
    simp only [bytesOf] at h
    cases hb : bytesOf l with
    | none => simp [hb] at h
    | some r' =>
      simp only [hb, Option.some.injEq] at h
      subst h
      simp only [RepIs] at hr
      obtain ⟨c, d, rfl, h1, h2⟩ := hr
      simp only [RepI] at h1
      subst h1
      obtain ⟨hl, ns, rfl, rfl⟩ := bytesOf_cells hb h2
      exact ⟨by simp [hl], n :: ns, by simp, by simp⟩

theorem push_all : ∀ (ns : List Int) (s : ByteArray), (ns.foldl (fun r n => r.push (UInt8.ofNat n.toNat)) s) = ⟨⟨s.data.toList ++ ns.map fun n => UInt8.ofNat n.toNat⟩⟩
  | [], s => by simp
  | n :: ns, s => by
    rw [List.foldl_cons, push_all ns]
    simp [ByteArray.push]

theorem sound_s2b {o : Oper} {d : Nat} {src dst e : TypeId} {x : Operand} {x' : Opd} (hd : o.dst = some d) (ho : o.op = .convert src dst x) (hx : opdOk N x x' = true) (ht : s2bOk P src dst e = true) :
    Sound P N o (semS2B d e x') := by
  intro G σ Fr w0 st a w Q next E hN hr hw hn hdst
  subst hN
  obtain ⟨u, h1, hv⟩ := rdI_rep hr hx hw
  clear hw
  unfold s2bOk at ht
  simp only [Bool.and_eq_true, decide_eq_true_eq] at ht
  obtain ⟨hbig, ht⟩ := ht
  split at ht
  case h_2 => cases ht
  rename_i e' hsrc hdt
  split at ht
  case h_2 => cases ht
  rename_i he
  split at h1
  · rename_i s
    obtain ⟨hc, hlen⟩ := RepV.str.1 hv
    have hrun := run_bytes_of_string (P := P) w src dst e' ⟨⟨s⟩⟩ hsrc hdt he
    have hge := grownCap_ge w s.length 0 e'
    have hle := grownCap_le_maxLen w s.length 0 e' hlen
    have hsz : (⟨⟨s⟩⟩ : ByteArray).size = s.length := rfl
    rw [hsz] at hrun
    obtain ⟨cap, hcap⟩ : ∃ cap, cap = grownCap w s.length 0 e' := ⟨_, rfl⟩
    rw [← hcap] at hrun hge hle
    have hrow : (bytesRow ⟨⟨s⟩⟩ cap).toList = (s.map fun b => Value.int .u8 b.toNat) ++ List.replicate (cap - s.length) (.int .u8 0) := by
      simp [bytesRow, hsz]
    have hrsz : (bytesRow ⟨⟨s⟩⟩ cap).size = cap := by
      have : (bytesRow ⟨⟨s⟩⟩ cap).size = (bytesRow ⟨⟨s⟩⟩ cap).toList.length := by simp
      rw [this, hrow]
      simp
      omega
    obtain ⟨σ'', st'', r1, r2⟩ := hr.drew.newBlock (hdst d hd) (sv := .vec e 1 (s.map byteI)) (o := .cells (bytesRow ⟨⟨s⟩⟩ cap) e' ((bytesRow ⟨⟨s⟩⟩ cap).size, (bytesRow ⟨⟨s⟩⟩ cap).size + 1)) (c := .slice (some ⟨w.heap.size, 0, none⟩) s.length cap) rfl (by intro _ e; cases e)
      (fun σ1 _ hb => ⟨s.map fun b => Value.int .u8 b.toNat, ⟨by simp, .inr ⟨w.heap.size, cap, bytesRow ⟨⟨s⟩⟩ cap, by rw [List.length_map], Nat.zero_le _, ⟨e', _, heap_alloc_new w.drew _, .inr (Nat.le_refl _), fun h => absurd h (Nat.not_lt.2 hbig)⟩, by rw [List.length_map]; exact hge, hle, by rw [hrsz, Nat.mul_one], by
        rw [hrow, Nat.mul_one, List.length_map]
        conv => lhs; rw [← List.length_map (as := s) (f := fun b => Value.int .u8 b.toNat)]
        exact List.take_left⟩⟩, bytes_reps s, by
          intro u hu
          obtain ⟨b, _, rfl⟩ := List.mem_map.1 hu
          rfl, fun b hb' => by cases hb'; exact hb⟩) h1
    refine wp_value (w' := w.drew.alloc _) ?_ (by rw [hd]; exact hn G σ'' st'' _ _ (Mem.le.refl G) r1 r2)
    simp [execOp, ho, hc, hrun]
  · exact h1.elim

theorem sound_b2s {o : Oper} {d : Nat} {src dst : TypeId} {x : Operand} {x' : Opd} (hd : o.dst = some d) (ho : o.op = .convert src dst x) (hx : opdOk N x x' = true) (ht : b2sOk P src dst = true) :
    Sound P N o (semB2S d x') := by
  intro G σ Fr w0 st a w Q next E hN hr hw hn hdst
  subst hN
  unfold b2sOk at ht
  split at ht
  case h_2 => cases ht
  rename_i e hsrc hdt
  split at ht
  case h_2 => cases ht
  rename_i he
  have run : ∀ {c : Value} {s : List UInt8}, a.eval x = c → (Conv.bytesToString c).run P w = .ok (.string ⟨⟨s⟩⟩) w → (∃ ad l cap, c = .slice ad l cap) → (execOp a.eval o).run P w = .ok (.value (.string ⟨⟨s⟩⟩)) w := by
    rintro c s hc hrun ⟨ad, l, cap, rfl⟩
    have := run_convert_bytes_string (P := P) w src dst e ad l cap hsrc he hdt
    rw [hrun] at this
    simp [execOp, ho, hc, this]
  -- a row of bytes is read
  have row : ∀ {b off cap n : Nat} {bl : Array Value} {ty : TypeId} {fz : Nat × Nat} {l : List I} {cs : List Value} {r : List UInt8}, w.heap[b]? = some (.cells bl ty fz) → cs = (bl.toList.drop off).take n → n = l.length → RepIs G l cs → bytesOf l = some r →
      (Conv.bytesToString (.slice (some ⟨b, off, none⟩) n cap)).run P w = .ok (.string ⟨⟨r⟩⟩) w := by
    intro b off cap n bl ty fz l cs r hb hcs hn hrep hr
    obtain ⟨hl, ns, hns, hrs⟩ := bytesOf_cells hr hrep
    have hcl : cs.length = n := by rw [hns, List.length_map, hn, ← hl, hrs, List.length_map]
    have hload := run_loadCells_list (P := P) w ⟨b, off, none⟩ cs (fun j v hj => by
      rw [add_lit, cell_of_row w b (off + j) bl ty fz hb]
      have : bl[off + j]? = bl.toList[off + j]? := by simp
      rw [this, ← List.getElem?_drop]
      rw [hcs, List.getElem?_take] at hj
      split at hj
      · exact hj
      · cases hj)
    rw [hcl] at hload
    have := run_bytesToString (P := P) w ⟨b, off, none⟩ n cap ns (by rw [hload, hns])
    rw [this, push_all]
    simp [hrs]
  cases x' with
  | t n =>
    obtain ⟨rfl, hnlt⟩ := opdOk_t hx
    simp only [semB2S, M.wp] at hw
    cases hs : st[n]? with
    | none => simp [hs] at hw
    | some cur0 =>
      obtain ⟨ver, sv⟩ := cur0
      simp only [hs] at hw
      have hrep := hr.slot hnlt hs
      split at hw
      · rename_i s k v
        obtain ⟨cur, g1, g2, g3⟩ := hrep
        simp only [M.wp, g1] at hw
        obtain ⟨hv, hw⟩ := hw
        obtain ⟨e', sz', l, g4, g5⟩ := g3 hv
        simp only [g4] at hw
        split at hw
        · rename_i r hr'
          obtain ⟨⟨rfl, hmax⟩, hw⟩ := hw
          obtain ⟨xs, h1, h2, h3, h4⟩ := g5
          have hrun : (Conv.bytesToString (a.eval (.tmp n))).run P w = .ok (.string ⟨⟨r⟩⟩) w ∧ ∃ ad l cap, a.eval (.tmp n) = .slice ad l cap := by
            rcases h1.2 with ⟨hc, h0⟩ | ⟨g, cap, cur', hc, _, ⟨ty, fz, hg, _⟩, hn', hm, hsz, htk⟩
            · have hl0 : l = [] := List.eq_nil_of_length_eq_zero h0
              subst hl0
              cases hr'
              rw [hc]
              exact ⟨by simp [Conv.bytesToString]; rfl, _, _, _, rfl⟩
            · rw [hc]
              refine ⟨row (l := l) (cs := xs) hg ?_ rfl h2 hr', _, _, _, rfl⟩
              rw [List.drop_zero, ← htk, Nat.mul_one]
          obtain ⟨σ', st', r1, r2⟩ := hr.setNV (hdst d hd) (RepV.str.2 ⟨rfl, hmax⟩) hw
          exact wp_value (run rfl hrun.1 hrun.2) (by rw [hd]; exact hn G σ' st' _ w (Mem.le.refl G) r1 r2)
        · exact hw.elim
      · exact hw.elim
  | _ => exact hw.elim
end
end Go.Ab
