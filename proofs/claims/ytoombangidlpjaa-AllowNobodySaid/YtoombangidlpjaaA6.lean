/- One text of the proof whose last text says what is proved. -/
import Derived.Test.YtoombangidlpjaaA0
import Derived.Test.YtoombangidlpjaaR14
set_option linter.unusedVariables false
set_option linter.unusedSimpArgs false
set_option maxRecDepth 100000
set_option maxHeartbeats 4000000
namespace Go.Ab
open Go.Proofs

abbrev bys (s : Str) : List I := s.map byteI
theorem bytesOf_bys : ∀ s : Str, bytesOf (bys s) = some s
  | [] => rfl
  | b :: s => by simp [bys, byteI, bytesOf, bytesOf_bys s]
theorem bys_get {s : Str} {k : Nat} {x : UInt8} (h : s[k]? = some x) : (bys s)[k]? = some (.int .u8 x.toNat) := by simp [h, byteI]
theorem bys_size (s : Str) : ∀ u ∈ bys s, u.size = 1 := by
  intro u hu
  obtain ⟨b, _, rfl⟩ := List.mem_map.1 hu
  rfl
theorem wrap_u8 (n : Int) : IntKind.u8.wrap n = n % 256 := by simp [IntKind.wrap, IntKind.bits, IntKind.signed]
theorem wrap_u32 (n : Int) : IntKind.u32.wrap n = n % 4294967296 := by simp [IntKind.wrap, IntKind.bits, IntKind.signed]
theorem wrap_u64 (n : Int) : IntKind.u64.wrap n = n % 18446744073709551616 := by simp [IntKind.wrap, IntKind.bits, IntKind.signed]
/-- So many bytes of a number, the highest first. -/
def numB (n : Nat) : Nat → Str
  | 0 => []
  | k + 1 => numB (n / 256) k ++ [UInt8.ofNat (n % 256)]
theorem numB_length : ∀ (n k : Nat), (numB n k).length = k
  | _, 0 => rfl
  | n, k + 1 => by simp [numB, numB_length (n / 256) k]
theorem spec_number (n k : Nat) (hn : n < 18446744073709551616) (hk : k ≤ 1000) : Fn Try.prog F_exchequerref02_number [.v (.int .u64 n), .v (.int .i64 k)] (Is (.vec 5 1 (bys (numB n k))) [.no, .no]) := by
  refine ofv_exchequerref02_number ?_ (by simp)
  have hw0 : IntKind.i64.wrap ((k : Int) - 1) = (k : Int) - 1 := wrap_id (by omega)
  repeat' ((conv => whnf); first
    | (refine And.intro (fun hb => ?_) (fun hb => ?_) <;> first | (exact absurd hb (by first | assumption | decide)) | (rw [hb]) | skip)
    | (refine Exists.intro ?_ ?_; focus (and_intros <;> first | omega | exact rfl | assumption | (intro _ hh; cases hh; done) | exact all_size (by rfl) | (simp; done) | decide))
    | (intro hfact)
    | ((with_reducible apply Drawn.by0); (focus kernel_rfl); intro hfact)
    | ((try dsimp only); rw [hw0]))
  all_goals (try (conv => whnf))
  refine LoopWq.by (X := Nat × Nat × Str) (fun x => [(0, .v (.int .u64 x.2.1)), (5, .vec 5 1 (List.replicate x.1 (.int .u8 0) ++ bys x.2.2)), (6, .v (.int .i64 ((x.1 : Int) - 1)))])
    (fun x => x.1 ≤ k ∧ x.2.1 < 18446744073709551616 ∧ numB x.2.1 x.1 ++ x.2.2 = numB n k) (fun x => x.1)
    (k, n, []) (by simp only [bys, List.map_nil, List.append_nil]; kernel_rfl) ⟨Nat.le_refl _, hn, by simp⟩ ?_
  rintro ⟨j, m, t⟩ ⟨h1, h2, h3⟩
  dsimp only at h1 h2 h3 ⊢
  rcases j with _ | j
  · simp only [List.replicate_zero, List.nil_append]
    repeat' ((conv => whnf); first
      | (refine And.intro (fun hb => ?_) (fun hb => ?_) <;> first | (exact absurd hb (by first | assumption | decide)) | (rw [hb]) | skip)
      | (refine Exists.intro ?_ ?_; focus (and_intros <;> first | omega | exact rfl | assumption | (intro _ hh; cases hh; done) | exact all_size (by rfl) | (simp; done) | decide))
      | (intro hfact)
      | ((with_reducible apply Drawn.by0); (focus kernel_rfl); intro hfact))
    all_goals (try (conv => whnf))
    refine Done.mk ⟨congrArg (fun l => SV.vec 5 1 (bys l)) ?_, by kernel_rfl⟩ (by kernel_rfl)
    simpa [numB] using h3
  · rw [show ((j + 1 : Nat) : Int) - 1 = (j : Int) by omega]
    have n1 : ¬ decide (0 ≤ (j : Int)) = false := by simp
    have hgl : j < (List.replicate (j + 1) (I.int .u8 0) ++ bys t).length := by simp; omega
    have hg : (List.replicate (j + 1) (I.int .u8 0) ++ bys t)[Int.toNat (j : Int)]? = some (.int .u8 0) := by
      rw [Int.toNat_natCast, List.getElem?_append_left (by simp), List.getElem?_replicate, if_pos (by omega)]
    have hh := hit_at (e := 5) (sz := 1) hg
    have hkl : Int.toNat (j : Int) < (List.replicate (j + 1) (I.int .u8 0) ++ bys t).length := hgl
    have hq : IntKind.u64.wrap (Int.tdiv (m : Int) 256) = ((m / 256 : Nat) : Int) := by
      rw [wrap_u64, Int.tdiv_eq_ediv_of_nonneg (by omega)]; omega
    have hr : IntKind.u8.wrap (Int.tmod (m : Int) 256) = (((UInt8.ofNat (m % 256)).toNat : Nat) : Int) := by
      rw [wrap_u8, Int.tmod_eq_emod_of_nonneg (by omega)]
      simp
    repeat' ((conv => whnf); first
      | (refine And.intro (fun hb => ?_) (fun hb => ?_) <;> first | (exact absurd hb (by first | assumption | decide)) | (rw [hb]) | skip)
      | (refine Exists.intro ?_ ?_; focus (and_intros <;> first | omega | exact rfl | assumption | (intro _ hh; cases hh; done) | exact all_size (by rfl) | (simp; done) | decide))
      | (intro hfact)
      | ((with_reducible apply Drawn.by0); (focus kernel_rfl); intro hfact)
      | ((try dsimp only); rw [hh]))
    all_goals (try (conv => whnf))
    refine Round.by (j, m / 256, UInt8.ofNat (m % 256) :: t) ?_ ⟨by dsimp only; omega, by dsimp only; omega, ?_⟩ (Nat.lt_succ_self j)
    · dsimp only
      have hwj : IntKind.i64.wrap ((j : Int) - 1) = (j : Int) - 1 := wrap_id (by omega)
      have hput : List.replicate j (I.int .u8 0) ++ bys (UInt8.ofNat (m % 256) :: t) = putV (List.replicate (j + 1) (I.int .u8 0) ++ bys t) [Int.toNat (j : Int)] ((I.int .u8 0).put [] (.int .u8 (IntKind.u8.wrap (Int.tmod (m : Int) 256)))) := by
        rw [put_at hg, hr, Int.toNat_natCast, List.set_append_left _ _ (by simp), List.replicate_succ', List.set_append_right _ _ (by simp)]
        simp [bys, byteI, I.put]
      rw [hput, hwj, hq]
      show norm _ _ = upd _ _
      kernel_rfl
    · dsimp only
      rw [← h3, numB]
      simp
end Go.Ab


set_option maxRecDepth 100000
set_option maxHeartbeats 4000000
namespace Go.Ab
open Go.Proofs

theorem vecAt_vec (e : TypeId) (sz : Nat) (l : List I) : (SV.vec e sz l).vecAt 0 = some (e, sz, l) := rfl
def turnI (x n : Int) : Int := bitsI .or .u32 (shrI .u32 x n) (shlI .u32 x (IntKind.u64.wrap (32 - n)))
theorem spec_turn (x n : Int) (h0 : 0 ≤ n) : Fn Try.prog F_exchequerref02_turn [.v (.int .u32 x), .v (.int .u64 n)] (Is (.v (.int .u32 (turnI x n))) [.no, .no]) := by
  refine of_exchequerref02_turn ?_ (by simp)
  have h1 : 0 ≤ IntKind.u64.wrap (32 - n) := by rw [wrap_u64]; omega
  repeat' ((conv => whnf); first
    | (refine And.intro (fun hb => ?_) (fun hb => ?_) <;> first | (exact absurd hb (by first | assumption | decide)) | (rw [hb]) | skip)
    | (refine Exists.intro ?_ ?_; focus (and_intros <;> first | omega | exact rfl | assumption | (intro _ hh; cases hh; done) | exact all_size (by rfl) | (simp; done) | decide))
    | (intro hfact)
    | ((with_reducible apply Drawn.by0); (focus kernel_rfl); intro hfact))
  all_goals (try (conv => whnf))
  exact Done.mk ⟨rfl, by kernel_rfl⟩ (by kernel_rfl)
def kays : List Int := [1116352408, 1899447441, 3049323471, 3921009573, 961987163, 1508970993, 2453635748, 2870763221, 3624381080, 310598401, 607225278, 1426881987, 1925078388, 2162078206, 2614888103, 3248222580, 3835390401, 4022224774, 264347078, 604807628, 770255983, 1249150122, 1555081692, 1996064986, 2554220882, 2821834349, 2952996808, 3210313671, 3336571891, 3584528711, 113926993, 338241895, 666307205, 773529912, 1294757372, 1396182291, 1695183700, 1986661051, 2177026350, 2456956037, 2730485921, 2820302411, 3259730800, 3345764771, 3516065817, 3600352804, 4094571909, 275423344, 430227734, 506948616, 659060556, 883997877, 958139571, 1322822218, 1537002063, 1747873779, 1955562222, 2024104815, 2227730452, 2361852424, 2428436474, 2756734187, 3204031479, 3329325298]
theorem spec_constants : Fn Try.prog F_exchequerref02_constants [] (Is (.vec T_uint32 1 (kays.map (I.int .u32))) []) := by
  refine ofv_exchequerref02_constants ?_ (by simp)
  repeat' ((conv => whnf); first
    | (refine And.intro (fun hb => ?_) (fun hb => ?_) <;> first | (exact absurd hb (by first | assumption | decide)) | (rw [hb]) | skip)
    | (refine Exists.intro ?_ ?_; focus (and_intros <;> first | omega | exact rfl | assumption | (intro _ hh; cases hh; done) | exact all_size (by rfl) | (simp; done) | decide))
    | (intro hfact)
    | ((with_reducible apply Drawn.by0); (focus kernel_rfl); intro hfact))
  all_goals (try (conv => whnf))
  exact Done.mk ⟨by kernel_rfl, by kernel_rfl⟩ (by kernel_rfl)
def joinB (l : List Str) : Str := l.flatMap fun s => numB s.length 8 ++ s
theorem joinB_take {l : List Str} {k : Nat} {e : Str} (h : l[k]? = some e) : joinB (l.take (k + 1)) = joinB (l.take k) ++ numB e.length 8 ++ e := by
  unfold joinB
  rw [List.take_add_one, h]
  simp
theorem joinB_le {l : List Str} {m : Nat} (h : ∀ s ∈ l, s.length ≤ m) : (joinB l).length ≤ l.length * (m + 8) := by
  induction l with
  | nil => simp [joinB]
  | cons a r ih =>
    have h1 := ih fun s hs => h s (List.mem_cons_of_mem _ hs)
    have h2 := h a (List.mem_cons_self ..)
    have : joinB (a :: r) = numB a.length 8 ++ a ++ joinB r := by simp [joinB]
    rw [this]
    simp only [List.length_append, numB_length, List.length_cons, Nat.add_mul]
    omega
theorem spec_joined (l : List Str) (hl : l.length ≤ 1000) (he : ∀ s ∈ l, s.length ≤ 1000000) : Fn Try.prog F_exchequerref02_Joined [.v (.list (strs l))] (Is (.v (.str (joinB l))) [.no]) := by
  refine of_exchequerref02_Joined ?_ (by simp)
  have hm : l.length ≤ maxLen := by simp only [maxLen]; omega
  repeat' ((conv => whnf); first
    | (refine And.intro (fun hb => ?_) (fun hb => ?_) <;> first | (exact absurd hb (by first | assumption | decide)) | (rw [hb]) | skip)
    | (refine Exists.intro ?_ ?_; focus (and_intros <;> first | omega | exact rfl | assumption | (intro _ hh; cases hh; done) | exact all_size (by rfl) | (simp; done) | decide))
    | (intro hfact)
    | ((with_reducible apply Drawn.by0); (focus kernel_rfl); intro hfact))
  all_goals (try (conv => whnf))
  refine LoopWq.by (X := Nat) (fun x => [(3, .vec 5 1 (bys (joinB (l.take x)))), (4, .v (.int .i64 x))]) (fun x => x ≤ l.length) (fun x => l.length - x)
    0 (by rw [List.take_zero]; kernel_rfl) (Nat.zero_le _) ?_
  intro k h1
  have hjl : (joinB (l.take k)).length ≤ 1000 * 1000008 := by
    have := joinB_le (l := l.take k) (m := 1000000) fun s hs => he s (List.mem_of_mem_take hs)
    rw [List.length_take] at this
    exact Nat.le_trans this (Nat.mul_le_mul_right _ (by omega))
  by_cases hk : k < l.length
  case neg =>
    have hlt : ¬ decide ((k : Int) < ((strs l).length : Int)) = true := by simp; omega
    rw [show l.take k = l from List.take_of_length_le (by omega)] at hjl ⊢
    have hml : (joinB l).length ≤ maxLen := by simp only [maxLen]; omega
    repeat' ((conv => whnf); first
      | (refine And.intro (fun hb => ?_) (fun hb => ?_) <;> first | (exact absurd hb (by first | assumption | decide)) | (rw [hb]) | skip)
      | (refine Exists.intro ?_ ?_; focus (and_intros <;> first | omega | exact rfl | assumption | (intro _ hh; cases hh; done) | exact all_size (by rfl) | (simp; done) | decide))
      | (intro hfact)
      | ((with_reducible apply Drawn.by0); (focus kernel_rfl); intro hfact)
      | ((try dsimp only); rw [vecAt_vec])
      | ((try dsimp only); rw [bytesOf_bys]))
    all_goals (try (conv => whnf))
    exact Done.mk ⟨rfl, by kernel_rfl⟩ (by kernel_rfl)
  obtain ⟨e, hek⟩ : ∃ e, l[k]? = some e := ⟨_, List.getElem?_eq_getElem hk⟩
  have hel := he e (List.mem_of_getElem? hek)
  have hg : (strs l)[Int.toNat (k : Int)]? = some (.str e) := strs_get hek
  have hlt : ¬ decide ((k : Int) < ((strs l).length : Int)) = false := by simp [hk]
  have hround : l.length - (k + 1) < l.length - k := by omega
  have hw : IntKind.u64.wrap (e.length : Int) = (e.length : Int) := by rw [wrap_u64]; omega
  have hnum := spec_number e.length 8 (by omega) (by omega)
  have hnl := numB_length e.length 8
  have hsz := bys_size (numB e.length 8)
  obtain ⟨J, hJ⟩ : ∃ J, J = joinB (l.take k) := ⟨_, rfl⟩
  have hjs := joinB_take hek
  rw [← hJ] at hjl hjs ⊢
  have e1 : ((bys J).length + (bys (numB e.length 8)).length) * 1 ≤ 140737488355328 := by simp only [List.length_map, hnl]; omega
  have e2 : (bys J).length + (bys (numB e.length 8)).length ≤ maxLen := by simp only [List.length_map, hnl, maxLen]; omega
  have e3 : ((bys J ++ bys (numB e.length 8)).length + e.length) * 1 ≤ 140737488355328 := by simp only [List.length_append, List.length_map, hnl]; omega
  have e4 : (bys J ++ bys (numB e.length 8)).length + e.length ≤ maxLen := by simp only [List.length_append, List.length_map, hnl, maxLen]; omega
  repeat' ((conv => whnf); first
    | (refine And.intro (fun hb => ?_) (fun hb => ?_) <;> first | (exact absurd hb (by first | assumption | decide)) | (rw [hb]) | skip)
    | (refine Exists.intro ?_ ?_; focus (and_intros <;> first | omega | exact rfl | assumption | (intro _ hh; cases hh; done) | exact all_size (by rfl) | (simp; done) | decide))
    | (intro hfact)
    | ((with_reducible apply Drawn.by0); (focus kernel_rfl); intro hfact)
    | ((try dsimp only); rw [hg])
    | ((try dsimp only); rw [hw])
    | (refine CallIs.mk ⟨_, _, hnum, ?_⟩))
  all_goals (try (conv => whnf))
  refine Round.by (k + 1) ?_ hk hround
  rw [wrap_succ hk hm, hjs]
  simp only [bys, List.map_append]
  show norm _ _ = upd _ _
  kernel_rfl
end Go.Ab


set_option maxRecDepth 100000
set_option maxHeartbeats 4000000
namespace Go.Ab
open Go.Proofs

abbrev W32 (n : Int) : Int := IntKind.u32.wrap n
def byteAt (m : Str) (p : Nat) : Int := ((m.getD p 0).toNat : Int)
def wordI (m : Str) (p : Nat) : Nat → Int
  | 0 => 0
  | i + 1 => W32 (W32 (wordI m p i * 256) + W32 (byteAt m (p + i)))
def wAt (w : List Int) (t : Nat) : Int := w.getD t 0
def sig1 (x : Int) : Int := bitsI .xor .u32 (bitsI .xor .u32 (turnI x 17) (turnI x 19)) (shrI .u32 x 10)
def sig0 (x : Int) : Int := bitsI .xor .u32 (bitsI .xor .u32 (turnI x 7) (turnI x 18)) (shrI .u32 x 3)
def extI (w : List Int) (t : Nat) : Int := W32 (W32 (W32 (sig1 (wAt w (t - 2)) + wAt w (t - 7)) + sig0 (wAt w (t - 15))) + wAt w (t - 16))
def sched (m : Str) (p : Nat) : Nat → List Int
  | 0 => []
  | t + 1 => sched m p t ++ [if t < 16 then wordI m (p + 4 * t) 4 else extI (sched m p t) t]
theorem sched_length (m : Str) (p : Nat) : ∀ t, (sched m p t).length = t
  | 0 => rfl
  | t + 1 => by simp [sched, sched_length m p t]
structure H8 where
  (a b c d e f g i : Int)
def H8.l (h : H8) : List Int := [h.a, h.b, h.c, h.d, h.e, h.f, h.g, h.i]
def rnd1 (h : H8) (k w : Int) : Int :=
  W32 (W32 (W32 (W32 (h.i + bitsI .xor .u32 (bitsI .xor .u32 (turnI h.e 6) (turnI h.e 11)) (turnI h.e 25)) + bitsI .xor .u32 (bitsI .and .u32 h.e h.f) (bitsI .and .u32 (bitsI .xor .u32 4294967295 h.e) h.g)) + k) + w)
def rnd2 (h : H8) : Int := W32 (bitsI .xor .u32 (bitsI .xor .u32 (turnI h.a 2) (turnI h.a 13)) (turnI h.a 22) + bitsI .xor .u32 (bitsI .xor .u32 (bitsI .and .u32 h.a h.b) (bitsI .and .u32 h.a h.c)) (bitsI .and .u32 h.b h.c))
def rnd (h : H8) (k w : Int) : H8 := ⟨W32 (rnd1 h k w + rnd2 h), h.a, h.b, h.c, W32 (h.d + rnd1 h k w), h.e, h.f, h.g⟩
def rnds (w : List Int) (h : H8) : Nat → H8
  | 0 => h
  | t + 1 => rnd (rnds w h t) (wAt kays t) (wAt w t)
def addH (x y : H8) : H8 := ⟨W32 (x.a + y.a), W32 (x.b + y.b), W32 (x.c + y.c), W32 (x.d + y.d), W32 (x.e + y.e), W32 (x.f + y.f), W32 (x.g + y.g), W32 (x.i + y.i)⟩
def blockH (m : Str) (p : Nat) (h : H8) : H8 := addH h (rnds (sched m p 64) h 64)
def H0 : H8 := ⟨0x6a09e667, 0xbb67ae85, 0x3c6ef372, 0xa54ff53a, 0x510e527f, 0x9b05688c, 0x1f83d9ab, 0x5be0cd19⟩
def blocks (m : Str) : Nat → H8
  | 0 => H0
  | n + 1 => blockH m (64 * n) (blocks m n)
def zeros (n : Nat) : Nat := (119 - n % 64) % 64
def padB (s : Str) : Str := s ++ [128] ++ List.replicate (zeros s.length) 0 ++ numB (8 * s.length) 8
def outB (h : H8) (t : Nat) : Str := (h.l.take t).flatMap fun x => numB x.toNat 4
def sumB (s : Str) : Str := outB (blocks (padB s) ((padB s).length / 64)) 8
theorem W32_nonneg (n : Int) : 0 ≤ W32 n ∧ W32 n < 4294967296 := by unfold W32; rw [wrap_u32]; omega
theorem padB_length (s : Str) : (padB s).length = 64 * ((padB s).length / 64) := by
  simp only [padB, List.length_append, List.length_replicate, numB_length, zeros, List.length_singleton]
  omega
end Go.Ab

