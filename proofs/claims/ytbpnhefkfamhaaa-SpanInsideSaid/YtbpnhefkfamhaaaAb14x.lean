/- One text of the proof whose last text says what is proved. -/
import Derived.Test.YtbpnhefkfamhaaaAb14
set_option linter.unusedVariables false
set_option linter.unusedSimpArgs false
namespace Go.Ab

/-- The shape of what is compared. -/
inductive ETy where
  | int (k : IntKind)
  | bool
  | str
  | st (l : List ETy)
  deriving Inhabited

mutual
def ETy.size : ETy → Nat
  | .st l => ETy.sizes l
  | _ => 1
def ETy.sizes : List ETy → Nat
  | [] => 0
  | e :: l => e.size + ETy.sizes l
end
def ETy.isSt : ETy → Bool
  | .st _ => true
  | _ => false
mutual
def ETy.ok (P : Program) : Nat → ETy → TypeId → Bool
  | 0, _, _ => false
  | _ + 1, .int k, t => match P.underlying t with
    | some (.int k') => k == k'
    | _ => false
  | _ + 1, .bool, t => match P.underlying t with
    | some .bool => true
    | _ => false
  | _ + 1, .str, t => match P.underlying t with
    | some .string => true
    | _ => false
  | n + 1, .st l, t => !P.stoodInHeld t && ETy.oks P n l (P.fieldsOf t).toList 0 && (match P.underlying t with
    | some (.struct _) => true
    | _ => false)
def ETy.oks (P : Program) : Nat → List ETy → List Field → Nat → Bool
  | _, [], [], _ => true
  | n, e :: l, f :: fs, o => f.name != "_" && f.offset == o && e.ok P n f.type && tyOk P f.type e.isSt e.size && ETy.oks P n l fs (o + e.size)
  | _, _, _, _ => false
end
mutual
def eqI : ETy → I → I → Option Bool
  | .int k, .int k1 a, .int k2 b => if k1 = k ∧ k2 = k then some (decide (a = b)) else none
  | .bool, .bool a, .bool b => some (decide (a = b))
  | .str, .str a, .str b => some (decide (a = b))
  | .st es, .agg l, .agg m => eqIs es l m
  | _, _, _ => none
def eqIs : List ETy → List I → List I → Option Bool
  | [], [], [] => some true
  | e :: es, x :: l, y :: m => match eqI e x y with
    | some r => match eqIs es l m with
      | some r' => some (r && r')
      | none => none
    | none => none
  | _, _, _ => none
end

section
variable {P : Program} {N : Nat} {G : Mem} {σ : Lab} {Fr : Mem} {w0 : Base} {w : World} {st : St} {a : Act}

theorem part_run {arr : Array Value} {pre cs post : List Value} {y : I} {t : TypeId} (h : arr.toList = pre ++ cs ++ post) (hy : RepI G y cs) (ht : tyOk P t y.isAgg y.size = true) :
    ∃ v, (part t arr pre.length).run P w = .ok v w ∧ RepV G y v := by
  obtain ⟨g1, g2⟩ := isAgg_run ht w
  have hl := RepI.length _ _ hy
  cases hagg : y.isAgg with
  | true =>
    rw [hagg] at g1
    refine ⟨.agg (arr.extract pre.length (pre.length + y.size)), by simp [part, g1, g2], ?_⟩
    unfold RepV
    rw [if_pos hagg]
    refine ⟨_, rfl, ?_⟩
    have : (arr.extract pre.length (pre.length + y.size)).toList = cs := by
      rw [Array.toList_extract, h, List.extract_eq_take_drop, ← hl, Nat.add_sub_cancel_left, List.append_assoc, List.drop_left, List.take_left]
    rw [this]; exact hy
  | false =>
    rw [hagg] at g1
    have hone : y.size = 1 := by cases y <;> simp_all [I.isAgg, I.size]
    rw [hone] at hl
    match cs, hl with
    | [v], _ =>
      have hv : arr[pre.length]? = some v := by
        have : arr[pre.length]? = arr.toList[pre.length]? := by simp
        rw [this, h]
        simp
      refine ⟨v, by simp [part, g1, hv], ?_⟩
      unfold RepV
      rw [if_neg (by simp [hagg])]
      exact hy

mutual
theorem eqI_shape : ∀ (e : ETy) (x y : I) (r : Bool), eqI e x y = some r → x.size = e.size ∧ y.size = e.size ∧ x.isAgg = e.isSt ∧ y.isAgg = e.isSt
  | .int k, x, y, r, h => by
    cases x <;> cases y <;> simp [eqI] at h
    simp [I.size, ETy.size, I.isAgg, ETy.isSt]
  | .bool, x, y, r, h => by
    cases x <;> cases y <;> simp [eqI] at h
    simp [I.size, ETy.size, I.isAgg, ETy.isSt]
  | .str, x, y, r, h => by
    cases x <;> cases y <;> simp [eqI] at h
    simp [I.size, ETy.size, I.isAgg, ETy.isSt]
  | .st es, x, y, r, h => by
    cases x <;> cases y <;> simp only [eqI, reduceCtorEq] at h
    obtain ⟨h1, h2⟩ := eqIs_shape es _ _ r h
    simp [I.size, ETy.size, I.isAgg, ETy.isSt, h1, h2]
theorem eqIs_shape : ∀ (es : List ETy) (l m : List I) (r : Bool), eqIs es l m = some r → sizes l = ETy.sizes es ∧ sizes m = ETy.sizes es
  | [], l, m, r, h => by
    cases l <;> cases m <;> simp [eqIs] at h
    simp [sizes, ETy.sizes]
  | e :: es, l, m, r, h => by
    cases l with
    | nil => cases m <;> simp [eqIs] at h
    | cons x l =>
      cases m with
      | nil => simp [eqIs] at h
      | cons y m =>
        simp only [eqIs] at h
        cases h1 : eqI e x y with
        | none => simp [h1] at h
        | some r1 =>
          cases h2 : eqIs es l m with
          | none => simp [h1, h2] at h
          | some r2 =>
            obtain ⟨k1, k2, _, _⟩ := eqI_shape e x y r1 h1
            obtain ⟨k3, k4⟩ := eqIs_shape es l m r2 h2
            simp [sizes, ETy.sizes, k1, k2, k3, k4]
end

mutual
theorem eqI_run (G : Mem) : ∀ (n d : Nat) (e : ETy) (t : TypeId) (x y : I) (u v : Value) (r : Bool), n ≤ d → e.ok P n t = true → eqI e x y = some r → RepV G x u → RepV G y v → (Op.equalIn d t u v).run P w = .ok r w
  | 0, _, _, _, _, _, _, _, _, _, ho, _, _, _ => by simp [ETy.ok] at ho
  | n + 1, 0, _, _, _, _, _, _, _, hd, _, _, _, _ => by omega
  | n + 1, d + 1, .int k, t, x, y, u, v, r, _, ho, h, hx, hy => by
    cases x <;> cases y <;> simp only [eqI, reduceCtorEq] at h
    split at h
    · rename_i hk
      cases h
      rw [RepV.int] at hx hy
      simp only [ETy.ok] at ho
      split at ho
      · rename_i hu
        rw [hx, hy, hk.1, hk.2, run_equalIn_int w d t _ _ _ _ hu, beq_eq]
      · cases ho
    · cases h
  | n + 1, d + 1, .bool, t, x, y, u, v, r, _, ho, h, hx, hy => by
    cases x <;> cases y <;> simp only [eqI, Option.some.injEq, reduceCtorEq] at h
    rename_i p q
    subst h
    rw [RepV.bool] at hx hy
    simp only [ETy.ok] at ho
    split at ho
    · rename_i hu
      have e : (p == q) = decide (p = q) := by cases p <;> cases q <;> rfl
      rw [hx, hy, run_equalIn_bool' w d t p q hu, e]
    · cases ho
  | n + 1, d + 1, .str, t, x, y, u, v, r, _, ho, h, hx, hy => by
    cases x <;> cases y <;> simp only [eqI, Option.some.injEq, reduceCtorEq] at h
    rename_i p q
    subst h
    rw [RepV.str] at hx hy
    simp only [ETy.ok] at ho
    split at ho
    · rename_i hu
      have e : ((⟨⟨p⟩⟩ : ByteArray).toList == (⟨⟨q⟩⟩ : ByteArray).toList) = decide (p = q) := by
        rw [Bool.eq_iff_iff]
        simp
      rw [hx.1, hy.1, run_equalIn_string w d t _ _ hu, e]
    · cases ho
  | n + 1, d + 1, .st es, t, x, y, u, v, r, hd, ho, h, hx, hy => by
    cases x <;> cases y <;> simp only [eqI, reduceCtorEq] at h
    rename_i l m
    unfold RepV at hx hy
    rw [if_pos (show (I.agg l).isAgg = true from rfl)] at hx
    rw [if_pos (show (I.agg m).isAgg = true from rfl)] at hy
    obtain ⟨xs, rfl, hx⟩ := hx
    obtain ⟨ys, rfl, hy⟩ := hy
    simp only [ETy.ok, Bool.and_eq_true, Bool.not_eq_true'] at ho
    obtain ⟨⟨h1, h2⟩, h3⟩ := ho
    split at h3
    · rename_i fs hu
      have hfs : P.fieldsOf t = fs := by simp [Program.fieldsOf, hu]
      rw [run_equalIn_struct w d t xs ys (by rw [hfs]; exact hu) h1]
      exact eqIs_run G n d es _ 0 l m xs ys [] [] xs.toList ys.toList r (by omega) h2 h (by simp) (by simp) rfl rfl hx hy
    · cases h3
theorem eqIs_run (G : Mem) : ∀ (n d : Nat) (es : List ETy) (fs : List Field) (o : Nat) (l m : List I) (xs ys : Array Value) (p q cs ds : List Value) (r : Bool), n ≤ d → ETy.oks P n es fs o = true → eqIs es l m = some r →
    xs.toList = p ++ cs → ys.toList = q ++ ds → p.length = o → q.length = o → RepIs G l cs → RepIs G m ds → (Op.eqFields d xs ys fs).run P w = .ok r w
  | n, d, [], fs, o, l, m, xs, ys, p, q, cs, ds, r, hd, ho, h, _, _, _, _, _, _ => by
    cases fs with
    | cons f fs => simp [ETy.oks] at ho
    | nil =>
      cases l <;> cases m <;> simp [eqIs] at h
      subst h
      simp [Op.eqFields]
  | n, d, e :: es, fs, o, l, m, xs, ys, p, q, cs, ds, r, hd, ho, h, hp, hq, hpl, hql, hl, hm => by
    cases fs with
    | nil => simp [ETy.oks] at ho
    | cons f fs =>
      cases l with
      | nil => cases m <;> simp [eqIs] at h
      | cons x l =>
        cases m with
        | nil => simp [eqIs] at h
        | cons y m =>
          simp only [eqIs] at h
          cases h1 : eqI e x y with
          | none => simp [h1] at h
          | some r1 =>
            cases h2 : eqIs es l m with
            | none => simp [h1, h2] at h
            | some r2 =>
              simp only [h1, h2, Option.some.injEq] at h
              subst h
              simp only [ETy.oks, Bool.and_eq_true, beq_iff_eq, bne_iff_ne, ne_eq] at ho
              obtain ⟨⟨⟨⟨k1, k2⟩, k3⟩, k4⟩, k5⟩ := ho
              obtain ⟨s1, s2, s3, s4⟩ := eqI_shape e x y r1 h1
              obtain ⟨c1, d1, e1, e2, e3⟩ := hl
              obtain ⟨c2, d2, e4, e5, e6⟩ := hm
              obtain ⟨u, hu1, hu2⟩ := part_run (P := P) (w := w) (pre := p) (post := d1) (by rw [hp, e1, List.append_assoc]) e2 (by rw [s3, s1]; exact k4)
              obtain ⟨v, hv1, hv2⟩ := part_run (P := P) (w := w) (pre := q) (post := d2) (by rw [hq, e4, List.append_assoc]) e5 (by rw [s4, s2]; exact k4)
              have hr1 := eqI_run G n d e f.type x y u v r1 hd k3 h1 hu2 hv2
              have hl1 := RepI.length _ _ e2
              have hl2 := RepI.length _ _ e5
              have ih := eqIs_run G n d es fs (o + e.size) l m xs ys (p ++ c1) (q ++ c2) d1 d2 r2 hd k5 h2 (by rw [hp, e1, List.append_assoc]) (by rw [hq, e4, List.append_assoc]) (by simp [hpl, hl1, s1]) (by simp [hql, hl2, s2]) e3 e6
              rw [hpl] at hu1
              rw [hql] at hv1
              simp only [Op.eqFields]
              rw [if_pos k1]
              simp only [Sem.run_bind, k2, hu1, hv1, hr1, Result.andThen]
              cases r1 with
              | true => simpa using ih
              | false => simp
end

/-- '==' and '!=' of structs and bools. -/
def semEq (d : Option Nat) (neg : Bool) (e : ETy) (x y : Opd) : M := rdI x fun i => rdI y fun j => match eqI e i j with
  | some r => selI neg (.bool (!r)) (.bool r) fun r => setD d (.v r) .done
  | none => .fail
def eqOk (P : Program) (e : ETy) (t : TypeId) : Bool := e.ok P 20 t && (match e with
  | .st _ => !P.eqGuardType P.depth t
  | .bool => true
  | _ => false)
theorem sound_eq {o : Oper} {neg : Bool} {t u : TypeId} {x y : Operand} {x' y' : Opd} {e : ETy} (ho : o.op = .binOp (if neg then .neq else .eql) t x y u) (hx : opdOk N x x' = true) (hy : opdOk N y y' = true) (he : eqOk P e t = true) :
    Sound P N o (semEq o.dst neg e x' y') := by
  intro G σ Fr w0 st a w Q next E hN hr hw hn hdst
  subst hN
  obtain ⟨i, h1, hi⟩ := rdI_rep hr hx hw
  clear hw
  obtain ⟨j, hw, hj⟩ := rdI_rep hr hy h1
  clear h1
  split at hw
  · rename_i r hr'
    unfold eqOk at he
    simp only [Bool.and_eq_true] at he
    have hrun := eqI_run (P := P) (w := w) G 20 10000 e t i j _ _ r (by omega) he.1 hr' hi hj
    have hw : (setD o.dst (.v (.bool (if neg then !r else r))) .done).wp P Q st := by cases neg <;> exact hw
    refine done_v hr hn hdst (RepV.bool.2 rfl) hw ?_
    cases e with
    | st es =>
      cases i <;> cases j <;> simp only [eqI, reduceCtorEq] at hr'
      unfold RepV at hi hj
      rw [if_pos (show (I.agg _).isAgg = true from rfl)] at hi hj
      obtain ⟨xs, hxs, _⟩ := hi
      obtain ⟨ys, hys, _⟩ := hj
      have hg : P.eqGuardType P.depth t = false := by simpa using he.2
      rw [hxs, hys] at hrun
      cases neg with
      | true => simp [execOp, ho, hxs, hys, run_eqGuard_agg w .neq t x y xs ys hg, run_neq_struct, hrun]
      | false => simp [execOp, ho, hxs, hys, run_eqGuard_agg w .eql t x y xs ys hg, run_eql_struct, hrun]
    | bool =>
      cases i <;> cases j <;> simp only [eqI, reduceCtorEq] at hr'
      rw [RepV.bool] at hi hj
      rw [hi, hj] at hrun
      have hrun' : (Op.equal t (.bool _) (.bool _)).run P w = _ := hrun
      cases neg with
      | true => simp [execOp, ho, hi, hj, eqGuard, binOp, hrun']
      | false => simp [execOp, ho, hi, hj, eqGuard, binOp, hrun']
    | _ => simp at he
  · exact hw.elim

theorem equalIn_nil {d : Nat} {t e : TypeId} (hu : P.underlying t = some (.slice e)) (ad : Option Addr) (n cap nn cc : Nat) (w : World) :
    (Op.equalIn (d + 1) t (.slice ad n cap) (.slice none nn cc)).run P w = .ok ad.isNone w := by
  cases ad <;> simp [Op.equalIn, run_underlying hu]
theorem equal_nil {t e : TypeId} (hu : P.underlying t = some (.slice e)) (ad : Option Addr) (n cap nn cc : Nat) (w : World) :
    (Op.equal t (.slice ad n cap) (.slice none nn cc)).run P w = .ok ad.isNone w := equalIn_nil (d := 9999) hu ad n cap nn cc w
/-- A slice held against nil: whether an empty one is nil, nobody says. -/
def semNil (d : Option Nat) (neg : Bool) (x : Opd) : M := match x with
  | .t n => .get n fun _ sv => match sv with
    | .v (.list l) => .all (fun b => b = true → l = []) fun b => selI neg (.bool (!b)) (.bool b) fun r => setD d (.v r) .done
    | .vec _ _ l => .all (fun b => b = true → l = []) fun b => selI neg (.bool (!b)) (.bool b) fun r => setD d (.v r) .done
    | .bor s k v => .get s fun cur sv' => .need (v = cur) fun _ => match sv'.vecAt k with
      | some (_, _, l) => .all (fun b => b = true → l = []) fun b => selI neg (.bool (!b)) (.bool b) fun r => setD d (.v r) .done
      | none => .fail
    | _ => .fail
  | _ => .fail
def nilOk (P : Program) (t : TypeId) (y : Operand) : Bool := (match P.underlying t with
  | some (.slice _) => true
  | _ => false) && (match y with
  | .const (.slice none _ _) => true
  | _ => false)
theorem sound_nil {o : Oper} {neg : Bool} {t u : TypeId} {x y : Operand} {x' : Opd} (ho : o.op = .binOp (if neg then .neq else .eql) t x y u) (hx : opdOk N x x' = true) (hy : nilOk P t y = true) : Sound P N o (semNil o.dst neg x') := by
  intro G σ Fr w0 st a w Q next E hN hr hw hn hdst
  subst hN
  unfold nilOk at hy
  simp only [Bool.and_eq_true] at hy
  obtain ⟨hu, hy⟩ := hy
  split at hu
  · rename_i e hu'
    split at hy
    · rename_i nn cc
      have run : ∀ {ad : Option Addr} {n cap : Nat}, a.eval x = .slice ad n cap → (execOp a.eval o).run P w = .ok (.value (.bool (if neg then !ad.isNone else ad.isNone))) w := by
        intro ad n cap he
        have hq := equal_nil hu' ad n cap nn cc w
        have hy' : a.eval (.const (.slice none nn cc)) = .slice none nn cc := rfl
        cases neg <;> simp [execOp, ho, he, hy', eqGuard, binOp, hq]
      have fin : ∀ {ad : Option Addr} {cap : Nat} {l : List I}, a.eval x = .slice ad l.length cap → (ad = none → l = []) →
          (M.all (fun b => b = true → l = []) fun b => selI neg (.bool (!b)) (.bool b) fun r => setD o.dst (.v r) .done).wp P Q st → o.wp P a w next E := by
        intro ad cap l he hl hq
        have hq' := hq ad.isNone (fun h => hl (by simpa using h))
        have hq' : (setD o.dst (.v (.bool (if neg then !ad.isNone else ad.isNone))) .done).wp P Q st := by cases neg <;> exact hq'
        exact done_v hr hn hdst (RepV.bool.2 rfl) hq' (run he)
      have vnil : ∀ {lab : Nat × Nat} {e : TypeId} {sz : Nat} {l : List I} {c : Value}, VecAt G σ w lab e sz l c → ∃ ad cap, c = .slice ad l.length cap ∧ (ad = none → l = []) := by
        intro lab e sz l c h
        obtain ⟨xs, h1, _⟩ := h
        rcases h1.2 with ⟨rfl, h0⟩ | ⟨g, cap, cur, rfl, _⟩
        · exact ⟨none, 0, by rw [h0], fun _ => List.eq_nil_of_length_eq_zero h0⟩
        · exact ⟨_, cap, rfl, fun h => by cases h⟩
      cases x' with
      | c _ => exact hw.elim
      | nils _ _ => exact hw.elim
      | t n =>
        obtain ⟨rfl, hnlt⟩ := opdOk_t hx
        simp only [semNil, M.wp] at hw
        cases hs : st[n]? with
        | none => simp [hs] at hw
        | some cur =>
          obtain ⟨ver, sv⟩ := cur
          simp only [hs] at hw
          have hrep := hr.slot hnlt hs
          split at hw
          · rename_i l
            have hrep' : RepV G (.list l) (a.eval (.tmp n)) := hrep
            obtain ⟨ad, cap, hc, _, _, h4⟩ := RepV.list.1 hrep'
            refine fin hc (fun e => ?_) hw
            rcases h4 with h4 | ⟨b, off, bl, ty, fz, sz, h5, _⟩
            · exact h4
            · rw [e] at h5; cases h5
          · obtain ⟨ad, cap, hc, hl⟩ := vnil hrep
            exact fin hc hl hw
          · rename_i s k v
            obtain ⟨cur, g1, g2, g3⟩ := hrep
            simp only [M.wp, g1] at hw
            obtain ⟨hv, hw⟩ := hw
            obtain ⟨e, sz, l, g4, g5⟩ := g3 hv
            simp only [g4] at hw
            obtain ⟨ad, cap, hc, hl⟩ := vnil g5
            exact fin hc hl hw
          · exact hw.elim
    · cases hy
  · cases hu

/-- A string's byte. -/
theorem sound_sidx {o : Oper} {t : TypeId} {x i : Operand} {x' i' : Opd} (ho : o.op = .index t x i) (hx : opdOk N x x' = true) (hi : opdOk N i i' = true) (ht : P.underlying t = some .string) : Sound P N o (strIdx o.dst x' i') := by
  intro G σ Fr w0 st a w Q next E hN hr hw hn hdst
  subst hN
  obtain ⟨u, h1, hu⟩ := rdI_rep hr hx hw
  clear hw
  obtain ⟨v, hw, hv⟩ := rdI_rep hr hi h1
  clear h1
  split at hw
  · rename_i s k n
    split at hw
    · rename_i b hb
      obtain ⟨h0, hw⟩ := hw
      rw [RepV.str] at hu
      rw [RepV.int] at hv
      have hlt : n.toNat < s.length := (List.getElem?_eq_some_iff.1 hb).1
      have hget : (⟨⟨s⟩⟩ : ByteArray)[n.toNat]? = some b := by
        have hsz : n.toNat < (⟨⟨s⟩⟩ : ByteArray).size := hlt
        have : (⟨⟨s⟩⟩ : ByteArray)[n.toNat] = b := by
          have := (List.getElem?_eq_some_iff.1 hb).2
          exact this
        rw [getElem?_pos (⟨⟨s⟩⟩ : ByteArray) n.toNat hsz, this]
      refine done_v hr hn hdst (RepV.int.2 rfl) hw ?_
      simp [execOp, ho, hu.1, hv, Instr.index, asIntOf, run_underlying ht, h0, hget]
    · exact hw.elim
  · exact hw.elim
end
end Go.Ab
