/- Lemmas -/
import Derived.Test.YtmfdopkcaeokeaaProg
import Derived.KernelRfl
import Derived.Test.YtmfdopkcaeokeaaAbR
set_option linter.unusedVariables false
set_option linter.unusedSimpArgs false
set_option maxRecDepth 100000
namespace Go.Ab
open Go.Proofs
abbrev O1 (i:IOp):Ao:=.op none i
def fr : Nat → Nat → List Nat
  | _, 0 => []
  | a, n + 1 => a :: fr (a + 1) n
def kr (l : List Nat) (a n : Nat) : List Nat := l ++ fr a n
instance (n : Nat) : OfNat Opd n := ⟨.t (@OfNat.ofNat Nat n (instOfNatNat n))⟩
abbrev cI (n : Int) : Opd := .c (.int .i64 n)
abbrev cT : Opd := .c (.bool true)
abbrev cF : Opd := .c (.bool false)
abbrev cS (s : Str) : Opd := .c (.str s)
abbrev qt (c : Nat) (o : IOp) : Ao := .op (some (c, true)) o
abbrev qf (c : Nat) (o : IOp) : Ao := .op (some (c, false)) o
abbrev iA (d : Nat) (x : Opd) : IOp := .asg d x
abbrev iM (d : Nat) (x : Opd) : IOp := .mv d x
abbrev iL (d : Nat) (x : Opd) : IOp := .load d false 1 x
abbrev iU (d n : Nat) (x : Opd) : IOp := .load d true n x
abbrev iS (n : Nat) (x y : Opd) : IOp := .store n x y
abbrev iF (d : Nat) (x : Opd) (i : Nat) : IOp := .faddr d x i i
abbrev iG (d : Nat) (x : Opd) (i o : Nat) : IOp := .faddr d x i o
abbrev iB (d : Nat) (o : BinOp) (x y : Opd) : IOp := .bin d o x y
abbrev iN (d : Nat) (x : Opd) : IOp := .len d false x
abbrev iI (d n : Nat) (x i : Opd) : IOp := .iaddr d n x i
abbrev iE (d : Nat) (x : Opd) (i : Nat) : IOp := .ext d x i
abbrev iP (d : Nat) (c x y : Opd) : IOp := .pick d c x y
abbrev iT (d : Nat) (x : Opd) : IOp := .not d x
abbrev gA (d : Nat) (x : Opd) : Ao := O1 (.asg d x)
abbrev gM (d : Nat) (x : Opd) : Ao := O1 (.mv d x)
abbrev gL (d : Nat) (x : Opd) : Ao := O1 (.load d false 1 x)
abbrev gU (d n : Nat) (x : Opd) : Ao := O1 (.load d true n x)
abbrev gS (n : Nat) (x y : Opd) : Ao := O1 (.store n x y)
abbrev gF (d : Nat) (x : Opd) (i : Nat) : Ao := O1 (.faddr d x i i)
abbrev gG (d : Nat) (x : Opd) (i o : Nat) : Ao := O1 (.faddr d x i o)
abbrev gB (d : Nat) (o : BinOp) (x y : Opd) : Ao := O1 (.bin d o x y)
abbrev gN (d : Nat) (x : Opd) : Ao := O1 (.len d false x)
abbrev gI (d n : Nat) (x i : Opd) : Ao := O1 (.iaddr d n x i)
abbrev gE (d : Nat) (x : Opd) (i : Nat) : Ao := O1 (.ext d x i)
abbrev gP (d : Nat) (c x y : Opd) : Ao := O1 (.pick d c x y)
abbrev gT (d : Nat) (x : Opd) : Ao := O1 (.not d x)
abbrev gC (d : Nat) (f : FuncId) (l : List (Bool × Opd)) : Ao := .call none (some d) f l
abbrev nL (x : Opd) : Bool × Opd := (false, x)
abbrev sO (l : List Ao) (b : Stm) : Stm := .seq (.ops l) b
abbrev cR (c : Opd) (l : List Ao) : Stm := .cond c (.seq (.ops l) .ret) .skip
abbrev OF (f : FuncId) (N : Nat) (s : Stm) (rs : List Ret) : Prop := ∀ {args : List SV} {Post : SV → List SV → Prop}, wqF Try.prog N s rs args Post → args.length ≤ N → Fn Try.prog f args Post
theorem oF {f : FuncId} {fn : Func} {c : Code} {s : Stm} {rs : List Ret} {N : Nat} (hf : Try.prog.funcs[f]? = some fn) (hb : fn.body = some c) (hN : fn.ntmps = N) (hc : A4 Try.prog N c s = true) (hr : Bi Try.prog N fn.results.toList rs = true) : OF f N s rs := fun h hn => Fn.of_body' hf hb hN hc hr hn (Acm h)
abbrev OFD (f : FuncId) (N : Nat) (s : Stm) (rs : List Ret) : Prop := ∀ {args : List SV} {Post : SV → List SV → Prop}, wqFD Try.prog N s rs args Post → args.length ≤ N → Fn Try.prog f args Post
theorem oFD {f : FuncId} {fn : Func} {c : Code} {s : Stm} {rs : List Ret} {N : Nat} (hf : Try.prog.funcs[f]? = some fn) (hb : fn.body = some c) (hN : fn.ntmps = N) (hc : A4 Try.prog N c s = true) (hr : Bi Try.prog N fn.results.toList rs = true) : OFD f N s rs := fun h hn => Fn.of_bodyD hf hb hN hc hr hn h
abbrev OFV (f : FuncId) (N : Nat) (s : Stm) (n : Nat) : Prop := ∀ {args : List SV} {Post : SV → List SV → Prop}, wqFV Try.prog N s n args Post → args.length ≤ N → Fn Try.prog f args Post
theorem oFV {f : FuncId} {fn : Func} {c : Code} {s : Stm} {n N : Nat} (hf : Try.prog.funcs[f]? = some fn) (hb : fn.body = some c) (hN : fn.ntmps = N) (hc : A4 Try.prog N c s = true) (hr : fn.results = #[.tmp n]) (hn' : n < N) : OFV f N s n := fun h hn => Fn.of_vec hf hb hN hc hr hn' hn (Ab9 h)
theorem dKq {p q : Prop} {outs : List SV} (h1 : p) (h2 : q) (h3 : Lc outs = true) : Done (p ∧ q) outs := ⟨⟨h1, h2⟩, h3⟩
theorem aI {a b : Prop} (h : a) (k : b) : a ∧ b := ⟨h, k⟩
theorem eI {a : Prop} {p : a → Prop} (w : a) (h : p w) : ∃ x, p x := ⟨w, h⟩
theorem dRS : (∀ {α : Type} {a : α} {s t : List α}, (a ∈ s ++ t) = (a ∈ s ∨ a ∈ t)) ∧ (∀ {α : Type} {a b : α} {l : List α}, (a ∈ b :: l) = (a = b ∨ a ∈ l)) ∧ (∀ {α : Type} {a : α}, (a ∈ ([] : List α)) = False) ∧ (∀ p : Prop, (p ∨ False) = p) ∧ (∀ p : Prop, (False ∨ p) = p) ∧ (∀ a b c : Prop, ((a ∨ b) ∨ c) = (a ∨ b ∨ c)) ∧ (∀ {α : Type} {p q : α → Prop} {a : α}, (∀ x, x = a ∨ q x → p x) = (p a ∧ ∀ x, q x → p x)) ∧ (∀ {α : Type} {p : α → Prop} {a : α}, (∀ x, x = a → p x) = p a) ∧ (∀ p : Prop, (False → p) = True) ∧ (∀ {α : Type}, (α → True) = True) ∧ (∀ {α : Prop}, (α → True) = True) ∧ (∀ {α : Type} [Nonempty α] {b : Prop}, (α → b) = b) ∧ (∀ p : Prop, (p ∧ True) = p) ∧ (∀ p : Prop, (True ∧ p) = p) := by
 and_intros <;> intros <;> simp [or_assoc]
abbrev E1:TypeId:=60
abbrev E2:TypeId:=62
abbrev Ks:TypeId:=92
abbrev Ko:TypeId:=94
abbrev H9:TypeId:=98
abbrev Y2:TypeId:=113
abbrev W7:TypeId:=116
abbrev Y1:TypeId:=118
abbrev Y0:TypeId:=120
abbrev W6:TypeId:=122
abbrev Dz:TypeId:=132
abbrev N3:FuncId:=18
def Nd:Stm:=(sO [O1 (.box 1 0),gA 2 (cI 0),gA 3 (cI 0)] (.seq (.drw [0,1,0,4,3,31] [gF 4 1 0,gL 5 4,gF 6 1 1,gL 7 6,gA 2 5,gA 3 7]) .ret))
theorem Nk:OF 18 8 Nd [.t 2,.t 3]:=oF Try.func18 rfl Try.ntmps18 (by kernel_rfl) (by kernel_rfl)
abbrev Hc:FuncId:=19
def Nf:Stm:=(sO [O1 (.box 3 0),gA 6 (.nils 60 3)] (sO [gU 11 3 3,gC 12 24 [nL 11],gA 10 12,gE 13 10 0,gE 14 10 1,gA 7 13,gA 8 14] (.seq (sO [gM 15 1,gM 16 7,gB 17 .gtr 15 16,gM 18 17,qf 18 (iM 19 2),qf 18 (iB 20 .lss 19 (cI 1)),gP 21 18 cT 20] (cR 21 [gA 6 (.nils 60 3)])) (sO [gM 22 1,gF 23 3 0,gL 24 23,gB 25 .add 24 (cI 1),O1 (.mm 26 true 22 25),gF 27 3 0,gL 28 27,gB 29 .sub 26 28,gB 30 .sub 29 (cI 1),gA 9 30] (sO [gF 31 3 2,gL 32 31,gM 33 9,gF 34 3 2,gL 35 34,gN 36 35,gM 37 9,gB 38 .sub 36 37,gM 39 2,O1 (.mm 40 false 38 39),gM 41 9,gB 42 .add 40 41,O1 (.slc 43 false 3 32 (some 33) (some 42)),gC 44 39 [nL 43],gA 6 44] .ret)))))
theorem Nm:OF 19 45 Nf [.t 6]:=oF Try.func19 rfl Try.ntmps19 (by kernel_rfl) (by kernel_rfl)
abbrev N4:FuncId:=24
def Ng:Stm:=(sO [O1 (.box 1 0),gA 2 (cI 0),gA 3 (cI 0)] (.seq (sO [gF 5 1 2,gL 6 5,gN 7 6,gA 4 7] (sO [gM 8 4,gB 9 .gtr 8 (cI 0)] (.cond 9 (.seq (.drw [0,1,0,4,15,31,63,0,128,0,512,1920,3968,8064,127,32767] [gF 10 1 2,gL 11 10,gM 12 4,gB 13 .sub 12 (cI 1),gI 14 3 11 13,gF 15 14 0,gL 16 15,gF 17 1 2,gL 18 17,gM 19 4,gB 20 .sub 19 (cI 1),gI 21 3 18 20,gF 22 21 1,gL 23 22,gA 2 16,gA 3 23]) .ret) .skip))) (.seq (.drw [0,1,0,4,3,31] [gF 24 1 0,gL 25 24,gF 26 1 1,gL 27 26,gA 2 25,gA 3 27]) .ret)))
theorem Nn:OF 24 28 Ng [.t 2,.t 3]:=oF Try.func24 rfl Try.ntmps24 (by kernel_rfl) (by kernel_rfl)
abbrev N5:FuncId:=38
def Nh:Stm:=(sO [O1 (.box 2 0),gA 4 (cI 0),gA 5 cF] (sO [gU 9 3 2,gC 10 24 [nL 9],gA 8 10,gE 11 8 0,gE 12 8 1,gA 6 11,gA 7 12] (.seq (.block 0 (sO [gM 14 1,gF 15 2 0,gL 16 15,gB 17 .lss 14 16,gM 18 17,qf 18 (iM 19 1),qf 18 (iM 20 6),qf 18 (iB 21 .gtr 19 20),gP 22 18 cT 21,gA 13 22] (.cond 13 (sO [gA 4 (cI 0),gA 5 cF] .ret) (sO [gM 24 1,gF 25 2 0,gL 26 25,gB 27 .eql 24 26,gA 23 27] (cR 23 [gF 28 2 1,gL 29 28,gA 4 29,gA 5 cT]))))) (sO [gF 30 2 2,gL 31 30,gM 32 1,gF 33 2 0,gL 34 33,gB 35 .sub 32 34,gB 36 .sub 35 (cI 1),gI 37 3 31 36,gF 38 37 1,gL 39 38,gA 4 39,gA 5 cT] .ret))))
theorem Np:OF 38 40 Nh [.t 4,.t 5]:=oF Try.func38 rfl Try.ntmps38 (by kernel_rfl) (by kernel_rfl)
abbrev Db:FuncId:=39
def Da:Stm:=(sO [gA 2 (.nils 60 3)] (.seq (sO [gM 3 0,O1 (.isnil 4 false 3)] (cR 4 [gA 2 (.nils 60 3)])) (sO [O1 (.empty 5 60 3),gM 6 0,O1 (.app 7 60 3 32 5 6),gA 2 7] .ret)))
theorem C6:OFV 39 8 Da 2:=oFV Try.func39 rfl Try.ntmps39 (by kernel_rfl) (by kernel_rfl) (by decide)
abbrev Qu:FuncId:=46
def Pm:Stm:=(sO [O1 (.box 3 0),O1 (.alloc 6 (.one (.i (.agg [(.int .i64 0),(.int .i64 0),(.list [])])))),gA 7 cF] (sO [gU 12 3 3,gC 13 24 [nL 12],gA 11 13,gE 14 11 0,gE 15 11 1,gA 8 14,gA 9 15] (.seq (.drw [0,1,0,4,0,16,48,0,128,0,0,1920,3968,8176,16383,0,65535] [gF 16 3 0,gL 17 16,gF 18 3 1,gL 19 18,gF 20 3 2,gL 21 20,gC 22 39 [nL 21],gM 23 8,gB 24 .add 23 (cI 1),gM 25 1,gM 26 2,O1 (.build 27 [(.int .i64 0),(.int .i64 0),(.str [])] [(0,24),(1,25),(2,26)]),O1 (.bsl 28 60 3 (.agg [(.int .i64 0),(.int .i64 0),(.str [])]) 1 [(0,27)]),O1 (.app 29 60 3 32 22 28),O1 (.build 30 [(.int .i64 0),(.int .i64 0),(.list [])] [(0,17),(1,19),(2,29)]),O1 (.alloc 10 (.one (.i (.agg [(.int .i64 0),(.int .i64 0),(.list [])])))),gS 3 10 30]) (.seq (sO [gU 31 3 10,gC 32 56 [nL 31],gT 33 32] (cR 33 [gU 34 3 3,gS 3 6 34,gA 7 cF])) (sO [gU 35 3 10,gS 3 6 35,gA 7 cT] .ret)))))
theorem Pv:OF 46 36 Pm [.cell 6 true 3,.t 7]:=oF Try.func46 rfl Try.ntmps46 (by kernel_rfl) (by kernel_rfl)
abbrev F7:FuncId:=56
def Mf:Stm:=(sO [O1 (.box 1 0),gA 2 cF] (.seq (sO [gF 5 1 0,gL 6 5,gC 7 63 [nL 6],gT 8 7,gM 9 8,qf 9 (iG 10 1 1 1),qf 9 (iL 11 10),.call (some (9,false)) (some 12) 63 [nL 11],qf 9 (iT 13 12),gP 14 9 cT 13,gM 15 14,qf 15 (iG 16 1 2 2),qf 15 (iL 17 16),qf 15 (iN 18 17),qf 15 (iB 19 .gtr 18 (cI 4096)),gP 20 15 cT 19] (cR 20 [gA 2 cF])) (.seq (sO [gF 21 1 2,gL 22 21,gN 23 22,gM 24 (cI 0)] (.block 0 (.loop (kr [2,4] 25 20) (sO [gB 25 .lss 24 23] (.seq (.cond 25 .skip (.exit 0)) (.seq (.block 1 (sO [gI 26 3 22 24,gU 27 3 26,O1 (.alloc 4 (.one (.i (.agg [(.int .i64 0),(.int .i64 0),(.str [])])))),gS 3 4 27] (sO [gF 28 4 0,gL 29 28,gC 30 63 [nL 29],gT 31 30,gM 32 31,qf 32 (iG 33 4 1 1),qf 32 (iL 34 33),.call (some (32,false)) (some 35) 63 [nL 34],qf 32 (iT 36 35),gP 37 32 cT 36,gM 38 37,qf 38 (iG 39 4 2 2),qf 38 (iL 40 39),qf 38 (.len 41 true 40),qf 38 (iB 42 .gtr 41 (cI 8192)),gP 43 38 cT 42] (cR 43 [gA 2 cF])))) (.ops [gB 44 .add 24 (cI 1),gM 24 44]))))))) (sO [gF 45 1 0,gL 46 45,gF 47 1 1,gL 48 47,gF 49 1 2,gL 50 49,gC 51 64 [nL 46,nL 48,nL 50],gA 2 51] .ret))))
theorem Mn:OF 56 52 Mf [.t 2]:=oF Try.func56 rfl Try.ntmps56 (by kernel_rfl) (by kernel_rfl)
abbrev Yz:FuncId:=63
def Xi:Stm:=(sO [gA 2 cF] (sO [gM 3 0,gB 4 .geq 3 (cI 0),gM 5 4,qt 5 (iM 6 0),qt 5 (iB 7 .leq 6 (cI 1099511627776)),gP 8 5 7 cF,gA 2 8] .ret))
theorem Xo:OF 63 9 Xi [.t 2]:=oF Try.func63 rfl Try.ntmps63 (by kernel_rfl) (by kernel_rfl)
abbrev Vc:FuncId:=64
def Ti:Stm:=(sO [gA 6 cF] (.seq (sO [gM 9 2,gN 10 9,gM 11 (cI 0)] (.block 0 (.loop (kr [6,7,8] 12 20) (sO [gB 12 .lss 11 10] (.seq (.cond 12 .skip (.exit 0)) (.seq (.block 1 (sO [gM 13 11,gI 14 3 9 11,gU 15 3 14,O1 (.alloc 8 (.one (.i (.agg [(.int .i64 0),(.int .i64 0),(.str [])])))),gA 7 13,gS 3 8 15] (.seq (sO [gF 16 8 0,gL 17 16,gB 18 .sub 17 (cI 1),gM 19 7,gB 20 .sub 18 19,gM 21 0,gB 22 .neq 20 21,gM 23 22,qf 23 (iG 24 8 1 1),qf 23 (iL 25 24),qf 23 (iM 26 1),qf 23 (iB 27 .lss 25 26),gP 28 23 cT 27] (cR 28 [gA 6 cF])) (.ops [gF 29 8 1,gL 30 29,gA 1 30])))) (.ops [gB 31 .add 11 (cI 1),gM 11 31]))))))) (sO [gA 6 cT] .ret)))
theorem Tt:OF 64 32 Ti [.t 6]:=oF Try.func64 rfl Try.ntmps64 (by kernel_rfl) (by kernel_rfl)

open Go.Proofs
structure Ent where
 i:Int
 t:Int
 d:List UInt8
 deriving DecidableEq
def Ent.toI (e:Ent):I:=.agg [.int .i64 e.i,.int .i64 e.t,.str e.d]
abbrev ents (l:List Ent):I:=.list (l.map Ent.toI)
abbrev Bp (n:Int):Int:=IntKind.i64.wrap n
theorem Kx (l:List Ent):∀u∈l.map Ent.toI,u.size=3:=by
 intro u hu
 obtain⟨e,_,rfl⟩:=List.mem_map.1 hu
 rfl
theorem Gg {l:List Ent} {k:Nat} {e:Ent} (h:l[k]?=some e):(l.map Ent.toI)[k]?=some e.toI:=by simp[h]
def inB (n:Int):Bool:=decide (0≤n)&&decide (n≤1099511627776)
theorem W1 (n:Int):Fn Try.prog Yz [.v (.int .i64 n)] (Is (.v (.bool (inB n))) [.no]):=by
 refine Xo ?_ (by simp)
 repeat'((conv=>whnf);first
  |((with_reducible refine Ar (by first|(with_reducible assumption)|(with_reducible exact Bool.of_not_eq_false (by assumption))|(with_reducible exact Bool.of_not_eq_true (by assumption))|((with_reducible refine decide_eq_true ?_);first|(with_reducible assumption)|omega)|((with_reducible refine decide_eq_false ?_);first|(with_reducible assumption)|omega)|(with_reducible rfl)) (fun hb=>?_));(try rw[hb]);(try simp only[Aa,Bool.false_eq_true,Bool.true_eq_false]at hb);(try subst hb))
  |((with_reducible refine Aq (by first|(with_reducible assumption)|(with_reducible exact Bool.of_not_eq_false (by assumption))|(with_reducible exact Bool.of_not_eq_true (by assumption))|((with_reducible refine decide_eq_true ?_);first|(with_reducible assumption)|omega)|((with_reducible refine decide_eq_false ?_);first|(with_reducible assumption)|omega)|(with_reducible rfl)) (fun hb=>?_));(try rw[hb]);(try simp only[Aa,Bool.false_eq_true,Bool.true_eq_false]at hb);(try subst hb))
  |((with_reducible refine And.intro (fun hb=>?_) (fun hb=>?_))<;>first|(with_reducible exact absurd hb (by assumption))|(exact absurd hb (by decide))|(with_reducible exact absurd hb Bool.false_ne_true)|(with_reducible exact absurd hb.symm Bool.false_ne_true)|(exfalso;first|(simp only[Aj]at hb<;>omega)|omega)|((try rw[hb]);(try simp only[Aa,Bool.false_eq_true,Bool.true_eq_false]at hb);(try subst hb)))
  |((with_reducible refine Exists.intro ?_ ?_);focus (and_intros<;>first|omega|(with_reducible assumption)|(with_reducible rfl)|kernel_rfl|exact rfl|assumption|(intro _ hh;cases hh;done)|exact Ah (by rfl)|exact size_map (fun _=>rfl)|exact Ai rfl|exact take_size (fun _=>rfl)|exact Af rfl|exact Ae (fun _=>rfl)|exact Ad (fun _=>rfl)|(simp only[Aj];omega)|(simp;done)|decide))
  |(with_reducible intro hfact)
  |((with_reducible refine And.intro ?_ ?_);focus (first|(with_reducible rfl)|(exact rfl)|decide)))
 all_goals(try(conv=>whnf))
 all_goals refine Done.mk ⟨SV.bool_congr ?_,by kernel_rfl⟩ (by kernel_rfl)
 all_goals(simp_all [inB]<;>omega)
def Ch (ix:Int):Nat→Int→List Ent→Bool
 |_,_,[]=>true
 |k,t,e::r=> !(decide (Bp (Bp (e.i - 1) - k)≠ix)||decide (e.t<t))&&Ch ix (k+1) e.t r
theorem Aax (ix t0:Int) (es:List Ent):Fn Try.prog Vc [.v (.int .i64 ix),.v (.int .i64 t0),.v (.list (es.map Ent.toI))] (Is (.v (.bool (Ch ix 0 t0 es))) [.no,.no,.no]):=by
 refine Tt ?_ (by simp)
 repeat'((conv=>whnf);first
  |((with_reducible refine Ar (by first|(with_reducible assumption)|(with_reducible exact Bool.of_not_eq_false (by assumption))|(with_reducible exact Bool.of_not_eq_true (by assumption))|((with_reducible refine decide_eq_true ?_);first|(with_reducible assumption)|omega)|((with_reducible refine decide_eq_false ?_);first|(with_reducible assumption)|omega)|(with_reducible rfl)) (fun hb=>?_));(try rw[hb]);(try simp only[Aa,Bool.false_eq_true,Bool.true_eq_false]at hb);(try subst hb))
  |((with_reducible refine Aq (by first|(with_reducible assumption)|(with_reducible exact Bool.of_not_eq_false (by assumption))|(with_reducible exact Bool.of_not_eq_true (by assumption))|((with_reducible refine decide_eq_true ?_);first|(with_reducible assumption)|omega)|((with_reducible refine decide_eq_false ?_);first|(with_reducible assumption)|omega)|(with_reducible rfl)) (fun hb=>?_));(try rw[hb]);(try simp only[Aa,Bool.false_eq_true,Bool.true_eq_false]at hb);(try subst hb))
  |((with_reducible refine And.intro (fun hb=>?_) (fun hb=>?_))<;>first|(with_reducible exact absurd hb (by assumption))|(exact absurd hb (by decide))|(with_reducible exact absurd hb Bool.false_ne_true)|(with_reducible exact absurd hb.symm Bool.false_ne_true)|(exfalso;first|(simp only[Aj]at hb<;>omega)|omega)|((try rw[hb]);(try simp only[Aa,Bool.false_eq_true,Bool.true_eq_false]at hb);(try subst hb)))
  |((with_reducible refine Exists.intro ?_ ?_);focus (and_intros<;>first|omega|(with_reducible assumption)|(with_reducible rfl)|kernel_rfl|exact rfl|assumption|(intro _ hh;cases hh;done)|exact Ah (by rfl)|exact size_map (fun _=>rfl)|exact Ai rfl|exact take_size (fun _=>rfl)|exact Af rfl|exact Ae (fun _=>rfl)|exact Ad (fun _=>rfl)|(simp only[Aj];omega)|(simp;done)|decide))
  |(with_reducible intro hfact)
  |((with_reducible refine And.intro ?_ ?_);focus (first|(with_reducible rfl)|(exact rfl)|decide)))
 all_goals(try(conv=>whnf))
 refine LoopWq.by (X:=Nat × Int) (fun x=>[(1,.v (.int .i64 x.2)),(11,.v (.int .i64 x.1))]) (fun x=>x.1≤es.length∧Ch ix x.1 x.2 (es.drop x.1)=Ch ix 0 t0 es) (fun x=>es.length - x.1)
  (0,t0) (by kernel_rfl) ⟨Nat.zero_le _,rfl⟩ ?_
 rintro⟨k,t⟩ ⟨h1,h2⟩
 dsimp only at h1 h2 ⊢
 by_cases hk:k<es.length
 ·obtain⟨e,he⟩:∃e,es[k]?=some e:=⟨es[k],List.getElem?_eq_getElem hk⟩
  have hg:(es.map Ent.toI)[Int.toNat (k:Int)]?=some e.toI:=Gg he
  have hlt:¬decide ((k:Int)<((es.map Ent.toI).length:Int))=false:=by simp[hk]
  rw[List.drop_eq_getElem_cons hk]at h2
  repeat'((conv=>whnf);first
   |((with_reducible refine Ar (by first|(with_reducible assumption)|(with_reducible exact Bool.of_not_eq_false (by assumption))|(with_reducible exact Bool.of_not_eq_true (by assumption))|((with_reducible refine decide_eq_true ?_);first|(with_reducible assumption)|omega)|((with_reducible refine decide_eq_false ?_);first|(with_reducible assumption)|omega)|(with_reducible rfl)) (fun hb=>?_));(try rw[hb]);(try simp only[Aa,Bool.false_eq_true,Bool.true_eq_false]at hb);(try subst hb))
   |((with_reducible refine Aq (by first|(with_reducible assumption)|(with_reducible exact Bool.of_not_eq_false (by assumption))|(with_reducible exact Bool.of_not_eq_true (by assumption))|((with_reducible refine decide_eq_true ?_);first|(with_reducible assumption)|omega)|((with_reducible refine decide_eq_false ?_);first|(with_reducible assumption)|omega)|(with_reducible rfl)) (fun hb=>?_));(try rw[hb]);(try simp only[Aa,Bool.false_eq_true,Bool.true_eq_false]at hb);(try subst hb))
   |((with_reducible refine And.intro (fun hb=>?_) (fun hb=>?_))<;>first|(with_reducible exact absurd hb (by assumption))|(exact absurd hb (by decide))|(with_reducible exact absurd hb Bool.false_ne_true)|(with_reducible exact absurd hb.symm Bool.false_ne_true)|(exfalso;first|(simp only[Aj]at hb<;>omega)|omega)|((try rw[hb]);(try simp only[Aa,Bool.false_eq_true,Bool.true_eq_false]at hb);(try subst hb)))
   |((with_reducible refine Exists.intro ?_ ?_);focus (and_intros<;>first|omega|(with_reducible assumption)|(with_reducible rfl)|kernel_rfl|exact rfl|assumption|(intro _ hh;cases hh;done)|exact Ah (by rfl)|exact size_map (fun _=>rfl)|exact Ai rfl|exact take_size (fun _=>rfl)|exact Af rfl|exact Ae (fun _=>rfl)|exact Ad (fun _=>rfl)|(simp only[Aj];omega)|(simp;done)|decide))
   |(with_reducible intro hfact)
   |((with_reducible refine And.intro ?_ ?_);focus (first|(with_reducible rfl)|(exact rfl)|decide))
   |((try dsimp only);rw[hg]))
  all_goals(try(conv=>whnf))
  ·refine Done.mk ⟨SV.bool_congr ?_,by kernel_rfl⟩ (by kernel_rfl)
   rw[←h2];simp_all [Ch]
  ·refine Done.mk ⟨SV.bool_congr ?_,by kernel_rfl⟩ (by kernel_rfl)
   rw[←h2];simp_all [Ch]
  ·refine Round.by (k+1,e.t) ?_ ?_ ?_
   ·rw[Cm hk (by simpa using hfact)]
    show norm _ _=upd _ _
    kernel_rfl
   ·refine⟨hk,?_⟩
    rw[←h2];simp_all [Ch]
   ·show es.length - (k+1)<es.length - k
    omega
 ·have hlt:¬decide ((k:Int)<((es.map Ent.toI).length:Int))=true:=by simp;omega
  repeat'((conv=>whnf);first
   |((with_reducible refine Ar (by first|(with_reducible assumption)|(with_reducible exact Bool.of_not_eq_false (by assumption))|(with_reducible exact Bool.of_not_eq_true (by assumption))|((with_reducible refine decide_eq_true ?_);first|(with_reducible assumption)|omega)|((with_reducible refine decide_eq_false ?_);first|(with_reducible assumption)|omega)|(with_reducible rfl)) (fun hb=>?_));(try rw[hb]);(try simp only[Aa,Bool.false_eq_true,Bool.true_eq_false]at hb);(try subst hb))
   |((with_reducible refine Aq (by first|(with_reducible assumption)|(with_reducible exact Bool.of_not_eq_false (by assumption))|(with_reducible exact Bool.of_not_eq_true (by assumption))|((with_reducible refine decide_eq_true ?_);first|(with_reducible assumption)|omega)|((with_reducible refine decide_eq_false ?_);first|(with_reducible assumption)|omega)|(with_reducible rfl)) (fun hb=>?_));(try rw[hb]);(try simp only[Aa,Bool.false_eq_true,Bool.true_eq_false]at hb);(try subst hb))
   |((with_reducible refine And.intro (fun hb=>?_) (fun hb=>?_))<;>first|(with_reducible exact absurd hb (by assumption))|(exact absurd hb (by decide))|(with_reducible exact absurd hb Bool.false_ne_true)|(with_reducible exact absurd hb.symm Bool.false_ne_true)|(exfalso;first|(simp only[Aj]at hb<;>omega)|omega)|((try rw[hb]);(try simp only[Aa,Bool.false_eq_true,Bool.true_eq_false]at hb);(try subst hb)))
   |((with_reducible refine Exists.intro ?_ ?_);focus (and_intros<;>first|omega|(with_reducible assumption)|(with_reducible rfl)|kernel_rfl|exact rfl|assumption|(intro _ hh;cases hh;done)|exact Ah (by rfl)|exact size_map (fun _=>rfl)|exact Ai rfl|exact take_size (fun _=>rfl)|exact Af rfl|exact Ae (fun _=>rfl)|exact Ad (fun _=>rfl)|(simp only[Aj];omega)|(simp;done)|decide))
   |(with_reducible intro hfact)
   |((with_reducible refine And.intro ?_ ?_);focus (first|(with_reducible rfl)|(exact rfl)|decide)))
  all_goals(try(conv=>whnf))
  refine Done.mk ⟨SV.bool_congr ?_,by kernel_rfl⟩ (by kernel_rfl)
  rw[←h2,List.drop_eq_nil_of_le (by omega)];simp[Ch]
theorem Qk (l:List I) (h:∀u∈l,u.size=3) (hl:l.length≤1000000):Fn Try.prog Db [.v (.list l)] (Is (.vec E1 3 l) [.no]):=by
 refine C6 ?_ (by simp)
 have hb1:(([]:List I).length+l.length)*32≤140737488355328∧([]:List I).length+l.length≤maxLen∧∀u∈l,u.size=3:=⟨by simp;omega,by simp[maxLen];omega,h⟩
 repeat'((conv=>whnf);first
  |((with_reducible refine Ar (by first|(with_reducible assumption)|(with_reducible exact Bool.of_not_eq_false (by assumption))|(with_reducible exact Bool.of_not_eq_true (by assumption))|((with_reducible refine decide_eq_true ?_);first|(with_reducible assumption)|omega)|((with_reducible refine decide_eq_false ?_);first|(with_reducible assumption)|omega)|(with_reducible rfl)) (fun hb=>?_));(try rw[hb]);(try simp only[Aa,Bool.false_eq_true,Bool.true_eq_false]at hb);(try subst hb))
  |((with_reducible refine Aq (by first|(with_reducible assumption)|(with_reducible exact Bool.of_not_eq_false (by assumption))|(with_reducible exact Bool.of_not_eq_true (by assumption))|((with_reducible refine decide_eq_true ?_);first|(with_reducible assumption)|omega)|((with_reducible refine decide_eq_false ?_);first|(with_reducible assumption)|omega)|(with_reducible rfl)) (fun hb=>?_));(try rw[hb]);(try simp only[Aa,Bool.false_eq_true,Bool.true_eq_false]at hb);(try subst hb))
  |((with_reducible refine And.intro (fun hb=>?_) (fun hb=>?_))<;>first|(with_reducible exact absurd hb (by assumption))|(exact absurd hb (by decide))|(with_reducible exact absurd hb Bool.false_ne_true)|(with_reducible exact absurd hb.symm Bool.false_ne_true)|(exfalso;first|(simp only[Aj]at hb<;>omega)|omega)|((try rw[hb]);(try simp only[Aa,Bool.false_eq_true,Bool.true_eq_false]at hb);(try subst hb)))
  |((with_reducible refine Exists.intro ?_ ?_);focus (and_intros<;>first|omega|(with_reducible assumption)|(with_reducible rfl)|kernel_rfl|exact rfl|assumption|(intro _ hh;cases hh;done)|exact Ah (by rfl)|exact size_map (fun _=>rfl)|exact Ai rfl|exact take_size (fun _=>rfl)|exact Af rfl|exact Ae (fun _=>rfl)|exact Ad (fun _=>rfl)|(simp only[Aj];omega)|(simp;done)|decide))
  |(with_reducible intro hfact)
  |((with_reducible refine And.intro ?_ ?_);focus (first|(with_reducible rfl)|(exact rfl)|decide)))
 all_goals(try(conv=>whnf))
 ·refine Done.mk ⟨congrArg (fun l=>SV.vec E1 3 l) ?_,by kernel_rfl⟩ (by kernel_rfl)
  simp_all
 ·exact Done.mk ⟨congrArg (fun l=>SV.vec E1 3 l) (List.nil_append l),by kernel_rfl⟩ (by kernel_rfl)
abbrev logI (ix tm:Int) (es:List Ent):I:=.agg [.int .i64 ix,.int .i64 tm,ents es]
def A3 (ix tm:Int) (es:List Ent):Int × Int:=match es.getLast? with
 |some e=>(e.i,e.t)
 |none=>(ix,tm)
theorem Bt (ix tm:Int) (es:List Ent):Fn Try.prog N4 [.v (logI ix tm es)] (Is (.tup [.i (.int .i64 (A3 ix tm es).1),.i (.int .i64 (A3 ix tm es).2)]) [.no]):=by
 refine Nn ?_ (by simp)
 rcases List.eq_nil_or_concat es with rfl|⟨es',e,he⟩
 ·have hn:¬decide ((0:Int)<((([]:List Ent).map Ent.toI).length:Int))=true:=by simp
  repeat'((conv=>whnf);first
   |((with_reducible refine Ar (by first|(with_reducible assumption)|(with_reducible exact Bool.of_not_eq_false (by assumption))|(with_reducible exact Bool.of_not_eq_true (by assumption))|((with_reducible refine decide_eq_true ?_);first|(with_reducible assumption)|omega)|((with_reducible refine decide_eq_false ?_);first|(with_reducible assumption)|omega)|(with_reducible rfl)) (fun hb=>?_));(try rw[hb]);(try simp only[Aa,Bool.false_eq_true,Bool.true_eq_false]at hb);(try subst hb))
   |((with_reducible refine Aq (by first|(with_reducible assumption)|(with_reducible exact Bool.of_not_eq_false (by assumption))|(with_reducible exact Bool.of_not_eq_true (by assumption))|((with_reducible refine decide_eq_true ?_);first|(with_reducible assumption)|omega)|((with_reducible refine decide_eq_false ?_);first|(with_reducible assumption)|omega)|(with_reducible rfl)) (fun hb=>?_));(try rw[hb]);(try simp only[Aa,Bool.false_eq_true,Bool.true_eq_false]at hb);(try subst hb))
   |((with_reducible refine And.intro (fun hb=>?_) (fun hb=>?_))<;>first|(with_reducible exact absurd hb (by assumption))|(exact absurd hb (by decide))|(with_reducible exact absurd hb Bool.false_ne_true)|(with_reducible exact absurd hb.symm Bool.false_ne_true)|(exfalso;first|(simp only[Aj]at hb<;>omega)|omega)|((try rw[hb]);(try simp only[Aa,Bool.false_eq_true,Bool.true_eq_false]at hb);(try subst hb)))
   |((with_reducible refine Exists.intro ?_ ?_);focus (and_intros<;>first|omega|(with_reducible assumption)|(with_reducible rfl)|kernel_rfl|exact rfl|assumption|(intro _ hh;cases hh;done)|exact Ah (by rfl)|exact size_map (fun _=>rfl)|exact Ai rfl|exact take_size (fun _=>rfl)|exact Af rfl|exact Ae (fun _=>rfl)|exact Ad (fun _=>rfl)|(simp only[Aj];omega)|(simp;done)|decide))
   |(with_reducible intro hfact)
   |((with_reducible refine And.intro ?_ ?_);focus (first|(with_reducible rfl)|(exact rfl)|decide))
   |((with_reducible apply Drawn.by0);(focus kernel_rfl);intro hfact;(try simp only[dRS]at hfact)))
  all_goals(try(conv=>whnf))
  exact Done.mk ⟨rfl,by kernel_rfl⟩ (by kernel_rfl)
 ·rw[List.concat_eq_append]at he
  subst he
  have hn:¬decide ((0:Int)<(((es'++[e]).map Ent.toI).length:Int))=false:=by simp
  have hlen:((es'++[e]).map Ent.toI).length=es'.length+1:=by simp
  by_cases hm:((es'++[e]).map Ent.toI).length≤maxLen
  ·have hw:IntKind.i64.wrap ((((es'++[e]).map Ent.toI).length:Int) - 1)=(es'.length:Int):=by
    simp only[maxLen]at hm
    rw[D7 (by omega)]
    omega
   have h0:0≤IntKind.i64.wrap ((((es'++[e]).map Ent.toI).length:Int) - 1):=by rw[hw];omega
   have hg:((es'++[e]).map Ent.toI)[Int.toNat (IntKind.i64.wrap ((((es'++[e]).map Ent.toI).length:Int) - 1))]?=some e.toI:=by rw[hw];simp
   repeat'((conv=>whnf);first
    |((with_reducible refine Ar (by first|(with_reducible assumption)|(with_reducible exact Bool.of_not_eq_false (by assumption))|(with_reducible exact Bool.of_not_eq_true (by assumption))|((with_reducible refine decide_eq_true ?_);first|(with_reducible assumption)|omega)|((with_reducible refine decide_eq_false ?_);first|(with_reducible assumption)|omega)|(with_reducible rfl)) (fun hb=>?_));(try rw[hb]);(try simp only[Aa,Bool.false_eq_true,Bool.true_eq_false]at hb);(try subst hb))
    |((with_reducible refine Aq (by first|(with_reducible assumption)|(with_reducible exact Bool.of_not_eq_false (by assumption))|(with_reducible exact Bool.of_not_eq_true (by assumption))|((with_reducible refine decide_eq_true ?_);first|(with_reducible assumption)|omega)|((with_reducible refine decide_eq_false ?_);first|(with_reducible assumption)|omega)|(with_reducible rfl)) (fun hb=>?_));(try rw[hb]);(try simp only[Aa,Bool.false_eq_true,Bool.true_eq_false]at hb);(try subst hb))
    |((with_reducible refine And.intro (fun hb=>?_) (fun hb=>?_))<;>first|(with_reducible exact absurd hb (by assumption))|(exact absurd hb (by decide))|(with_reducible exact absurd hb Bool.false_ne_true)|(with_reducible exact absurd hb.symm Bool.false_ne_true)|(exfalso;first|(simp only[Aj]at hb<;>omega)|omega)|((try rw[hb]);(try simp only[Aa,Bool.false_eq_true,Bool.true_eq_false]at hb);(try subst hb)))
    |((with_reducible refine Exists.intro ?_ ?_);focus (and_intros<;>first|omega|(with_reducible assumption)|(with_reducible rfl)|kernel_rfl|exact rfl|assumption|(intro _ hh;cases hh;done)|exact Ah (by rfl)|exact size_map (fun _=>rfl)|exact Ai rfl|exact take_size (fun _=>rfl)|exact Af rfl|exact Ae (fun _=>rfl)|exact Ad (fun _=>rfl)|(simp only[Aj];omega)|(simp;done)|decide))
    |(with_reducible intro hfact)
    |((with_reducible refine And.intro ?_ ?_);focus (first|(with_reducible rfl)|(exact rfl)|decide))
    |((with_reducible apply Drawn.by0);(focus kernel_rfl);intro hfact;(try simp only[dRS]at hfact))
    |((try dsimp only);rw[hg]))
   all_goals(try(conv=>whnf))
   refine Done.mk ⟨?_,by kernel_rfl⟩ (by kernel_rfl)
   simp[A3,C8]
  ·repeat'((conv=>whnf);first
    |((with_reducible refine Ar (by first|(with_reducible assumption)|(with_reducible exact Bool.of_not_eq_false (by assumption))|(with_reducible exact Bool.of_not_eq_true (by assumption))|((with_reducible refine decide_eq_true ?_);first|(with_reducible assumption)|omega)|((with_reducible refine decide_eq_false ?_);first|(with_reducible assumption)|omega)|(with_reducible rfl)) (fun hb=>?_));(try rw[hb]);(try simp only[Aa,Bool.false_eq_true,Bool.true_eq_false]at hb);(try subst hb))
    |((with_reducible refine Aq (by first|(with_reducible assumption)|(with_reducible exact Bool.of_not_eq_false (by assumption))|(with_reducible exact Bool.of_not_eq_true (by assumption))|((with_reducible refine decide_eq_true ?_);first|(with_reducible assumption)|omega)|((with_reducible refine decide_eq_false ?_);first|(with_reducible assumption)|omega)|(with_reducible rfl)) (fun hb=>?_));(try rw[hb]);(try simp only[Aa,Bool.false_eq_true,Bool.true_eq_false]at hb);(try subst hb))
    |((with_reducible refine And.intro (fun hb=>?_) (fun hb=>?_))<;>first|(with_reducible exact absurd hb (by assumption))|(exact absurd hb (by decide))|(with_reducible exact absurd hb Bool.false_ne_true)|(with_reducible exact absurd hb.symm Bool.false_ne_true)|(exfalso;first|(simp only[Aj]at hb<;>omega)|omega)|((try rw[hb]);(try simp only[Aa,Bool.false_eq_true,Bool.true_eq_false]at hb);(try subst hb)))
    |((with_reducible refine Exists.intro ?_ ?_);focus (and_intros<;>first|omega|(with_reducible assumption)|(with_reducible rfl)|kernel_rfl|exact rfl|assumption|(intro _ hh;cases hh;done)|exact Ah (by rfl)|exact size_map (fun _=>rfl)|exact Ai rfl|exact take_size (fun _=>rfl)|exact Af rfl|exact Ae (fun _=>rfl)|exact Ad (fun _=>rfl)|(simp only[Aj];omega)|(simp;done)|decide))
    |(with_reducible intro hfact)
    |((with_reducible refine And.intro ?_ ?_);focus (first|(with_reducible rfl)|(exact rfl)|decide))
    |((with_reducible apply Drawn.by0);(focus kernel_rfl);intro hfact;(try simp only[dRS]at hfact)))
   all_goals(try(conv=>whnf))
   all_goals exact absurd (by assumption) hm
theorem Hm (ix tm:Int) (es:List Ent):Fn Try.prog N3 [.v (logI ix tm es)] (Is (.tup [.i (.int .i64 ix),.i (.int .i64 tm)]) [.no]):=by
 refine Nk ?_ (by simp)
 repeat'((conv=>whnf);first
  |((with_reducible refine Ar (by first|(with_reducible assumption)|(with_reducible exact Bool.of_not_eq_false (by assumption))|(with_reducible exact Bool.of_not_eq_true (by assumption))|((with_reducible refine decide_eq_true ?_);first|(with_reducible assumption)|omega)|((with_reducible refine decide_eq_false ?_);first|(with_reducible assumption)|omega)|(with_reducible rfl)) (fun hb=>?_));(try rw[hb]);(try simp only[Aa,Bool.false_eq_true,Bool.true_eq_false]at hb);(try subst hb))
  |((with_reducible refine Aq (by first|(with_reducible assumption)|(with_reducible exact Bool.of_not_eq_false (by assumption))|(with_reducible exact Bool.of_not_eq_true (by assumption))|((with_reducible refine decide_eq_true ?_);first|(with_reducible assumption)|omega)|((with_reducible refine decide_eq_false ?_);first|(with_reducible assumption)|omega)|(with_reducible rfl)) (fun hb=>?_));(try rw[hb]);(try simp only[Aa,Bool.false_eq_true,Bool.true_eq_false]at hb);(try subst hb))
  |((with_reducible refine And.intro (fun hb=>?_) (fun hb=>?_))<;>first|(with_reducible exact absurd hb (by assumption))|(exact absurd hb (by decide))|(with_reducible exact absurd hb Bool.false_ne_true)|(with_reducible exact absurd hb.symm Bool.false_ne_true)|(exfalso;first|(simp only[Aj]at hb<;>omega)|omega)|((try rw[hb]);(try simp only[Aa,Bool.false_eq_true,Bool.true_eq_false]at hb);(try subst hb)))
  |((with_reducible refine Exists.intro ?_ ?_);focus (and_intros<;>first|omega|(with_reducible assumption)|(with_reducible rfl)|kernel_rfl|exact rfl|assumption|(intro _ hh;cases hh;done)|exact Ah (by rfl)|exact size_map (fun _=>rfl)|exact Ai rfl|exact take_size (fun _=>rfl)|exact Af rfl|exact Ae (fun _=>rfl)|exact Ad (fun _=>rfl)|(simp only[Aj];omega)|(simp;done)|decide))
  |(with_reducible intro hfact)
  |((with_reducible refine And.intro ?_ ?_);focus (first|(with_reducible rfl)|(exact rfl)|decide))
  |((with_reducible apply Drawn.by0);(focus kernel_rfl);intro hfact;(try simp only[dRS]at hfact)))
 all_goals(try(conv=>whnf))
 exact Done.mk ⟨rfl,by kernel_rfl⟩ (by kernel_rfl)

open Go.Proofs
def E4 (e:Ent):Bool:=inB e.i&&inB e.t&& !decide ((8192:Int)<e.d.length)
def right (ix tm:Int) (es:List Ent):Bool:=inB ix&&inB tm&& !decide ((4096:Int)<es.length)&&es.all E4&&Ch ix 0 tm es
theorem Yq (ix tm:Int) (es:List Ent):Fn Try.prog F7 [.v (logI ix tm es)] (Is (.v (.bool (right ix tm es))) [.no]):=by
 refine Mn ?_ (by simp)
 repeat'((conv=>whnf);first
  |((with_reducible refine Ar (by first|(with_reducible assumption)|(with_reducible exact Bool.of_not_eq_false (by assumption))|(with_reducible exact Bool.of_not_eq_true (by assumption))|((with_reducible refine decide_eq_true ?_);first|(with_reducible assumption)|omega)|((with_reducible refine decide_eq_false ?_);first|(with_reducible assumption)|omega)|(with_reducible rfl)) (fun hb=>?_));(try rw[hb]);(try simp only[Aa,Bool.false_eq_true,Bool.true_eq_false]at hb);(try subst hb))
  |((with_reducible refine Aq (by first|(with_reducible assumption)|(with_reducible exact Bool.of_not_eq_false (by assumption))|(with_reducible exact Bool.of_not_eq_true (by assumption))|((with_reducible refine decide_eq_true ?_);first|(with_reducible assumption)|omega)|((with_reducible refine decide_eq_false ?_);first|(with_reducible assumption)|omega)|(with_reducible rfl)) (fun hb=>?_));(try rw[hb]);(try simp only[Aa,Bool.false_eq_true,Bool.true_eq_false]at hb);(try subst hb))
  |((with_reducible refine And.intro (fun hb=>?_) (fun hb=>?_))<;>first|(with_reducible exact absurd hb (by assumption))|(exact absurd hb (by decide))|(with_reducible exact absurd hb Bool.false_ne_true)|(with_reducible exact absurd hb.symm Bool.false_ne_true)|(exfalso;first|(simp only[Aj]at hb<;>omega)|omega)|((try rw[hb]);(try simp only[Aa,Bool.false_eq_true,Bool.true_eq_false]at hb);(try subst hb)))
  |((with_reducible refine Exists.intro ?_ ?_);focus (and_intros<;>first|omega|(with_reducible assumption)|(with_reducible rfl)|kernel_rfl|exact rfl|assumption|(intro _ hh;cases hh;done)|exact Ah (by rfl)|exact size_map (fun _=>rfl)|exact Ai rfl|exact take_size (fun _=>rfl)|exact Af rfl|exact Ae (fun _=>rfl)|exact Ad (fun _=>rfl)|(simp only[Aj];omega)|(simp;done)|decide))
  |(with_reducible intro hfact)
  |((with_reducible refine And.intro ?_ ?_);focus (first|(with_reducible rfl)|(exact rfl)|decide))
  |((with_reducible refine CallWp.mk ?_);refine⟨_,W1 _,?_⟩;rintro _ _ ⟨rfl,rfl⟩))
 all_goals(try(conv=>whnf))
 ·refine Done.mk ⟨SV.bool_congr ?_,by kernel_rfl⟩ (by kernel_rfl)
  simp_all [right]
 ·refine Done.mk ⟨SV.bool_congr ?_,by kernel_rfl⟩ (by kernel_rfl)
  simp_all [right]
 ·refine Done.mk ⟨SV.bool_congr ?_,by kernel_rfl⟩ (by kernel_rfl)
  simp_all [right]
 have hmax:es.length≤maxLen:=by simpa using hfact
 have hr:right ix tm es=(es.all E4&&Ch ix 0 tm es):=by
  have hle:decide ((4096:Int)<es.length)=false:=by simpa using hb
  simp_all only[right,Bool.not_eq_false',Bool.true_and,Bool.not_false]
 rw[hr]
 refine LoopWq.by (X:=Nat) (fun x=>[(24,.v (.int .i64 x))]) (fun x=>x≤es.length∧(es.drop x).all E4=es.all E4) (fun x=>es.length - x)
  0 (by kernel_rfl) ⟨Nat.zero_le _,rfl⟩ ?_
 rintro k ⟨h1,h2⟩
 by_cases hk:k<es.length
 ·obtain⟨e,he⟩:∃e,es[k]?=some e:=⟨es[k],List.getElem?_eq_getElem hk⟩
  have hg:(es.map Ent.toI)[Int.toNat (k:Int)]?=some e.toI:=Gg he
  have hlt:¬decide ((k:Int)<((es.map Ent.toI).length:Int))=false:=by simp[hk]
  have hke:es[k]=e:=by rw[List.getElem?_eq_getElem hk]at he;simpa using he
  rw[List.drop_eq_getElem_cons hk,hke]at h2
  repeat'((conv=>whnf);first
   |((with_reducible refine Ar (by first|(with_reducible assumption)|(with_reducible exact Bool.of_not_eq_false (by assumption))|(with_reducible exact Bool.of_not_eq_true (by assumption))|((with_reducible refine decide_eq_true ?_);first|(with_reducible assumption)|omega)|((with_reducible refine decide_eq_false ?_);first|(with_reducible assumption)|omega)|(with_reducible rfl)) (fun hb=>?_));(try rw[hb]);(try simp only[Aa,Bool.false_eq_true,Bool.true_eq_false]at hb);(try subst hb))
   |((with_reducible refine Aq (by first|(with_reducible assumption)|(with_reducible exact Bool.of_not_eq_false (by assumption))|(with_reducible exact Bool.of_not_eq_true (by assumption))|((with_reducible refine decide_eq_true ?_);first|(with_reducible assumption)|omega)|((with_reducible refine decide_eq_false ?_);first|(with_reducible assumption)|omega)|(with_reducible rfl)) (fun hb=>?_));(try rw[hb]);(try simp only[Aa,Bool.false_eq_true,Bool.true_eq_false]at hb);(try subst hb))
   |((with_reducible refine And.intro (fun hb=>?_) (fun hb=>?_))<;>first|(with_reducible exact absurd hb (by assumption))|(exact absurd hb (by decide))|(with_reducible exact absurd hb Bool.false_ne_true)|(with_reducible exact absurd hb.symm Bool.false_ne_true)|(exfalso;first|(simp only[Aj]at hb<;>omega)|omega)|((try rw[hb]);(try simp only[Aa,Bool.false_eq_true,Bool.true_eq_false]at hb);(try subst hb)))
   |((with_reducible refine Exists.intro ?_ ?_);focus (and_intros<;>first|omega|(with_reducible assumption)|(with_reducible rfl)|kernel_rfl|exact rfl|assumption|(intro _ hh;cases hh;done)|exact Ah (by rfl)|exact size_map (fun _=>rfl)|exact Ai rfl|exact take_size (fun _=>rfl)|exact Af rfl|exact Ae (fun _=>rfl)|exact Ad (fun _=>rfl)|(simp only[Aj];omega)|(simp;done)|decide))
   |(with_reducible intro hfact)
   |((with_reducible refine And.intro ?_ ?_);focus (first|(with_reducible rfl)|(exact rfl)|decide))
   |((try dsimp only);rw[hg])
   |((with_reducible refine CallWp.mk ?_);refine⟨_,W1 _,?_⟩;rintro _ _ ⟨rfl,rfl⟩))
  all_goals(try(conv=>whnf))
  ·refine Done.mk ⟨SV.bool_congr ?_,by kernel_rfl⟩ (by kernel_rfl)
   rw[←h2];simp_all [E4]
  ·refine Done.mk ⟨SV.bool_congr ?_,by kernel_rfl⟩ (by kernel_rfl)
   rw[←h2];simp_all [E4]
  ·refine Done.mk ⟨SV.bool_congr ?_,by kernel_rfl⟩ (by kernel_rfl)
   rw[←h2];simp_all [E4]
  ·refine Round.by (k+1) ?_ ?_ ?_
   ·rw[Cm hk hmax]
    show norm _ _=upd _ _
    kernel_rfl
   ·refine⟨hk,?_⟩
    rw[←h2];simp_all [E4]
   ·show es.length - (k+1)<es.length - k
    omega
 ·have hlt:¬decide ((k:Int)<((es.map Ent.toI).length:Int))=true:=by simp;omega
  rw[List.drop_eq_nil_of_le (by omega)]at h2
  repeat'((conv=>whnf);first
   |((with_reducible refine Ar (by first|(with_reducible assumption)|(with_reducible exact Bool.of_not_eq_false (by assumption))|(with_reducible exact Bool.of_not_eq_true (by assumption))|((with_reducible refine decide_eq_true ?_);first|(with_reducible assumption)|omega)|((with_reducible refine decide_eq_false ?_);first|(with_reducible assumption)|omega)|(with_reducible rfl)) (fun hb=>?_));(try rw[hb]);(try simp only[Aa,Bool.false_eq_true,Bool.true_eq_false]at hb);(try subst hb))
   |((with_reducible refine Aq (by first|(with_reducible assumption)|(with_reducible exact Bool.of_not_eq_false (by assumption))|(with_reducible exact Bool.of_not_eq_true (by assumption))|((with_reducible refine decide_eq_true ?_);first|(with_reducible assumption)|omega)|((with_reducible refine decide_eq_false ?_);first|(with_reducible assumption)|omega)|(with_reducible rfl)) (fun hb=>?_));(try rw[hb]);(try simp only[Aa,Bool.false_eq_true,Bool.true_eq_false]at hb);(try subst hb))
   |((with_reducible refine And.intro (fun hb=>?_) (fun hb=>?_))<;>first|(with_reducible exact absurd hb (by assumption))|(exact absurd hb (by decide))|(with_reducible exact absurd hb Bool.false_ne_true)|(with_reducible exact absurd hb.symm Bool.false_ne_true)|(exfalso;first|(simp only[Aj]at hb<;>omega)|omega)|((try rw[hb]);(try simp only[Aa,Bool.false_eq_true,Bool.true_eq_false]at hb);(try subst hb)))
   |((with_reducible refine Exists.intro ?_ ?_);focus (and_intros<;>first|omega|(with_reducible assumption)|(with_reducible rfl)|kernel_rfl|exact rfl|assumption|(intro _ hh;cases hh;done)|exact Ah (by rfl)|exact size_map (fun _=>rfl)|exact Ai rfl|exact take_size (fun _=>rfl)|exact Af rfl|exact Ae (fun _=>rfl)|exact Ad (fun _=>rfl)|(simp only[Aj];omega)|(simp;done)|decide))
   |(with_reducible intro hfact)
   |((with_reducible refine And.intro ?_ ?_);focus (first|(with_reducible rfl)|(exact rfl)|decide))
   |((with_reducible refine CallWp.mk ?_);refine⟨_,Aax _ _ _,?_⟩;rintro _ _ ⟨rfl,rfl⟩))
  all_goals(try(conv=>whnf))
  refine Done.mk ⟨SV.bool_congr ?_,by kernel_rfl⟩ (by kernel_rfl)
  rw[←h2];simp
end Go.Ab
