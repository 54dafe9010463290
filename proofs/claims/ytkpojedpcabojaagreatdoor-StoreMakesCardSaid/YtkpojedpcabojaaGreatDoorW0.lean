/- Lemmas -/
import Derived.Test.YtkpojedpcabojaaGreatDoorProg
import Derived.KernelRfl
import Derived.Test.YtkpojedpcabojaaGreatDoorAbR
set_option linter.unusedVariables false
set_option linter.unusedSimpArgs false
set_option maxRecDepth 100000
namespace Go.Ab
open Go.Proofs
abbrev O1(i:Tc):Ao:=.op none i
def fr : Nat → Nat → List Nat
  | _, 0 => []
  | a, n + 1 => a :: fr (a + 1) n
def kr (l : List Nat) (a n : Nat) : List Nat := l ++ fr a n
instance (n : Nat) : OfNat Bh n := ⟨.t (@OfNat.ofNat Nat n (instOfNatNat n))⟩
abbrev cI (n : Int) : Bh := .c (.int .i64 n)
abbrev cT : Bh := .c (.bool true)
abbrev cF : Bh := .c (.bool false)
abbrev cS (s : A1) : Bh := .c (.str s)
abbrev qt (c : Nat) (o : Tc) : Ao := .op (some (c, true)) o
abbrev qf (c : Nat) (o : Tc) : Ao := .op (some (c, false)) o
abbrev iA (d : Nat) (x : Bh) : Tc := .asg d x
abbrev iM (d : Nat) (x : Bh) : Tc := .mv d x
abbrev iL (d : Nat) (x : Bh) : Tc := .load d false 1 x
abbrev iU (d n : Nat) (x : Bh) : Tc := .load d true n x
abbrev iS (n : Nat) (x y : Bh) : Tc := .store n x y
abbrev iF (d : Nat) (x : Bh) (i : Nat) : Tc := .Ah2 d x i i
abbrev iG (d : Nat) (x : Bh) (i o : Nat) : Tc := .Ah2 d x i o
abbrev iB (d : Nat) (o : BinOp) (x y : Bh) : Tc := .bin d o x y
abbrev iN (d : Nat) (x : Bh) : Tc := .len d false x
abbrev iI (d n : Nat) (x i : Bh) : Tc := .At1 d n x i
abbrev iE (d : Nat) (x : Bh) (i : Nat) : Tc := .ext d x i
abbrev iP (d : Nat) (c x y : Bh) : Tc := .pick d c x y
abbrev iT (d : Nat) (x : Bh) : Tc := .not d x
abbrev gA (d : Nat) (x : Bh) : Ao := O1 (.asg d x)
abbrev gM (d : Nat) (x : Bh) : Ao := O1 (.mv d x)
abbrev gL (d : Nat) (x : Bh) : Ao := O1 (.load d false 1 x)
abbrev gU (d n : Nat) (x : Bh) : Ao := O1 (.load d true n x)
abbrev gS (n : Nat) (x y : Bh) : Ao := O1 (.store n x y)
abbrev gF (d : Nat) (x : Bh) (i : Nat) : Ao := O1 (.Ah2 d x i i)
abbrev gG (d : Nat) (x : Bh) (i o : Nat) : Ao := O1 (.Ah2 d x i o)
abbrev gB (d : Nat) (o : BinOp) (x y : Bh) : Ao := O1 (.bin d o x y)
abbrev gN (d : Nat) (x : Bh) : Ao := O1 (.len d false x)
abbrev gI (d n : Nat) (x i : Bh) : Ao := O1 (.At1 d n x i)
abbrev gE (d : Nat) (x : Bh) (i : Nat) : Ao := O1 (.ext d x i)
abbrev gP (d : Nat) (c x y : Bh) : Ao := O1 (.pick d c x y)
abbrev gT (d : Nat) (x : Bh) : Ao := O1 (.not d x)
abbrev gC (d : Nat) (f : FuncId) (l : List (Bool × Bh)) : Ao := .call none (some d) f l
abbrev nL (x : Bh) : Bool × Bh := (false, x)
abbrev sO (l : List Ao) (b : Ee) : Ee := .seq (.ops l) b
abbrev cR (c : Bh) (l : List Ao) : Ee := .cond c (.seq (.ops l) .ret) .skip
abbrev OF (f : FuncId) (N : Nat) (s : Ee) (rs : List Rr) : Prop := ∀ {args : List SV} {D8 : SV → List SV → Prop}, wqF Tryz.prog N s rs args D8 → args.length ≤ N → Fn Tryz.prog f args D8
theorem oF {f : FuncId} {fn : Func} {c : Code} {s : Ee} {rs : List Rr} {N : Nat} (hf : Tryz.prog.funcs[f]? = some fn) (hb : fn.body = some c) (hN : fn.ntmps = N) (hc : Gy Tryz.prog N c s = true := by kernel_rfl) (hr : K3 Tryz.prog N fn.results.toList rs = true := by kernel_rfl) : OF f N s rs := fun h hn => Fn.Bju hf hb hN hc hr hn (Bs2 h)
abbrev OFD (f : FuncId) (N : Nat) (s : Ee) (rs : List Rr) : Prop := ∀ {args : List SV} {D8 : SV → List SV → Prop}, Bs0 Tryz.prog N s rs args D8 → args.length ≤ N → Fn Tryz.prog f args D8
theorem oFD {f : FuncId} {fn : Func} {c : Code} {s : Ee} {rs : List Rr} {N : Nat} (hf : Tryz.prog.funcs[f]? = some fn) (hb : fn.body = some c) (hN : fn.ntmps = N) (hc : Gy Tryz.prog N c s = true := by kernel_rfl) (hr : K3 Tryz.prog N fn.results.toList rs = true := by kernel_rfl) : OFD f N s rs := fun h hn => Fn.Bjv hf hb hN hc hr hn h
abbrev OFV (f : FuncId) (N : Nat) (s : Ee) (n : Nat) : Prop := ∀ {args : List SV} {D8 : SV → List SV → Prop}, Bs1 Tryz.prog N s n args D8 → args.length ≤ N → Fn Tryz.prog f args D8
theorem oFV {f : FuncId} {fn : Func} {c : Code} {s : Ee} {n N : Nat} (hf : Tryz.prog.funcs[f]? = some fn) (hb : fn.body = some c) (hN : fn.ntmps = N) (hc : Gy Tryz.prog N c s = true := by kernel_rfl) (hr : fn.results = #[.tmp n] := by kernel_rfl) (Kb : n < N := by decide) : OFV f N s n := fun h hn => Fn.Bse hf hb hN hc hr Kb hn (Boq h)
theorem D6 {p q : Prop} {outs : List SV} (h1 : p) (h2 : q) (h3 : Anv outs = true) : Gg (p ∧ q) outs := ⟨⟨h1, h2⟩, h3⟩
theorem aI {a b : Prop} (h : a) (k : b) : a ∧ b := ⟨h, k⟩
theorem eI {a : Prop} {p : a → Prop} (w : a) (h : p w) : ∃ x, p x := ⟨w, h⟩
theorem dRS : (∀ {α : Type} {a : α} {s t : List α}, (a ∈ s ++ t) = (a ∈ s ∨ a ∈ t)) ∧ (∀ {α : Type} {a b : α} {l : List α}, (a ∈ b :: l) = (a = b ∨ a ∈ l)) ∧ (∀ {α : Type} {a : α}, (a ∈ ([] : List α)) = False) ∧ (∀ p : Prop, (p ∨ False) = p) ∧ (∀ p : Prop, (False ∨ p) = p) ∧ (∀ a b c : Prop, ((a ∨ b) ∨ c) = (a ∨ b ∨ c)) ∧ (∀ {α : Type} {p q : α → Prop} {a : α}, (∀ x, x = a ∨ q x → p x) = (p a ∧ ∀ x, q x → p x)) ∧ (∀ {α : Type} {p : α → Prop} {a : α}, (∀ x, x = a → p x) = p a) ∧ (∀ p : Prop, (False → p) = True) ∧ (∀ {α : Type}, (α → True) = True) ∧ (∀ {α : Prop}, (α → True) = True) ∧ (∀ {α : Type} [Nonempty α] {b : Prop}, (α → b) = b) ∧ (∀ p : Prop, (p ∧ True) = p) ∧ (∀ p : Prop, (True ∧ p) = p) := by
 and_intros <;> intros <;> simp [or_assoc]
abbrev Apq:TypeId:=52
abbrev A9f:TypeId:=55
abbrev Ft:TypeId:=104
abbrev Np:TypeId:=116
abbrev Aqv:FuncId:=42
abbrev R5:FuncId:=49
abbrev Uz:FuncId:=61
abbrev Ph:FuncId:=62
abbrev Nz:FuncId:=69
abbrev J6:FuncId:=93
abbrev Sq:FuncId:=94
abbrev Nb:FuncId:=95
abbrev Ak7:FuncId:=82
def Yb:Ee:=(sO [gL 10 1,gC 11 48 [nL 10,nL (cS [])],gA 4 11] (sO [gL 13 2,gM 14 4,.inl none (some 15) 50 83 [13,14],gA 12 15,gE 16 12 0,gE 17 12 1,gA 5 16,gA 6 17] (.block 0 (.loop (kr [3,4] 6 44) (.seq (sO [gM 18 5,gL 19 2,O1 (.Es 20 19),gF 21 20 1,gL 22 21,gN 23 22,gB 24 .lss 18 23] (.cond 24 .skip (.exit 0))) (.seq (.block 1 (sO [gL 28 2,O1 (.Es 29 28),gF 30 29 1,gL 31 30,gM 32 5,gI 33 2 31 32,gF 34 33 0,gL 35 34,gC 36 67 [nL 35],gA 27 36,gE 37 27 0,gE 38 27 1,gE 39 27 2,gA 7 37,gA 8 38,gA 9 39] (sO [gM 40 7,gL 41 1,gB 42 .neq 40 41,gM 43 42,qf 43 (iM 44 0),qf 43 (iM 45 5),qf 43 (iM 46 8),.yld (some (43,false)) (some 47) 44 [45,46],qf 43 (iT 48 47),gP 49 43 cT 48] (.cond 49 .ret .skip)))) (.ops [gM 25 5,gB 26 .add 25 (cI 1),gA 5 26])))))))
abbrev Zk:FuncId:=15
abbrev A5s:FuncId:=23
def A27:Ee:=(sO [gA 0 (.c .Ra)] (sO [O1 (.Aua 1),O1 (.U7 2 [(.it .Aiy),(.vec 116 2 [])] [(0,1)]),O1 (.Ame 3 2),O1 (.Uy 0 3)] .ret))
theorem Azr:OFD 23 4 A27 [.t 0]:=oFD Tryz.func23 rfl Tryz.ntmps23
abbrev Qq:FuncId:=24
def Akx:Ee:=(sO [gA 4 (cI 0)] (.seq (sO [gM 8 0,gM 9 1,.inl none (some 10) 36 59 [8,9],gA 7 10,gE 11 7 0,gE 12 7 1,gA 5 11,gA 6 12] (.block 0 (sO [gM 14 0,O1 (.Ac2 15 false 14),gA 13 15] (.cond 13 (sO [gA 4 (cI 16)] .ret) (sO [gM 17 1,gC 18 45 [nL 17],gT 19 18,gA 16 19] (.cond 16 (sO [gA 4 (cI 5)] .ret) (sO [gM 21 6,gA 20 21] (.cond 20 (sO [gA 4 (cI 15)] .ret) (sO [gM 23 0,O1 (.Es 24 23),gF 25 24 0,gL 26 25,O1 (.Ba3 27 26),gB 28 .geq 27 (cI 8),gA 22 28] (cR 22 [gA 4 (cI 17)])))))))))) (sO [gM 29 0,O1 (.Es 30 29),gF 31 30 0,gL 32 31,gM 33 1,O1 (.build 34 [(.int .i64 0),(.int .i64 0),(.int .i64 0),(.int .i64 0),(.int .i64 0)] []),O1 (.Ame 35 34),O1 (.A3i 32 33 35)] (sO [gA 4 (cI 0)] .ret))))
theorem Ak2:OF 24 36 Akx [.t 4]:=oF Tryz.func24 rfl Tryz.ntmps24
abbrev Hn:FuncId:=25
def Aiq:Ee:=(sO [gA 6 (cI 0),gA 7 (cI 0)] (sO [gM 21 0,gM 22 1,.inl none (some 23) 179 59 [21,22],gA 20 23,gE 24 20 0,gE 25 20 1,gA 8 24,gA 9 25] (.seq (sO [gM 26 9,gT 27 26] (cR 27 [gA 6 (cI 0),gA 7 (cI 16)])) (sO [O1 (.Aua 28),gA 10 28] (.seq (sO [gM 29 2,gN 30 29,gM 31 (cI 0)] (.block 0 (.loop (kr [2,3,4,5,6,7,9,11,12,13,14,15,16,17,18,19,20,21,22,23,24,25,26,27,28] 32 147) (sO [gB 32 .lss 31 30] (.seq (.cond 32 .skip (.exit 0)) (.seq (.block 1 (sO [gI 33 3 29 31,gU 34 3 33,O1 (.alloc 12 (.one (.i (.agg [(.str []),(.str []),(.bool false)])))),gS 3 12 34] (.seq (sO [gF 35 12 0,gL 36 35,gC 37 46 [nL 36],gT 38 37,gM 39 38,qf 39 (iG 40 12 2 2),qf 39 (iL 41 40),qf 39 (iT 42 41),qf 39 (iM 43 42),qt 43 (iG 44 12 1 1),qt 43 (iL 45 44),.call (some (43,true)) (some 46) 60 [nL 45],qt 43 (iT 47 46),qf 39 (iP 48 43 47 cF),gP 49 39 cT 48] (cR 49 [gA 6 (cI 0),gA 7 (cI 1)])) (.ops [gM 50 10,gF 51 12 0,gL 52 51,gU 53 3 12,O1 (.A3i 50 52 53)])))) (.ops [gB 54 .add 31 (cI 1),gM 31 54]))))))) (sO [gA 13 cF] (.seq (sO [gM 55 10,.inl none (some 56) 179 62 [55],.inl none (some 57) 179 61 [56],gN 58 57,gM 59 (cI 0)] (.block 2 (.loop (kr [2,3,4,5,6,7,9,11,12,14,15,16,17,18,19,20,21,22,23,24,25,26,27,28,29,30,31,32,33,34,35,36,37,38,39,40,41,42,43,44,45,46,47,48,49,50,51,52,53,54,55,56] 60 119) (sO [gB 60 .lss 59 58] (.seq (.cond 60 .skip (.exit 2)) (.seq (.block 3 (sO [gI 61 1 57 59,gL 62 61,gA 15 62] (.seq (.Kf [0,0,3,0,0,24,0,127,255] [gM 63 10,gM 64 15,O1 (.Awn 65 (.agg [(.str []),(.str []),(.bool false)]) false 63 64),gM 66 1,gM 67 15,gC 68 48 [nL 66,nL 67],O1 (.alloc 16 (.one (.i (.agg [(.str []),(.str []),(.bool false)])))),gS 3 16 65,gA 17 68]) (sO [gM 69 0,gM 70 17,.inl none (some 71) 179 63 [69,70],O1 (.alloc 18 (.one (.i (.agg [(.int .i64 0),(.int .i64 0),(.str []),(.bool false)])))),gS 4 18 71] (.seq (sO [gF 72 16 2,gL 73 72,gM 74 73,qt 74 (iG 75 18 3 3),qt 74 (iL 76 75),gP 77 74 76 cF] (.cond 77 (.exit 3) .skip)) (.seq (.Kf [0,1,3,7,15,0,32,0,128,0,512,2047,0,8191] [gM 78 8,O1 (.Es 79 78),gF 80 79 0,gL 81 80,gB 82 .add 81 (cI 1),gF 83 18 1,gL 84 83,gF 85 16 1,gL 86 85,gF 87 16 2,gL 88 87,O1 (.build 89 [(.int .i64 0),(.int .i64 0),(.str []),(.bool false)] [(0,82),(1,84),(2,86),(3,88)]),O1 (.alloc 19 (.one (.i (.agg [(.int .i64 0),(.int .i64 0),(.str []),(.bool false)])))),gS 4 19 89]) (.seq (.block 4 (sO [gF 105 16 2,gL 106 105,gA 104 106] (.cond 104 (sO [gF 107 19 1,gS 1 107 (cI 0),gF 108 19 2,gS 1 108 (cS [])] (sO [gM 109 8,O1 (.Es 110 109),gF 111 110 3,gL 112 111,gB 113 .sub 112 (cI 1),O1 (.Es 114 109),gF 115 114 3,gS 1 115 113] (.Kf [0,1,3,7,0,16,0,64,192,496,1023,2047,4095,8191] [gM 116 8,O1 (.Es 117 116),gF 118 117 2,gL 119 118,gM 120 15,O1 (.len 121 true 120),gF 122 18 2,gL 123 122,O1 (.len 124 true 123),gB 125 .add 121 124,gB 126 .sub 119 125,O1 (.Es 127 116),gF 128 127 2,gS 1 128 126]))) (sO [gF 130 18 3,gL 131 130,gA 129 131] (.cond 129 (sO [gF 132 19 0,gL 133 132,gF 134 19 1,gS 1 134 133] (sO [gM 135 8,O1 (.Es 136 135),gF 137 136 3,gL 138 137,gB 139 .add 138 (cI 1),O1 (.Es 140 135),gF 141 140 3,gS 1 141 139] (.Kf [0,1,3,7,0,16,0,64,192,496,1023,2047,4095,8191] [gM 142 8,O1 (.Es 143 142),gF 144 143 2,gL 145 144,gM 146 15,O1 (.len 147 true 146),gF 148 16 1,gL 149 148,O1 (.len 150 true 149),gB 151 .add 147 150,gB 152 .add 145 151,O1 (.Es 153 142),gF 154 153 2,gS 1 154 152]))) (.Kf [0,1,3,7,0,16,48,0,128,384,1008,2047,4095,8191,16383] [gM 90 8,O1 (.Es 91 90),gF 92 91 2,gL 93 92,gF 94 16 1,gL 95 94,O1 (.len 96 true 95),gF 97 18 2,gL 98 97,O1 (.len 99 true 98),gB 100 .sub 96 99,gB 101 .add 93 100,O1 (.Es 102 90),gF 103 102 2,gS 1 103 101])))))) (sO [gM 155 0,gM 156 17,gU 157 4 19,.inl none (some 158) 179 64 [155,156,157]] (sO [gM 159 8,O1 (.Es 160 159),gF 161 160 4,gL 162 161,gB 163 .add 162 (cI 1),O1 (.Es 164 159),gF 165 164 4,gS 1 165 163] (.ops [gA 13 cT])))))))))) (.ops [gB 166 .add 59 (cI 1),gM 59 166]))))))) (.seq (sO [gM 167 13] (.cond 167 (.ops [gM 168 8,O1 (.Es 169 168),gF 170 169 0,gL 171 170,gB 172 .add 171 (cI 1),O1 (.Es 173 168),gF 174 173 0,gS 1 174 172]) .skip)) (sO [gM 175 8,O1 (.Es 176 175),gF 177 176 0,gL 178 177,gA 6 178,gA 7 (cI 0)] .ret)))))))))
theorem Sn:OF 25 179 Aiq [.t 6,.t 7]:=oF Tryz.func25 rfl Tryz.ntmps25
abbrev Rp:FuncId:=28
def Afk:Ee:=(sO [gA 6 (cI 0)] (sO [gM 18 0,gM 19 1,.inl none (some 20) 132 59 [18,19],gA 17 20,gE 21 17 0,gE 22 17 1,gA 7 21,gA 8 22] (.seq (.block 0 (sO [gM 24 8,gT 25 24,gA 23 25] (.cond 23 (sO [gA 6 (cI 16)] .ret) (sO [gM 27 2,gB 28 .lss 27 (cI 0),gA 26 28] (.cond 26 (sO [gA 6 (cI 1)] .ret) (sO [gM 30 2,gM 31 7,O1 (.Es 32 31),gF 33 32 0,gL 34 33,gB 35 .gtr 30 34,gA 29 35] (.cond 29 (sO [gA 6 (cI 13)] .ret) (sO [gM 37 2,gM 38 7,O1 (.Es 39 38),gF 40 39 1,gL 41 40,gB 42 .lss 37 41,gA 36 42] (cR 36 [gA 6 (cI 14)]))))))))) (sO [gM 43 7,gM 44 7,gM 45 2,O1 (.Es 46 43),gF 47 46 1,gS 1 47 45,O1 (.Es 48 44),gF 49 48 4,gS 1 49 (cI 0)] (sO [O1 (.Uy 9 (.Fo 116 2))] (.seq (sO [gM 50 0,O1 (.Es 51 50),gF 52 51 1,gL 53 52,gN 54 53,gM 55 (cI 0)] (.block 1 (.loop (kr [3,4,5,6,8,10,11,12,13,14,15,16,17,18,19,20,21,22,23,24,25,26,27,28,29,30,31,32,33,34,35,36,37,38,39,40,41,42,43,44,45,46,47,48,49,50,51,52] 56 76) (sO [gB 56 .lss 55 54] (.seq (.cond 56 .skip (.exit 1)) (.seq (.block 2 (sO [gI 57 2 53 55,gU 58 2 57,O1 (.Zn 11 (.st [(.it (.str [])),(.vec 104 4 [])])),gS 2 11 58] (.seq (sO [gF 60 11 0,gL 61 60,gC 62 67 [nL 61],gA 59 62,gE 63 59 0,gE 64 59 1,gE 65 59 2,gA 12 63,gA 13 64,gA 14 65] (sO [gM 66 12,gM 67 1,gB 68 .eql 66 67] (.cond 68 (sO [gA 15 (cI 0)] (.seq (.block 3 (.loop (kr [3,4,5,6,8,10,12,13,14,16,17,18,19,20,21,22,23,24,25,26,27,28,29,30,31,32,33,34,35,36,37,38,39,40,41,42,43,44,45,46,47,48,49,50,51,52] 56 76) (.seq (sO [gM 69 15,gB 70 .add 69 (cI 1),gF 71 11 1,gL 72 71,gN 73 72,gB 74 .lss 70 73,gM 75 74,qt 75 (iG 76 11 1 1),qt 75 (iL 77 76),qt 75 (iM 78 15),qt 75 (iB 79 .add 78 (cI 1)),qt 75 (iI 80 4 77 79),qt 75 (iG 81 80 0 0),qt 75 (iL 82 81),qt 75 (iM 83 2),qt 75 (iB 84 .leq 82 83),gP 85 75 84 cF] (.cond 85 .skip (.exit 3))) (.block 4 (.ops [gM 86 15,gB 87 .add 86 (cI 1),gA 15 87]))))) (.seq (sO [gF 88 11 1,gL 89 88,gM 90 15,gI 91 4 89 90,gU 92 4 91,O1 (.alloc 16 (.one (.i (.agg [(.int .i64 0),(.int .i64 0),(.str []),(.bool false)])))),gS 4 16 92] (sO [gF 93 16 3,gL 94 93,gM 95 94,qt 95 (iG 96 16 0 0),qt 95 (iL 97 96),qt 95 (iM 98 2),qt 95 (iB 99 .leq 97 98),gP 100 95 99 cF] (.cond 100 (.ops [gM 101 15,gB 102 .add 101 (cI 1),gA 15 102]) .skip))) (sO [gF 103 11 1,gL 104 103,gM 105 15,O1 (.Bbq 106 4 104 105),.Ac1 none (some 107) 43 [nL 106],gF 108 11 1,gS 1 108 107] (.seq (.Kf [0,1,3,7,0,16,48,127,255,511,1023] [gM 109 7,O1 (.Es 110 109),gF 111 110 4,gL 112 111,gF 113 11 1,gL 114 113,gN 115 114,gB 116 .add 112 115,O1 (.Es 117 109),gF 118 117 4,gS 1 118 116]) (sO [gF 119 11 1,gL 120 119,gN 121 120,gB 122 .eql 121 (cI 0)] (.cond 122 (.exit 2) .skip))))))) .skip))) (.ops [O1 (.Uy 123 9),gU 124 2 11,O1 (.Aqy 125 116 2 (.agg [(.str []),(.list [])]) 1 [(0,124)]),O1 (.app 126 116 2 40 123 125),gA 9 126])))) (.ops [gB 127 .add 55 (cI 1),gM 55 127]))))))) (sO [gM 128 0,O1 (.Uy 129 9),O1 (.Es 130 128),gF 131 130 1,gS 1 131 129] (sO [gA 6 (cI 0)] .ret))))))))
theorem Rc:OF 28 132 Afk [.t 6]:=oF Tryz.func28 rfl Tryz.ntmps28
abbrev Wn:FuncId:=31
def Agv:Ee:=(sO [gA 2 (.Fo 9 1)] (.seq (sO [gM 3 0,O1 (.Ac2 4 false 3)] (cR 4 [gA 2 (.Fo 9 1)])) (sO [gM 5 0,O1 (.Es 6 5),gF 7 6 0,gL 8 7,.inl none (some 9) 11 69 [8],.inl none (some 10) 11 61 [9],gA 2 10] .ret)))
theorem Ag4:OF 31 11 Agv [.t 2]:=oF Tryz.func31 rfl Tryz.ntmps31
abbrev G4:FuncId:=33
def Aip:Ee:=(sO [O1 (.box 5 0),O1 (.box 7 2),O1 (.box 8 3),O1 (.box 9 4),O1 (.alloc 10 (.one (.i (.list [])))),O1 (.alloc 11 (.one (.i (.bool false)))),O1 (.alloc 12 (.one (.i (.int .i64 0))))] (sO [gL 21 5,gM 22 1,.inl none (some 23) 110 59 [21,22],gA 20 23,gE 24 20 0,gE 25 20 1,gA 13 24,gA 14 25] (.seq (.block 0 (sO [gM 27 14,gT 28 27,gA 26 28] (.cond 26 (sO [gS 1 10 (.Fo 98 4),gS 1 11 cF,gS 1 12 (cI 16)] .ret) (sO [gU 30 2 7,gC 31 74 [nL 30],gT 32 31,gM 33 32,qf 33 (iL 34 8),qf 33 (iB 35 .lss 34 (cI 0)),gP 36 33 cT 35,gM 37 36,qf 37 (iL 38 9),qf 37 (iB 39 .lss 38 (cI 1)),gP 40 37 cT 39,gM 41 40,qf 41 (iL 42 9),qf 41 (iB 43 .gtr 42 (cI 16)),gP 44 41 cT 43,gA 29 44] (.cond 29 (sO [gS 1 10 (.Fo 98 4),gS 1 11 cF,gS 1 12 (cI 1)] .ret) (.seq (.Kf [0,0,2,6,14,31,63] [gL 46 8,gM 47 13,O1 (.Es 48 47),gF 49 48 0,gL 50 49,gB 51 .gtr 46 50,gA 45 51]) (.cond 45 (sO [gS 1 10 (.Fo 98 4),gS 1 11 cF,gS 1 12 (cI 13)] .ret) (.seq (.Kf [0,1,3,7,7,23,55,119,255,511,1023] [gL 53 8,gB 54 .gtr 53 (cI 0),gM 55 54,qt 55 (iL 56 8),qt 55 (iM 57 13),qt 55 (.Es 58 57),qt 55 (iG 59 58 1 1),qt 55 (iL 60 59),qt 55 (iB 61 .lss 56 60),gP 62 55 61 cF,gA 52 62]) (.cond 52 (sO [gS 1 10 (.Fo 98 4),gS 1 11 cF,gS 1 12 (cI 14)] .ret) (sO [gL 64 8,gB 65 .eql 64 (cI 0),gA 63 65] (.cond 63 (.ops [gM 66 13,O1 (.Es 67 66),gF 68 67 0,gL 69 68,gS 1 8 69]) .skip))))))))))) (sO [O1 (.Zn 15 (.vec 98 4 []))] (.seq (sO [gL 70 5,gM 71 1,.inl none (some 72) 110 42 [70,71]] (.block 1 (.Ajh 72 82 50 110 [73,74] Yb (sO [gA 16 73] (.ops [gA 17 74])) (.block 2 (.seq (sO [gU 75 2 7,gM 76 17,gC 77 75 [nL 75,nL 76],gT 78 77] (.cond 78 (.exit 2) .skip)) (.seq (.Kf [0,1,3,7,0,31,63,0,255,511,1023,1023,0,6143,16383] [gL 80 5,O1 (.Es 81 80),gF 82 81 1,gL 83 82,gM 84 16,gI 85 2 83 84,O1 (.A0e 86 true 2 85),gL 87 8,.Ac1 none (some 88) 76 [nL 86,nL 87],gA 79 88,gE 89 79 0,gE 90 79 1,O1 (.alloc 18 (.one (.i (.agg [(.int .i64 0),(.int .i64 0),(.str []),(.bool false)])))),gS 4 18 89,gA 19 90]) (.seq (sO [gM 91 19,gT 92 91] (.cond 92 (.exit 2) .skip)) (.seq (sO [gL 93 15,gN 94 93,gL 95 9,gB 96 .eql 94 95] (cR 96 [gL 97 15,gS 1 10 97,gS 1 11 cT,gS 1 12 (cI 0)])) (.ops [gL 98 15,gM 99 17,gF 100 18 2,gL 101 100,gF 102 18 1,gL 103 102,gF 104 18 0,gL 105 104,O1 (.build 106 [(.str []),(.str []),(.int .i64 0),(.int .i64 0)] [(0,99),(1,101),(2,103),(3,105)]),O1 (.Td 107 98 4 (.agg [(.str []),(.str []),(.int .i64 0),(.int .i64 0)]) 1 [(0,106)]),O1 (.app 108 98 4 48 98 107),gS 1 15 108]))))))))) (sO [gL 109 15,gS 1 10 109,gS 1 11 cF,gS 1 12 (cI 0)] .ret))))))
theorem K2:OF 33 110 Aip [.cell 10 false 1,.cell 11 false 1,.cell 12 false 1]:=oF Tryz.func33 rfl Tryz.ntmps33
abbrev Sf:FuncId:=43
def R6:Ee:=(sO [gA 2 (.Fo 104 4)] (.seq (sO [gM 3 0,O1 (.At5 4 false 3)] (cR 4 [gA 2 (.Fo 104 4)])) (sO [O1 (.empty 5 104 4),gM 6 0,O1 (.app 7 104 4 40 5 6),gA 2 7] .ret)))
theorem R3:OFV 43 8 R6 2:=oFV Tryz.func43 rfl Tryz.ntmps43
abbrev U0:FuncId:=44
def Adr:Ee:=(sO [gA 4 (cI 0)] (sO [gM 8 0,gM 9 1,.inl none (some 10) 17 59 [8,9],gA 7 10,gE 11 7 0,gE 12 7 1,gA 5 11,gA 6 12] (sO [gM 13 5,O1 (.Es 14 13),gF 15 14 4,gL 16 15,gA 4 16] .ret)))
theorem Ady:OF 44 17 Adr [.t 4]:=oF Tryz.func44 rfl Tryz.ntmps44
abbrev Ak5:FuncId:=45
def Azk:Ee:=(sO [gA 2 cF] (sO [gA 3 (cI 0)] (.seq (sO [gM 6 0,O1 (.Bbh 7 6)] (.block 0 (.loop (kr [2,4,5] 8 35) (sO [O1 (.A0g 8 7),gE 9 8 0] (.seq (.cond 9 .skip (.exit 0)) (.block 1 (sO [gE 10 8 1,gE 11 8 2,gA 4 10,gA 5 11] (.seq (.block 2 (sO [gM 13 0,gM 14 4,gM 15 5,gC 16 84 [nL 13,nL 14,nL 15],gA 12 16] (.cond 12 (sO [gA 2 cF] .ret) (.seq (sO [gM 18 5,gB 19 .geq 18 (.c (.int .i32 97)),gM 20 19,qt 20 (iM 21 5),qt 20 (iB 22 .leq 21 (.c (.int .i32 122))),gP 23 20 22 cF,gA 17 23] (.cond 17 .skip (sO [gM 24 5,gB 25 .geq 24 (.c (.int .i32 48)),gM 26 25,qt 26 (iM 27 5),qt 26 (iB 28 .leq 27 (.c (.int .i32 57))),gP 29 26 28 cF,gA 17 29] (.cond 17 .skip (sO [gM 30 5,gB 31 .eql 30 (.c (.int .i32 95)),gA 17 31] (.cond 17 .skip (.ops [gM 32 5,gC 33 85 [nL 32],gA 17 33]))))))) (.cond 17 .skip (sO [gM 35 5,gB 36 .eql 35 (.c (.int .i32 45)),gM 37 36,qt 37 (iM 38 4),qt 37 (iB 39 .gtr 38 (cI 0)),gP 40 37 39 cF,gA 34 40] (.cond 34 .skip (sO [gA 2 cF] .ret)))))))) (.ops [gM 41 3,gB 42 .add 41 (cI 1),gA 3 42]))))))))) (sO [gM 43 3,gB 44 .geq 43 (cI 1),gM 45 44,qt 45 (iM 46 3),qt 45 (iB 47 .leq 46 (cI 24)),gP 48 45 47 cF,gA 2 48] .ret))))
theorem Azo:OF 45 49 Azk [.t 2]:=oF Tryz.func45 rfl Tryz.ntmps45
abbrev Azg:FuncId:=46
def Awm:Ee:=(sO [gA 2 cF] (sO [gM 3 0,O1 (.len 4 true 3),gB 5 .geq 4 (cI 1),gM 6 5,qt 6 (iM 7 0),qt 6 (.len 8 true 7),qt 6 (iB 9 .leq 8 (cI 64)),gP 10 6 9 cF,gA 2 10] .ret))
theorem Awq:OF 46 11 Awm [.t 2]:=oF Tryz.func46 rfl Tryz.ntmps46
abbrev Asg:FuncId:=47
def Ark:Ee:=(sO [O1 (.box 4 0),O1 (.box 5 1),O1 (.box 7 3),gA 8 cF] (.seq (.block 0 (sO [gF 10 4 0,gL 11 10,gF 12 5 0,gL 13 12,gB 14 .leq 11 13,gM 15 14,qf 15 (iG 16 4 0 0),qf 15 (iL 17 16),qf 15 (iG 18 7 1 1),qf 15 (iL 19 18),qf 15 (iB 20 .gtr 17 19),gP 21 15 cT 20,gA 9 21] (.cond 9 (sO [gA 8 cF] .ret) (sO [gM 23 2,gT 24 23,gM 25 24,qt 25 (iG 26 4 0 0),qt 25 (iL 27 26),qt 25 (iG 28 7 2 2),qt 25 (iL 29 28),qt 25 (iB 30 .leq 27 29),gP 31 25 30 cF,gA 22 31] (.cond 22 (sO [gA 8 cF] .ret) (sO [gF 33 4 3,gL 34 33,gA 32 34] (.cond 32 (sO [gF 35 5 3,gL 36 35,gT 37 36,gM 38 37,qt 38 (iG 39 4 1 1),qt 38 (iL 40 39),qt 38 (iB 41 .eql 40 (cI 0)),gP 42 38 41 cF,gM 43 42,qt 43 (iG 44 4 2 2),qt 43 (iL 45 44),qt 43 (iB 46 .eql 45 (cS [])),gP 47 43 46 cF,gA 8 47] .ret) (sO [gF 49 4 2,gL 50 49,gC 51 60 [nL 50],gT 52 51,gA 48 52] (.cond 48 (sO [gA 8 cF] .ret) (sO [gM 54 2,gA 53 54] (.cond 53 (sO [gF 55 4 1,gL 56 55,gB 57 .geq 56 (cI 1),gM 58 57,qt 58 (iG 59 4 1 1),qt 58 (iL 60 59),qt 58 (iG 61 4 0 0),qt 58 (iL 62 61),qt 58 (iB 63 .leq 60 62),gP 64 58 63 cF,gM 65 64,qt 65 (iG 66 4 0 0),qt 65 (iL 67 66),qt 65 (iG 68 7 2 2),qt 65 (iL 69 68),qt 65 (iB 70 .leq 67 69),qt 65 (iM 71 70),qf 71 (iG 72 4 1 1),qf 71 (iL 73 72),qf 71 (iG 74 4 0 0),qf 71 (iL 75 74),qf 71 (iB 76 .eql 73 75),qt 65 (iP 77 71 cT 76),gP 78 65 77 cF,gA 8 78] .ret) (sO [gF 80 5 3,gL 81 80,gA 79 81] (cR 79 [gF 82 4 1,gL 83 82,gF 84 4 0,gL 85 84,gB 86 .eql 83 85,gA 8 86]))))))))))))) (sO [gF 87 4 1,gL 88 87,gF 89 5 1,gL 90 89,gB 91 .eql 88 90,gA 8 91] .ret)))
theorem Art:OF 47 92 Ark [.t 8]:=oF Tryz.func47 rfl Tryz.ntmps47
abbrev Aze:FuncId:=48
def Awj:Ee:=(sO [gA 4 (cS [])] (sO [gM 5 0,O1 (.len 6 true 5),O1 (.conv 7 .u8 6),O1 (.Td 8 5 1 (.int .u8 0) 1 [(0,7)]),O1 (.b2s 9 8),gM 10 0,gB 11 .add 9 10,gM 12 1,gB 13 .add 11 12,gA 4 13] .ret))
theorem Awo:OF 48 14 Awj [.t 4]:=oF Tryz.func48 rfl Tryz.ntmps48
abbrev Avs:FuncId:=50
abbrev Ahm:FuncId:=51
def Agr:Ee:=(sO [gA 4 (cI 0)] (sO [gM 7 0,gC 8 88 [nL 7],gA 5 8] (sO [gM 9 1,gC 10 88 [nL 9],gA 6 10] (.seq (sO [gM 11 5] (.cond 11 (.seq (sO [gM 12 6] (cR 12 [gA 4 (cI 0)])) (sO [gA 4 (cI (-1))] .ret)) .skip)) (.seq (sO [gM 13 6] (cR 13 [gA 4 (cI 1)])) (.seq (sO [gM 14 0,gM 15 1,gB 16 .lss 14 15] (cR 16 [gA 4 (cI (-1))])) (.seq (sO [gM 17 0,gM 18 1,gB 19 .gtr 17 18] (cR 19 [gA 4 (cI 1)])) (sO [gA 4 (cI 0)] .ret))))))))
theorem Agz:OF 51 20 Agr [.t 4]:=oF Tryz.func51 rfl Tryz.ntmps51
abbrev Apm:FuncId:=54
def Anh:Ee:=(sO [gA 4 (cI 0)] (sO [gM 8 0,gM 9 1,.inl none (some 10) 17 59 [8,9],gA 7 10,gE 11 7 0,gE 12 7 1,gA 5 11,gA 6 12] (sO [gM 13 5,O1 (.Es 14 13),gF 15 14 0,gL 16 15,gA 4 16] .ret)))
theorem Anr:OF 54 17 Anh [.t 4]:=oF Tryz.func54 rfl Tryz.ntmps54
abbrev Aku:FuncId:=55
def Aio:Ee:=(sO [gA 4 (cI 0)] (sO [gM 8 0,gM 9 1,.inl none (some 10) 17 59 [8,9],gA 7 10,gE 11 7 0,gE 12 7 1,gA 5 11,gA 6 12] (sO [gM 13 5,O1 (.Es 14 13),gF 15 14 1,gL 16 15,gA 4 16] .ret)))
theorem Ai2:OF 55 17 Aio [.t 4]:=oF Tryz.func55 rfl Tryz.ntmps55
abbrev Akt:FuncId:=56
def Aim:Ee:=(sO [gA 4 (cI 0)] (sO [gM 8 0,gM 9 1,.inl none (some 10) 17 59 [8,9],gA 7 10,gE 11 7 0,gE 12 7 1,gA 5 11,gA 6 12] (sO [gM 13 5,O1 (.Es 14 13),gF 15 14 2,gL 16 15,gA 4 16] .ret)))
theorem Ai0:OF 56 17 Aim [.t 4]:=oF Tryz.func56 rfl Tryz.ntmps56
abbrev Ak6:FuncId:=57
def Akw:Ee:=(sO [gA 4 (cI 0)] (sO [gM 8 0,gM 9 1,.inl none (some 10) 17 59 [8,9],gA 7 10,gE 11 7 0,gE 12 7 1,gA 5 11,gA 6 12] (sO [gM 13 5,O1 (.Es 14 13),gF 15 14 3,gL 16 15,gA 4 16] .ret)))
theorem Ak1:OF 57 17 Akw [.t 4]:=oF Tryz.func57 rfl Tryz.ntmps57
def Aky:Ee:=(sO [gA 4 (.c .Ra),gA 5 cF] (.seq (sO [gM 8 0,O1 (.Ac2 9 true 8)] (.cond 9 (sO [gM 11 0,O1 (.Es 12 11),gF 13 12 0,gL 14 13,gM 15 1,O1 (.Awn 16 .Ra true 14 15),gA 10 16,gE 17 10 0,gE 18 10 1,gA 6 17,gA 7 18] (sO [gM 19 7] (cR 19 [gM 20 6,gA 4 20,gA 5 cT]))) .skip)) (sO [O1 (.build 21 [(.int .i64 0),(.int .i64 0),(.int .i64 0),(.int .i64 0),(.int .i64 0)] []),O1 (.Ame 22 21),O1 (.Uy 4 22),gA 5 cF] .ret)))
abbrev Ash:FuncId:=60
def Arm:Ee:=(sO [gA 2 cF] (sO [gM 3 0,O1 (.len 4 true 3),gB 5 .leq 4 (cI 256),gA 2 5] .ret))
theorem Aru:OF 60 6 Arm [.t 2]:=oF Tryz.func60 rfl Tryz.ntmps60
def Akz:Ee:=(sO [O1 (.alloc 4 (.one (.i (.agg [(.int .i64 0),(.int .i64 0),(.str []),(.bool false)]))))] (.seq (sO [gM 9 0,gM 10 1,.inl none (some 11) 30 83 [9,10],gA 8 11,gE 12 8 0,gE 13 8 1,gA 5 12,gA 6 13] (sO [gM 14 6] (.cond 14 (sO [gM 15 0,O1 (.Es 16 15),gF 17 16 1,gL 18 17,gM 19 5,gI 20 2 18 19,gF 21 20 1,gL 22 21,gA 7 22] (sO [gM 23 7,gM 24 7,gN 25 24,gB 26 .sub 25 (cI 1),gI 27 4 23 26,gU 28 4 27,gS 4 4 28] .ret)) .skip))) (sO [O1 (.build 29 [(.int .i64 0),(.int .i64 0),(.str []),(.bool false)] [(3,cT)]),gS 4 4 29] .ret)))
theorem Lc{N:Nat}{os:List Bh}{st:St}{K:SV→St→Prop}(h:M5 (Ub 30 os st) fun st=>Mc Tryz.prog Akz Lu ⟨Rq Tryz.prog 30 N [.cell 4 true 4] K,Pe,Rq Tryz.prog 30 N [.cell 4 true 4] K⟩ st)(hn:os.length≤30):Ky Tryz.prog 63 N os st K:=
 Ky.Agy Tryz.func63 rfl Tryz.ntmps63 (by kernel_rfl) (by kernel_rfl) hn h
def Ani:Ee:=(sO [O1 (.box 5 2)] (sO [gM 9 0,gM 10 1,.inl none (some 11) 46 83 [9,10],gA 8 11,gE 12 8 0,gE 13 8 1,gA 6 12,gA 7 13] (.seq (sO [gM 14 7,gT 15 14] (.cond 15 (.ops [gM 16 0,gM 17 0,O1 (.Es 18 17),gF 19 18 1,gL 20 19,gM 21 6,gM 22 1,O1 (.U7 23 [(.it (.str [])),(.vec 104 4 [])] [(0,22)]),O1 (.Aqy 24 116 2 (.agg [(.str []),(.list [])]) 1 [(0,23)]),gC 25 94 [(true,20),nL 21,(true,24)],O1 (.Es 26 16),gF 27 26 1,gS 1 27 25]) .skip)) (.Kf [0,1,3,7,0,0,32,96,224,0,992,2016,4064,0,8192,32736,65535,131071,262143] [gM 28 0,O1 (.Es 29 28),gF 30 29 1,gL 31 30,gM 32 6,gM 33 0,O1 (.Es 34 33),gF 35 34 1,gL 36 35,gM 37 6,gI 38 2 36 37,gF 39 38 1,gL 40 39,gU 41 4 5,O1 (.Td 42 104 4 (.agg [(.int .i64 0),(.int .i64 0),(.str []),(.bool false)]) 1 [(0,41)]),O1 (.app 43 104 4 40 40 42),gI 44 2 31 32,gF 45 44 1,gS 1 45 43]))))
theorem Qz{N:Nat}{os:List Bh}{st:St}{K:SV→St→Prop}(h:M5 (Ub 46 os st) fun st=>Mc Tryz.prog Ani Lu ⟨Rq Tryz.prog 46 N [] K,Pe,Rq Tryz.prog 46 N [] K⟩ st)(hn:os.length≤46):Ky Tryz.prog 64 N os st K:=
 Ky.Agy Tryz.func64 rfl Tryz.ntmps64 (by kernel_rfl) (by kernel_rfl) hn h
abbrev Azf:FuncId:=67
def Awk:Ee:=(sO [gA 2 (cS []),gA 3 (cS []),gA 4 cF] (.seq (sO [gM 6 0,gB 7 .eql 6 (cS []),gM 8 7,qf 8 (iM 9 0),qf 8 (.len 10 true 9),qf 8 (iB 11 .sub 10 (cI 1)),qf 8 (iM 12 0),qf 8 (.Y1 13 12 (cI 0)),qf 8 (.conv 14 .i64 13),qf 8 (iB 15 .lss 11 14),gP 16 8 cT 15] (.cond 16 (sO [gA 2 (cS []),gA 3 (cS []),gA 4 cF] .ret) .skip)) (sO [gM 17 0,O1 (.Y1 18 17 (cI 0)),O1 (.conv 19 .i64 18),gB 20 .add (cI 1) 19,gA 5 20] (.seq (.Kf [0,0,3,0,0,24,7,127,255] [gM 21 0,gM 22 5,O1 (.slc 23 true 1 21 (some (cI 1)) (some 22)),gM 24 0,gM 25 5,O1 (.slc 26 true 1 24 (some 25) none),gA 2 23,gA 3 26,gA 4 cT]) .ret))))
theorem Awp:OF 67 27 Awk [.t 2,.t 3,.t 4]:=oF Tryz.func67 rfl Tryz.ntmps67
abbrev A0r:FuncId:=74
def Azn:Ee:=(sO [O1 (.box 1 0),gA 2 cF] (sO [gF 3 1 0,gL 4 3,O1 (.len 5 true 4),gB 6 .leq 5 (cI 65),gM 7 6,qt 7 (iG 8 1 1 1),qt 7 (iL 9 8),qt 7 (.len 10 true 9),qt 7 (iB 11 .leq 10 (cI 65)),gP 12 7 11 cF,gM 13 12,qt 13 (iG 14 1 1 1),qt 13 (iL 15 14),qt 13 (iB 16 .eql 15 (cS [])),qt 13 (iM 17 16),qf 17 (iG 18 1 0 0),qf 17 (iL 19 18),qf 17 (iG 20 1 1 1),qf 17 (iL 21 20),qf 17 (iB 22 .lss 19 21),qt 13 (iP 23 17 cT 22),gP 24 13 23 cF,gA 2 24] .ret))
theorem Azq:OF 74 25 Azn [.t 2]:=oF Tryz.func74 rfl Tryz.ntmps74
abbrev A89:FuncId:=75
def A57:Ee:=(sO [O1 (.box 2 0),gA 4 cF] (sO [gM 5 1,gF 6 2 0,gL 7 6,gB 8 .geq 5 7,gM 9 8,qt 9 (iG 10 2 1 1),qt 9 (iL 11 10),qt 9 (iB 12 .eql 11 (cS [])),qt 9 (iM 13 12),qf 13 (iM 14 1),qf 13 (iG 15 2 1 1),qf 13 (iL 16 15),qf 13 (iB 17 .lss 14 16),qt 9 (iP 18 13 cT 17),gP 19 9 18 cF,gA 4 19] .ret))
theorem A6b:OF 75 20 A57 [.t 4]:=oF Tryz.func75 rfl Tryz.ntmps75
abbrev Ahq:FuncId:=76
def Agw:Ee:=(sO [O1 (.box 2 0),O1 (.alloc 4 (.one (.i (.agg [(.int .i64 0),(.int .i64 0),(.str []),(.bool false)])))),gA 5 cF] (sO [gF 9 2 1,gL 10 9,gM 11 1,gB 12 .add 11 (cI 1),gC 13 97 [nL 10,nL 12,nL (.c (.fn 98))],gA 8 13,gE 14 8 0,gE 15 8 1,gA 6 14,gA 7 15] (.seq (sO [gM 16 6,gB 17 .eql 16 (cI 0),gM 18 17,qf 18 (iG 19 2 1 1),qf 18 (iL 20 19),qf 18 (iM 21 6),qf 18 (iB 22 .sub 21 (cI 1)),qf 18 (iI 23 4 20 22),qf 18 (iG 24 23 3 3),qf 18 (iL 25 24),gP 26 18 cT 25] (.cond 26 (sO [O1 (.build 27 [(.int .i64 0),(.int .i64 0),(.str []),(.bool false)] []),gS 4 4 27,gA 5 cF] .ret) .skip)) (sO [gF 28 2 1,gL 29 28,gM 30 6,gB 31 .sub 30 (cI 1),gI 32 4 29 31,gU 33 4 32,gS 4 4 33,gA 5 cT] .ret))))
theorem Ag5:OF 76 34 Agw [.cell 4 true 4,.t 5]:=oF Tryz.func76 rfl Tryz.ntmps76
def Air:Ee:=(sO [gA 4 (cI 0),gA 5 cF] (sO [gM 6 0,O1 (.Es 7 6),gF 8 7 1,gL 9 8,gM 10 1,.Ac1 none (some 11) 100 [nL 9,nL 10,nL (.c (.fn 101))],gE 12 11 0,gE 13 11 1,gA 4 12,gA 5 13] .ret))
theorem Hc{N:Nat}{os:List Bh}{st:St}{K:SV→St→Prop}(h:M5 (Ub 14 os st) fun st=>Mc Tryz.prog Air Lu ⟨Rq Tryz.prog 14 N [.t 4,.t 5] K,Pe,Rq Tryz.prog 14 N [.t 4,.t 5] K⟩ st)(hn:os.length≤14):Ky Tryz.prog 83 N os st K:=
 Ky.Agy Tryz.func83 rfl Tryz.ntmps83 (by kernel_rfl) (by kernel_rfl) hn h
abbrev A0q:FuncId:=84
def Azm:Ee:=(sO [gA 6 cF] (.seq (sO [gM 9 2,gB 10 .neq 9 (.c (.int .i32 65533))] (cR 10 [gA 6 cF])) (sO [gM 12 0,gM 13 1,O1 (.slc 14 true 1 12 (some 13) none),gC 15 102 [nL 14],gA 11 15,gE 16 11 0,gE 17 11 1,gA 7 16,gA 8 17] (sO [gM 18 8,gB 19 .eql 18 (cI 1),gA 6 19] .ret))))
theorem Azp:OF 84 20 Azm [.t 6]:=oF Tryz.func84 rfl Tryz.ntmps84
abbrev A5r:FuncId:=85
def A26:Ee:=(sO [gA 2 cF] (sO [gM 3 0,gB 4 .geq 3 (.c (.int .i32 161)),gA 2 4] .ret))
theorem A3n:OF 85 5 A26 [.t 2]:=oF Tryz.func85 rfl Tryz.ntmps85
abbrev Ak4:FuncId:=88
def Akv:Ee:=(sO [gA 2 cF] (sO [gM 3 0,gM 4 0,gB 5 .neq 3 4,gA 2 5] .ret))
theorem Ak0:OF 88 6 Akv [.t 2]:=oF Tryz.func88 rfl Tryz.ntmps88
abbrev Nc:FuncId:=97
def M4:Ee:=(sO [gA 6 (cI 0),gA 7 cF] (sO [gM 12 0,gN 13 12,gA 8 13] (sO [gM 14 8,gA 9 (cI 0),gA 10 14] (.seq (.block 0 (.loop [11,12,15,16,17,18,19,20,21,22,23,24,25,26,27,28,29,30,31,32,33,34,41] (.seq (sO [gM 15 9,gM 16 10,gB 17 .lss 15 16] (.cond 17 .skip (.exit 0))) (.block 1 (sO [gM 18 9,gM 19 10,gB 20 .add 18 19,O1 (.conv 21 .u64 20),O1 (.bits 22 .shr 21 (.c (.int .u64 1))),O1 (.conv 23 .i64 22),gA 11 23] (sO [gM 24 2,gM 25 0,gM 26 11,gI 27 4 25 26,gU 28 4 27,gM 29 1,.dyn none (some 30) [98] 24 [nL 28,nL 29],gB 31 .lss 30 (cI 0)] (.cond 31 (.ops [gM 32 11,gB 33 .add 32 (cI 1),gA 9 33]) (.ops [gM 34 11,gA 10 34])))))))) (sO [gM 35 9,gM 36 9,gM 37 8,gB 38 .lss 36 37,gM 39 38,qt 39 (iM 40 2),qt 39 (iM 41 0),qt 39 (iM 42 9),qt 39 (iI 43 4 41 42),qt 39 (iU 44 4 43),qt 39 (iM 45 1),.dyn (some (39,true)) (some 46) [98] 40 [nL 44,nL 45],qt 39 (iB 47 .eql 46 (cI 0)),gP 48 39 47 cF,gA 6 35,gA 7 48] .ret)))))
theorem M6:OF 97 49 M4 [.t 6,.t 7]:=oF Tryz.func97 rfl Tryz.ntmps97
abbrev U1:FuncId:=98
def Ads:Ee:=(sO [O1 (.box 2 0),gA 4 (cI 0)] (sO [gF 5 2 0,gL 6 5,gM 7 1,gC 8 99 [nL 6,nL 7],gA 4 8] .ret))
theorem Adz:OF 98 9 Ads [.t 4]:=oF Tryz.func98 rfl Tryz.ntmps98
abbrev Apk:FuncId:=99
def Ang:Ee:=(sO [gA 4 (cI 0)] (sO [gM 7 0,gC 8 119 [nL 7],gA 5 8] (sO [gM 9 1,gC 10 119 [nL 9],gA 6 10] (.seq (sO [gM 11 5] (.cond 11 (.seq (sO [gM 12 6] (cR 12 [gA 4 (cI 0)])) (sO [gA 4 (cI (-1))] .ret)) .skip)) (.seq (sO [gM 13 6] (cR 13 [gA 4 (cI 1)])) (.seq (sO [gM 14 0,gM 15 1,gB 16 .lss 14 15] (cR 16 [gA 4 (cI (-1))])) (.seq (sO [gM 17 0,gM 18 1,gB 19 .gtr 17 18] (cR 19 [gA 4 (cI 1)])) (sO [gA 4 (cI 0)] .ret))))))))
theorem Anq:OF 99 20 Ang [.t 4]:=oF Tryz.func99 rfl Tryz.ntmps99
abbrev M0:FuncId:=100
def My:Ee:=(sO [gA 6 (cI 0),gA 7 cF] (sO [gM 12 0,gN 13 12,gA 8 13] (sO [gM 14 8,gA 9 (cI 0),gA 10 14] (.seq (.block 0 (.loop [11,12,15,16,17,18,19,20,21,22,23,24,25,26,27,28,29,30,31,32,33,34,41] (.seq (sO [gM 15 9,gM 16 10,gB 17 .lss 15 16] (.cond 17 .skip (.exit 0))) (.block 1 (sO [gM 18 9,gM 19 10,gB 20 .add 18 19,O1 (.conv 21 .u64 20),O1 (.bits 22 .shr 21 (.c (.int .u64 1))),O1 (.conv 23 .i64 22),gA 11 23] (sO [gM 24 2,gM 25 0,gM 26 11,gI 27 2 25 26,gU 28 2 27,gM 29 1,.dyn none (some 30) [101] 24 [nL 28,nL 29],gB 31 .lss 30 (cI 0)] (.cond 31 (.ops [gM 32 11,gB 33 .add 32 (cI 1),gA 9 33]) (.ops [gM 34 11,gA 10 34])))))))) (sO [gM 35 9,gM 36 9,gM 37 8,gB 38 .lss 36 37,gM 39 38,qt 39 (iM 40 2),qt 39 (iM 41 0),qt 39 (iM 42 9),qt 39 (iI 43 2 41 42),qt 39 (iU 44 2 43),qt 39 (iM 45 1),.dyn (some (39,true)) (some 46) [101] 40 [nL 44,nL 45],qt 39 (iB 47 .eql 46 (cI 0)),gP 48 39 47 cF,gA 6 35,gA 7 48] .ret)))))
theorem Mz:OF 100 49 My [.t 6,.t 7]:=oF Tryz.func100 rfl Tryz.ntmps100
abbrev V5:FuncId:=101
def Afm:Ee:=(sO [O1 (.box 2 0),gA 4 (cI 0)] (sO [gF 5 2 0,gL 6 5,gM 7 1,gC 8 51 [nL 6,nL 7],gA 4 8] .ret))
theorem Afs:OF 101 9 Afm [.t 4]:=oF Tryz.func101 rfl Tryz.ntmps101
abbrev Asf:FuncId:=119
def Arj:Ee:=(sO [gA 2 cF] (sO [gM 3 0,gM 4 0,gB 5 .neq 3 4,gA 2 5] .ret))
theorem Ars:OF 119 6 Arj [.t 2]:=oF Tryz.func119 rfl Tryz.ntmps119
end Go.Ab
