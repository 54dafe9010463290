/- Lemmas -/
import Derived.Test.YtkpojedpcabojaaDoorW0
set_option linter.unusedVariables false
set_option linter.unusedSimpArgs false
set_option maxRecDepth 100000
namespace Go.Ab
open Go.Proofs Go.Shelf
def Ap8:Ren:=⟨fun n=>if n=4 then 112 else n,fun n=>if n=25 then 105 else if n=22 then 85 else n,fun n=>n⟩
theorem Ar4:Lays8.n4 Tryd.prog Ap8 where
 mixed:=by kernel_rfl
 f4:=⟨Tryd.f112.name,by kernel_rfl,by kernel_rfl⟩
 t0:=by kernel_rfl
 a0:=fun _=>by kernel_rfl
 z0:=fun _=>by kernel_rfl
 v0:=fun _=>by kernel_rfl
 t3:=by kernel_rfl
 a3:=fun _=>by kernel_rfl
 z3:=fun _=>by kernel_rfl
 v3:=fun _=>by kernel_rfl
 t4:=by kernel_rfl
 a4:=fun _=>by kernel_rfl
 z4:=fun _=>by kernel_rfl
 v4:=fun _=>by kernel_rfl
 t9:=by kernel_rfl
 a9:=fun _=>by kernel_rfl
 z9:=fun _=>by kernel_rfl
 v9:=fun _=>by kernel_rfl
 t20:=by kernel_rfl
 a20:=fun _=>by kernel_rfl
 z20:=fun _=>by kernel_rfl
 v20:=fun _=>by kernel_rfl
 t22:=by kernel_rfl
 a22:=fun _=>by kernel_rfl
 z22:=fun _=>by kernel_rfl
 v22:=fun _=>by kernel_rfl
theorem Asa(n:Nat)(hn:n≤1000000):Fn Tryd.prog Fb [.vec Ams 7 [],.v (.int .i64 n)] (Is (.vec Ams 7 []) [.no,.no]):=
 Ar5 (P:=Tryd.prog) (ρ:=Ap8) Ar4 (i:=Tryd.t105) (z:=Tryd.t105.zero.getD undef) (by kernel_rfl) (by kernel_rfl) (by kernel_rfl) (by decide) (by decide) n hn

abbrev ti(n:Int):I:=.int .i64 n
structure Fk where
 rev:Int
 made:Int
 val:Az
 gone:Bool
 deriving DecidableEq,Inhabited
def Fk.Bx(v:Fk):I:=.agg [ti v.rev,ti v.made,.str v.val,.bool v.gone]
structure Zk where
 at_:Az
 vs:List Fk
 deriving DecidableEq,Inhabited
def Zk.Bx(h:Zk):I:=.agg [.str h.at_,.list (h.vs.map Fk.Bx)]
structure Tal where
 rev:Int
 floor:Int
 bytes:Int
 keys:Int
 Aq7:Int
 deriving DecidableEq,Inhabited
def Tal.Bx(t:Tal):I:=.agg [ti t.rev,ti t.floor,ti t.bytes,ti t.keys,ti t.Aq7]
structure Cn where
 sp:List (Az × Tal)
 l:List Zk
 deriving DecidableEq,Inhabited
structure Ef where
 key:Az
 val:Az
 gone:Bool
 deriving DecidableEq,Inhabited
def Ef.Bx(c:Ef):I:=.agg [.str c.key,.str c.val,.bool c.gone]
structure Pr where
 key:Az
 val:Az
 made:Int
 rev:Int
 deriving DecidableEq,Inhabited
def Pr.Bx(p:Pr):I:=.agg [.str p.key,.str p.val,ti p.made,ti p.rev]
structure Kv where
 key:Az
 vs:List Fk
 deriving DecidableEq,Inhabited
def Kv.Bx(h:Kv):I:=.agg [.str h.key,.list (h.vs.map Fk.Bx)]
structure Spc where
 name:Az
 rev:Int
 floor:Int
 keys:List Kv
 deriving DecidableEq,Inhabited
def Spc.Bx(p:Spc):I:=.agg [.str p.name,ti p.rev,ti p.floor,.list (p.keys.map Kv.Bx)]
theorem Fk.size(v:Fk):v.Bx.size=4:=rfl
theorem Zk.size(h:Zk):h.Bx.size=2:=rfl
theorem Ef.size(h:Ef):h.Bx.size=3:=rfl
theorem Kv.size(h:Kv):h.Bx.size=2:=rfl
theorem Spc.size(h:Spc):h.Bx.size=4:=rfl
theorem Pr.size(h:Pr):h.Bx.size=4:=rfl
def B7(n k:Az):Az:=UInt8.ofNat (n.length % 256)::n++k
def C1:Az→Az × Az × Bool
 | []=>([],[],false)
 |c::r=>if r.length<c.toNat then([],[],false)else(r.take c.toNat,r.drop c.toNat,true)
theorem Mt{n k:Az}(h:n.length<256):C1 (B7 n k)=(n,k,true):=by
 unfold B7 C1;have h1:(UInt8.ofNat (n.length % 256)).toNat=n.length:=by
  rw[UInt8.toNat_ofNat'];omega
 simp only[H3,h1,Hq];rw[if_neg (by omega),Amq,Aog]
def Awj(lt:Nat→Bool):Nat→Nat→Nat→Nat
 |0,i,_=>i
 |f+1,i,j=>if i<j then(if lt ((i+j) / 2)then Awj lt f ((i+j) / 2+1) j else Awj lt f i ((i+j) / 2))else i
theorem K0(lt:Nat→Bool):∀f i j,i≤j→i≤Awj lt f i j∧Awj lt f i j≤j
 |0,i,j,h=>⟨Bz _,h⟩
 |f+1,i,j,h=>by
  unfold Awj;split
  ·split
   ·have:=K0 lt f ((i+j) / 2+1) j (by omega);omega
   ·have:=K0 lt f i ((i+j) / 2) (by omega);omega
  ·omega
def Km{α:Type}(lt:α→Bool)(l:List α):Nat:=Awj (fun h=>(l[h]?).any lt) l.length 0 l.length
def bsF{α:Type}(lt eq:α→Bool)(l:List α):Bool:=(l[Km lt l]?).any eq
theorem Hp{α:Type}(lt:α→Bool)(l:List α):Km lt l≤l.length:=(K0 _ _ _ _ (Cr _)).2
theorem Afp{α:Type}{lt eq:α→Bool}{l:List α}(h:bsF lt eq l=true):∃x,l[Km lt l]?=some x∧eq x=true:=by
 unfold bsF at h;cases hx:l[Km lt l]? with
 |none=>rw[hx]at h;cases h
 |some x=>rw[hx]at h;exact⟨x,rfl,by simpa using h⟩
theorem Abw{i j:Nat}(h:i+j≤9223372036854775807):IntKind.i64.wrap (Bfe .u64 (IntKind.u64.wrap (IntKind.i64.wrap ((i:Int)+(j:Int)))) 1)=(((i+j) / 2:Nat):Int):=by
 have h1:IntKind.i64.wrap ((i:Int)+(j:Int))=((i+j:Nat):Int):=by rw[IntKind.wrap_i64];omega
 have h2:IntKind.u64.wrap ((i+j:Nat):Int)=((i+j:Nat):Int):=by simp[IntKind.wrap,IntKind.bits,IntKind.signed];omega
 rw[h1,h2];have h3:Bfe .u64 ((i+j:Nat):Int) 1=(((i+j) / 2:Nat):Int):=(show Int.fdiv ((i+j:Nat):Int) ((2:Nat):Int)=_ from(Int.ofNat_fdiv _ _).symm);rw[h3,IntKind.wrap_i64];omega

open Go.Proofs
abbrev As3:FuncId:=25
abbrev Aqi:FuncId:=26
def Ax7:Stm:=(sO [gA 6 (cI 0),gA 7 (cI 0)] (sO [gM 18 0,gM 19 1,gC 20 74 [(true,18),nL 19],gA 8 20] (.seq (sO [gM 21 8,gB 22 .lss 21 (cI 0)] (cR 22 [gA 6 (cI 0),gA 7 (cI 16)])) (.seq (sO [gA 9 (cI 0)] (.block 0 (.loop [6,7,23,24,25,26,27,28,29,30,31,32,33,34,35,36,37,38,39,40,41,42,43,44,45,46,47,48,49,50,51,52,53,54,55,56,57,58,59,60,61,71,79,86,91,112,133,147,159,172] (.seq (sO [gM 23 9,gM 24 2,gN 25 24,gB 26 .lss 23 25] (.cond 26 .skip (.exit 0))) (.seq (.block 1 (sO [gM 29 2,gM 30 9,gI 31 3 29 30,gF 32 31 0,gL 33 32,O1 (.len 34 true 33),gB 35 .lss 34 (cI 1),gM 36 35,qf 36 (iM 37 2),qf 36 (iM 38 9),qf 36 (iI 39 3 37 38),qf 36 (iG 40 39 0 0),qf 36 (iL 41 40),qf 36 (.len 42 true 41),qf 36 (iB 43 .gtr 42 (cI 64)),gP 44 36 cT 43,gM 45 44,qf 45 (iM 46 2),qf 45 (iM 47 9),qf 45 (iI 48 3 46 47),qf 45 (iG 49 48 2 2),qf 45 (iL 50 49),qf 45 (iT 51 50),qf 45 (iM 52 51),qt 52 (iM 53 2),qt 52 (iM 54 9),qt 52 (iI 55 3 53 54),qt 52 (iG 56 55 1 1),qt 52 (iL 57 56),qt 52 (.len 58 true 57),qt 52 (iB 59 .gtr 58 (cI 256)),qf 45 (iP 60 52 59 cF),gP 61 45 cT 60] (cR 61 [gA 6 (cI 0),gA 7 (cI 1)]))) (.ops [gM 27 9,gB 28 .add 27 (cI 1),gA 9 28])))))) (sO [gM 62 0,O1 (.Ami 63 62),gF 64 63 0,gL 65 64,gM 66 8,gI 67 4 65 66,gU 68 4 67,O1 (.alloc 10 (.one (.i (.agg [(.str []),(.int .i64 0),(.int .i64 0),(.list [])])))),gS 4 10 68] (sO [gU 69 4 10,O1 (.alloc 11 (.one (.i (.agg [(.str []),(.int .i64 0),(.int .i64 0),(.list [])])))),gS 4 11 69] (.seq (sO [gA 12 (cI 0)] (.block 2 (.loop (kr [13,14,15,16,17,24,29,37,46,53] 70 113) (.seq (sO [gM 70 12,gM 71 2,gN 72 71,gB 73 .lss 70 72] (.cond 73 .skip (.exit 2))) (.seq (.block 3 (sO [gA 13 cT] (.seq (sO [gM 76 12,gB 77 .add 76 (cI 1),gA 14 77] (.block 4 (.loop [24,29,37,46,53,71,78,79,80,81,82,83,84,85,86,87,88,89,90,91,92,93,94,95,96,97,112,133,147,159,172] (.seq (sO [gM 78 14,gM 79 2,gN 80 79,gB 81 .lss 78 80] (.cond 81 .skip (.exit 4))) (.seq (.block 5 (.drw [0,1,3,3,15,31,63,3,3,387,899,1923,4095,8191,16383] [gM 84 13,gM 85 84,qt 85 (iM 86 2),qt 85 (iM 87 14),qt 85 (iI 88 3 86 87),qt 85 (iG 89 88 0 0),qt 85 (iL 90 89),qt 85 (iM 91 2),qt 85 (iM 92 12),qt 85 (iI 93 3 91 92),qt 85 (iG 94 93 0 0),qt 85 (iL 95 94),qt 85 (iB 96 .neq 90 95),gP 97 85 96 cF,gA 13 97])) (.ops [gM 82 14,gB 83 .add 82 (cI 1),gA 14 83])))))) (sO [O1 (.build 98 [(.int .i64 0),(.int .i64 0),(.str []),(.bool false)] [(3,cT)]),O1 (.alloc 15 (.one (.i (.agg [(.int .i64 0),(.int .i64 0),(.str []),(.bool false)])))),gS 4 15 98] (.seq (sO [gA 16 (cI 0)] (.block 6 (.loop [24,29,37,46,53,71,79,86,91,99,100,101,102,103,104,105,106,107,108,109,110,111,112,113,114,115,116,117,118,119,120,121,122,123,124,125,126,127,128,129,133,147,159,172] (.seq (sO [gM 99 16,gF 100 10 3,gL 101 100,gN 102 101,gB 103 .lss 99 102] (.cond 103 .skip (.exit 6))) (.seq (.block 7 (.seq (.drw [0,1,0,7,15,31,0,0,192,448,960,2047] [gF 106 10 3,gL 107 106,gM 108 16,gI 109 2 107 108,gF 110 109 0,gL 111 110,gM 112 2,gM 113 12,gI 114 3 112 113,gF 115 114 0,gL 116 115,gB 117 .eql 111 116]) (.cond 117 (.drw [0,1,0,7,15,31,0,64,255,511,1023,1023,2047] [gF 119 10 3,gL 120 119,gM 121 16,gI 122 2 120 121,gF 123 122 1,gL 124 123,gF 125 10 1,gL 126 125,gC 127 75 [nL 124,nL 126],gA 118 127,gE 128 118 0,gE 129 118 1,gS 4 15 128]) .skip))) (.ops [gM 104 16,gB 105 .add 104 (cI 1),gA 16 105])))))) (.seq (sO [gM 130 13,gT 131 130,gM 132 131,qf 132 (iM 133 2),qf 132 (iM 134 12),qf 132 (iI 135 3 133 134),qf 132 (iG 136 135 2 2),qf 132 (iL 137 136),qf 132 (iM 138 137),qt 138 (iG 139 15 3 3),qt 138 (iL 140 139),qf 132 (iP 141 138 140 cF),gP 142 132 cT 141] (.cond 142 (.exit 3) .skip)) (sO [gF 143 10 1,gL 144 143,gB 145 .add 144 (cI 1),O1 (.build 146 [(.int .i64 0),(.int .i64 0),(.str []),(.bool false)] [(0,145),(3,cT)]),O1 (.alloc 17 (.one (.i (.agg [(.int .i64 0),(.int .i64 0),(.str []),(.bool false)])))),gS 4 17 146] (.seq (sO [gM 147 2,gM 148 12,gI 149 3 147 148,gF 150 149 2,gL 151 150,gT 152 151] (.cond 152 (.seq (.drw [0,1,3,0,8,24,0,0,192,448,960,2047,4095] [gF 153 10 1,gL 154 153,gB 155 .add 154 (cI 1),gF 156 10 1,gL 157 156,gB 158 .add 157 (cI 1),gM 159 2,gM 160 12,gI 161 3 159 160,gF 162 161 1,gL 163 162,O1 (.build 164 [(.int .i64 0),(.int .i64 0),(.str []),(.bool false)] [(0,155),(1,158),(2,163)]),gS 4 17 164]) (sO [gF 165 15 3,gL 166 165,gT 167 166] (.cond 167 (.ops [gF 168 15 1,gL 169 168,gF 170 17 1,gS 1 170 169]) .skip))) .skip)) (.seq (.drw [0,0,0,6,14,30,0,127,255] [gU 171 4 11,gM 172 2,gM 173 12,gI 174 3 172 173,gF 175 174 0,gL 176 175,gU 177 4 17,gC 178 76 [nL 171,nL 176,nL 177],gS 4 11 178]) (.ops [gF 179 10 1,gL 180 179,gB 181 .add 180 (cI 1),gF 182 11 1,gS 1 182 181])))))))))) (.ops [gM 74 12,gB 75 .add 74 (cI 1),gA 12 75])))))) (.seq (.drw [0,1,3,7,0,0,63,127] [gM 183 0,O1 (.Ami 184 183),gF 185 184 0,gL 186 185,gM 187 8,gU 188 4 11,gI 189 4 186 187,gS 4 189 188]) (sO [gF 190 11 1,gL 191 190,gA 6 191,gA 7 (cI 0)] .ret)))))))))
theorem Ass:OF 26 192 Ax7 [.t 6,.t 7]:=oF Tryd.func26 rfl Tryd.ntmps26 (by kernel_rfl) (by kernel_rfl)
abbrev Azc:FuncId:=37
def Aza:Stm:=(sO [gA 4 cF] (.seq (sO [gM 6 0,gN 7 6,gM 8 1,gN 9 8,gB 10 .neq 7 9] (cR 10 [gA 4 cF])) (.seq (sO [gA 5 (cI 0)] (.block 0 (.loop (kr [4,6,8] 11 15) (.seq (sO [gM 11 5,gM 12 0,gN 13 12,gB 14 .lss 11 13] (.cond 14 .skip (.exit 0))) (.seq (.block 1 (.seq (.drw [0,0,3,7,0,0,48,112,255] [gM 17 0,gM 18 5,gI 19 4 17 18,gU 20 4 19,gM 21 1,gM 22 5,gI 23 4 21 22,gU 24 4 23,O1 (.eqs 25 true (.st [.str,.str,(.int .i64),(.int .i64)]) 20 24)]) (cR 25 [gA 4 cF]))) (.ops [gM 15 5,gB 16 .add 15 (cI 1),gA 5 16])))))) (sO [gA 4 cT] .ret))))
theorem Azb:OF 37 26 Aza [.t 4]:=oF Tryd.func37 rfl Tryd.ntmps37 (by kernel_rfl) (by kernel_rfl)
abbrev A2w:FuncId:=62
def A2k:Stm:=(sO [O1 (.box 2 0),gA 4 cF] (.seq (sO [gF 5 2 1,gL 6 5,gB 7 .eql 6 (cS [])] (cR 7 [gM 8 1,gF 9 2 0,gL 10 9,gB 11 .geq 8 10,gA 4 11])) (sO [gM 12 1,gF 13 2 0,gL 14 13,gB 15 .geq 12 14,gM 16 15,qt 16 (iM 17 1),qt 16 (iG 18 2 1 1),qt 16 (iL 19 18),qt 16 (iB 20 .lss 17 19),gP 21 16 20 cF,gA 4 21] .ret)))
theorem A2o:OF 62 22 A2k [.t 4]:=oF Tryd.func62 rfl Tryd.ntmps62 (by kernel_rfl) (by kernel_rfl)
abbrev Azy:FuncId:=63
def Azn:Stm:=(sO [gA 4 cF] (.seq (sO [gM 6 0,gN 7 6,gM 8 1,gN 9 8,gB 10 .neq 7 9] (cR 10 [gA 4 cF])) (.seq (sO [gA 5 (cI 0)] (.block 0 (.loop (kr [4,6,8] 11 44) (.seq (sO [gM 11 5,gM 12 0,gN 13 12,gB 14 .lss 11 13] (.cond 14 .skip (.exit 0))) (.seq (.block 1 (.seq (.drw [0,0,3,7,15,0,0,96,224,480,1023,2047,4095,4095,16383,32767,65535,4095,4095,397311,921599,1970175,4194303,8388607,16777215,33554431,33554431,134217727,268435455,536870911,33554431,33554431,3254779903,7549747199,16139681791,34359738367,68719476735,137438953471] [gM 17 0,gM 18 5,gI 19 3 17 18,gF 20 19 1,gL 21 20,gM 22 1,gM 23 5,gI 24 3 22 23,gF 25 24 1,gL 26 25,O1 (.eqs 27 true .bool 21 26),gM 28 27,qf 28 (iM 29 0),qf 28 (iM 30 5),qf 28 (iI 31 3 29 30),qf 28 (iG 32 31 2 2),qf 28 (iL 33 32),qf 28 (iM 34 1),qf 28 (iM 35 5),qf 28 (iI 36 3 34 35),qf 28 (iG 37 36 2 2),qf 28 (iL 38 37),qf 28 (iB 39 .neq 33 38),gP 40 28 cT 39,gM 41 40,qf 41 (iM 42 0),qf 41 (iM 43 5),qf 41 (iI 44 3 42 43),qf 41 (iG 45 44 0 0),qf 41 (iL 46 45),qf 41 (iM 47 1),qf 41 (iM 48 5),qf 41 (iI 49 3 47 48),qf 41 (iG 50 49 0 0),qf 41 (iL 51 50),.call (some (41,false)) (some 52) 37 [nL 46,nL 51],qf 41 (iT 53 52),gP 54 41 cT 53]) (cR 54 [gA 4 cF]))) (.ops [gM 15 5,gB 16 .add 15 (cI 1),gA 5 16])))))) (sO [gA 4 cT] .ret))))
theorem Azo:OF 63 55 Azn [.t 4]:=oF Tryd.func63 rfl Tryd.ntmps63 (by kernel_rfl) (by kernel_rfl)
abbrev Ayj:FuncId:=64
def Ax8:Stm:=(sO [gA 4 cF] (.seq (sO [gM 6 0,gN 7 6,gM 8 1,gN 9 8,gB 10 .neq 7 9] (cR 10 [gA 4 cF])) (.seq (sO [gA 5 (cI 0)] (.block 0 (.loop (kr [4,6,8] 11 15) (.seq (sO [gM 11 5,gM 12 0,gN 13 12,gB 14 .lss 11 13] (.cond 14 .skip (.exit 0))) (.seq (.block 1 (.seq (.drw [0,0,3,7,0,0,48,112,255] [gM 17 0,gM 18 5,gI 19 3 17 18,gU 20 3 19,gM 21 1,gM 22 5,gI 23 3 21 22,gU 24 3 23,O1 (.eqs 25 true (.st [.str,.str,.bool]) 20 24)]) (cR 25 [gA 4 cF]))) (.ops [gM 15 5,gB 16 .add 15 (cI 1),gA 5 16])))))) (sO [gA 4 cT] .ret))))
theorem Aya:OF 64 26 Ax8 [.t 4]:=oF Tryd.func64 rfl Tryd.ntmps64 (by kernel_rfl) (by kernel_rfl)
abbrev A1o:FuncId:=73
def A05:Stm:=(sO [gA 2 cF] (sO [gA 3 (cI 0)] (.seq (sO [gA 4 (cI 0)] (.block 0 (.loop (kr [2] 5 67) (.seq (sO [gM 7 4,gM 8 0,O1 (.len 9 true 8),gB 10 .lss 7 9] (.cond 10 .skip (.exit 0))) (.block 1 (sO [gM 11 0,gM 12 4,O1 (.slc 13 true 1 11 (some 12) none),gC 14 103 [nL 13],gA 5 14] (.seq (sO [gM 15 5,gB 16 .eql 15 (cI 0)] (cR 16 [gA 2 cF])) (sO [gM 17 0,gM 18 4,O1 (.Ayz 19 17 18),gA 6 19] (.seq (sO [gM 20 5,gB 21 .eql 20 (cI 1),gM 22 21,qt 22 (iM 23 6),qt 22 (iB 24 .geq 23 (.c (.int .u8 97))),qt 22 (iM 25 24),qt 25 (iM 26 6),qt 25 (iB 27 .leq 26 (.c (.int .u8 122))),qt 22 (iP 28 25 27 cF),qt 22 (iM 29 28),qf 29 (iM 30 6),qf 29 (iB 31 .geq 30 (.c (.int .u8 48))),qf 29 (iM 32 31),qt 32 (iM 33 6),qt 32 (iB 34 .leq 33 (.c (.int .u8 57))),qf 29 (iP 35 32 34 cF),qt 22 (iP 36 29 cT 35),qt 22 (iM 37 36),qf 37 (iM 38 6),qf 37 (iB 39 .eql 38 (.c (.int .u8 95))),qt 22 (iP 40 37 cT 39),qt 22 (iM 41 40),qf 41 (iM 42 6),qf 41 (iB 43 .eql 42 (.c (.int .u8 45))),qf 41 (iM 44 43),qt 44 (iM 45 4),qt 44 (iB 46 .gtr 45 (cI 0)),qf 41 (iP 47 44 46 cF),qt 22 (iP 48 41 cT 47),qt 22 (iT 49 48),gP 50 22 49 cF,gM 51 50,qf 51 (iM 52 5),qf 51 (iB 53 .gtr 52 (cI 1)),qf 51 (iM 54 53),qt 54 (iM 55 0),qt 54 (iM 56 4),qt 54 (iM 57 4),qt 54 (iM 58 5),qt 54 (iB 59 .add 57 58),qt 54 (.slc 60 true 1 55 (some 56) (some 59)),.call (some (54,true)) (some 61) 104 [nL 60],qt 54 (iT 62 61),qf 51 (iP 63 54 62 cF),gP 64 51 cT 63] (cR 64 [gA 2 cF])) (sO [gM 65 4,gM 66 5,gB 67 .add 65 66,gA 4 67] (sO [gM 68 3,gB 69 .add 68 (cI 1),gA 3 69] (sO [gM 70 3,gB 71 .gtr 70 (cI 24)] (cR 71 [gA 2 cF]))))))))))))) (sO [gM 72 3,gB 73 .gtr 72 (cI 0),gA 2 73] .ret))))
theorem A06:OF 73 74 A05 [.t 2]:=oF Tryd.func73 rfl Tryd.ntmps73 (by kernel_rfl) (by kernel_rfl)
abbrev Ay3:FuncId:=74
def Ayu:Stm:=(sO [gA 4 (cI 0)] (.seq (sO [gA 5 (cI 0)] (.block 0 (.loop (kr [4] 6 20) (.seq (sO [gM 6 5,gM 7 0,O1 (.Ami 8 7),gF 9 8 0,gL 10 9,gN 11 10,gB 12 .lss 6 11] (.cond 12 .skip (.exit 0))) (.seq (.block 1 (sO [gM 15 0,O1 (.Ami 16 15),gF 17 16 0,gL 18 17,gM 19 5,gI 20 4 18 19,gF 21 20 0,gL 22 21,gM 23 1,gB 24 .eql 22 23] (cR 24 [gM 25 5,gA 4 25]))) (.ops [gM 13 5,gB 14 .add 13 (cI 1),gA 5 14])))))) (sO [gA 4 (cI (-1))] .ret)))
theorem Ayw:OF 74 26 Ayu [.t 4]:=oF Tryd.func74 rfl Tryd.ntmps74 (by kernel_rfl) (by kernel_rfl)
abbrev A4c:FuncId:=75
def A28:Stm:=(sO [O1 (.alloc 4 (.one (.i (.agg [(.int .i64 0),(.int .i64 0),(.str []),(.bool false)])))),gA 5 cF] (sO [O1 (.build 8 [(.int .i64 0),(.int .i64 0),(.str []),(.bool false)] [(3,cT)]),O1 (.alloc 6 (.one (.i (.agg [(.int .i64 0),(.int .i64 0),(.str []),(.bool false)])))),gS 4 6 8] (.seq (sO [gA 7 (cI 0)] (.block 0 (.loop (kr [] 9 17) (.seq (sO [gM 9 7,gM 10 0,gN 11 10,gB 12 .lss 9 11] (.cond 12 .skip (.exit 0))) (.seq (.block 1 (sO [gM 15 0,gM 16 7,gI 17 4 15 16,gF 18 17 0,gL 19 18,gM 20 1,gB 21 .leq 19 20] (.cond 21 (.ops [gM 22 0,gM 23 7,gI 24 4 22 23,gU 25 4 24,gS 4 6 25]) .skip))) (.ops [gM 13 7,gB 14 .add 13 (cI 1),gA 7 14])))))) (.seq (.drw [0,0,2,6,1,31] [gU 26 4 6,gF 27 6 3,gL 28 27,gT 29 28,gS 4 4 26,gA 5 29]) .ret))))
theorem A3d:OF 75 30 A28 [.cell 4 true 4,.t 5]:=oF Tryd.func75 rfl Tryd.ntmps75 (by kernel_rfl) (by kernel_rfl)
abbrev A2x:FuncId:=76
def A2m:Stm:=(sO [O1 (.box 3 0),O1 (.box 5 2),O1 (.alloc 6 (.one (.i (.agg [(.str []),(.int .i64 0),(.int .i64 0),(.list [])]))))] (sO [O1 (.empty 11 130 2),gA 7 11] (sO [gA 8 cF] (.seq (sO [gA 9 (cI 0)] (.block 0 (.loop [10,12,13,14,15,16,17,18,19,20,21,22,23,24,25,26,27,28,29,30,31,32,33,34,35,36,37,38,39,40,41,42,43,44,45,46,47,48,49,50,51,52,53,54,57,64] (.seq (sO [gM 12 9,gF 13 3 3,gL 14 13,gN 15 14,gB 16 .lss 12 15] (.cond 16 .skip (.exit 0))) (.seq (.block 1 (sO [gF 19 3 3,gL 20 19,gM 21 9,gI 22 2 20 21,gU 23 2 22,O1 (.alloc 10 (.one (.i (.agg [(.str []),(.list [])])))),gS 2 10 23] (.seq (sO [gM 24 8,gT 25 24,gM 26 25,qt 26 (iM 27 1),qt 26 (iG 28 10 0 0),qt 26 (iL 29 28),qt 26 (iB 30 .lss 27 29),gP 31 26 30 cF] (.cond 31 (sO [gM 32 7,gM 33 1,gU 34 4 5,O1 (.bsl 35 125 4 (.agg [(.int .i64 0),(.int .i64 0),(.str []),(.bool false)]) 1 [(0,34)]),O1 (.build 36 [(.str []),(.list [])] [(0,33),(1,35)]),O1 (.bsl 37 130 2 (.agg [(.str []),(.list [])]) 1 [(0,36)]),O1 (.app 38 130 2 40 32 37),gA 7 38] (.ops [gA 8 cT])) .skip)) (.seq (sO [gF 39 10 0,gL 40 39,gM 41 1,gB 42 .eql 40 41] (.cond 42 (.seq (.drw [0,0,2,7,0,16,63,127,255] [O1 (.empty 43 125 4),gF 44 10 1,gL 45 44,O1 (.app 46 125 4 40 43 45),gU 47 4 5,O1 (.bsl 48 125 4 (.agg [(.int .i64 0),(.int .i64 0),(.str []),(.bool false)]) 1 [(0,47)]),O1 (.app 49 125 4 40 46 48),gF 50 10 1,gS 1 50 49]) (.ops [gA 8 cT])) .skip)) (.ops [gM 51 7,gU 52 2 10,O1 (.bsl 53 130 2 (.agg [(.str []),(.list [])]) 1 [(0,52)]),O1 (.app 54 130 2 40 51 53),gA 7 54]))))) (.ops [gM 17 9,gB 18 .add 17 (cI 1),gA 9 18])))))) (.seq (sO [gM 55 8,gT 56 55] (.cond 56 (.ops [gM 57 7,gM 58 1,gU 59 4 5,O1 (.bsl 60 125 4 (.agg [(.int .i64 0),(.int .i64 0),(.str []),(.bool false)]) 1 [(0,59)]),O1 (.build 61 [(.str []),(.list [])] [(0,58),(1,60)]),O1 (.bsl 62 130 2 (.agg [(.str []),(.list [])]) 1 [(0,61)]),O1 (.app 63 130 2 40 57 62),gA 7 63]) .skip)) (sO [gM 64 7,gF 65 3 3,gS 1 65 64] (sO [gU 66 4 3,gS 4 6 66] .ret)))))))
theorem A2p:OF 76 67 A2m [.cell 6 true 4]:=oF Tryd.func76 rfl Tryd.ntmps76 (by kernel_rfl) (by kernel_rfl)
abbrev Apm:FuncId:=82
abbrev Axa:FuncId:=103
def A1s:Stm:=(sO [gA 2 (cI 0)] (.seq (sO [gM 3 0,gC 4 123 [nL 3,nL (cI 0),nL (.c (.int .u8 0)),nL (.c (.int .u8 127))]] (cR 4 [gA 2 (cI 1)])) (.seq (sO [gM 5 0,gC 6 123 [nL 5,nL (cI 0),nL (.c (.int .u8 194)),nL (.c (.int .u8 223))],gM 7 6,qt 7 (iM 8 0),.call (some (7,true)) (some 9) 124 [nL 8,nL (cI 1),nL (cI 1)],gP 10 7 9 cF] (cR 10 [gA 2 (cI 2)])) (.seq (sO [gM 11 0,gC 12 124 [nL 11,nL (cI 1),nL (cI 2)]] (.cond 12 (sO [gM 13 0,gC 14 123 [nL 13,nL (cI 0),nL (.c (.int .u8 224)),nL (.c (.int .u8 224))],gM 15 14,qt 15 (iM 16 0),.call (some (15,true)) (some 17) 123 [nL 16,nL (cI 1),nL (.c (.int .u8 160)),nL (.c (.int .u8 191))],gP 18 15 17 cF,gM 19 18,qf 19 (iM 20 0),.call (some (19,false)) (some 21) 123 [nL 20,nL (cI 0),nL (.c (.int .u8 225)),nL (.c (.int .u8 236))],gP 22 19 cT 21,gM 23 22,qf 23 (iM 24 0),.call (some (23,false)) (some 25) 123 [nL 24,nL (cI 0),nL (.c (.int .u8 237)),nL (.c (.int .u8 237))],qf 23 (iM 26 25),qt 26 (iM 27 0),.call (some (26,true)) (some 28) 123 [nL 27,nL (cI 1),nL (.c (.int .u8 128)),nL (.c (.int .u8 159))],qf 23 (iP 29 26 28 cF),gP 30 23 cT 29,gM 31 30,qf 31 (iM 32 0),.call (some (31,false)) (some 33) 123 [nL 32,nL (cI 0),nL (.c (.int .u8 238)),nL (.c (.int .u8 239))],gP 34 31 cT 33] (cR 34 [gA 2 (cI 3)])) .skip)) (.seq (sO [gM 35 0,gC 36 124 [nL 35,nL (cI 1),nL (cI 3)]] (.cond 36 (sO [gM 37 0,gC 38 123 [nL 37,nL (cI 0),nL (.c (.int .u8 240)),nL (.c (.int .u8 240))],gM 39 38,qt 39 (iM 40 0),.call (some (39,true)) (some 41) 123 [nL 40,nL (cI 1),nL (.c (.int .u8 144)),nL (.c (.int .u8 191))],gP 42 39 41 cF,gM 43 42,qf 43 (iM 44 0),.call (some (43,false)) (some 45) 123 [nL 44,nL (cI 0),nL (.c (.int .u8 241)),nL (.c (.int .u8 243))],gP 46 43 cT 45,gM 47 46,qf 47 (iM 48 0),.call (some (47,false)) (some 49) 123 [nL 48,nL (cI 0),nL (.c (.int .u8 244)),nL (.c (.int .u8 244))],qf 47 (iM 50 49),qt 50 (iM 51 0),.call (some (50,true)) (some 52) 123 [nL 51,nL (cI 1),nL (.c (.int .u8 128)),nL (.c (.int .u8 143))],qf 47 (iP 53 50 52 cF),gP 54 47 cT 53] (cR 54 [gA 2 (cI 4)])) .skip)) (sO [gA 2 (cI 0)] .ret))))))
theorem A1w:OF 103 55 A1s [.t 2]:=oF Tryd.func103 rfl Tryd.ntmps103 (by kernel_rfl) (by kernel_rfl)
abbrev A02:FuncId:=104
def A0v:Stm:=(sO [gA 2 cF] (.seq (sO [gM 3 0,O1 (.len 4 true 3),gB 5 .eql 4 (cI 1)] (cR 5 [gM 6 0,O1 (.Ayz 7 6 (cI 0)),gB 8 .geq 7 (.c (.int .u8 32)),gM 9 8,qt 9 (iM 10 0),qt 9 (.Ayz 11 10 (cI 0)),qt 9 (iB 12 .leq 11 (.c (.int .u8 126))),gP 13 9 12 cF,gM 14 13,qt 14 (iM 15 0),qt 14 (.Ayz 16 15 (cI 0)),qt 14 (iB 17 .neq 16 (.c (.int .u8 92))),gP 18 14 17 cF,gA 2 18])) (.seq (sO [gM 19 0,O1 (.len 20 true 19),gB 21 .eql 20 (cI 2),gM 22 21,qt 22 (iM 23 0),qt 22 (.Ayz 24 23 (cI 0)),qt 22 (iB 25 .eql 24 (.c (.int .u8 194))),gP 26 22 25 cF] (cR 26 [gM 27 0,O1 (.Ayz 28 27 (cI 1)),gB 29 .geq 28 (.c (.int .u8 161)),gA 2 29])) (sO [gM 30 0,O1 (.len 31 true 30),gB 32 .gtr 31 (cI 1),gA 2 32] .ret))))
theorem A0y:OF 104 33 A0v [.t 2]:=oF Tryd.func104 rfl Tryd.ntmps104 (by kernel_rfl) (by kernel_rfl)
abbrev A03:FuncId:=123
def A0w:Stm:=(sO [gA 8 cF] (sO [gM 9 1,gM 10 0,O1 (.len 11 true 10),gB 12 .lss 9 11,gM 13 12,qt 13 (iM 14 0),qt 13 (iM 15 1),qt 13 (.Ayz 16 14 15),qt 13 (iM 17 2),qt 13 (iB 18 .geq 16 17),gP 19 13 18 cF,gM 20 19,qt 20 (iM 21 0),qt 20 (iM 22 1),qt 20 (.Ayz 23 21 22),qt 20 (iM 24 3),qt 20 (iB 25 .leq 23 24),gP 26 20 25 cF,gA 8 26] .ret))
theorem A0z:OF 123 27 A0w [.t 8]:=oF Tryd.func123 rfl Tryd.ntmps123 (by kernel_rfl) (by kernel_rfl)
abbrev A14:FuncId:=124
def A1t:Stm:=(sO [gA 6 cF] (.seq (sO [gA 7 (cI 0)] (.block 0 (.loop (kr [6] 8 11) (.seq (sO [gM 8 7,gM 9 2,gB 10 .lss 8 9] (.cond 10 .skip (.exit 0))) (.seq (.block 1 (sO [gM 13 0,gM 14 1,gM 15 7,gB 16 .add 14 15,gC 17 123 [nL 13,nL 16,nL (.c (.int .u8 128)),nL (.c (.int .u8 191))],gT 18 17] (cR 18 [gA 6 cF]))) (.ops [gM 11 7,gB 12 .add 11 (cI 1),gA 7 12])))))) (sO [gA 6 cT] .ret)))
theorem A1x:OF 124 19 A1t [.t 6]:=oF Tryd.func124 rfl Tryd.ntmps124 (by kernel_rfl) (by kernel_rfl)

open Go.Proofs
theorem Pu(s:Sp):Fn Tryd.prog Us [.v s.Bx] (Is (.v (.bool (decide (SpR s)))) [.no]):=by
 refine T7 ?_ (by simp)
 repeat'((conv=>whnf);first|((with_reducible refine Ax (by(with_reducible rfl)) (fun hb=>?_));(try rw[hb]);(try simp only[Aa]at hb))|((with_reducible refine Aw (by(with_reducible rfl)) (fun hb=>?_));(try rw[hb]);(try simp only[Aa]at hb))|((with_reducible refine A5 (fun hb=>?_) (fun hb=>?_))<;>(((try rw[hb]);(try simp only[Aa]at hb))))|((with_reducible refine Ac ?_ ?_);focus (and_intros<;>first|omega|(with_reducible rfl)|kernel_rfl|(simp;done)))|(with_reducible intro Cq))
 all_goals(try(conv=>whnf))
 all_goals(refine Am1.mk ⟨SV.Aju ?_,by kernel_rfl⟩ (by kernel_rfl))
 all_goals(simp[SpR,Kz]at*;grind)
theorem Bfk(s:Sp)(k:Az):Fn Tryd.prog A2w [.v s.Bx,.v (.str k)] (Is (.v (.bool (decide (Bw s k)))) [.no,.no]):=by
 refine A2o ?_ (by simp)
 repeat'((conv=>whnf);first|((with_reducible refine Ax (by(with_reducible rfl)) (fun hb=>?_));(try rw[hb]);(try simp only[Aa]at hb))|((with_reducible refine Aw (by(with_reducible rfl)) (fun hb=>?_));(try rw[hb]);(try simp only[Aa]at hb))|((with_reducible refine A5 (fun hb=>?_) (fun hb=>?_))<;>(((try rw[hb]);(try simp only[Aa]at hb))))|((with_reducible refine Ac ?_ ?_);focus (and_intros<;>first|omega|kernel_rfl|(simp;done))))
 all_goals(try(conv=>whnf))
 all_goals(refine Am1.mk ⟨SV.Aju ?_,by kernel_rfl⟩ (by kernel_rfl))
 all_goals(simp[Bw,Kz]at*;grind)
theorem Aa0(k:Az):Fn Tryd.prog Mp [.v (.str k)] (Is (.v (.bool false)) [.no]):=by
 refine Mn ?_ (by simp)
 (skip)
 all_goals(try(conv=>whnf))
 exact Am1.mk ⟨SV.Aju (by simp),by kernel_rfl⟩ (by kernel_rfl)
def Azg(a b:Az):Int:=if a<b then -1 else if b<a then 1 else 0
theorem Ww(a b:Az):Fn Tryd.prog Kw [.v (.str a),.v (.str b)] (Is (.v (.int .i64 (Azg a b))) [.no,.no]):=by
 refine Kk ?_ (by simp)
 repeat'((conv=>whnf);first|((with_reducible refine Aw (by first|(with_reducible assumption)|(with_reducible rfl)) (fun hb=>?_));(try rw[hb]);(try simp only[Aa]at hb))|((with_reducible refine A5 (fun hb=>?_) (fun hb=>?_))<;>(((try rw[hb]);(try simp only[Aa]at hb))))|((with_reducible refine Ac ?_ ?_);focus (and_intros<;>first|(intro _ hh;cases hh;done)|(simp;done)|decide))|((with_reducible refine Ct.mk ?_);refine⟨_,Aa0 _,?_⟩;rintro _ _ ⟨rfl,rfl⟩))
 all_goals(try(conv=>whnf))
 all_goals(refine Am1.mk ⟨congrArg (fun n=>SV.v (.int .i64 n)) ?_,by kernel_rfl⟩ (by kernel_rfl))
 all_goals(simp[Azg,Kz]at* <;>grind)
theorem Tu(s:Sp)(k:Az):Fn Tryd.prog Za [.v s.Bx,.v (.str k)] (Is (.v (.bool (decide (Bw s k)))) [.no,.no]):=by
 refine Xo ?_ (by simp)
 repeat'((conv=>whnf);first|((with_reducible refine Ax (by(with_reducible rfl)) (fun hb=>?_));(try rw[hb]);(try simp only[Aa]at hb))|((with_reducible refine Aw (by(with_reducible rfl)) (fun hb=>?_));(try rw[hb]);(try simp only[Aa]at hb))|((with_reducible refine A5 (fun hb=>?_) (fun hb=>?_))<;>(((try rw[hb]);(try simp only[Aa]at hb))))|((with_reducible refine Ac ?_ ?_);focus (and_intros<;>first|omega|kernel_rfl|(simp;done))))
 all_goals(try(conv=>whnf))
 all_goals(refine Am1.mk ⟨SV.Aju ?_,by kernel_rfl⟩ (by kernel_rfl))
 all_goals(simp[Bw,Kz]at*;grind)
theorem Ary(k:Az)(h:k.length≤100000):Fn Tryd.prog Am0 [.v (.str k)] (Is (.v (⟨k,k++[0]⟩:Sp).Bx) [.no]):=by
 refine Apt ?_ (by simp)
 have h1:k.length+[(0:UInt8)].length≤maxLen:=by simp[maxLen];omega
 repeat'((conv=>whnf);((with_reducible refine Ac ?_ ?_);focus (and_intros<;>first|omega|kernel_rfl)))
 all_goals(try(conv=>whnf))
 exact Am1.mk ⟨rfl,by kernel_rfl⟩ (by kernel_rfl)
set_option maxHeartbeats 40000000

open Go.Proofs
theorem Aaz(k:Az):Fn Tryd.prog Ty [.v (.str k)] (Is (.v (.bool (decide (1≤k.length∧k.length≤64)))) [.no]):=by
 refine Se ?_ (by simp)
 repeat'((conv=>whnf);first|((with_reducible refine Ax (by(with_reducible rfl)) (fun hb=>?_));(try rw[hb]);(try simp only[Aa]at hb))|((with_reducible refine Aw (by(with_reducible rfl)) (fun hb=>?_));(try rw[hb]);(try simp only[Aa]at hb))|((with_reducible refine A5 (fun hb=>?_) (fun hb=>?_))<;>(((try rw[hb]);(try simp only[Aa]at hb))))|((with_reducible refine Ac ?_ ?_);focus (and_intros<;>(with_reducible rfl)))|(with_reducible intro Cq))
 all_goals(try(conv=>whnf))
 all_goals(refine Am1.mk ⟨SV.Aju ?_,by kernel_rfl⟩ (by kernel_rfl))
 all_goals(simp only[decide_eq_decide,decide_eq_true_eq,decide_eq_false_iff_not,Bool.false_eq]at*;omega)
theorem Wx(k:Az):Fn Tryd.prog Qn [.v (.str k)] (Is (.v (.bool (decide (k.length≤256)))) [.no]):=by
 refine Qb ?_ (by simp)
 repeat'((conv=>whnf);first|((with_reducible refine Ac ?_ ?_);focus (and_intros<;>(with_reducible rfl)))|(with_reducible intro Cq))
 all_goals(try(conv=>whnf))
 all_goals(refine Am1.mk ⟨SV.Aju ?_,by kernel_rfl⟩ (by kernel_rfl))
 all_goals(simp only[decide_eq_decide];omega)
theorem L1(n k:Az)(hn:n.length≤100000)(hk:k.length≤100000):Fn Tryd.prog Tw [.v (.str n),.v (.str k)] (Is (.v (.str (B7 n k))) [.no,.no]):=by
 refine Sc ?_ (by simp)
 repeat'((conv=>whnf);first|((with_reducible refine Ac ?_ ?_);focus (and_intros<;>first|omega|(with_reducible rfl)|kernel_rfl|exact Ah (by rfl)|(simp only[An];omega)))|(with_reducible intro Cq))
 all_goals(try(conv=>whnf))
 refine Am1.mk ⟨?_,by kernel_rfl⟩ (by kernel_rfl)
 show SV.v (.str _)=SV.v (.str _);have h:IntKind.u8.wrap (n.length:Int)=((n.length % 256:Nat):Int):=by simp[IntKind.wrap,IntKind.bits,IntKind.signed]
 rw[h,Anj];rfl
theorem L2(s:Az)(hs:s.length≤1000000):Fn Tryd.prog Tx [.v (.str s)] (Is (.tup [.i (.str (C1 s).1),.i (.str (C1 s).2.1),.i (.bool (C1 s).2.2)]) [.no]):=by
 refine Sd ?_ (by simp)
 cases s with
 |nil=>
  repeat'((conv=>whnf);first|((with_reducible refine Ax (by(with_reducible rfl)) (fun hb=>?_));(try rw[hb]);(try simp only[Aa]at hb))|((with_reducible refine A5 (fun hb=>?_) (fun hb=>?_))<;>first|(exact absurd hb (by decide))|((try rw[hb]);(try simp only[Aa]at hb))))
  all_goals(try(conv=>whnf))
  (apply dKq<;>kernel_rfl)
 |cons c r=>
  have Cf:¬decide (c::r=[])=true:=by simp
  simp only[Ho]at hs;have hc:=c.toNat_lt;have hw1:IntKind.i64.wrap (c.toNat:Int)=(c.toNat:Int):=Bf (by omega)
  have hw2:IntKind.i64.wrap (1+(c.toNat:Int))=((1+c.toNat:Nat):Int):=by rw[Bf (by omega)];omega
  have hw3:IntKind.i64.wrap (((c::r).length:Int) - 1)=(r.length:Int):=by rw[Ho,Bf (by omega)];omega
  by_cases Ze:r.length<c.toNat
  ·have h1:¬decide ((r.length:Int)<(c.toNat:Int))=false:=by simp;omega
   have hM:C1 (c::r)=([],[],false):=by simp[C1,Ze]
   rw[hM];repeat'((conv=>whnf);first|((with_reducible refine Ax (by first|(with_reducible exact Ai (by assumption))|((with_reducible refine decide_eq_true ?_);omega)) (fun hb=>?_));(try rw[hb]);(try simp only[Aa]at hb))|((with_reducible refine Aw (by first|(with_reducible exact Ak (by assumption))|(with_reducible rfl)) (fun hb=>?_));(try rw[hb]);(try simp only[Aa]at hb))|((with_reducible refine Ac ?_ ?_);focus (and_intros<;>first|omega|(with_reducible rfl)))|(with_reducible intro Cq)|((try dsimp only);rw[hw1])|(skip;rw[hw3]))
   all_goals(try(conv=>whnf))
   (apply dKq<;>kernel_rfl)
  ·have h1:¬decide ((r.length:Int)<(c.toNat:Int))=true:=by simp;omega
   have hM:C1 (c::r)=(r.take c.toNat,r.drop c.toNat,true):=by simp[C1,Ze]
   rw[hM];repeat'((conv=>whnf);first|((with_reducible refine Aw (by first|(with_reducible exact Ak (by assumption))|((with_reducible refine decide_eq_false ?_);omega)|(with_reducible rfl)) (fun hb=>?_));(try rw[hb]);(try simp only[Aa]at hb))|((with_reducible refine Ac ?_ ?_);focus (and_intros<;>first|omega|(with_reducible rfl)|(simp only[An];omega)))|(with_reducible intro Cq)|((with_reducible apply Ai2.by0);(focus kernel_rfl);intro Cq;(try simp only[Bv,Bg,Dg,or_false,false_or,or_assoc,forall_eq_or_imp,forall_eq,false_implies,implies_true,forall_const,and_true,true_and]at Cq))|((try dsimp only);rw[hw1])|(skip;rw[hw3])|(skip;rw[hw2]))
   all_goals(try(conv=>whnf))
   refine Am1.mk ⟨?_,by kernel_rfl⟩ (by kernel_rfl)
   show SV.tup [.i (.str _),.i (.str _),_]=_;simp only[Anj,Int.toNat_one,Aoy];rw[Nat.add_comm 1 c.toNat,List.take_succ_cons,List.drop_succ_cons];rfl
theorem X8(n:Int):Fn Tryd.prog Qm [.v (ti n)] (Is (.v (.bool false)) [.no]):=by
 refine Qa ?_ (by simp)
 (skip)
 all_goals(try(conv=>whnf))
 exact Am1.mk ⟨SV.Aju (by simp),by kernel_rfl⟩ (by kernel_rfl)
def Azf(a b:Int):Int:=if a<b then -1 else if b<a then 1 else 0
theorem Ua(a b:Int):Fn Tryd.prog Pe [.v (ti a),.v (ti b)] (Is (.v (ti (Azf a b))) [.no,.no]):=by
 refine Nd ?_ (by simp)
 repeat'((conv=>whnf);first|((with_reducible refine Aw (by(with_reducible rfl)) (fun hb=>?_));(try rw[hb]);(try simp only[Aa]at hb))|((with_reducible refine A5 (fun hb=>?_) (fun hb=>?_))<;>(((try rw[hb]);(try simp only[Aa]at hb))))|((with_reducible refine Ac ?_ ?_);focus (and_intros<;>first|(intro _ hh;cases hh;done)|(simp;done)|decide))|((with_reducible refine Ct.mk ?_);refine⟨_,X8 _,?_⟩;rintro _ _ ⟨rfl,rfl⟩))
 all_goals(try(conv=>whnf))
 all_goals(refine Am1.mk ⟨congrArg (fun n=>SV.v (.int .i64 n)) ?_,by kernel_rfl⟩ (by kernel_rfl))
 all_goals(simp only[Azf];grind)
theorem Ka(a:Az)(x:I)(hx:x.size=1)(n:Az):Fn Tryd.prog E4 [.v (.agg [.str a,x]),.v (.str n)] (Is (.v (ti (Azg a n))) [.no,.no]):=by
 refine J6 ?_ (by simp)
 repeat'((conv=>whnf);first|((with_reducible refine Ac ?_ ?_);focus (and_intros<;>first|omega|kernel_rfl|(intro _ hh;cases hh;done)|(simp;done)|decide))|((with_reducible refine Ct.mk ?_);refine⟨_,Ww _ _,?_⟩;rintro _ _ ⟨rfl,rfl⟩))
 all_goals(try(conv=>whnf))
 exact Am1.mk ⟨rfl,by kernel_rfl⟩ (by kernel_rfl)
theorem Gx(v:Fk)(n:Int):Fn Tryd.prog Ew [.v v.Bx,.v (ti n)] (Is (.v (ti (Azf v.rev n))) [.no,.no]):=by
 refine Jk ?_ (by simp)
 repeat'((conv=>whnf);first|((with_reducible refine Ac ?_ ?_);focus (and_intros<;>first|omega|kernel_rfl|(intro _ hh;cases hh;done)|(simp;done)|decide))|((with_reducible refine Ct.mk ?_);refine⟨_,Ua _ _,?_⟩;rintro _ _ ⟨rfl,rfl⟩))
 all_goals(try(conv=>whnf))
 exact Am1.mk ⟨rfl,by kernel_rfl⟩ (by kernel_rfl)
end Go.Ab
