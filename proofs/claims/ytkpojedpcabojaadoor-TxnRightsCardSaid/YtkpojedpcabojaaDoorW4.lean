/- Lemmas -/
import Derived.Test.YtkpojedpcabojaaDoorK1
set_option linter.unusedVariables false
set_option linter.unusedSimpArgs false
namespace Go.Ab
abbrev ti(n:Int):I:=.int .i64 n
structure Ver where
 rev:Int
 made:Int
 val:Az
 gone:Bool
 deriving DecidableEq,Inhabited
def Ver.toI(v:Ver):I:=.agg [ti v.rev,ti v.made,.str v.val,.bool v.gone]
structure Hld where
 at_:Az
 vs:List Ver
 deriving DecidableEq,Inhabited
def Hld.toI(h:Hld):I:=.agg [.str h.at_,.list (h.vs.map Ver.toI)]
structure Tal where
 rev:Int
 floor:Int
 bytes:Int
 keys:Int
 vers:Int
 deriving DecidableEq,Inhabited
def Tal.toI(t:Tal):I:=.agg [ti t.rev,ti t.floor,ti t.bytes,ti t.keys,ti t.vers]
structure Sto where
 sp:List (Az × Tal)
 l:List Hld
 deriving DecidableEq,Inhabited
structure Chg where
 key:Az
 val:Az
 gone:Bool
 deriving DecidableEq,Inhabited
def Chg.toI(c:Chg):I:=.agg [.str c.key,.str c.val,.bool c.gone]
structure Pr where
 key:Az
 val:Az
 made:Int
 rev:Int
 deriving DecidableEq,Inhabited
def Pr.toI(p:Pr):I:=.agg [.str p.key,.str p.val,ti p.made,ti p.rev]
structure Kv where
 key:Az
 vs:List Ver
 deriving DecidableEq,Inhabited
def Kv.toI(h:Kv):I:=.agg [.str h.key,.list (h.vs.map Ver.toI)]
structure Spc where
 name:Az
 rev:Int
 floor:Int
 keys:List Kv
 deriving DecidableEq,Inhabited
def Spc.toI(p:Spc):I:=.agg [.str p.name,ti p.rev,ti p.floor,.list (p.keys.map Kv.toI)]
theorem Ver.size(v:Ver):v.toI.size=4:=rfl
theorem Hld.size(h:Hld):h.toI.size=2:=rfl
theorem Chg.size(h:Chg):h.toI.size=3:=rfl
theorem Kv.size(h:Kv):h.toI.size=2:=rfl
theorem Spc.size(h:Spc):h.toI.size=4:=rfl
theorem Pr.size(h:Pr):h.toI.size=4:=rfl
def B7(n k:Az):Az:=UInt8.ofNat (n.length % 256)::n++k
def C1:Az→Az × Az × Bool
 | []=>([],[],false)
 |c::r=>if r.length<c.toNat then([],[],false)else(r.take c.toNat,r.drop c.toNat,true)
theorem Mt{n k:Az}(h:n.length<256):C1 (B7 n k)=(n,k,true):=by
 unfold B7 C1;have h1:(UInt8.ofNat (n.length % 256)).toNat=n.length:=by
  rw[UInt8.toNat_ofNat'];omega
 simp only[List.cons_append,h1,List.length_append];rw[if_neg (by omega),List.take_left,List.drop_left]
def bsGo(lt:Nat→Bool):Nat→Nat→Nat→Nat
 |0,i,_=>i
 |f+1,i,j=>if i<j then(if lt ((i+j) / 2)then bsGo lt f ((i+j) / 2+1) j else bsGo lt f i ((i+j) / 2))else i
theorem K0(lt:Nat→Bool):∀f i j,i≤j→i≤bsGo lt f i j∧bsGo lt f i j≤j
 |0,i,j,h=>⟨Nat.le_refl _,h⟩
 |f+1,i,j,h=>by
  unfold bsGo;split
  ·split
   ·have:=K0 lt f ((i+j) / 2+1) j (by omega);omega
   ·have:=K0 lt f i ((i+j) / 2) (by omega);omega
  ·omega
def Km{α:Type}(lt:α→Bool)(l:List α):Nat:=bsGo (fun h=>(l[h]?).any lt) l.length 0 l.length
def bsF{α:Type}(lt eq:α→Bool)(l:List α):Bool:=(l[Km lt l]?).any eq
theorem Hp{α:Type}(lt:α→Bool)(l:List α):Km lt l≤l.length:=(K0 _ _ _ _ (Nat.zero_le _)).2
theorem Afp{α:Type}{lt eq:α→Bool}{l:List α}(h:bsF lt eq l=true):∃x,l[Km lt l]?=some x∧eq x=true:=by
 unfold bsF at h;cases hx:l[Km lt l]? with
 |none=>rw[hx]at h;cases h
 |some x=>rw[hx]at h;exact⟨x,rfl,by simpa using h⟩
theorem Abw{i j:Nat}(h:i+j≤9223372036854775807):IntKind.i64.wrap (shrI .u64 (IntKind.u64.wrap (IntKind.i64.wrap ((i:Int)+(j:Int)))) 1)=(((i+j) / 2:Nat):Int):=by
 have h1:IntKind.i64.wrap ((i:Int)+(j:Int))=((i+j:Nat):Int):=by rw[IntKind.wrap_i64];omega
 have h2:IntKind.u64.wrap ((i+j:Nat):Int)=((i+j:Nat):Int):=by simp[IntKind.wrap,IntKind.bits,IntKind.signed];omega
 rw[h1,h2];have h3:shrI .u64 ((i+j:Nat):Int) 1=(((i+j) / 2:Nat):Int):=(show Int.fdiv ((i+j:Nat):Int) ((2:Nat):Int)=_ from(Int.ofNat_fdiv _ _).symm);rw[h3,IntKind.wrap_i64];omega
set_option maxRecDepth 100000

open Go.Proofs
abbrev R2:FuncId:=53
def Ht:Stm:=(sO [gA 6 cF] (.seq (sO [gM 11 0,gN 12 11,gB 13 .gtr 12 (cI 4),gM 14 13,qf 14 (iM 15 1),qf 14 (iN 16 15),qf 14 (iB 17 .gtr 16 (cI 8)),gP 18 14 cT 17,gM 19 18,qf 19 (iM 20 2),qf 19 (iN 21 20),qf 19 (iB 22 .gtr 21 (cI 8)),gP 23 19 cT 22] (cR 23 [gA 6 cF])) (.seq (sO [gA 7 (cI 0)] (.block 0 (.loop [6,8,11,15,20,24,25,26,27,28,29,30,31,32,33,34,35,36,37,38,39,40,41,42,43,44,45,46,47,48,49,50,51,52,53,54,55,56,57,58,59,60,61,62,63,65,70,77,82] (.seq (sO [gM 24 7,gM 25 0,gN 26 25,gB 27 .lss 24 26] (.cond 27 .skip (.exit 0))) (.seq (.block 1 (sO [gM 30 0,gM 31 7,gI 32 4 30 31,gU 33 4 32,O1 (.alloc 8 (.one (.i (.agg [(.str []),(.int .i64 0),(.int .i64 0),(.str [])])))),gS 4 8 33] (sO [gF 34 8 0,gL 35 34,gC 36 90 [nL 35],gT 37 36,gM 38 37,qf 38 (iG 39 8 1 1),qf 38 (iL 40 39),qf 38 (iB 41 .lss 40 (cI 1)),gP 42 38 cT 41,gM 43 42,qf 43 (iG 44 8 1 1),qf 43 (iL 45 44),qf 43 (iB 46 .gtr 45 (cI 4)),gP 47 43 cT 46,gM 48 47,qf 48 (iG 49 8 2 2),qf 48 (iL 50 49),qf 48 (iB 51 .lss 50 (cI 0)),gP 52 48 cT 51,gM 53 52,qf 53 (iG 54 8 2 2),qf 53 (iL 55 54),qf 53 (iB 56 .gtr 55 (cI 1099511627776)),gP 57 53 cT 56,gM 58 57,qf 58 (iG 59 8 3 3),qf 58 (iL 60 59),qf 58 (.len 61 true 60),qf 58 (iB 62 .gtr 61 (cI 256)),gP 63 58 cT 62] (cR 63 [gA 6 cF])))) (.ops [gM 28 7,gB 29 .add 28 (cI 1),gA 7 29])))))) (.seq (sO [gA 9 (cI 0)] (.block 2 (.loop [6,11,15,20,25,30,64,65,66,67,68,69,70,71,72,73,74,75,77,82] (.seq (sO [gM 64 9,gM 65 1,gN 66 65,gB 67 .lss 64 66] (.cond 67 .skip (.exit 2))) (.seq (.block 3 (sO [gM 70 1,gM 71 9,gI 72 7 70 71,gU 73 7 72,gC 74 91 [nL 73],gT 75 74] (cR 75 [gA 6 cF]))) (.ops [gM 68 9,gB 69 .add 68 (cI 1),gA 9 69])))))) (.seq (sO [gA 10 (cI 0)] (.block 4 (.loop (kr [6,11,15,20,25,30,65,70] 76 12) (.seq (sO [gM 76 10,gM 77 2,gN 78 77,gB 79 .lss 76 78] (.cond 79 .skip (.exit 4))) (.seq (.block 5 (sO [gM 82 2,gM 83 10,gI 84 7 82 83,gU 85 7 84,gC 86 91 [nL 85],gT 87 86] (cR 87 [gA 6 cF]))) (.ops [gM 80 10,gB 81 .add 80 (cI 1),gA 10 81])))))) (sO [gA 6 cT] .ret))))))
theorem H4:OF 53 88 Ht [.t 6]:=oF Tryd.func53 rfl Tryd.ntmps53 (by kernel_rfl) (by kernel_rfl)
abbrev Agu:FuncId:=54
def U6:Stm:=(sO [gA 4 cF] (.seq (sO [gM 6 0,gN 7 6,gM 8 1,gN 9 8,gB 10 .neq 7 9] (cR 10 [gA 4 cF])) (.seq (sO [gA 5 (cI 0)] (.block 0 (.loop (kr [4,6,8] 11 15) (.seq (sO [gM 11 5,gM 12 0,gN 13 12,gB 14 .lss 11 13] (.cond 14 .skip (.exit 0))) (.seq (.block 1 (.seq (.drw [0,0,3,7,0,0,48,112,255] [gM 17 0,gM 18 5,gI 19 2 17 18,gU 20 2 19,gM 21 1,gM 22 5,gI 23 2 21 22,gU 24 2 23,O1 (.eqs 25 true (.st [.str,.str]) 20 24)]) (cR 25 [gA 4 cF]))) (.ops [gM 15 5,gB 16 .add 15 (cI 1),gA 5 16])))))) (sO [gA 4 cT] .ret))))
theorem Zp:OF 54 26 U6 [.t 4]:=oF Tryd.func54 rfl Tryd.ntmps54 (by kernel_rfl) (by kernel_rfl)
abbrev Q3:FuncId:=56
def Hr:Stm:=(sO [gA 6 (.nils 54 2)] (sO [O1 (.empty 11 54 2),gA 7 11] (.seq (sO [gA 8 (cI 0)] (.block 0 (.loop [12,13,14,15,16,17,18,19,20,21,22,23,24,25,26,28,30,33,38,44,45,52] (.seq (sO [gM 12 8,gM 13 0,gN 14 13,gB 15 .lss 12 14] (.cond 15 .skip (.exit 0))) (.seq (.block 1 (.ops [gM 18 7,gM 19 0,gM 20 8,gI 21 4 19 20,gF 22 21 0,gL 23 22,gC 24 92 [nL 23],O1 (.bsl 25 54 2 (.agg [(.str []),(.str [])]) 1 [(0,24)]),O1 (.app 26 54 2 32 18 25),gA 7 26])) (.ops [gM 16 8,gB 17 .add 16 (cI 1),gA 8 17])))))) (sO [O1 (.empty 27 105 7),gM 28 1,O1 (.app 29 105 7 88 27 28),gM 30 2,O1 (.app 31 105 7 88 29 30),gA 9 31] (.seq (sO [gA 10 (cI 0)] (.block 2 (.loop (kr [13,18,19,28,30] 32 21) (.seq (sO [gM 32 10,gM 33 9,gN 34 33,gB 35 .lss 32 34] (.cond 35 .skip (.exit 2))) (.seq (.block 3 (sO [gM 38 9,gM 39 10,gI 40 7 38 39,gF 41 40 0,gL 42 41,gB 43 .eql 42 (cI 1)] (.cond 43 (.ops [gM 44 7,gM 45 9,gM 46 10,gI 47 7 45 46,gF 48 47 1,gU 49 2 48,O1 (.bsl 50 54 2 (.agg [(.str []),(.str [])]) 1 [(0,49)]),O1 (.app 51 54 2 32 44 50),gA 7 51]) .skip))) (.ops [gM 36 10,gB 37 .add 36 (cI 1),gA 10 37])))))) (sO [gM 52 7,O1 (.mov 6 54 2 52)] .ret))))))
theorem H3:OF 56 53 Hr [.t 6]:=oF Tryd.func56 rfl Tryd.ntmps56 (by kernel_rfl) (by kernel_rfl)
abbrev Hm:FuncId:=58
def Hg:Stm:=(sO [gA 4 (.nils 54 2)] (sO [O1 (.empty 8 54 2),gA 5 8] (sO [O1 (.empty 9 105 7),gM 10 0,O1 (.app 11 105 7 88 9 10),gM 12 1,O1 (.app 13 105 7 88 11 12),gA 6 13] (.seq (sO [gA 7 (cI 0)] (.block 0 (.loop (kr [10,12] 14 36) (.seq (sO [gM 14 7,gM 15 6,gN 16 15,gB 17 .lss 14 16] (.cond 17 .skip (.exit 0))) (.seq (.block 1 (.seq (sO [gM 20 6,gM 21 7,gI 22 7 20 21,gF 23 22 0,gL 24 23,gB 25 .eql 24 (cI 2)] (.cond 25 (.ops [gM 26 5,gM 27 6,gM 28 7,gI 29 7 27 28,gG 30 29 2 3,gL 31 30,gC 32 92 [nL 31],O1 (.bsl 33 54 2 (.agg [(.str []),(.str [])]) 1 [(0,32)]),O1 (.app 34 54 2 32 26 33),gA 5 34]) .skip)) (sO [gM 35 6,gM 36 7,gI 37 7 35 36,gF 38 37 0,gL 39 38,gB 40 .eql 39 (cI 3)] (.cond 40 (.ops [gM 41 5,gM 42 6,gM 43 7,gI 44 7 42 43,gF 45 44 1,gU 46 2 45,O1 (.bsl 47 54 2 (.agg [(.str []),(.str [])]) 1 [(0,46)]),O1 (.app 48 54 2 32 41 47),gA 5 48]) .skip)))) (.ops [gM 18 7,gB 19 .add 18 (cI 1),gA 7 19])))))) (sO [gM 49 5,O1 (.mov 4 54 2 49)] .ret)))))
theorem Hh:OF 58 50 Hg [.t 4]:=oF Tryd.func58 rfl Tryd.ntmps58 (by kernel_rfl) (by kernel_rfl)
abbrev Ajg:FuncId:=90
def Aic:Stm:=(sO [gA 2 cF] (sO [gM 3 0,O1 (.len 4 true 3),gB 5 .gtr 4 (cI 0),gM 6 5,qt 6 (iM 7 0),qt 6 (.len 8 true 7),qt 6 (iB 9 .leq 8 (cI 64)),gP 10 6 9 cF,gA 2 10] .ret))
theorem Ait:OF 90 11 Aic [.t 2]:=oF Tryd.func90 rfl Tryd.ntmps90 (by kernel_rfl) (by kernel_rfl)
abbrev Ai7:FuncId:=91
def Ah9:Stm:=(sO [O1 (.box 1 0),gA 2 cF] (.seq (sO [gF 3 1 0,gL 4 3,gB 5 .eql 4 (cI 1)] (.cond 5 (sO [gF 6 1 1,gU 7 2 6,gC 8 109 [nL 7],gM 9 8,qt 9 (iG 10 1 4 5),qt 9 (iL 11 10),qt 9 (iB 12 .geq 11 (cI 0)),gP 13 9 12 cF,gM 14 13,qt 14 (iG 15 1 4 5),qt 14 (iL 16 15),qt 14 (iB 17 .leq 16 (cI 1099511627776)),gP 18 14 17 cF,gM 19 18,qt 19 (iG 20 1 5 6),qt 19 (iL 21 20),qt 19 (iB 22 .geq 21 (cI 0)),gP 23 19 22 cF,gM 24 23,qt 24 (iG 25 1 5 6),qt 24 (iL 26 25),qt 24 (iB 27 .leq 26 (cI 16)),gP 28 24 27 cF,gA 2 28] .ret) .skip)) (.seq (sO [gF 29 1 0,gL 30 29,gB 31 .eql 30 (cI 2)] (.cond 31 (sO [gG 32 1 2 3,gL 33 32,gC 34 90 [nL 33],gM 35 34,qt 35 (iG 36 1 3 4),qt 35 (iL 37 36),qt 35 (.len 38 true 37),qt 35 (iB 39 .leq 38 (cI 256)),gP 40 35 39 cF,gA 2 40] .ret) .skip)) (sO [gF 41 1 0,gL 42 41,gB 43 .eql 42 (cI 3),gM 44 43,qt 44 (iG 45 1 1 1),qt 44 (iU 46 2 45),.call (some (44,true)) (some 47) 109 [nL 46],gP 48 44 47 cF,gA 2 48] .ret))))
theorem Ais:OF 91 49 Ah9 [.t 2]:=oF Tryd.func91 rfl Tryd.ntmps91 (by kernel_rfl) (by kernel_rfl)
abbrev Ajh:FuncId:=92
def Aih:Stm:=(sO [O1 (.alloc 2 (.one (.i (.agg [(.str []),(.str [])]))))] (sO [gM 3 0,gM 4 0,gB 5 .add 4 (cS [0]),O1 (.build 6 [(.str []),(.str [])] [(0,3),(1,5)]),gS 2 2 6] .ret))
theorem Aiu:OF 92 7 Aih [.cell 2 true 2]:=oF Tryd.func92 rfl Tryd.ntmps92 (by kernel_rfl) (by kernel_rfl)
abbrev Kc:FuncId:=109
def Hq:Stm:=(sO [O1 (.box 1 0),gA 2 cF] (.seq (sO [gF 3 1 0,gL 4 3,O1 (.len 5 true 4),gB 6 .gtr 5 (cI 65),gM 7 6,qf 7 (iG 8 1 1 1),qf 7 (iL 9 8),qf 7 (.len 10 true 9),qf 7 (iB 11 .gtr 10 (cI 65)),gP 12 7 cT 11] (cR 12 [gA 2 cF])) (sO [gF 13 1 1,gL 14 13,gB 15 .eql 14 (cS []),gM 16 15,qf 16 (iG 17 1 1 1),qf 16 (iL 18 17),qf 16 (iG 19 1 0 0),qf 16 (iL 20 19),qf 16 (iB 21 .gtr 18 20),gP 22 16 cT 21,gA 2 22] .ret)))
theorem Hw:OF 109 23 Hq [.t 2]:=oF Tryd.func109 rfl Tryd.ntmps109 (by kernel_rfl) (by kernel_rfl)

open Go.Proofs
theorem Pu(s:Sp):Fn Tryd.prog Us [.v s.toI] (Is (.v (.bool (decide (SpR s)))) [.no]):=by
 refine T7 ?_ (by simp)
 repeat'((conv=>whnf);first|((with_reducible refine Ax (by(with_reducible rfl)) (fun hb=>?_));(try rw[hb]);(try simp only[Aa]at hb))|((with_reducible refine Aw (by(with_reducible rfl)) (fun hb=>?_));(try rw[hb]);(try simp only[Aa]at hb))|((with_reducible refine And.intro (fun hb=>?_) (fun hb=>?_))<;>(((try rw[hb]);(try simp only[Aa]at hb))))|((with_reducible refine Exists.intro ?_ ?_);focus (and_intros<;>first|omega|(with_reducible rfl)|kernel_rfl|(simp;done)))|(with_reducible intro hfact))
 all_goals(try(conv=>whnf))
 all_goals(refine Done.mk ⟨SV.bool_congr ?_,by kernel_rfl⟩ (by kernel_rfl))
 all_goals(simp[SpR,Kz]at*;grind)
theorem Apa(s:Sp):Fn Tryd.prog Kc [.v s.toI] (Is (.v (.bool (decide (SpR s)))) [.no]):=by
 refine Hw ?_ (by simp)
 repeat'((conv=>whnf);first|((with_reducible refine Ax (by(with_reducible rfl)) (fun hb=>?_));(try rw[hb]);(try simp only[Aa]at hb))|((with_reducible refine Aw (by(with_reducible rfl)) (fun hb=>?_));(try rw[hb]);(try simp only[Aa]at hb))|((with_reducible refine And.intro (fun hb=>?_) (fun hb=>?_))<;>(((try rw[hb]);(try simp only[Aa]at hb))))|((with_reducible refine Exists.intro ?_ ?_);focus (and_intros<;>first|omega|(with_reducible rfl)|kernel_rfl|(simp;done)))|(with_reducible intro hfact))
 all_goals(try(conv=>whnf))
 all_goals(refine Done.mk ⟨SV.bool_congr ?_,by kernel_rfl⟩ (by kernel_rfl))
 all_goals(simp[SpR,Kz]at*;grind)
theorem Aa0(k:Az):Fn Tryd.prog Mp [.v (.str k)] (Is (.v (.bool false)) [.no]):=by
 refine Mn ?_ (by simp)
 (skip)
 all_goals(try(conv=>whnf))
 exact Done.mk ⟨SV.bool_congr (by simp),by kernel_rfl⟩ (by kernel_rfl)
def cmpS(a b:Az):Int:=if a<b then -1 else if b<a then 1 else 0
theorem Ww(a b:Az):Fn Tryd.prog Kw [.v (.str a),.v (.str b)] (Is (.v (.int .i64 (cmpS a b))) [.no,.no]):=by
 refine Kk ?_ (by simp)
 repeat'((conv=>whnf);first|((with_reducible refine Aw (by first|(with_reducible assumption)|(with_reducible rfl)) (fun hb=>?_));(try rw[hb]);(try simp only[Aa]at hb))|((with_reducible refine And.intro (fun hb=>?_) (fun hb=>?_))<;>(((try rw[hb]);(try simp only[Aa]at hb))))|((with_reducible refine Exists.intro ?_ ?_);focus (and_intros<;>first|(intro _ hh;cases hh;done)|(simp;done)|decide))|((with_reducible refine CallWp.mk ?_);refine⟨_,Aa0 _,?_⟩;rintro _ _ ⟨rfl,rfl⟩))
 all_goals(try(conv=>whnf))
 all_goals(refine Done.mk ⟨congrArg (fun n=>SV.v (.int .i64 n)) ?_,by kernel_rfl⟩ (by kernel_rfl))
 all_goals(simp[cmpS,Kz]at* <;>grind)
theorem Tu(s:Sp)(k:Az):Fn Tryd.prog Za [.v s.toI,.v (.str k)] (Is (.v (.bool (decide (Bw s k)))) [.no,.no]):=by
 refine Xo ?_ (by simp)
 repeat'((conv=>whnf);first|((with_reducible refine Ax (by(with_reducible rfl)) (fun hb=>?_));(try rw[hb]);(try simp only[Aa]at hb))|((with_reducible refine Aw (by(with_reducible rfl)) (fun hb=>?_));(try rw[hb]);(try simp only[Aa]at hb))|((with_reducible refine And.intro (fun hb=>?_) (fun hb=>?_))<;>(((try rw[hb]);(try simp only[Aa]at hb))))|((with_reducible refine Exists.intro ?_ ?_);focus (and_intros<;>first|omega|kernel_rfl|(simp;done))))
 all_goals(try(conv=>whnf))
 all_goals(refine Done.mk ⟨SV.bool_congr ?_,by kernel_rfl⟩ (by kernel_rfl))
 all_goals(simp[Bw,Kz]at*;grind)
theorem Ary(k:Az)(h:k.length≤100000):Fn Tryd.prog Am0 [.v (.str k)] (Is (.v (⟨k,k++[0]⟩:Sp).toI) [.no]):=by
 refine Apt ?_ (by simp)
 have h1:k.length+[(0:UInt8)].length≤maxLen:=by simp[maxLen];omega
 repeat'((conv=>whnf);((with_reducible refine Exists.intro ?_ ?_);focus (and_intros<;>first|omega|kernel_rfl)))
 all_goals(try(conv=>whnf))
 exact Done.mk ⟨rfl,by kernel_rfl⟩ (by kernel_rfl)
set_option maxHeartbeats 40000000

open Go.Proofs
theorem Aaz(k:Az):Fn Tryd.prog Ty [.v (.str k)] (Is (.v (.bool (decide (1≤k.length∧k.length≤64)))) [.no]):=by
 refine Se ?_ (by simp)
 repeat'((conv=>whnf);first|((with_reducible refine Ax (by(with_reducible rfl)) (fun hb=>?_));(try rw[hb]);(try simp only[Aa]at hb))|((with_reducible refine Aw (by(with_reducible rfl)) (fun hb=>?_));(try rw[hb]);(try simp only[Aa]at hb))|((with_reducible refine And.intro (fun hb=>?_) (fun hb=>?_))<;>(((try rw[hb]);(try simp only[Aa]at hb))))|((with_reducible refine Exists.intro ?_ ?_);focus (and_intros<;>(with_reducible rfl)))|(with_reducible intro hfact))
 all_goals(try(conv=>whnf))
 all_goals(refine Done.mk ⟨SV.bool_congr ?_,by kernel_rfl⟩ (by kernel_rfl))
 all_goals(simp only[decide_eq_decide,decide_eq_true_eq,decide_eq_false_iff_not,Bool.false_eq]at*;omega)
theorem Wx(k:Az):Fn Tryd.prog Qn [.v (.str k)] (Is (.v (.bool (decide (k.length≤256)))) [.no]):=by
 refine Qb ?_ (by simp)
 repeat'((conv=>whnf);first|((with_reducible refine Exists.intro ?_ ?_);focus (and_intros<;>(with_reducible rfl)))|(with_reducible intro hfact))
 all_goals(try(conv=>whnf))
 all_goals(refine Done.mk ⟨SV.bool_congr ?_,by kernel_rfl⟩ (by kernel_rfl))
 all_goals(simp only[decide_eq_decide];omega)
theorem L1(n k:Az)(hn:n.length≤100000)(hk:k.length≤100000):Fn Tryd.prog Tw [.v (.str n),.v (.str k)] (Is (.v (.str (B7 n k))) [.no,.no]):=by
 refine Sc ?_ (by simp)
 repeat'((conv=>whnf);first|((with_reducible refine Exists.intro ?_ ?_);focus (and_intros<;>first|omega|(with_reducible rfl)|kernel_rfl|exact Ah (by rfl)|(simp only[An];omega)))|(with_reducible intro hfact))
 all_goals(try(conv=>whnf))
 refine Done.mk ⟨?_,by kernel_rfl⟩ (by kernel_rfl)
 show SV.v (.str _)=SV.v (.str _);have h:IntKind.u8.wrap (n.length:Int)=((n.length % 256:Nat):Int):=by simp[IntKind.wrap,IntKind.bits,IntKind.signed]
 rw[h,Int.toNat_natCast];rfl
theorem L2(s:Az)(hs:s.length≤1000000):Fn Tryd.prog Tx [.v (.str s)] (Is (.tup [.i (.str (C1 s).1),.i (.str (C1 s).2.1),.i (.bool (C1 s).2.2)]) [.no]):=by
 refine Sd ?_ (by simp)
 cases s with
 |nil=>
  repeat'((conv=>whnf);first|((with_reducible refine Ax (by(with_reducible rfl)) (fun hb=>?_));(try rw[hb]);(try simp only[Aa]at hb))|((with_reducible refine And.intro (fun hb=>?_) (fun hb=>?_))<;>first|(exact absurd hb (by decide))|((try rw[hb]);(try simp only[Aa]at hb))))
  all_goals(try(conv=>whnf))
  (apply dKq<;>kernel_rfl)
 |cons c r=>
  have hne:¬decide (c::r=[])=true:=by simp
  simp only[List.length_cons]at hs;have hc:=c.toNat_lt;have hw1:IntKind.i64.wrap (c.toNat:Int)=(c.toNat:Int):=Bf (by omega)
  have hw2:IntKind.i64.wrap (1+(c.toNat:Int))=((1+c.toNat:Nat):Int):=by rw[Bf (by omega)];omega
  have hw3:IntKind.i64.wrap (((c::r).length:Int) - 1)=(r.length:Int):=by rw[List.length_cons,Bf (by omega)];omega
  by_cases hlt:r.length<c.toNat
  ·have h1:¬decide ((r.length:Int)<(c.toNat:Int))=false:=by simp;omega
   have hM:C1 (c::r)=([],[],false):=by simp[C1,hlt]
   rw[hM];repeat'((conv=>whnf);first|((with_reducible refine Ax (by first|(with_reducible exact Bool.of_not_eq_false (by assumption))|((with_reducible refine decide_eq_true ?_);omega)) (fun hb=>?_));(try rw[hb]);(try simp only[Aa]at hb))|((with_reducible refine Aw (by first|(with_reducible exact Bool.of_not_eq_true (by assumption))|(with_reducible rfl)) (fun hb=>?_));(try rw[hb]);(try simp only[Aa]at hb))|((with_reducible refine Exists.intro ?_ ?_);focus (and_intros<;>first|omega|(with_reducible rfl)))|(with_reducible intro hfact)|((try dsimp only);rw[hw1])|(skip;rw[hw3]))
   all_goals(try(conv=>whnf))
   (apply dKq<;>kernel_rfl)
  ·have h1:¬decide ((r.length:Int)<(c.toNat:Int))=true:=by simp;omega
   have hM:C1 (c::r)=(r.take c.toNat,r.drop c.toNat,true):=by simp[C1,hlt]
   rw[hM];repeat'((conv=>whnf);first|((with_reducible refine Aw (by first|(with_reducible exact Bool.of_not_eq_true (by assumption))|((with_reducible refine decide_eq_false ?_);omega)|(with_reducible rfl)) (fun hb=>?_));(try rw[hb]);(try simp only[Aa]at hb))|((with_reducible refine Exists.intro ?_ ?_);focus (and_intros<;>first|omega|(with_reducible rfl)|(simp only[An];omega)))|(with_reducible intro hfact)|((with_reducible apply Drawn.by0);(focus kernel_rfl);intro hfact;(try simp only[dRS]at hfact))|((try dsimp only);rw[hw1])|(skip;rw[hw3])|(skip;rw[hw2]))
   all_goals(try(conv=>whnf))
   refine Done.mk ⟨?_,by kernel_rfl⟩ (by kernel_rfl)
   show SV.tup [.i (.str _),.i (.str _),_]=_;simp only[Int.toNat_natCast,Int.toNat_one,List.take_length];rw[Nat.add_comm 1 c.toNat,List.take_succ_cons,List.drop_succ_cons];rfl
theorem X8(n:Int):Fn Tryd.prog Qm [.v (ti n)] (Is (.v (.bool false)) [.no]):=by
 refine Qa ?_ (by simp)
 (skip)
 all_goals(try(conv=>whnf))
 exact Done.mk ⟨SV.bool_congr (by simp),by kernel_rfl⟩ (by kernel_rfl)
def cmpI(a b:Int):Int:=if a<b then -1 else if b<a then 1 else 0
theorem Ua(a b:Int):Fn Tryd.prog Pe [.v (ti a),.v (ti b)] (Is (.v (ti (cmpI a b))) [.no,.no]):=by
 refine Nd ?_ (by simp)
 repeat'((conv=>whnf);first|((with_reducible refine Aw (by(with_reducible rfl)) (fun hb=>?_));(try rw[hb]);(try simp only[Aa]at hb))|((with_reducible refine And.intro (fun hb=>?_) (fun hb=>?_))<;>(((try rw[hb]);(try simp only[Aa]at hb))))|((with_reducible refine Exists.intro ?_ ?_);focus (and_intros<;>first|(intro _ hh;cases hh;done)|(simp;done)|decide))|((with_reducible refine CallWp.mk ?_);refine⟨_,X8 _,?_⟩;rintro _ _ ⟨rfl,rfl⟩))
 all_goals(try(conv=>whnf))
 all_goals(refine Done.mk ⟨congrArg (fun n=>SV.v (.int .i64 n)) ?_,by kernel_rfl⟩ (by kernel_rfl))
 all_goals(simp only[cmpI];grind)
theorem Ka(a:Az)(x:I)(hx:x.size=1)(n:Az):Fn Tryd.prog E4 [.v (.agg [.str a,x]),.v (.str n)] (Is (.v (ti (cmpS a n))) [.no,.no]):=by
 refine J6 ?_ (by simp)
 repeat'((conv=>whnf);first|((with_reducible refine Exists.intro ?_ ?_);focus (and_intros<;>first|omega|kernel_rfl|(intro _ hh;cases hh;done)|(simp;done)|decide))|((with_reducible refine CallWp.mk ?_);refine⟨_,Ww _ _,?_⟩;rintro _ _ ⟨rfl,rfl⟩))
 all_goals(try(conv=>whnf))
 exact Done.mk ⟨rfl,by kernel_rfl⟩ (by kernel_rfl)
theorem Gx(v:Ver)(n:Int):Fn Tryd.prog Ew [.v v.toI,.v (ti n)] (Is (.v (ti (cmpI v.rev n))) [.no,.no]):=by
 refine Jk ?_ (by simp)
 repeat'((conv=>whnf);first|((with_reducible refine Exists.intro ?_ ?_);focus (and_intros<;>first|omega|kernel_rfl|(intro _ hh;cases hh;done)|(simp;done)|decide))|((with_reducible refine CallWp.mk ?_);refine⟨_,Ua _ _,?_⟩;rintro _ _ ⟨rfl,rfl⟩))
 all_goals(try(conv=>whnf))
 exact Done.mk ⟨rfl,by kernel_rfl⟩ (by kernel_rfl)

open Go.Proofs
theorem Adt(a b:Az):decide (cmpS a b<0)=decide (a<b):=by
 unfold cmpS;by_cases h:a<b
 ·simp[h]
 ·by_cases h2:b<a<;>simp[h,h2]
theorem Abe(a b:Az):decide (cmpS a b=0)=decide (a=b):=by
 unfold cmpS;by_cases h:a<b
 ·have:a≠b:=by rintro rfl;exact absurd h (List.lt_irrefl a)
  simp[h,this]
 ·by_cases h2:b<a
  ·have:a≠b:=by rintro rfl;exact absurd h2 (List.lt_irrefl a)
   simp[h,h2,this]
  ·have:a=b:=List.le_antisymm (List.not_lt.1 h2) (List.not_lt.1 h);rw[if_neg h,if_neg h2];simp[this]
theorem Ads(a b:Int):decide (cmpI a b<0)=decide (a<b):=by
 unfold cmpI;by_cases h:a<b
 ·simp[h]
 ·by_cases h2:b<a<;>simp[h,h2]
theorem Abd(a b:Int):decide (cmpI a b=0)=decide (a=b):=by
 unfold cmpI;by_cases h:a<b
 ·simp[h];omega
 ·by_cases h2:b<a
  ·simp[h,h2];omega
  ·simp[h,h2];omega
def Kh(n:Az)(h:Hld):Bool:=decide (h.at_<n)
def eqH(n:Az)(h:Hld):Bool:=decide (h.at_=n)
def ltV(n:Int)(v:Ver):Bool:=decide (v.rev<n)
def eqV(n:Int)(v:Ver):Bool:=decide (v.rev=n)
theorem L0(l:List Hld)(n:Az)(hl:l.length≤100000):Fn Tryd.prog Ck [.v (.list (l.map Hld.toI)),.v (.str n),.v (.fn E4)] (Is (.tup [.i (.int .i64 (Km (Kh n) l)),.i (.bool (bsF (Kh n) (eqH n) l))]) [.no,.no,.no]):=by
 refine Cj ?_ (by simp)
 repeat'((conv=>whnf);first|((with_reducible refine Exists.intro ?_ ?_);focus (and_intros<;>(with_reducible rfl)))|(with_reducible intro hfact))
 all_goals(try(conv=>whnf))
 obtain⟨A,hA⟩:∃A,A=Km (Kh n) l:=⟨_,rfl⟩;have hAF:bsF (Kh n) (eqH n) l=(l[A]?).any (eqH n):=by rw[hA];rfl
 have hAle:A≤l.length:=by rw[hA];exact Hp _ _
 rw[hAF, ←hA];unfold Km at hA;refine LoopWq.by (X:=Nat × Nat × Nat) (fun x=>[(9,.v (.int .i64 x.2.1)),(10,.v (.int .i64 x.2.2))]) (fun x=>x.2.1≤x.2.2∧x.2.2≤l.length∧x.2.2 - x.2.1≤x.1∧bsGo (fun h=>(l[h]?).any (Kh n)) x.1 x.2.1 x.2.2=A) (fun x=>x.2.2 - x.2.1)
  (l.length,0,l.length) (by rw[List.length_map];kernel_rfl) ⟨Nat.zero_le _,Nat.le_refl _,Nat.sub_le _ _,hA.symm⟩ ?_
 rintro⟨f,i,j⟩ ⟨h1,h2,h3,h4⟩;dsimp only at h1 h2 h3 h4 ⊢;by_cases hij:i<j
 case neg=>
  have hlt:¬decide ((i:Int)<(j:Int))=true:=by simp;omega
  obtain rfl:i=A:=by
   rw[←h4];cases f with
   |zero=>rfl
   |succ f=>rw[bsGo,if_neg hij]
  by_cases hil:i<l.length
  ·obtain⟨e,he⟩:∃e,l[i]?=some e:=⟨_,List.getElem?_eq_getElem hil⟩;have hl2:¬decide ((i:Int)<((l.map Hld.toI).length:Int))=false:=by simp[hil]
   have hl3:¬decide ((i:Int)<(l.length:Int))=false:=by simp[hil]
   rw[he];simp only[Option.any_some];repeat'((conv=>whnf);first|((with_reducible refine Ax (by first|(with_reducible exact Bool.of_not_eq_false (by assumption))|(with_reducible rfl)) (fun hb=>?_));(try rw[hb]);(try simp only[Aa]at hb))|((with_reducible refine Aw (by(with_reducible exact Bool.of_not_eq_true (by assumption))) (fun hb=>?_));(try rw[hb]);(try simp only[Aa]at hb))|((with_reducible refine Exists.intro ?_ ?_);focus (and_intros<;>first|omega|kernel_rfl|(intro _ hh;cases hh;done)|(simp;done)|decide))|((try dsimp only);(rw[B6 he]))|((with_reducible refine CallWp.mk ?_);refine⟨_,Ka _ _ rfl _,?_⟩;rintro _ _ ⟨rfl,rfl⟩))
   all_goals(try(conv=>whnf))
   refine Done.mk ⟨?_,by kernel_rfl⟩ (by kernel_rfl)
   rw[show eqH n e=decide (cmpS e.at_ n=0)from(Abe e.at_ n).symm];rfl
  ·have hl2:¬decide ((i:Int)<((l.map Hld.toI).length:Int))=true:=by simp;omega
   have hl3:¬decide ((i:Int)<(l.length:Int))=true:=by simp;omega
   rw[List.getElem?_eq_none (by omega)]
   simp only[Option.any_none];repeat'((conv=>whnf);((with_reducible refine Aw (by first|(with_reducible exact Bool.of_not_eq_true (by assumption))|(with_reducible rfl)) (fun hb=>?_));(try rw[hb]);(try simp only[Aa]at hb)))
   all_goals(try(conv=>whnf))
   (apply dKq<;>kernel_rfl)
 have hlt:¬decide ((i:Int)<(j:Int))=false:=by simp[hij]
 obtain⟨g,rfl⟩:∃g,f=g+1:=⟨f - 1,by omega⟩
 rw[bsGo,if_pos hij]at h4;have hmid:=Abw (i:=i) (j:=j) (by omega)
 obtain⟨h,hh⟩:∃h,h=(i+j) / 2:=⟨_,rfl⟩;rw[←hh]at hmid h4;have hhj:h<j:=by omega
 obtain⟨e,he⟩:∃e,l[h]?=some e:=⟨_,List.getElem?_eq_getElem (by omega)⟩
 have hle:(l[h]?).any (Kh n)=decide (cmpS e.at_ n<0):=by rw[he];exact(Adt e.at_ n).symm
 have hw:IntKind.i64.wrap ((h:Int)+1)=((h+1:Nat):Int):=Dk (n:=1000000) (by omega) (by simp only[maxLen];omega)
 rw[hle]at h4;by_cases hc:cmpS e.at_ n<0
 ·have hb:¬decide (cmpS e.at_ n<0)=false:=by simp[hc]
  rw[if_pos (by simpa using hc)]at h4
  repeat'((conv=>whnf);first|((with_reducible refine Ax (by(with_reducible exact Bool.of_not_eq_false (by assumption))) (fun hb=>?_));(try rw[hb]);(try simp only[Aa]at hb))|((with_reducible refine Exists.intro ?_ ?_);focus (and_intros<;>first|omega|kernel_rfl|(intro _ hh;cases hh;done)|(simp;done)|decide))|((try dsimp only);rw[hmid])|((try dsimp only);(rw[B6 he]))|((with_reducible refine CallWp.mk ?_);refine⟨_,Ka _ _ rfl _,?_⟩;rintro _ _ ⟨rfl,rfl⟩)|(skip;rw[hw]))
  all_goals(try(conv=>whnf))
  refine Round.by (g,h+1,j) ?_ ⟨by dsimp only;omega,h2,by dsimp only;omega,h4⟩ (by dsimp only;omega)
  dsimp only;show norm _ _=upd _ _
  kernel_rfl
 ·have hb:¬decide (cmpS e.at_ n<0)=true:=by simp[hc]
  rw[if_neg (by simpa using hc)]at h4
  repeat'((conv=>whnf);first|((with_reducible refine Ax (by(with_reducible exact Bool.of_not_eq_false (by assumption))) (fun hb=>?_));(try rw[hb]);(try simp only[Aa]at hb))|((with_reducible refine Aw (by(with_reducible exact Bool.of_not_eq_true (by assumption))) (fun hb=>?_));(try rw[hb]);(try simp only[Aa]at hb))|((with_reducible refine Exists.intro ?_ ?_);focus (and_intros<;>first|omega|kernel_rfl|(intro _ hh;cases hh;done)|(simp;done)|decide))|((try dsimp only);rw[hmid])|((try dsimp only);(rw[B6 he]))|((with_reducible refine CallWp.mk ?_);refine⟨_,Ka _ _ rfl _,?_⟩;rintro _ _ ⟨rfl,rfl⟩))
  all_goals(try(conv=>whnf))
  refine Round.by (g,i,h) ?_ ⟨by dsimp only;omega,by dsimp only;omega,by dsimp only;omega,h4⟩ (by dsimp only;omega)
  dsimp only;show norm _ _=upd _ _
  kernel_rfl
theorem Aay(l:List Ver)(n:Int)(hl:l.length≤100000):Fn Tryd.prog Cs [.v (.list (l.map Ver.toI)),.v (ti n),.v (.fn Ew)] (Is (.tup [.i (.int .i64 (Km (ltV n) l)),.i (.bool (bsF (ltV n) (eqV n) l))]) [.no,.no,.no]):=by
 refine Co ?_ (by simp)
 repeat'((conv=>whnf);first|((with_reducible refine Exists.intro ?_ ?_);focus (and_intros<;>(with_reducible rfl)))|(with_reducible intro hfact))
 all_goals(try(conv=>whnf))
 obtain⟨A,hA⟩:∃A,A=Km (ltV n) l:=⟨_,rfl⟩;have hAF:bsF (ltV n) (eqV n) l=(l[A]?).any (eqV n):=by rw[hA];rfl
 have hAle:A≤l.length:=by rw[hA];exact Hp _ _
 rw[hAF, ←hA];unfold Km at hA;refine LoopWq.by (X:=Nat × Nat × Nat) (fun x=>[(9,.v (.int .i64 x.2.1)),(10,.v (.int .i64 x.2.2))]) (fun x=>x.2.1≤x.2.2∧x.2.2≤l.length∧x.2.2 - x.2.1≤x.1∧bsGo (fun h=>(l[h]?).any (ltV n)) x.1 x.2.1 x.2.2=A) (fun x=>x.2.2 - x.2.1)
  (l.length,0,l.length) (by rw[List.length_map];kernel_rfl) ⟨Nat.zero_le _,Nat.le_refl _,Nat.sub_le _ _,hA.symm⟩ ?_
 rintro⟨f,i,j⟩ ⟨h1,h2,h3,h4⟩;dsimp only at h1 h2 h3 h4 ⊢;by_cases hij:i<j
 case neg=>
  have hlt:¬decide ((i:Int)<(j:Int))=true:=by simp;omega
  obtain rfl:i=A:=by
   rw[←h4];cases f with
   |zero=>rfl
   |succ f=>rw[bsGo,if_neg hij]
  by_cases hil:i<l.length
  ·obtain⟨e,he⟩:∃e,l[i]?=some e:=⟨_,List.getElem?_eq_getElem hil⟩;have hl2:¬decide ((i:Int)<((l.map Ver.toI).length:Int))=false:=by simp[hil]
   have hl3:¬decide ((i:Int)<(l.length:Int))=false:=by simp[hil]
   rw[he];simp only[Option.any_some];repeat'((conv=>whnf);first|((with_reducible refine Ax (by first|(with_reducible exact Bool.of_not_eq_false (by assumption))|(with_reducible rfl)) (fun hb=>?_));(try rw[hb]);(try simp only[Aa]at hb))|((with_reducible refine Aw (by(with_reducible exact Bool.of_not_eq_true (by assumption))) (fun hb=>?_));(try rw[hb]);(try simp only[Aa]at hb))|((with_reducible refine Exists.intro ?_ ?_);focus (and_intros<;>first|omega|kernel_rfl|(intro _ hh;cases hh;done)|(simp;done)|decide))|((try dsimp only);(rw[B6 he]))|((with_reducible refine CallWp.mk ?_);refine⟨_,Gx _ _,?_⟩;rintro _ _ ⟨rfl,rfl⟩))
   all_goals(try(conv=>whnf))
   refine Done.mk ⟨?_,by kernel_rfl⟩ (by kernel_rfl)
   rw[show eqV n e=decide (cmpI e.rev n=0)from(Abd e.rev n).symm];rfl
  ·have hl2:¬decide ((i:Int)<((l.map Ver.toI).length:Int))=true:=by simp;omega
   have hl3:¬decide ((i:Int)<(l.length:Int))=true:=by simp;omega
   rw[List.getElem?_eq_none (by omega)]
   simp only[Option.any_none];repeat'((conv=>whnf);((with_reducible refine Aw (by first|(with_reducible exact Bool.of_not_eq_true (by assumption))|(with_reducible rfl)) (fun hb=>?_));(try rw[hb]);(try simp only[Aa]at hb)))
   all_goals(try(conv=>whnf))
   (apply dKq<;>kernel_rfl)
 have hlt:¬decide ((i:Int)<(j:Int))=false:=by simp[hij]
 obtain⟨g,rfl⟩:∃g,f=g+1:=⟨f - 1,by omega⟩
 rw[bsGo,if_pos hij]at h4;have hmid:=Abw (i:=i) (j:=j) (by omega)
 obtain⟨h,hh⟩:∃h,h=(i+j) / 2:=⟨_,rfl⟩;rw[←hh]at hmid h4;have hhj:h<j:=by omega
 obtain⟨e,he⟩:∃e,l[h]?=some e:=⟨_,List.getElem?_eq_getElem (by omega)⟩
 have hle:(l[h]?).any (ltV n)=decide (cmpI e.rev n<0):=by rw[he];exact(Ads e.rev n).symm
 have hw:IntKind.i64.wrap ((h:Int)+1)=((h+1:Nat):Int):=Dk (n:=1000000) (by omega) (by simp only[maxLen];omega)
 rw[hle]at h4;by_cases hc:cmpI e.rev n<0
 ·have hb:¬decide (cmpI e.rev n<0)=false:=by simp[hc]
  rw[if_pos (by simpa using hc)]at h4
  repeat'((conv=>whnf);first|((with_reducible refine Ax (by(with_reducible exact Bool.of_not_eq_false (by assumption))) (fun hb=>?_));(try rw[hb]);(try simp only[Aa]at hb))|((with_reducible refine Exists.intro ?_ ?_);focus (and_intros<;>first|omega|kernel_rfl|(intro _ hh;cases hh;done)|(simp;done)|decide))|((try dsimp only);rw[hmid])|((try dsimp only);(rw[B6 he]))|((with_reducible refine CallWp.mk ?_);refine⟨_,Gx _ _,?_⟩;rintro _ _ ⟨rfl,rfl⟩)|(skip;rw[hw]))
  all_goals(try(conv=>whnf))
  refine Round.by (g,h+1,j) ?_ ⟨by dsimp only;omega,h2,by dsimp only;omega,h4⟩ (by dsimp only;omega)
  dsimp only;show norm _ _=upd _ _
  kernel_rfl
 ·have hb:¬decide (cmpI e.rev n<0)=true:=by simp[hc]
  rw[if_neg (by simpa using hc)]at h4
  repeat'((conv=>whnf);first|((with_reducible refine Ax (by(with_reducible exact Bool.of_not_eq_false (by assumption))) (fun hb=>?_));(try rw[hb]);(try simp only[Aa]at hb))|((with_reducible refine Aw (by(with_reducible exact Bool.of_not_eq_true (by assumption))) (fun hb=>?_));(try rw[hb]);(try simp only[Aa]at hb))|((with_reducible refine Exists.intro ?_ ?_);focus (and_intros<;>first|omega|kernel_rfl|(intro _ hh;cases hh;done)|(simp;done)|decide))|((try dsimp only);rw[hmid])|((try dsimp only);(rw[B6 he]))|((with_reducible refine CallWp.mk ?_);refine⟨_,Gx _ _,?_⟩;rintro _ _ ⟨rfl,rfl⟩))
  all_goals(try(conv=>whnf))
  refine Round.by (g,i,h) ?_ ⟨by dsimp only;omega,by dsimp only;omega,by dsimp only;omega,h4⟩ (by dsimp only;omega)
  dsimp only;show norm _ _=upd _ _
  kernel_rfl

abbrev Pq:=(Nat × SV) × (Nat × SV)
def N1(c:Nat × (Nat × SV)):List Rd→List Pq
 | []=>[]
 | .all _::r=>N1 c r
 | .prj i f o::r=>match Nat.beq i c.1 with
   |true=>(f c.2.1 c.2.2,o)::N1 c r
   |false=>N1 c r
def Qw:Log→List Rd→List Pq
 | [],_=>[]
 |c::L,R=>N1 c R++Qw L R
def P1(rd:Rd):List Rec→List Pq
 | []=>[]
 |e::r=>Qw e.L [rd]++P1 rd r
def badP:Pq:=((0,.no),(1,.no))
abbrev Eqs(l:List Pq):Prop:=∀p∈l,p.1=p.2
theorem Eqs.of:∀{l:List Pq},l.map Prod.fst=l.map Prod.snd→Eqs l
 | [],_=>by intro p hp;cases hp
 |q::l,h=>by
  simp only[List.map_cons,List.cons.injEq]at h;intro p hp;rcases List.mem_cons.1 hp with rfl|hp
  ·exact h.1
  ·exact Eqs.of h.2 p hp
theorem Jn{c:Nat × (Nat × SV)}:∀{R:List Rd},Eqs (N1 c R)→Sj c R
 | [],_=>trivial
 | .all _::r,h=>Jn (R:=r) h
 | .prj i f o::r,h=>by
   simp only[N1]at h;simp only[Sj];cases hb:Nat.beq i c.1 with
   |true=>
    rw[hb]at h;exact⟨h _ (List.mem_cons_self ..),Jn (R:=r) fun p hp=>h p (List.mem_cons_of_mem _ hp)⟩
   |false=>
    rw[hb]at h;exact⟨trivial,Jn (R:=r) h⟩
theorem K7:∀{L:Log} {R:List Rd},Eqs (Qw L R)→Ls L R
 | [],_,_=>trivial
 |c::L,R,h=>⟨Jn fun p hp=>h p (List.mem_append_left _ hp),K7 fun p hp=>h p (List.mem_append_right _ hp)⟩
def okC(d e:Rec):Bool:=Lf (slots d.L) (slots e.L)&&Lf (slots d.L) (fulls e.R)&&Lf (slots e.L) (fulls d.R)
def Re(d:Rec)(m:Nat):Nat→List Rec→Bool
 |n+1,e::r=>(m.testBit n||okC d e)&&Re d m n r
 |_,_=>true
def okV(n:Nat)(rp:List Rec):List Rec→List Nat→Bool
 | [],_=>true
 |d::r,m::ms=>Re d m n rp&&okV (n+1) (d::rp) r ms
 |_::_,[]=>false
def Hy(d:Rec)(m:Nat):Nat→List Rec→List Pq
 |n+1,e::r=>match m.testBit n with
  |true=>Hy d m n r
  |false=>Qw d.L e.R++Hy d m n r
 |_,_=>[]
def Ug(n:Nat)(rp:List Rec):List Rec→List Nat→List Pq
 | [],_=>[]
 |d::r,m::ms=>Hy d m n rp++Ug (n+1) (d::rp) r ms
 |_::_,[]=>[]
def offV(y m:Nat):Nat→List Rec→Bool
 |n+1,e::r=>(m.testBit n|| !(slots e.L).contains y)&&offV y m n r
 |_,_=>true
def F3(st0:St)(n:Nat)(rp:List Rec)(m:Nat):List Rd→List Pq
 | []=>[]
 | .all _::r=>F3 st0 n rp m r
 | .prj y f o::r=>match offV y m n rp with
   |true=>F3 st0 n rp m r
   |false=>(match st0[y]? with
    |some c=>(f c.1 c.2,o)
    |none=>badP)::(P1 (.prj y f o) rp++F3 st0 n rp m r)
def Uf(st0:St)(n:Nat)(rp:List Rec):List Rec→List Nat→List Pq
 | [],_=>[]
 |d::r,m::ms=>F3 st0 n rp m d.R++Uf st0 (n+1) (d::rp) r ms
 |_::_,[]=>[]
theorem Rf{d e:Rec}{m:Nat}:∀{l:List Rec} {k:Nat},N2 d m k (l++[e])=(N2 d m k l&&(m.testBit (k+l.length)||okC d e))
 | [],k=>by simp[N2,okC]
 |x::l,k=>by
  simp only[List.cons_append,N2,List.length_cons];rw[Rf (l:=l) (k:=k+1),show k+1+l.length=k+(l.length+1)by omega]
  simp only[Bool.and_assoc]
theorem S4{d:Rec}{m:Nat}:∀{rp:List Rec},Re d m rp.length rp=N2 d m 0 rp.reverse
 | []=>rfl
 |e::r=>by
  simp only[List.length_cons,Re,List.reverse_cons];rw[Rf,S4 (rp:=r),Nat.zero_add,List.length_reverse,Bool.and_comm]
theorem Ab3:∀{ds rp:List Rec} {ms:List Nat},okV rp.length rp ds ms=Pc rp.reverse ds ms
 | [],_,_=>by simp[okV,Pc]
 |_::_,_,[]=>rfl
 |d::r,rp,m::ms=>by
  simp only[okV,Pc];rw[S4, ←List.reverse_cons, ←Ab3 (rp:=d::rp)];rfl
theorem H0{d e:Rec}{m:Nat}:∀{l:List Rec} {k:Nat},L9 d m k l→(m.testBit (k+l.length)=false→Ls d.L e.R)→L9 d m k (l++[e])
 | [],k,_,h=>by
   simp only[List.nil_append,L9];refine⟨?_,trivial⟩;cases hb:m.testBit k with
   |true=>trivial
   |false=>exact h hb
 |x::l,k,h1,h2=>by
  simp only[List.cons_append,L9]at h1 ⊢;exact⟨h1.1,H0 h1.2 fun hb=>h2 (by rwa [List.length_cons,show k+(l.length+1)=k+1+l.length by omega])⟩
theorem Hz{d:Rec}{m:Nat}:∀{rp:List Rec},Eqs (Hy d m rp.length rp)→L9 d m 0 rp.reverse
 | [],_=>trivial
 |e::r,h=>by
  simp only[List.length_cons,Hy]at h;rw[List.reverse_cons];cases hb:m.testBit r.length with
  |true=>
   rw[hb]at h;exact H0 (Hz (rp:=r) h) fun hb'=>by rw[Nat.zero_add,List.length_reverse,hb]at hb';cases hb'
  |false=>
   rw[hb]at h;exact H0 (Hz (rp:=r) fun p hp=>h p (List.mem_append_right _ hp)) fun _=>K7 fun p hp=>h p (List.mem_append_left _ hp)
theorem Sx:∀{ds rp:List Rec} {ms:List Nat},okV rp.length rp ds ms=true→Eqs (Ug rp.length rp ds ms)→P7 rp.reverse ds ms
 | [],_,_,_,_=>trivial
 |_::_,_,[],h,_=>by cases h
 |d::r,rp,m::ms,hk,h=>by
  simp only[okV,Bool.and_eq_true]at hk;refine⟨Hz fun p hp=>h p (List.mem_append_left _ hp),?_⟩
  rw[←List.reverse_cons];exact Sx (rp:=d::rp) hk.2 fun p hp=>h p (List.mem_append_right _ hp)
theorem Ng{y m:Nat}{e:Rec}:∀{l:List Rec} {k:Nat},K9 y m k (l++[e])=(K9 y m k l&&(m.testBit (k+l.length)|| !(slots e.L).contains y))
 | [],k=>by simp[K9]
 |x::l,k=>by
  simp only[List.cons_append,K9,List.length_cons];rw[Ng (l:=l) (k:=k+1),show k+1+l.length=k+(l.length+1)by omega]
  simp only[Bool.and_assoc]
theorem Yi{y m:Nat}:∀{rp:List Rec},offV y m rp.length rp=K9 y m 0 rp.reverse
 | []=>rfl
 |e::r=>by
  simp only[List.length_cons,offV,List.reverse_cons];rw[Ng,Yi (rp:=r),Nat.zero_add,List.length_reverse,Bool.and_comm]
theorem M5{rd:Rd}{e:Rec}:∀{l:List Rec},Ms rd l→Ls e.L [rd]→Ms rd (l++[e])
 | [],_,h=>⟨h,trivial⟩
 |x::l,h1,h2=>⟨h1.1,M5 h1.2 h2⟩
theorem M4{rd:Rd}:∀{rp:List Rec},Eqs (P1 rd rp)→Ms rd rp.reverse
 | [],_=>trivial
 |e::r,h=>by
  rw[List.reverse_cons];exact M5 (M4 fun p hp=>h p (List.mem_append_right _ hp)) (K7 fun p hp=>h p (List.mem_append_left _ hp))
theorem Fg{st0:St}{rp:List Rec}{m:Nat}:∀{R:List Rd},Eqs (F3 st0 rp.length rp m R)→Mq st0 rp.reverse m R
 | [],_=>trivial
 | .all _::r,h=>Fg (R:=r) h
 | .prj y f o::r,h=>by
   simp only[F3,Yi]at h;simp only[Mq];cases hb:K9 y m 0 rp.reverse with
   |true=>
    rw[hb]at h;exact⟨trivial,Fg (R:=r) h⟩
   |false=>
    rw[hb]at h;have h1:=h _ (List.mem_cons_self ..);refine⟨⟨?_,M4 fun p hp=>h p (List.mem_cons_of_mem _ (List.mem_append_left _ hp))⟩,Fg fun p hp=>h p (List.mem_cons_of_mem _ (List.mem_append_right _ hp))⟩
    cases hs:st0[y]? with
    |some c=>rw[hs]at h1;exact h1
    |none=>rw[hs]at h1;simp[badP]at h1
theorem Sr{st0:St}:∀{ds rp:List Rec} {ms:List Nat},okV rp.length rp ds ms=true→Eqs (Uf st0 rp.length rp ds ms)→Av st0 rp.reverse ds ms
 | [],_,_,_,_=>trivial
 |_::_,_,[],h,_=>by cases h
 |d::r,rp,m::ms,hk,h=>by
  simp only[okV,Bool.and_eq_true]at hk;refine⟨Fg fun p hp=>h p (List.mem_append_left _ hp),?_⟩
  rw[←List.reverse_cons];exact Sr (rp:=d::rp) hk.2 fun p hp=>h p (List.mem_append_right _ hp)
theorem Drawn.mkV{st0:St}{ms:List Nat}{Q:St→Prop}{ds:List Rec}{st:St}(h:okV 0 [] ds ms=true)(h2:(Ug 0 [] ds ms).map Prod.fst=(Ug 0 [] ds ms).map Prod.snd)
 (h3:(Uf st0 0 [] ds ms).map Prod.fst=(Uf st0 0 [] ds ms).map Prod.snd) (hq:(∀d∈ds,∀p∈d.F,p)→Q st):Drawn st0 ms Q ds st:=
 ⟨by rw[←show okV 0 [] ds ms=Pc [] ds ms from Ab3 (rp:=[])];exact h,Sx (rp:=[]) h (Eqs.of h2),Sr (rp:=[]) h (Eqs.of h3),hq⟩

open Go.Proofs
def Hld.toD(h:Hld):D:=.st [.it (.str h.at_),.vec Bb 4 ((h.vs.map Ver.toI).map D.it)]
def Sto.toD(s:Sto):D:=.st [.map (s.sp.map fun x=>.str x.1) (s.sp.map fun x=>.ptr (.it x.2.toI)),.vec Dr 2 (s.l.map Hld.toD)]
abbrev sP(s:Sto):SV:=.own [] (.ptr s.toD)
theorem Hld.toD_I(h:Hld):h.toD.toI=some h.toI:=by
 simp only[Hld.toD,Hld.toI,D.toI,toIs,Ad]
theorem U8(l:List Hld):toIs (l.map Hld.toD)=some (l.map Hld.toI):=Vg Hld.toD_I l
theorem E5{α:Type}(f:α→Az)(k:Az):∀(l:List α) (i:Nat),Lo k (l.map fun x=>.str (f x)) i=some ((l.findIdx? (fun x=>decide (f x=k))).map (· +i))
 | [],i=>by simp[Lo]
 |x::l,i=>by
  simp only[List.map_cons,Lo,List.findIdx?_cons];by_cases h:f x=k
  ·simp[h]
  ·rw[if_neg h,E5 f k l (i+1)];simp only[h,decide_false,Bool.false_eq_true,if_false,Option.map_map]
   congr 2
   funext a;simp only[Function.comp];omega
def Sto.fi(s:Sto)(n:Az):Option Nat:=s.sp.findIdx? fun x=>decide (x.1=n)
def tal0:Tal:=⟨0,0,0,0,0⟩
def Sto.tal(s:Sto)(n:Az):Tal:=((s.sp.find? fun x=>decide (x.1=n)).map (·.2)).getD tal0
theorem Sto.fi_none{s:Sto}{n:Az}(h:s.fi n=none):Lo n (s.sp.map fun x=>.str x.1) 0=some none∧s.tal n=tal0:=by
 refine⟨by rw[E5 (fun x:Az × Tal=>x.1)];unfold Sto.fi at h;rw[h];rfl,?_⟩
 unfold Sto.fi at h;rw[List.findIdx?_eq_none_iff]at h;unfold Sto.tal;rw[List.find?_eq_none.2 (by simpa using h)]
 rfl
theorem Sto.fi_some{s:Sto}{n:Az}{i:Nat}(h:s.fi n=some i):Lo n (s.sp.map fun x=>.str x.1) 0=some (some i)∧(s.sp.map fun x=>D.ptr (.it x.2.toI))[i]?=some (.ptr (.it (s.tal n).toI))∧s.sp[i]?=some (n,s.tal n):=by
 have h0:=h;unfold Sto.fi at h;have hs:s.sp[i]?=some (n,s.tal n):=by
  obtain⟨hi,h1,h2⟩:=List.findIdx?_eq_some_iff_getElem.1 h;have hf:s.sp.find? (fun x=>decide (x.1=n))=some s.sp[i]:=by
   rw[List.find?_eq_some_iff_getElem];exact⟨h1,i,hi,rfl,fun j hj=>by simpa using h2 j hj⟩
  rw[List.getElem?_eq_getElem hi];simp only[decide_eq_true_eq]at h1;unfold Sto.tal;rw[hf];show some s.sp[i]=some (n,s.sp[i].2);rw[←h1]
 refine⟨by rw[E5 (fun x:Az × Tal=>x.1),h];rfl,by rw[List.getElem?_map,hs];rfl,hs⟩
theorem Au{N:Nat}{os:List Opd}{st:St}{K:SV→St→Prop}(h:litK (En 23 os st) fun st=>F7 Tryd.prog Mk noY ⟨FinP 23 N 4 5 K,noEx,FinP 23 N 4 5 K⟩ st)(hn:os.length≤23:=by decide):InlWp Tryd.prog 65 N os st K:=
 InlWp.of_bodyP Tryd.func65 rfl Tryd.ntmps65 (by kernel_rfl) (by kernel_rfl) (by decide) (by decide) hn h
end Go.Ab
