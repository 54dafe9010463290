/- Lemmas for the last text. -/
import Derived.Test.YtgcccllpegilnaaGreatDoorN10
set_option linter.unusedVariables false
set_option linter.unusedSimpArgs false
set_option maxRecDepth 100000
set_option maxHeartbeats 40000000
namespace Go.Ab
open Go.Proofs
theorem Aix (r:Roll) (c:Cmd):(Ff r c).1.rev=r.rev:=by unfold Ff;repeat' split
                                                      all_goals rfl
theorem Apg (r:Roll) (c:Cmd):(Cc r c).1.rev=r.rev:=by unfold Cc;repeat' split
                                                      all_goals rfl
theorem Ank (r:Roll) (c:Cmd):(Dv r c).1.rev=r.rev:=by unfold Dv;repeat' split
                                                      all_goals rfl
theorem An7 (r:Roll) (c:Cmd):(Bi r c).1.rev=r.rev:=by unfold Bi;repeat' split
                                                      all_goals rfl
theorem Arc (r:Roll) (c:Cmd):(doP r c).1.rev=r.rev:=by
 unfold doP
 split
 ·exact Aix r c
 split
 ·exact Apg r c
 split
 ·exact Ank r c
 ·exact An7 r c
def IsD (d:D) (r:Roll):Prop:=∃a b e,d= .st [.it (.int .i64 r.rev),.vec Ax 3 a,.vec Ar 5 b,.vec Aq 3 e]∧toIs a=some (r.tens.map Ten.toI)∧toIs b=some (r.usrs.map Usr.toI)∧toIs e=some (r.rols.map Rol.toI)
theorem V5 (r:Roll):IsD r.toD r:=⟨_,_,_,rfl,Aj _,Gh _,B6 _⟩
theorem Zq {α:Type} {d:α→D} {f:α→I} {l:List α} (h:toIs (l.map d)=some (l.map f)) (i:Nat) (x:α):toIs (C2 i (.it (f x)) (l.map d))=some ((C2 i x l).map f):=by
 have hap:∀(a b:List D) (u v:List I),toIs a=some u→toIs b=some v→toIs (a++b)=some (u++v):=by
  intro a
  induction a with
  |nil=>intro b u v h1 h2;simp[toIs]at h1;subst h1;simpa using h2
  |cons y a ih=>
   intro b u v h1 h2
   simp only[toIs]at h1
   cases hy:y.toI with
   |none=>rw[hy]at h1;simp at h1
   |some z=>
    cases ha:toIs a with
    |none=>rw[hy,ha]at h1;simp at h1
    |some w=>
     rw[hy,ha]at h1
     simp at h1
     subst h1
     simp only[List.cons_append,toIs,hy,ih b w v ha h2]
 have hsp:∀(l:List α),toIs (l.map d)=some (l.map f)→∀i,toIs ((l.take i).map d)=some ((l.take i).map f)∧toIs ((l.drop i).map d)=some ((l.drop i).map f):=by
  intro l
  induction l with
  |nil=>intro _ i;simp[toIs]
  |cons y l ih=>
   intro h i
   cases i with
   |zero=>exact⟨by simp[toIs],by simpa using h⟩
   |succ i=>
    simp only[List.map_cons,toIs]at h
    cases hy:(d y).toI with
    |none=>rw[hy]at h;simp at h
    |some z=>
     cases ha:toIs (l.map d)with
     |none=>rw[hy,ha]at h;simp at h
     |some w=>
      rw[hy,ha]at h
      simp at h
      obtain⟨rfl,rfl⟩:=h
      obtain⟨i1,i2⟩:=ih ha i
      exact⟨by simp only[List.take_succ_cons,List.map_cons,toIs,hy,i1],by simpa using i2⟩
 obtain⟨s1,s2⟩:=hsp l h i
 unfold C2
 rw[List.map_append,List.map_cons, ←List.map_take, ←List.map_drop]
 exact hap _ _ _ _ s1 (by simp only[toIs,D.toI,s2])
theorem Anq (r:Roll) (c:Cmd):IsD (Gz r c) (Cc r c).1:=by
 unfold Gz
 split
 ·rename_i h
  obtain⟨h6,h0⟩:=h
  have hP:(Cc r c).1= {r with usrs:=C2 (Az Usr.name r.usrs c.name) ⟨c.name,c.other,c.salt,C1 c.salt c.word,[]⟩ r.usrs}:=by
   revert h0
   unfold Cc
   rw[if_pos h6]
   repeat' split
   all_goals simp
  rw[hP]
  exact⟨_,_,_,rfl,Aj _,Zq (d:=Usr.toD) (f:=Usr.toI) (Gh r.usrs) _ _,B6 _⟩
 ·exact V5 _
theorem Anp (r:Roll) (c:Cmd):IsD (Em r c) (Bi r c).1:=by
 unfold Em
 split
 ·rename_i h
  obtain⟨h6,h0⟩:=h
  have hP:(Bi r c).1= {r with rols:=C2 (Az Rol.name r.rols c.name) ⟨c.name,c.other,[]⟩ r.rols}:=by
   revert h0
   unfold Bi
   rw[if_pos h6]
   repeat' split
   all_goals simp
  rw[hP]
  exact⟨_,_,_,rfl,Aj _,Gh _,Zq (d:=Rol.toD) (f:=Rol.toI) (B6 r.rols) _ _⟩
 ·exact V5 _
theorem Aro (r:Roll) (c:Cmd):IsD (doD r c) (doP r c).1:=by
 unfold doD doP
 split
 ·exact V5 _
 split
 ·exact Anq r c
 split
 ·exact V5 _
 ·exact Anp r c
def DoP (r:Roll) (c:Cmd):Roll × Int:=
 if c.kind<4∨14<c.kind then(r,1)
 else if 1099511627776≤r.rev then(r,17)
 else if(doP r c).2=0 then({(doP r c).1 with rev:=r.rev+1},0)
 else(r,(doP r c).2)
theorem J6 (r:Roll) (hs:r.Small) (c:Cmd) (hc:c.salt.length≤100000∧c.word.length≤100000) (hrev: -9223372036854775808≤r.rev):Fn Tryz.prog Aa4 [.v r.toI,.v c.toI] (Is (.tup [.i (DoP r c).1.toI,.i (.int .i64 (DoP r c).2)]) [.no,.no]):=by
 refine Fn.isF (x:=[(DoP r c).1.toI,.int .i64 (DoP r c).2]) ?_
 refine Ahx ?_ (by simp)
 have cp:=Agi r hs
 unfold DoP
 by_cases k1:c.kind<4∨14<c.kind
 ·rw[if_pos k1]
  repeat'((conv=>whnf);first|(apply aI<;>intro hb<;>first|exact absurd hb (by decide)|(exfalso;simp only[Ag]at hb<;>omega)|((try rw[hb]);(try simp only[Aa]at hb)))|(refine eI ?_ ?_;focus (and_intros<;>first|exact rfl|(intro _ hh;cases hh;done)|(simp;done)|decide))|(refine CallWp.mk ⟨_,cp,?_⟩;rintro _ _ ⟨rfl,rfl⟩))
  all_goals(try(conv=>whnf))
  all_goals first|(exfalso;omega)|skip
  all_goals(refine Done.mk ⟨?_,by kernel_rfl⟩ (by kernel_rfl))
  all_goals(try simp only[hs])
  all_goals(try simp only[hs, *,if_true,if_false,Bool.false_eq_true,Bool.true_eq_false,Bool.not_true,Bool.not_false,decide_true,decide_false,not_true_eq_false,not_false_eq_true,ne_eq,reduceIte])
  all_goals(try simp only[resD,Bu,I.put,List.replicate_succ,List.replicate_zero,toIs,D.toI,Aj,Bf,List.map_cons,List.map_nil,List.set_cons_zero,List.set_cons_succ,mkSt,A1,List.map_set,Int.toNat_natCast,B6,Gh])
  all_goals(try rfl)
 rw[if_neg k1]
 by_cases k2:1099511627776≤r.rev
 ·rw[if_pos k2]
  repeat'((conv=>whnf);first|(apply aI<;>intro hb<;>first|exact absurd hb (by decide)|(exfalso;simp only[Ag]at hb<;>omega)|((try rw[hb]);(try simp only[Aa]at hb)))|(refine eI ?_ ?_;focus (and_intros<;>first|exact rfl|(intro _ hh;cases hh;done)|(simp;done)|decide))|(refine CallWp.mk ⟨_,cp,?_⟩;rintro _ _ ⟨rfl,rfl⟩))
  all_goals(try(conv=>whnf))
  all_goals first|(exfalso;omega)|skip
  all_goals(refine Done.mk ⟨?_,by kernel_rfl⟩ (by kernel_rfl))
  all_goals(try simp only[hs])
  all_goals(try simp only[hs, *,if_true,if_false,Bool.false_eq_true,Bool.true_eq_false,Bool.not_true,Bool.not_false,decide_true,decide_false,not_true_eq_false,not_false_eq_true,ne_eq,reduceIte])
  all_goals(try simp only[resD,Bu,I.put,List.replicate_succ,List.replicate_zero,toIs,D.toI,Aj,Bf,List.map_cons,List.map_nil,List.set_cons_zero,List.set_cons_succ,mkSt,A1,List.map_set,Int.toNat_natCast,B6,Gh])
  all_goals(try rfl)
 rw[if_neg k2]
 have hd:=Aqf r hs c hc (by omega)
 obtain⟨a,b,e,hD,hta,htb,hte⟩:=Aro r c
 rw[Arc]at hD
 rw[hD]at hd
 have hw:IntKind.i64.wrap (r.rev+1)=r.rev+1:=A5 (by omega)
 generalize doP r c=X at*
 obtain⟨n,x⟩:=X
 dsimp only at*
 by_cases k3:x=0
 ·rw[if_pos k3]
  repeat'((conv=>whnf);first|(apply aI<;>intro hb<;>first|exact absurd hb (by decide)|(exfalso;simp only[Ag]at hb<;>omega)|((try rw[hb]);(try simp only[Aa]at hb);(try subst hb)))|(refine eI ?_ ?_;focus (and_intros<;>first|omega|exact rfl|(intro _ hh;cases hh;done)|(simp;done)|decide))|(refine CallWp.mk ⟨_,cp,?_⟩;rintro _ _ ⟨rfl,rfl⟩)|(refine CallWp.mk ⟨_,hd,?_⟩;rintro _ _ ⟨rfl,rfl⟩)|((try dsimp only);rw[hw]))
  all_goals(try(conv=>whnf))
  all_goals first|(exfalso;omega)|skip
  all_goals(refine Done.mk ⟨?_,by kernel_rfl⟩ (by kernel_rfl))
  all_goals(try simp only[hs])
  all_goals(try simp only[hs, *,if_true,if_false,Bool.false_eq_true,Bool.true_eq_false,Bool.not_true,Bool.not_false,decide_true,decide_false,not_true_eq_false,not_false_eq_true,ne_eq,reduceIte])
  all_goals(try simp only[resD,Bu,I.put,List.replicate_succ,List.replicate_zero,toIs,D.toI,Aj,Bf,List.map_cons,List.map_nil,List.set_cons_zero,List.set_cons_succ,mkSt,A1,List.map_set,Int.toNat_natCast,hta,htb,hte])
  all_goals(try rfl)
 ·rw[if_neg k3]
  repeat'((conv=>whnf);first|(apply aI<;>intro hb<;>first|exact absurd hb (by decide)|(exfalso;simp only[Ag]at hb<;>omega)|((try rw[hb]);(try simp only[Aa]at hb)))|(refine eI ?_ ?_;focus (and_intros<;>first|exact rfl|(intro _ hh;cases hh;done)|(simp;done)|decide))|(refine CallWp.mk ⟨_,cp,?_⟩;rintro _ _ ⟨rfl,rfl⟩)|(refine CallWp.mk ⟨_,hd,?_⟩;rintro _ _ ⟨rfl,rfl⟩))
  all_goals(try(conv=>whnf))
  all_goals first|(exfalso;omega)|skip
  all_goals(refine Done.mk ⟨?_,by kernel_rfl⟩ (by kernel_rfl))
  all_goals(try simp only[hs])
  all_goals(try simp only[hs, *,if_true,if_false,Bool.false_eq_true,Bool.true_eq_false,Bool.not_true,Bool.not_false,decide_true,decide_false,not_true_eq_false,not_false_eq_true,ne_eq,reduceIte])
  all_goals(try simp only[resD,Bu,I.put,List.replicate_succ,List.replicate_zero,toIs,D.toI,Aj,Bf,List.map_cons,List.map_nil,List.set_cons_zero,List.set_cons_succ,mkSt,A1,List.map_set,Int.toNat_natCast,B6,Gh])
  all_goals(try rfl)

open Go.Proofs
abbrev Le:FuncId:=3
def K2:Stm:=(.seq (.ops [gA 2 cF]) (.seq (.seq (.ops [.call none (some 14) 8 [],gT 15 14]) (.cond 15 (.seq (.ops [gA 2 cF]) .ret) .skip)) (.seq (.seq (.ops [gM 16 0,.call none (some 17) 9 [(false,16)]]) (.cond 17 (.seq (.ops [gA 2 cT]) .ret) .skip)) (.seq (.ops [gM 19 0,.call none (some 20) 10 [(false,19)],gA 18 20,gE 21 18 0,gE 22 18 1,gE 23 18 2,O1 (.alloc 3 (.one (.i (.agg [(.int .i64 0),(.list []),(.list []),(.list [])])))),O1 (.alloc 4 (.one (.i (.agg [(.int .i64 0),(.list []),(.list []),(.list [])])))),gS 4 3 21,gS 4 4 22,gA 5 23]) (.seq (.seq (.ops [gM 24 5,gT 25 24,gM 26 25,qf 26 (iU 27 4 3),qf 26 (iU 28 4 4),.call (some (26,false)) (some 29) 11 [(false,27),(false,28)],qf 26 (iT 30 29),gP 31 26 cT 30]) (.cond 31 (.seq (.ops [gA 2 cF]) .ret) .skip)) (.seq (.seq (.ops [gM 32 0,gN 33 32,gM 34 (cI 0)]) (.block 0 (.loop (kr [2,7,8,9,10,11,12,13,16,19] 35 89) (.seq (.ops [gB 35 .lss 34 33]) (.seq (.cond 35 .skip (.exit 0)) (.seq (.block 1 (.seq (.ops [gI 36 18 32 34,gU 37 18 36,O1 (.alloc 7 (.one (.i (.agg [(.int .i64 0),(.int .i64 0),(.str []),(.int .i64 0),(.str []),(.str []),(.str []),(.str []),(.int .i64 0),(.int .i64 0),(.agg [(.agg [(.str []),(.str [])]),(.bool false),(.bool false)]),(.int .i64 0),(.list []),(.list []),(.list [])])))),gS 18 7 37]) (.seq (.ops [gU 39 4 3,gF 40 7 4,gL 41 40,.call none (some 42) 12 [(false,39),(false,41)],gA 38 42,gE 43 38 0,gE 44 38 1,O1 (.alloc 8 (.one (.i (.agg [(.str []),(.str []),(.str []),(.str []),(.list [])])))),gS 5 8 43,gA 9 44]) (.seq (.ops [gU 46 4 3,gF 47 7 4,gL 48 47,.call none (some 49) 13 [(false,46),(false,48)],gA 45 49,gE 50 45 0,gE 51 45 1,O1 (.alloc 10 (.one (.i (.agg [(.str []),(.str []),(.list [])])))),gS 3 10 50,gA 11 51]) (.seq (.ops [gU 53 4 3,gF 54 7 4,gL 55 54,.call none (some 56) 14 [(false,53),(false,55)],gA 52 56,gE 57 52 0,gE 58 52 1,O1 (.alloc 12 (.one (.i (.agg [(.str []),(.int .i64 0),(.int .i64 0)])))),gS 3 12 57,gA 13 58]) (.seq (.ops [gM 59 9,gU 60 4 4,gF 61 7 4,gL 62 61,.call none (some 63) 15 [(false,60),(false,62)],gB 64 .geq 63 (cI 0),O1 (.eqs 65 true .bool 59 64),gM 66 65,qf 66 (iM 67 11),qf 66 (iU 68 4 4),qf 66 (iG 69 7 4 4),qf 66 (iL 70 69),.call (some (66,false)) (some 71) 16 [(false,68),(false,70)],qf 66 (iB 72 .geq 71 (cI 0)),qf 66 (.eqs 73 true .bool 67 72),gP 74 66 cT 73,gM 75 74,qf 75 (iM 76 13),qf 75 (iU 77 4 4),qf 75 (iG 78 7 4 4),qf 75 (iL 79 78),.call (some (75,false)) (some 80) 17 [(false,77),(false,79)],qf 75 (iB 81 .geq 80 (cI 0)),qf 75 (.eqs 82 true .bool 76 81),gP 83 75 cT 82,gM 84 83,qf 84 (iM 85 9),qf 84 (iM 86 85),qt 86 (iG 87 8 0 0),qt 86 (iL 88 87),qt 86 (iG 89 7 4 4),qt 86 (iL 90 89),qt 86 (iB 91 .neq 88 90),qf 84 (iP 92 86 91 cF),gP 93 84 cT 92,gM 94 93,qf 94 (iM 95 11),qf 94 (iM 96 95),qt 96 (iG 97 10 0 0),qt 96 (iL 98 97),qt 96 (iG 99 7 4 4),qt 96 (iL 100 99),qt 96 (iB 101 .neq 98 100),qf 94 (iP 102 96 101 cF),gP 103 94 cT 102,gM 104 103,qf 104 (iM 105 13),qf 104 (iM 106 105),qt 106 (iG 107 12 0 0),qt 106 (iL 108 107),qt 106 (iG 109 7 4 4),qt 106 (iL 110 109),qt 106 (iB 111 .neq 108 110),qf 104 (iP 112 106 111 cF),gP 113 104 cT 112,gM 114 113,qf 114 (iM 115 9),qf 114 (iT 116 115),qf 114 (iM 117 116),qt 117 (iG 118 8 0 0),qt 117 (iL 119 118),qt 117 (iB 120 .neq 119 (cS [])),qf 114 (iP 121 117 120 cF),gP 122 114 cT 121]) (.cond 122 (.seq (.ops [gA 2 cF]) .ret) .skip))))))) (.ops [gB 123 .add 34 (cI 1),gM 34 123]))))))) (.seq (.ops [gA 2 cT]) .ret)))))))
theorem K4:OF 3 124 K2 [.t 2]:=oF Tryz.func3 rfl Tryz.ntmps3 (by kernel_rfl) (by kernel_rfl)
abbrev Pw:FuncId:=8
def Nv:Stm:=(.seq (.ops [gA 0 cF]) (.seq (.ops [.call none (some 9) 18 [(false,(cS [115])),(false,(cS [119]))],gA 8 9,gE 10 8 0,gE 11 8 1,O1 (.alloc 1 (.one (.i (.agg [(.int .i64 0),(.list []),(.list []),(.list [])])))),gS 4 1 10,gA 2 11]) (.seq (.ops [gU 13 4 1,O1 (.build 14 [(.int .i64 0),(.int .i64 0),(.str []),(.int .i64 0),(.str []),(.str []),(.str []),(.str []),(.int .i64 0),(.int .i64 0),(.agg [(.agg [(.str []),(.str [])]),(.bool false),(.bool false)]),(.int .i64 0),(.list []),(.list []),(.list [])] [(3,(cI 4)),(4,(cS [116]))]),.call none (some 15) 19 [(false,13),(false,14)],gA 12 15,gE 16 12 0,gE 17 12 1,gS 4 1 16,gA 3 17]) (.seq (.ops [gU 19 4 1,O1 (.build 20 [(.int .i64 0),(.int .i64 0),(.str []),(.int .i64 0),(.str []),(.str []),(.str []),(.str []),(.int .i64 0),(.int .i64 0),(.agg [(.agg [(.str []),(.str [])]),(.bool false),(.bool false)]),(.int .i64 0),(.list []),(.list []),(.list [])] [(3,(cI 4)),(4,(cS [117]))]),.call none (some 21) 19 [(false,19),(false,20)],gA 18 21,gE 22 18 0,gE 23 18 1,gS 4 1 22,gA 4 23]) (.seq (.ops [gU 25 4 1,O1 (.build 26 [(.int .i64 0),(.int .i64 0),(.str []),(.int .i64 0),(.str []),(.str []),(.str []),(.str []),(.int .i64 0),(.int .i64 0),(.agg [(.agg [(.str []),(.str [])]),(.bool false),(.bool false)]),(.int .i64 0),(.list []),(.list []),(.list [])] [(3,(cI 6)),(4,(cS [120])),(5,(cS [116])),(6,(cS [112]))]),.call none (some 27) 19 [(false,25),(false,26)],gA 24 27,gE 28 24 0,gE 29 24 1,gS 4 1 28,gA 5 29]) (.seq (.ops [gU 31 4 1,O1 (.build 32 [(.int .i64 0),(.int .i64 0),(.str []),(.int .i64 0),(.str []),(.str []),(.str []),(.str []),(.int .i64 0),(.int .i64 0),(.agg [(.agg [(.str []),(.str [])]),(.bool false),(.bool false)]),(.int .i64 0),(.list []),(.list []),(.list [])] [(3,(cI 9)),(4,(cS [121])),(5,(cS [117]))]),.call none (some 33) 19 [(false,31),(false,32)],gA 30 33,gE 34 30 0,gE 35 30 1,gS 4 1 34,gA 6 35]) (.seq (.ops [gU 37 4 1,O1 (.build 38 [(.int .i64 0),(.int .i64 0),(.str []),(.int .i64 0),(.str []),(.str []),(.str []),(.str []),(.int .i64 0),(.int .i64 0),(.agg [(.agg [(.str []),(.str [])]),(.bool false),(.bool false)]),(.int .i64 0),(.list []),(.list []),(.list [])] [(3,(cI 13)),(4,(cS [120])),(5,(cS [121]))]),.call none (some 39) 19 [(false,37),(false,38)],gA 36 39,gE 40 36 0,gE 41 36 1,gS 4 1 40,gA 7 41]) (.seq (.ops [gM 42 2,gM 43 42,qt 43 (iM 44 3),qt 43 (iB 45 .eql 44 (cI 0)),gP 46 43 45 cF,gM 47 46,qt 47 (iM 48 4),qt 47 (iB 49 .eql 48 (cI 0)),gP 50 47 49 cF,gM 51 50,qt 51 (iM 52 5),qt 51 (iB 53 .eql 52 (cI 0)),gP 54 51 53 cF,gM 55 54,qt 55 (iM 56 6),qt 55 (iB 57 .eql 56 (cI 0)),gP 58 55 57 cF,gM 59 58,qt 59 (iM 60 7),qt 59 (iB 61 .eql 60 (cI 18)),gP 62 59 61 cF,gM 63 62,qt 63 (iG 64 1 0 0),qt 63 (iL 65 64),qt 63 (iB 66 .eql 65 (cI 5)),gP 67 63 66 cF,gM 68 67,qt 68 (iU 69 4 1),.call (some (68,true)) (some 70) 28 [(false,69),(false,(cS [120])),(false,(cS [112]))],gP 71 68 70 cF,gA 0 71]) .ret))))))))
theorem N5:OF 8 72 Nv [.t 0]:=oF Tryz.func8 rfl Tryz.ntmps8 (by kernel_rfl) (by kernel_rfl)
abbrev Px:FuncId:=9
def Nw:Stm:=(.seq (.ops [gA 2 cF]) (.seq (.seq (.ops [gM 5 0,gN 6 5,gM 7 (cI 0)]) (.block 0 (.loop (kr [2,3,4] 8 47) (.seq (.ops [gB 8 .lss 7 6]) (.seq (.cond 8 .skip (.exit 0)) (.seq (.block 1 (.seq (.ops [gM 9 7,gI 10 18 5 7,gU 11 18 10,O1 (.alloc 4 (.one (.i (.agg [(.int .i64 0),(.int .i64 0),(.str []),(.int .i64 0),(.str []),(.str []),(.str []),(.str []),(.int .i64 0),(.int .i64 0),(.agg [(.agg [(.str []),(.str [])]),(.bool false),(.bool false)]),(.int .i64 0),(.list []),(.list []),(.list [])])))),gA 3 9,gS 18 4 11]) (.seq (.ops [gM 12 3,gB 13 .geq 12 (cI 80),gM 14 13,qf 14 (iG 15 4 4 4),qf 14 (iL 16 15),qf 14 (.len 17 true 16),qf 14 (iB 18 .gtr 17 (cI 1000)),gP 19 14 cT 18,gM 20 19,qf 20 (iG 21 4 5 5),qf 20 (iL 22 21),qf 20 (.len 23 true 22),qf 20 (iB 24 .gtr 23 (cI 1000)),gP 25 20 cT 24,gM 26 25,qf 26 (iG 27 4 6 6),qf 26 (iL 28 27),qf 26 (.len 29 true 28),qf 26 (iB 30 .gtr 29 (cI 1000)),gP 31 26 cT 30,gM 32 31,qf 32 (iG 33 4 7 7),qf 32 (iL 34 33),qf 32 (.len 35 true 34),qf 32 (iB 36 .gtr 35 (cI 1000)),gP 37 32 cT 36,gM 38 37,qf 38 (iG 39 4 10 10),qf 38 (iG 40 39 0 0),qf 38 (iG 41 40 0 0),qf 38 (iL 42 41),qf 38 (.len 43 true 42),qf 38 (iB 44 .gtr 43 (cI 1000)),gP 45 38 cT 44,gM 46 45,qf 46 (iG 47 4 10 10),qf 46 (iG 48 47 0 0),qf 46 (iG 49 48 1 1),qf 46 (iL 50 49),qf 46 (.len 51 true 50),qf 46 (iB 52 .gtr 51 (cI 1000)),gP 53 46 cT 52]) (.cond 53 (.seq (.ops [gA 2 cT]) .ret) .skip)))) (.ops [gB 54 .add 7 (cI 1),gM 7 54]))))))) (.seq (.ops [gA 2 cF]) .ret)))
theorem N6:OF 9 55 Nw [.t 2]:=oF Tryz.func9 rfl Tryz.ntmps9 (by kernel_rfl) (by kernel_rfl)
abbrev Re:FuncId:=10
def Qc:Stm:=(.seq (.ops [O1 (.alloc 2 (.one (.i (.agg [(.int .i64 0),(.list []),(.list []),(.list [])])))),O1 (.alloc 3 (.one (.i (.agg [(.int .i64 0),(.list []),(.list []),(.list [])])))),gA 4 cF]) (.seq (.ops [.call none (some 16) 18 [(false,(cS [115])),(false,(cS [119]))],gA 15 16,gE 17 15 0,gE 18 15 1,O1 (.alloc 5 (.one (.i (.agg [(.int .i64 0),(.list []),(.list []),(.list [])])))),gS 4 5 17,gA 6 18]) (.seq (.ops [.call none (some 20) 29 [(false,(cS [115])),(false,(cS [119]))],gA 19 20,gE 21 19 0,gE 22 19 1,O1 (.alloc 7 (.one (.i (.agg [(.int .i64 0),(.list []),(.list []),(.list [])])))),gS 4 7 21,gA 8 22]) (.seq (.seq (.ops [gM 23 0,gN 24 23,gM 25 (cI 0)]) (.block 0 (.loop (kr [4,10,11,12,13,14] 26 23) (.seq (.ops [gB 26 .lss 25 24]) (.seq (.cond 26 .skip (.exit 0)) (.seq (.block 1 (.seq (.ops [gI 27 18 23 25,gU 28 18 27,O1 (.alloc 10 (.one (.i (.agg [(.int .i64 0),(.int .i64 0),(.str []),(.int .i64 0),(.str []),(.str []),(.str []),(.str []),(.int .i64 0),(.int .i64 0),(.agg [(.agg [(.str []),(.str [])]),(.bool false),(.bool false)]),(.int .i64 0),(.list []),(.list []),(.list [])])))),gS 18 10 28]) (.seq (.ops [gU 30 4 5,gU 31 18 10,.call none (some 32) 19 [(false,30),(false,31)],gA 29 32,gE 33 29 0,gE 34 29 1,O1 (.alloc 11 (.one (.i (.agg [(.int .i64 0),(.list []),(.list []),(.list [])])))),gS 4 11 33,gA 12 34]) (.seq (.ops [gU 36 4 7,gU 37 18 10,.call none (some 38) 27 [(false,36),(false,37)],gA 35 38,gE 39 35 0,gE 40 35 1,O1 (.alloc 13 (.one (.i (.agg [(.int .i64 0),(.list []),(.list []),(.list [])])))),gS 4 13 39,gA 14 40]) (.seq (.seq (.ops [gM 41 12,gM 42 14,gB 43 .neq 41 42]) (.cond 43 (.seq (.drw [[],[],[0],[1,2,0],[3,0,1,2]] [gU 44 4 5,gU 45 4 7,gS 4 2 44,gS 4 3 45,gA 4 cF]) .ret) .skip)) (.drw [[],[],[0],[1,2,0]] [gU 46 4 11,gU 47 4 13,gS 4 5 46,gS 4 7 47])))))) (.ops [gB 48 .add 25 (cI 1),gM 25 48]))))))) (.seq (.drw [[],[],[0],[1,2,0],[3,0,1,2]] [gU 49 4 5,gU 50 4 7,gS 4 2 49,gS 4 3 50,gA 4 cT]) .ret)))))
theorem Qs:OF 10 51 Qc [.cell 2 true 4,.cell 3 true 4,.t 4]:=oF Tryz.func10 rfl Tryz.ntmps10 (by kernel_rfl) (by kernel_rfl)

open Go.Proofs
theorem Acd (salt word:Ad) (h1:salt.length≤64) (h2:word.length≤64):Fn Tryz.prog Ajv [.v (.str salt),.v (.str word)] (Is (.tup [.i (Ea salt word).toI,.i (.bool true)]) [.no,.no]):=by
 refine Ahw ?_ (by simp)
 have n1:=D1 salt
 have n2:=D1 word
 rw[show decide (salt.length≤64)=true by simp[h1]]at n1
 rw[show decide (word.length≤64)=true by simp[h2]]at n2
 have hh:=L6 salt word (by omega) (by omega)
 repeat'((conv=>whnf);first|(apply aI<;>intro hb<;>first|exact absurd hb (by decide)|((try rw[hb]);(try simp only[Aa]at hb)))|(refine eI ?_ ?_;focus (and_intros<;>first|omega|exact rfl|(intro _ hh;cases hh;done)|exact A0 (by rfl)|(simp;done)|decide))|(refine CallWp.mk ⟨_,n1,?_⟩;rintro _ _ ⟨rfl,rfl⟩)|(refine CallWp.mk ⟨_,n2,?_⟩;rintro _ _ ⟨rfl,rfl⟩)|(refine CallWp.mk ⟨_,hh,?_⟩;rintro _ _ ⟨rfl,rfl⟩))
 all_goals(try(conv=>whnf))
 exact Done.mk ⟨by kernel_rfl,by kernel_rfl⟩ (by kernel_rfl)
theorem Air (r:Roll) (hf:r.Small) (n w:Ad) (u:Usr) (hu:getU r.usrs n=(u,true)) (hw:w.length≤100000) (hs:u.salt.length≤100000):Fn Tryz.prog Adx [.v r.toI,.v (.str n),.v (.str w)] (Is (.v (.bool (decide (u.hash=C1 u.salt w)))) [.no,.no,.no]):=by
 refine Ac5 ?_ (by simp)
 have g:=Uk r hf n
 rw[hu]at g
 have hh:=L6 u.salt w hs hw
 repeat'((conv=>whnf);first|(apply aI<;>intro hb<;>first|exact absurd hb (by decide)|with_reducible exact absurd hb.symm Bool.false_ne_true|((try rw[hb]);(try simp only[Aa]at hb)))|(refine eI ?_ ?_;focus (and_intros<;>first|omega|exact rfl|(intro _ hh;cases hh;done)|(simp;done)|decide))|((with_reducible apply Drawn.by0);(focus kernel_rfl);intro hfact;(try simp only[dRS]at hfact))|(refine CallWp.mk ⟨_,g,?_⟩;rintro _ _ ⟨rfl,rfl⟩)|(refine CallIs.mk ⟨_,_,hh,?_⟩))
 all_goals(try(conv=>whnf))
 all_goals refine Done.mk ⟨SV.bool_congr ?_,by kernel_rfl⟩ (by kernel_rfl)
 all_goals simp[*]
def cmdA (k:Int) (n o w:Ad):Cmd:=⟨0,0,[],k,n,o,w,[],0,0,⟨⟨[],[]⟩,false,false⟩,0,[],[],[]⟩
theorem Agh:Fn Tryz.prog Pw [] (Is (.v (.bool true)) []):=by
 refine N5 ?_ (by simp)
 have n1:=Acd [115] [119] (by simp) (by simp)
 unfold Ea at n1
 generalize C1 [115] [119]=h0 at n1
 obtain⟨h1,hh1⟩:∃h,h=C1 [] [112]:=⟨_,rfl⟩
 have e1:DoP ⟨1,[],[⟨[114,111,111,116],[],[115],h0,[]⟩],[]⟩ (cmdA 4 [116] [] [])=(⟨2,[⟨[116],0,0⟩],[⟨[114,111,111,116],[],[115],h0,[]⟩],[]⟩,0):=by kernel_rfl
 have e2:DoP ⟨2,[⟨[116],0,0⟩],[⟨[114,111,111,116],[],[115],h0,[]⟩],[]⟩ (cmdA 4 [117] [] [])=(⟨3,[⟨[116],0,0⟩,⟨[117],0,0⟩],[⟨[114,111,111,116],[],[115],h0,[]⟩],[]⟩,0):=by kernel_rfl
 have e3:DoP ⟨3,[⟨[116],0,0⟩,⟨[117],0,0⟩],[⟨[114,111,111,116],[],[115],h0,[]⟩],[]⟩ (cmdA 6 [120] [116] [112])=(⟨4,[⟨[116],0,0⟩,⟨[117],0,0⟩],[⟨[114,111,111,116],[],[115],h0,[]⟩,⟨[120],[116],[],C1 [] [112],[]⟩],[]⟩,0):=by kernel_rfl
 rw[←hh1]at e3
 have e4:DoP ⟨4,[⟨[116],0,0⟩,⟨[117],0,0⟩],[⟨[114,111,111,116],[],[115],h0,[]⟩,⟨[120],[116],[],h1,[]⟩],[]⟩ (cmdA 9 [121] [117] [])=(⟨5,[⟨[116],0,0⟩,⟨[117],0,0⟩],[⟨[114,111,111,116],[],[115],h0,[]⟩,⟨[120],[116],[],h1,[]⟩],[⟨[121],[117],[]⟩]⟩,0):=by kernel_rfl
 have e5:DoP ⟨5,[⟨[116],0,0⟩,⟨[117],0,0⟩],[⟨[114,111,111,116],[],[115],h0,[]⟩,⟨[120],[116],[],h1,[]⟩],[⟨[121],[117],[]⟩]⟩ (cmdA 13 [120] [121] [])=(⟨5,[⟨[116],0,0⟩,⟨[117],0,0⟩],[⟨[114,111,111,116],[],[115],h0,[]⟩,⟨[120],[116],[],h1,[]⟩],[⟨[121],[117],[]⟩]⟩,18):=by kernel_rfl
 have d1:=J6 ⟨1,[],[⟨[114,111,111,116],[],[115],h0,[]⟩],[]⟩ ⟨by simp,by simp,by simp,by simp,by simp⟩ (cmdA 4 [116] [] []) (by simp[cmdA]) (by simp)
 have d2:=J6 ⟨2,[⟨[116],0,0⟩],[⟨[114,111,111,116],[],[115],h0,[]⟩],[]⟩ ⟨by simp,by simp,by simp,by simp,by simp⟩ (cmdA 4 [117] [] []) (by simp[cmdA]) (by simp)
 have d3:=J6 ⟨3,[⟨[116],0,0⟩,⟨[117],0,0⟩],[⟨[114,111,111,116],[],[115],h0,[]⟩],[]⟩ ⟨by simp,by simp,by simp,by simp,by simp⟩ (cmdA 6 [120] [116] [112]) (by simp[cmdA]) (by simp)
 have d4:=J6 ⟨4,[⟨[116],0,0⟩,⟨[117],0,0⟩],[⟨[114,111,111,116],[],[115],h0,[]⟩,⟨[120],[116],[],h1,[]⟩],[]⟩ ⟨by simp,by simp,by simp,by simp,by simp⟩ (cmdA 9 [121] [117] []) (by simp[cmdA]) (by simp)
 have d5:=J6 ⟨5,[⟨[116],0,0⟩,⟨[117],0,0⟩],[⟨[114,111,111,116],[],[115],h0,[]⟩,⟨[120],[116],[],h1,[]⟩],[⟨[121],[117],[]⟩]⟩ ⟨by simp,by simp,by simp,by simp,by simp⟩ (cmdA 13 [120] [121] []) (by simp[cmdA]) (by simp)
 rw[e1]at d1
 rw[e2]at d2
 rw[e3]at d3
 rw[e4]at d4
 rw[e5]at d5
 have ch:=Air ⟨5,[⟨[116],0,0⟩,⟨[117],0,0⟩],[⟨[114,111,111,116],[],[115],h0,[]⟩,⟨[120],[116],[],h1,[]⟩],[⟨[121],[117],[]⟩]⟩ ⟨by simp,by simp,by simp,by simp,by simp⟩ [120] [112] ⟨[120],[116],[],h1,[]⟩ (by simp[getU]) (by simp) (by simp)
 dsimp only at ch
 rw[show decide (h1=C1 [] [112])=true by simp[hh1]]at ch
 clear e1 e2 e3 e4 e5 hh1
 repeat'((conv=>whnf);first|(apply aI<;>intro hb<;>first|exact absurd hb (by decide)|((try rw[hb]);(try simp only[Aa]at hb)))|(refine eI ?_ ?_;focus (and_intros<;>first|omega|exact rfl|(intro _ hh;cases hh;done)|(simp;done)|decide))|(refine CallWp.mk ⟨_,n1,?_⟩;rintro _ _ ⟨rfl,rfl⟩)|(refine CallWp.mk ⟨_,d1,?_⟩;rintro _ _ ⟨rfl,rfl⟩)|(refine CallWp.mk ⟨_,d2,?_⟩;rintro _ _ ⟨rfl,rfl⟩)|(refine CallWp.mk ⟨_,d3,?_⟩;rintro _ _ ⟨rfl,rfl⟩)|(refine CallWp.mk ⟨_,d4,?_⟩;rintro _ _ ⟨rfl,rfl⟩)|(refine CallWp.mk ⟨_,d5,?_⟩;rintro _ _ ⟨rfl,rfl⟩)|(refine CallWp.mk ⟨_,ch,?_⟩;rintro _ _ ⟨rfl,rfl⟩))
 all_goals(try(conv=>whnf))
 all_goals first|(exfalso;have ht:¬True:=(by assumption);exact ht True.intro)|exact Done.mk ⟨by kernel_rfl,by kernel_rfl⟩ (by kernel_rfl)

open Go.Proofs
def Fe (r:Roll) (c:Cmd):Roll × Int:=
 if Co c.name=false then(r,5)
 else if Ej c.bytes=false then(r,1)
 else if Ej c.keys=false then(r,1)
 else if 0≤r.tenAt c.name then(r,15)
 else if 8≤(r.tens.length:Int)then(r,17)
 else({r with rev:=r.rev+1,tens:=B2 (fun e:Ten=>decide (c.name<e.name)) ⟨c.name,c.bytes,c.keys⟩ r.tens},0)
theorem Aay (r:Roll) (hs:r.Small) (c:Cmd) (hrev: -9223372036854775808≤r.rev∧r.rev<1099511627776) (hk:c.kind=4):Fn Tryz.prog Ba [.v r.toI,.v c.toI] (Is (.tup [.i (Fe r c).1.toI,.i (.int .i64 (Fe r c).2)]) [.no,.no]):=by
 refine Fn.isF (x:=[(Fe r c).1.toI,.int .i64 (Fe r c).2]) ?_
 refine A9 ?_ (by simp)
 have cp:=L5 r hs
 have hw:IntKind.i64.wrap (r.rev+1)=r.rev+1:=A5 (by omega)
 have hb1:=hs.hT
 have hb2:=hs.hU
 have hb3:=hs.hX
 have t1:=Bn r c.other (by omega)
 have t2:=Bn r c.name (by omega)
 have u1:=Cg r c.name (by omega)
 have x1:=Ca r c.name (by omega)
 have nm:=Vq c.name
 have n1:Fn Tryz.prog Ct [.v (.int .i64 c.bytes)] (Is (.v (.bool (Ej c.bytes))) [.no]):=T5 c.bytes
 have n2:Fn Tryz.prog Ct [.v (.int .i64 c.keys)] (Is (.v (.bool (Ej c.keys))) [.no]):=T5 c.keys
 have ad:=Aat r.tens ⟨c.name,c.bytes,c.keys⟩ (by omega)
 repeat'((conv=>whnf);first|(apply aI<;>intro hb<;>first|exact absurd hb (by decide)|(exfalso;simp only[Ag]at hb<;>omega)|((try rw[hb]);(try simp only[Aa]at hb)))|(refine eI ?_ ?_;focus (and_intros<;>first|omega|exact rfl|(intro _ hh;cases hh;done)|(simp;done)|decide))|(intro hfact)|((with_reducible apply Drawn.by0);(focus kernel_rfl);intro hfact;(try simp only[dRS]at hfact))|(refine CallWp.mk ⟨_,cp,?_⟩;rintro _ _ ⟨rfl,rfl⟩)|((try dsimp only);rw[hw])|(refine CallIs.mk ⟨_,_,t1,?_⟩)|(refine CallIs.mk ⟨_,_,u1,?_⟩)|(refine CallIs.mk ⟨_,_,x1,?_⟩)|(refine CallWp.mk ⟨_,t2,?_⟩;rintro _ _ ⟨rfl,rfl⟩)|(refine CallWp.mk ⟨_,n1,?_⟩;rintro _ _ ⟨rfl,rfl⟩)|(refine CallWp.mk ⟨_,n2,?_⟩;rintro _ _ ⟨rfl,rfl⟩)|(refine CallWp.mk ⟨_,nm,?_⟩;rintro _ _ ⟨rfl,rfl⟩)|(refine CallWp.mk ⟨_,ad,?_⟩;rintro _ _ ⟨rfl,rfl⟩))
 all_goals(try(conv=>whnf))
 all_goals(refine Done.mk ⟨?_,by kernel_rfl⟩ (by kernel_rfl))
 all_goals(try simp only[Fe])
 all_goals(try simp only[Fe, *,if_true,if_false,Bool.false_eq_true,Bool.true_eq_false,Bool.not_true,Bool.not_false,decide_true,decide_false,not_true_eq_false,not_false_eq_true,ne_eq,reduceIte])
 all_goals(try simp only[resD,Bu,I.put,List.replicate_succ,List.replicate_zero,toIs,D.toI,Aj,Bf,List.map_cons,List.map_nil,List.set_cons_zero,List.set_cons_succ,mkSt,A1,List.map_set,Int.toNat_natCast])
 all_goals(try rfl)
def Kg (r:Roll) (c:Cmd):Roll × Int:=
 if Co c.name=false then(r,5)
 else if 0≤r.rolAt c.name then(r,15)
 else if r.tenAt c.other<0 then(r,16)
 else if 16≤(r.rols.length:Int)then(r,17)
 else({r with rev:=r.rev+1,rols:=B2 (fun e:Rol=>decide (c.name<e.name)) ⟨c.name,c.other,[]⟩ r.rols},0)
theorem Agp (r:Roll) (hs:r.Small) (c:Cmd) (hrev: -9223372036854775808≤r.rev∧r.rev<1099511627776) (hk:c.kind=9):Fn Tryz.prog Ba [.v r.toI,.v c.toI] (Is (.tup [.i (Kg r c).1.toI,.i (.int .i64 (Kg r c).2)]) [.no,.no]):=by
 refine Fn.isF (x:=[(Kg r c).1.toI,.int .i64 (Kg r c).2]) ?_
 refine A9 ?_ (by simp)
 have cp:=L5 r hs
 have hw:IntKind.i64.wrap (r.rev+1)=r.rev+1:=A5 (by omega)
 have hb1:=hs.hT
 have hb2:=hs.hU
 have hb3:=hs.hX
 have t1:=Bn r c.other (by omega)
 have u1:=Cg r c.name (by omega)
 have x1:=Ca r c.name (by omega)
 have nm:=Vq c.name
 have ad:=Agf r.rols ⟨c.name,c.other,[]⟩ (by omega)
 repeat'((conv=>whnf);first|(apply aI<;>intro hb<;>first|exact absurd hb (by decide)|(exfalso;simp only[Ag]at hb<;>omega)|((try rw[hb]);(try simp only[Aa]at hb)))|(refine eI ?_ ?_;focus (and_intros<;>first|exact rfl|(intro _ hh;cases hh;done)|(simp;done)|decide))|(intro hfact)|((with_reducible apply Drawn.by0);(focus kernel_rfl);intro hfact;(try simp only[dRS]at hfact))|(refine CallWp.mk ⟨_,cp,?_⟩;rintro _ _ ⟨rfl,rfl⟩)|((try dsimp only);rw[hw])|(refine CallIs.mk ⟨_,_,t1,?_⟩)|(refine CallIs.mk ⟨_,_,u1,?_⟩)|(refine CallIs.mk ⟨_,_,x1,?_⟩)|(refine CallWp.mk ⟨_,nm,?_⟩;rintro _ _ ⟨rfl,rfl⟩)|(refine CallWp.mk ⟨_,ad,?_⟩;rintro _ _ ⟨rfl,rfl⟩))
 all_goals(try(conv=>whnf))
 all_goals(refine Done.mk ⟨?_,by kernel_rfl⟩ (by kernel_rfl))
 all_goals(try simp only[Kg])
 all_goals(try simp only[Kg, *,if_true,if_false,Bool.false_eq_true,Bool.true_eq_false,Bool.not_true,Bool.not_false,decide_true,decide_false,not_true_eq_false,not_false_eq_true,ne_eq,reduceIte])
 all_goals(try simp only[resD,Bu,I.put,List.replicate_succ,List.replicate_zero,toIs,D.toI,Aj,Bf,List.map_cons,List.map_nil,List.set_cons_zero,List.set_cons_succ,mkSt,A1,List.map_set,Int.toNat_natCast])
 all_goals(try rfl)
def Kj (r:Roll) (c:Cmd):Roll × Int:=
 if Co c.name=false then(r,5)
 else if 64<(c.word.length:Int)then(r,2)
 else if 64<(c.salt.length:Int)then(r,2)
 else if 0≤r.usrAt c.name then(r,15)
 else if r.tenAt c.other<0 then(r,16)
 else if 16≤(r.usrs.length:Int)then(r,17)
 else({r with rev:=r.rev+1,usrs:=B2 (fun e:Usr=>decide (c.name<e.name)) ⟨c.name,c.other,c.salt,C1 c.salt c.word,[]⟩ r.usrs},0)
theorem Agq (r:Roll) (hs:r.Small) (c:Cmd) (hrev: -9223372036854775808≤r.rev∧r.rev<1099511627776) (hk:c.kind=6) (hws:c.word.length≤1000000∧c.salt.length≤1000000):Fn Tryz.prog Ba [.v r.toI,.v c.toI] (Is (.tup [.i (Kj r c).1.toI,.i (.int .i64 (Kj r c).2)]) [.no,.no]):=by
 refine Fn.isF (x:=[(Kj r c).1.toI,.int .i64 (Kj r c).2]) ?_
 refine A9 ?_ (by simp)
 have cp:=L5 r hs
 have hw:IntKind.i64.wrap (r.rev+1)=r.rev+1:=A5 (by omega)
 have hb1:=hs.hT
 have hb2:=hs.hU
 have hb3:=hs.hX
 have t1:=Bn r c.other (by omega)
 have u1:=Cg r c.name (by omega)
 have x1:=Ca r c.name (by omega)
 have nm:=Vq c.name
 have hh:=Vo c.salt c.word hws.2 hws.1
 have ad:=Agg r.usrs ⟨c.name,c.other,c.salt,C1 c.salt c.word,[]⟩ (by omega)
 repeat'((conv=>whnf);first|(apply aI<;>intro hb<;>first|exact absurd hb (by decide)|(exfalso;simp only[Ag]at hb<;>omega)|((try rw[hb]);(try simp only[Aa]at hb)))|(refine eI ?_ ?_;focus (and_intros<;>first|exact rfl|(intro _ hh;cases hh;done)|(simp;done)|decide))|(intro hfact)|((with_reducible apply Drawn.by0);(focus kernel_rfl);intro hfact;(try simp only[dRS]at hfact))|(refine CallWp.mk ⟨_,cp,?_⟩;rintro _ _ ⟨rfl,rfl⟩)|((try dsimp only);rw[hw])|(refine CallIs.mk ⟨_,_,t1,?_⟩)|(refine CallIs.mk ⟨_,_,u1,?_⟩)|(refine CallIs.mk ⟨_,_,x1,?_⟩)|(refine CallWp.mk ⟨_,nm,?_⟩;rintro _ _ ⟨rfl,rfl⟩)|(refine CallIs.mk ⟨_,_,hh,?_⟩)|(refine CallIs.mk ⟨_,_,ad,?_⟩))
 all_goals(try(conv=>whnf))
 all_goals(refine Done.mk ⟨?_,by kernel_rfl⟩ (by kernel_rfl))
 all_goals(try simp only[Kj])
 all_goals(try simp only[Kj, *,if_true,if_false,Bool.false_eq_true,Bool.true_eq_false,Bool.not_true,Bool.not_false,decide_true,decide_false,not_true_eq_false,not_false_eq_true,ne_eq,reduceIte])
 all_goals(try simp only[resD,Bu,I.put,List.replicate_succ,List.replicate_zero,toIs,D.toI,Aj,Bf,List.map_cons,List.map_nil,List.set_cons_zero,List.set_cons_succ,mkSt,A1,List.map_set,Int.toNat_natCast])
 all_goals(try rfl)
def Hi (r:Roll) (c:Cmd):Roll × Int:=
 if 64<(c.word.length:Int)then(r,2)
 else if 64<(c.salt.length:Int)then(r,2)
 else if r.usrAt c.name<0 then(r,16)
 else match r.usrs[(r.usrAt c.name).toNat]? with
 |none=>(r,16)
 |some u=>({r with rev:=r.rev+1,usrs:=r.usrs.set (r.usrAt c.name).toNat {u with salt:=c.salt,hash:=C1 c.salt c.word}},0)
theorem Agr (r:Roll) (hs:r.Small) (c:Cmd) (hrev: -9223372036854775808≤r.rev∧r.rev<1099511627776) (hk:c.kind=7) (hws:c.word.length≤1000000∧c.salt.length≤1000000):Fn Tryz.prog Ba [.v r.toI,.v c.toI] (Is (.tup [.i (Hi r c).1.toI,.i (.int .i64 (Hi r c).2)]) [.no,.no]):=by
 refine Fn.isF (x:=[(Hi r c).1.toI,.int .i64 (Hi r c).2]) ?_
 refine A9 ?_ (by simp)
 have cp:=Dw r hs
 have hw:IntKind.i64.wrap (r.rev+1)=r.rev+1:=A5 (by omega)
 have hb1:=hs.hT
 have hb2:=hs.hU
 have hb3:=hs.hX
 have t1:=Bn r c.other (by omega)
 have u1:=Cg r c.name (by omega)
 have x1:=Ca r c.name (by omega)
 have hh:=Vo c.salt c.word hws.2 hws.1
 rcases Cv (fun t:Usr=>decide (t.name=c.name)) 0 r.usrs with h|⟨j,h,hj,u,hju,hun⟩
 ·have h':r.usrAt c.name= -1:=h
  rw[h']at u1
  repeat'((conv=>whnf);first|(apply aI<;>intro hb<;>first|exact absurd hb (by decide)|(exfalso;simp only[Ag]at hb<;>omega)|((try rw[hb]);(try simp only[Aa]at hb)))|(refine eI ?_ ?_;focus (and_intros<;>first|exact rfl|(intro _ hh;cases hh;done)|(simp;done)|decide))|(intro hfact)|((with_reducible apply Drawn.by0);(focus kernel_rfl);intro hfact;(try simp only[dRS]at hfact))|(refine CallWp.mk ⟨_,cp,?_⟩;rintro _ _ ⟨rfl,rfl⟩)|((try dsimp only);rw[hw])|(refine CallIs.mk ⟨_,_,t1,?_⟩)|(refine CallIs.mk ⟨_,_,u1,?_⟩)|(refine CallIs.mk ⟨_,_,x1,?_⟩))
  all_goals(try(conv=>whnf))
  all_goals(refine Done.mk ⟨?_,by kernel_rfl⟩ (by kernel_rfl))
  all_goals(try simp only[Hi,h'])
  all_goals(try simp only[Hi,h', *,if_true,if_false,Bool.false_eq_true,Bool.true_eq_false,Bool.not_true,Bool.not_false,decide_true,decide_false,not_true_eq_false,not_false_eq_true,ne_eq,reduceIte])
  all_goals(try simp only[resD,Bu,I.put,List.replicate_succ,List.replicate_zero,toIs,D.toI,Aj,Bf,List.map_cons,List.map_nil,List.set_cons_zero,List.set_cons_succ,mkSt,A1,List.map_set,Int.toNat_natCast])
  all_goals(try rfl)
 ·have h':r.usrAt c.name=(j:Int):=by rw[show r.usrAt c.name=((0+j:Nat):Int)from h,Nat.zero_add]
  rw[h']at u1
  have hj0:r.usrs[Int.toNat (j:Int)]?=some u:=hju
  repeat'((conv=>whnf);first|(apply aI<;>intro hb<;>first|exact absurd hb (by decide)|(exfalso;simp only[Ag]at hb<;>omega)|((try rw[hb]);(try simp only[Aa]at hb)))|(refine eI ?_ ?_;focus (and_intros<;>first|omega|exact rfl|(intro _ hh;cases hh;done)|(simp only[Ag];omega)|(simp;done)|decide))|(intro hfact)|(refine Drawn.mk (by kernel_rfl) (by repeat'((conv=>whnf);first|exact True.intro|refine And.intro ?_ ?_|rfl|(dsimp only[eyeP,eyeO,eyeR,eyeH,seen];rfl))) (fun hfact=>?_);(try simp only[dRS]at hfact))|(refine CallWp.mk ⟨_,cp,?_⟩;rintro _ _ ⟨rfl,rfl⟩)|((try dsimp only);rw[hw])|(refine CallIs.mk ⟨_,_,t1,?_⟩)|(refine CallIs.mk ⟨_,_,u1,?_⟩)|(refine CallIs.mk ⟨_,_,x1,?_⟩)|(refine CallIs.mk ⟨_,_,hh,?_⟩)|((first|with_reducible apply Eo|((with_reducible apply Bm);(focus rfl)));(focus (simp only[D.at,D.put,D.kid,D.setKid,List.cons_append,List.nil_append,List.append,List.getElem?_cons_zero,List.getElem?_cons_succ,Int.toNat_natCast,List.getElem?_set_self',Option.map_eq_map,Option.map_some,List.set_cons_zero,List.set_cons_succ,List.set_set,Function.const_apply,List.map_cons,List.map_nil,mkSt,A1,D.toI,toIs,Aj,List.getElem?_map,List.length_map,List.length_set,hju]<;>exact rfl));(try(focus exact rfl))))
  all_goals(try(conv=>whnf))
  all_goals clear h hju
  all_goals(refine Done.mk ⟨?_,by kernel_rfl⟩ (by kernel_rfl))
  all_goals(try simp only[Hi,h',hj0])
  all_goals(try simp only[Hi,h',hj0, *,if_true,if_false,Bool.false_eq_true,Bool.true_eq_false,Bool.not_true,Bool.not_false,decide_true,decide_false,not_true_eq_false,not_false_eq_true,ne_eq,reduceIte])
  all_goals(try simp only[resD,Bu,I.put,List.replicate_succ,List.replicate_zero,toIs,D.toI,Aj,Bf,List.map_cons,List.map_nil,List.set_cons_zero,List.set_cons_succ,mkSt,A1,List.map_set,Int.toNat_natCast,B6,Roll.toI,Usr.toI])
  all_goals(try rfl)
set_option maxHeartbeats 4000000

open Go.Proofs
def doM (r:Roll) (c:Cmd):Roll × Int:=
 if c.kind<4∨14<c.kind then(r,1)
 else if 1099511627776≤r.rev then(r,17)
 else if c.kind=4 then Fe r c
 else if c.kind=5 then E9 r c
 else if c.kind=6 then Kj r c
 else if c.kind=7 then Hi r c
 else if c.kind=8 then E7 r c
 else if c.kind=9 then Kg r c
 else if c.kind=10 then He r c
 else if c.kind=11 then E4 r c
 else if c.kind=12 then Dp r c
 else Du r c
theorem Arv (r:Roll) (hs:r.Small) (c:Cmd) (hrev: -9223372036854775808≤r.rev∧r.rev≤9223372036854775806) (hws:c.word.length≤1000000∧c.salt.length≤1000000):
 Fn Tryz.prog Ba [.v r.toI,.v c.toI] (Is (.tup [.i (doM r c).1.toI,.i (.int .i64 (doM r c).2)]) [.no,.no]):=by
 unfold doM
 split
 ·rename_i h;exact Aih r hs c hrev h
 rename_i h
 have h1:4≤c.kind∧c.kind≤14:=by omega
 split
 ·rename_i h2;exact Aii r hs c hrev h1 h2
 rename_i h2
 have hr: -9223372036854775808≤r.rev∧r.rev<1099511627776:=by omega
 split
 ·rename_i hk;exact Aay r hs c hr hk
 split
 ·rename_i hk;exact Adf r hs c hr hk
 split
 ·rename_i hk;exact Agq r hs c hr hk hws
 split
 ·rename_i hk;exact Agr r hs c hr hk hws
 split
 ·rename_i hk;exact Ade r hs c hr hk
 split
 ·rename_i hk;exact Agp r hs c hr hk
 split
 ·rename_i hk;exact Agn r hs c hr hk
 split
 ·rename_i hk;exact Adc r hs c hr hk
 split
 ·rename_i hk;exact Aax r hs c hr hk
 ·exact Ago r hs c hr (by omega)
end Go.Ab
