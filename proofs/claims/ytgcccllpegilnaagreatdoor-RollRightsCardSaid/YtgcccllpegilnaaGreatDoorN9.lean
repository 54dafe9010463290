/- Lemmas -/
import Derived.Test.YtgcccllpegilnaaGreatDoorN6
set_option linter.unusedVariables false
set_option linter.unusedSimpArgs false
set_option maxRecDepth 100000
set_option maxHeartbeats 40000000
namespace Go.Ab
open Go.Proofs
theorem A32(l:List Ai)(c:Ds)(hl:l.length≤1000000):Fn Tryz.prog Rf [.v (.list (strs l)),.v (.Yp Wf [c.Ae])] (Is (.v (.int .i64 (L1 (fun s=>decide (s=c.name)) 0 l))) [.no,.no]):=by
 refine Qz ?_ (by simp)
 have Gb:l.length≤maxLen:=by simp only[maxLen];omega
 repeat'((conv=>whnf);first|(refine eI ?_ ?_;focus (and_intros<;>exact rfl))|(intro Aa))
 all_goals(try(conv=>whnf))
 refine Bq.by (X:=Nat) (fun x=>[(8,.v (.int .i64 x))]) (fun x=>x≤l.length∧L1 (fun s=>decide (s=c.name)) x (l.drop x)=L1 (fun s=>decide (s=c.name)) 0 l) (fun x=>l.length - x)
  0 (by kernel_rfl) ⟨Nat.zero_le _,rfl⟩ ?_
 rintro k ⟨h1,h2⟩;by_cases hk:k<l.length
 ·obtain⟨e,he⟩:∃e,l[k]?=some e:=⟨_,List.getElem?_eq_getElem hk⟩;have Bb:¬decide ((k:Int)<((strs l).length:Int))=false:=by simp[hk]
  have Ud:l[k]=e:=by rw[List.getElem?_eq_getElem hk]at he;simpa using he
  rw[List.drop_eq_getElem_cons hk,Ud]at h2;have hr:=Ara e c;by_cases hec:e=c.name
  ·rw[show decide (e=c.name)=true by simp[hec]]at hr
   repeat'((conv=>whnf);first|(apply aI<;>intro hb<;>first|exact absurd hb (by first|assumption|decide)|((try rw[hb]);(try simp only[Ad]at hb)))|(refine eI ?_ ?_;focus (and_intros<;>first|omega|exact rfl|(simp;done)))|((try dsimp only);first|rw[Av he]|rw[An he]|rw[Ap he])|(refine Ac.mk ⟨_,hr,?_⟩;rintro _ _ ⟨rfl,rfl⟩))
   all_goals(try(conv=>whnf))
   refine Bd.mk ⟨congrArg (fun n=>SV.v (.int .i64 n)) ?_,by kernel_rfl⟩ (by kernel_rfl)
   rw[←h2,L1,if_pos (by simp[hec])]
  ·rw[show decide (e=c.name)=false by simp[hec]]at hr
   repeat'((conv=>whnf);first|(apply aI<;>intro hb<;>first|exact absurd hb (by first|assumption|decide)|((try rw[hb]);(try simp only[Ad]at hb)))|(refine eI ?_ ?_;focus (and_intros<;>first|omega|exact rfl|(simp;done)))|((try dsimp only);first|rw[Av he]|rw[An he]|rw[Ap he])|(refine Ac.mk ⟨_,hr,?_⟩;rintro _ _ ⟨rfl,rfl⟩))
   all_goals(try(conv=>whnf))
   refine Round.by (k+1) ?_ ⟨hk,?_⟩ (by omega)
   ·rw[Ak hk Gb];show norm _ _=Bt _ _
    kernel_rfl
   ·rw[←h2,L1,if_neg (by simp[hec])]
 ·have Bb:¬decide ((k:Int)<((strs l).length:Int))=true:=by simp;omega
  repeat'((conv=>whnf);(apply aI<;>intro hb<;>first|exact absurd hb (by assumption)|((try rw[hb]);(try simp only[Ad]at hb))))
  all_goals(try(conv=>whnf))
  refine Bd.mk ⟨congrArg (fun n=>SV.v (.int .i64 n)) ?_,by kernel_rfl⟩ (by kernel_rfl)
  rw[←h2,List.drop_eq_nil_of_le (by omega)]
  rfl
theorem Aud{α:Type}{p:α→Bool}:∀{l:List α} {k:Nat},L1 p k l= -1→(l.filter fun s=> !p s)=l
 | [],_,_=>rfl
 |s::r,k,h=>by
  unfold L1 at h;split at h
  ·omega
  ·rename_i hs;rw[List.filter_cons,if_pos (by simpa using hs),Aud h]
theorem Aue{α:Type}{p:α→Bool}:∀{l:List α} {k:Nat},L1 p k l≠ -1→∃i:Nat,L1 p k l=k+i∧i<l.length∧((l.take i).filter fun s=> !p s)=l.take i∧∃s,l[i]?=some s∧p s=true
 | [],k,h=>by simp[L1]at h
 |s::r,k,h=>by
  unfold L1 at h ⊢;split
  ·rename_i hs;exact⟨0,by simp,by simp,rfl,s,rfl,hs⟩
  ·rename_i hs;rw[if_neg hs]at h;obtain⟨i,h1,h2,h3,h4⟩:=Aue h;refine⟨i+1,by rw[h1];simp;omega,by simpa using h2,?_,by simpa using h4⟩
   rw[List.take_succ_cons,List.filter_cons,if_pos (by simpa using hs),h3]
theorem A1w(l:List Ai)(c:Ds)(hl:l.length≤1000000):Fn Tryz.prog Qi [.vec Em 1 (strs l),.v (.Yp Wf [c.Ae])] (Is (.vec Em 1 (strs (l.filter fun s=> !decide (s=c.name)))) [.no,.no]):=by
 refine N4 ?_ (by simp)
 obtain⟨p,hp⟩:∃p:Ai→Bool,p=fun s=>decide (s=c.name):=⟨_,rfl⟩
 have Acs:=A32 l c hl;rw[←hp]at Acs;rw[show(fun s:Ai=> !decide (s=c.name))=fun s=> !p s by rw[hp]]
 by_cases hn:L1 p 0 l= -1
 ·rw[hn]at Acs;repeat'((conv=>whnf);first|(apply aI<;>intro hb<;>first|exact absurd hb (by decide)|((try rw[hb]);(try simp only[Ad]at hb)))|(refine eI ?_ ?_;focus (and_intros<;>first|omega|exact rfl|(simp;done)))|(refine Ac.mk ⟨_,Acs,?_⟩;rintro _ _ ⟨rfl,rfl⟩))
  all_goals(try(conv=>whnf))
  exact Bd.mk ⟨by rw[Aud hn],by kernel_rfl⟩ (by kernel_rfl)
 obtain⟨i0,Mv,Asc,hf0,b0,Y0,A6r⟩:=Aue hn;rw[Mv,show((0:Nat):Int)+(i0:Int)=(i0:Int)from by omega]at Acs
 have n1:¬decide ((i0:Int)= -1)=true:=by simp
 have hw0:IntKind.i64.wrap ((i0:Int)+1)=((i0+1:Nat):Int):=(Cf (by omega)).trans (by omega)
 repeat'((conv=>whnf);first|(apply aI<;>intro hb<;>first|exact absurd hb (by assumption)|((try rw[hb]);(try simp only[Ad]at hb)))|(refine eI ?_ ?_;focus (and_intros<;>first|omega|(simp;done)))|(refine Ac.mk ⟨_,Acs,?_⟩;rintro _ _ ⟨rfl,rfl⟩)|((try dsimp only);rw[hw0]))
 all_goals(try(conv=>whnf))
 have Gb:l.length≤maxLen:=by simp only[maxLen];omega
 refine Bq.by (X:=Nat × Nat × List Ai) (fun x=>[(42,.vec Em 1 (strs x.2.2)),(5,.v (.int .i64 x.2.1)),(6,.v (.int .i64 x.1))])
  (fun x=>x.2.1<x.1∧x.1≤l.length∧x.2.2.length=l.length∧x.2.2.drop x.1=l.drop x.1∧x.2.2.take x.2.1=(l.take x.1).filter fun s=> !p s) (fun x=>l.length - x.1)
  (i0+1,i0,l) (by kernel_rfl) ⟨Nat.lt_succ_self _,Asc,rfl,rfl,by
    rw[List.take_add_one,Y0,List.filter_append,hf0];simp[A6r]⟩ ?_
 rintro⟨j,i,d⟩ ⟨h1,h2,h3,h4,h5⟩;dsimp only at h1 h2 h3 h4 h5 ⊢;by_cases hj:j<l.length
 case neg=>
  have Bb:¬decide ((j:Int)<((strs d).length:Int))=true:=by simp;omega
  have hle:(i:Int)≤((strs d).length:Int):=by simp;omega
  have Box:Int.toNat (i:Int)≤(strs d).length:=by simp;omega
  rw[show l.take j=l from List.take_of_length_le (by omega)]at h5
  have Bi8:(i:Int)≤(((strs d).take (i:Int).toNat++List.replicate ((strs d).length - (i:Int).toNat) (I.str [])).length:Int):=by
   simp only[List.length_append,List.length_take,List.length_replicate,List.length_map];omega
  repeat'((conv=>whnf);first|(apply aI<;>intro hb<;>first|exact absurd hb (by assumption)|((try rw[hb]);(try simp only[Ad]at hb)))|(refine eI ?_ ?_;focus (and_intros<;>first|omega|exact rfl|(simp;done)))|(intro Aa))
  all_goals(try(conv=>whnf))
  refine Bd.mk ⟨congrArg (fun l=>SV.vec Em 1 l) ?_,by kernel_rfl⟩ (by kernel_rfl)
  rw[←h5,Int.toNat_natCast,List.take_append_of_le_length (by simp;omega),List.take_take,Nat.min_self]
  simp[strs]
 obtain⟨e,he⟩:∃e,l[j]?=some e:=⟨_,List.getElem?_eq_getElem hj⟩;have hce:d[j]?=some e:=by
  have:=congrArg (fun q=>q[0]?) h4
  simp only[List.getElem?_drop,Nat.add_zero]at this;rw[this,he]
 have Bb:¬decide ((j:Int)<((strs d).length:Int))=false:=by simp;omega
 have hgc:(strs d)[Int.toNat (j:Int)]?=some (.str e):=by simp[hce]
 have hh:=V1 (e:=Em) (sz:=1) hgc;have Nq:Int.toNat (j:Int)<(strs d).length:=by simp;omega
 have hki:Int.toNat (i:Int)<(strs d).length:=by simp;omega
 obtain⟨y,hy⟩:∃y,d[i]?=some y:=⟨_,List.getElem?_eq_getElem (by omega)⟩
 have hgi:(strs d)[Int.toNat (i:Int)]?=some (.str y):=by simp[hy]
 have hhi:=V1 (e:=Em) (sz:=1) hgi;have Di:l.length - (j+1)<l.length - j:=by omega
 have hwj:IntKind.i64.wrap ((j:Int)+1)=((j+1:Nat):Int):=(Cf (by omega)).trans (by omega)
 have hwi:IntKind.i64.wrap ((i:Int)+1)=((i+1:Nat):Int):=(Cf (by omega)).trans (by omega)
 have htk:((l.take (j+1)).filter fun s=> !p s)=((l.take j).filter fun s=> !p s)++[e].filter fun s=> !p s:=by rw[List.take_add_one,he,List.filter_append];rfl
 have hr:=Ara e c;rw[show decide (e=c.name)=p e by rw[hp]]at hr
 cases hpe:p e with
 |false=>
  rw[hpe]at hr;repeat'((conv=>whnf);first|(apply aI<;>intro hb<;>first|exact absurd hb (by first|assumption|decide)|((try rw[hb]);(try simp only[Ad]at hb)))|(refine eI ?_ ?_;focus (and_intros<;>first|omega|exact rfl|(simp;done)))|(intro Aa)|((try dsimp only);rw[hh])|((try dsimp only);rw[hhi])|(refine Ac.mk ⟨_,hr,?_⟩;rintro _ _ ⟨rfl,rfl⟩))
  all_goals(try(conv=>whnf))
  refine Round.by (j+1,i+1,d.set i e) ?_ ⟨by dsimp only;omega,hj,by simp[h3],?_,?_⟩ Di
  ·have Fe:strs (d.set i e)=Nf (strs d) [Int.toNat (i:Int)] ((I.str []).put [] (.str e)):=by
    rw[A0j hgi,Int.toNat_natCast];simp only[strs,List.map_set];rfl
   dsimp only;rw[hwj,hwi,Fe];show norm _ _=Bt _ _
   kernel_rfl
  ·dsimp only;have:=congrArg (List.drop 1) h4;rw[List.drop_set_of_lt (by omega)]
   simpa[List.drop_drop]using this
  ·dsimp only;rw[htk, ←h5,List.take_add_one,List.getElem?_set_self (by omega),List.take_set_of_le (by omega)]
   simp[hpe]
 |true=>
  rw[hpe]at hr;repeat'((conv=>whnf);first|(apply aI<;>intro hb<;>first|exact absurd hb (by assumption)|((try rw[hb]);(try simp only[Ad]at hb)))|(refine eI ?_ ?_;focus (and_intros<;>first|omega|exact rfl|(simp;done)))|(intro Aa)|((try dsimp only);rw[hh])|(refine Ac.mk ⟨_,hr,?_⟩;rintro _ _ ⟨rfl,rfl⟩))
  all_goals(try(conv=>whnf))
  refine Round.by (j+1,i,d) ?_ ⟨by dsimp only;omega,hj,h3,?_,?_⟩ Di
  ·rw[hwj];show norm _ _=Bt _ _
   kernel_rfl
  ·dsimp only;have:=congrArg (List.drop 1) h4;simpa[List.drop_drop]using this
  ·dsimp only;rw[htk,h5];simp[hpe]

open Go.Proofs
def Avz:Bw:=(sO [O1 (.box 3 1),gA 4 (cI 0)] (.seq (.Dh [[],[0],[1],[2],[],[4],[3,5],[6],[7],[7],[8],[9,10]] [gM 17 0,O1 (.C8 18 17),gF 19 18 3,gL 20 19,gF 21 3 4,gL 22 21,.K4 none (some 23) 91 [nL 20,nL 22,nL (.c (.fn 34))],gA 16 23,gE 24 16 0,gE 25 16 1,gA 5 24,gA 6 25]) (.seq (sO [gF 26 3 3,gL 27 26] (.block 0 (sO [gB 29 .eql 27 (cI 9),gA 28 29] (.cond 28 (.seq (.Dh [[],[0],[1],[],[3],[2,4],[5],[6],[6],[],[9,7],[8,10]] [gM 31 0,O1 (.C8 32 31),O1 (.Ak2 33 true 4 32),gF 34 3 5,gL 35 34,.K4 none (some 36) 14 [nL 33,nL 35],gA 30 36,gE 37 30 0,gE 38 30 1,O1 (.alloc 7 (.one (.i (.agg [(.str []),(.int .i64 0),(.int .i64 0)])))),gS 3 7 37,gA 8 38]) (.seq (.block 1 (sO [gF 40 3 4,gL 41 40,gC 42 70 [nL 41],gT 43 42,gA 39 43] (.cond 39 (sO [gA 4 (cI 5)] .ret) (sO [gM 45 6,gA 44 45] (.cond 44 (sO [gA 4 (cI 15)] .ret) (sO [gM 47 8,gT 48 47,gA 46 48] (.cond 46 (sO [gA 4 (cI 16)] .ret) (sO [gM 50 0,O1 (.C8 51 50),gF 52 51 3,gL 53 52,gN 54 53,gB 55 .geq 54 (cI 16),gA 49 55] (cR 49 [gA 4 (cI 17)]))))))))) (.seq (.Acm [[],[0],[1],[],[3],[],[5],[4,6]] [2,7] [gM 56 0,O1 (.C8 57 56),gF 58 57 3,gF 59 3 4,gL 60 59,gF 61 3 5,gL 62 61,O1 (.build 63 [(.str []),(.str []),(.list [])] [(0,60),(1,62)])] (.inl (some 64) 197 92 [58,63,(.c (.fn 34))])) (sO [gA 4 (cI 0)] .ret)))) (sO [gB 66 .eql 27 (cI 11),gA 65 66] (.cond 65 (sO [gF 67 3 10,gU 68 4 67,gC 69 71 [nL 68],gT 70 69] (cR 70 [gA 4 (cI 1)])) (sO [gB 72 .eql 27 (cI 12),gA 71 72] (.cond 71 (sO [gF 73 3 10,gF 74 73 0,gU 75 2 74,gC 76 93 [nL 75],gT 77 76] (cR 77 [gA 4 (cI 1)])) .skip)))))))) (.seq (sO [gM 78 6,gT 79 78] (cR 79 [gA 4 (cI 16)])) (sO [gM 80 0,O1 (.C8 81 80),gF 82 81 3,gL 83 82,gM 84 5,gI 85 3 83 84,gA 9 85] (.seq (sO [gF 86 3 3,gL 87 86] (.block 2 (sO [gB 89 .eql 87 (cI 10),gA 88 89] (.cond 88 (sO [gM 90 0,gM 91 0,O1 (.C8 92 91),gF 93 92 3,gL 94 93,gM 95 5,gM 96 5,gB 97 .add 96 (cI 1),gC 98 94 [(true,94),nL 95,nL 97],O1 (.C8 99 90),gF 100 99 3,gS 1 100 98] (sO [gM 101 0,O1 (.C8 102 101),gF 103 102 2,gL 104 103,gN 105 104,gM 106 (cI 0)] (.block 3 (.loop [10,21,26,86,107,108,109,110,111,112,113,114,115,116,117,118,119,120,121,122,123,124,125,126,180,184,190,194] (sO [gB 107 .lss 106 105] (.seq (.cond 107 .skip (.exit 3)) (.seq (.block 4 (sO [gM 108 106,gA 10 108] (.Dh [[],[0],[1],[2],[],[],[5],[6],[7],[],[8,9],[10],[11],[],[12,13],[3,4,14],[15],[16]] [gM 109 0,O1 (.C8 110 109),gF 111 110 2,gL 112 111,gM 113 10,gM 114 0,O1 (.C8 115 114),gF 116 115 2,gL 117 116,gM 118 10,gI 119 5 117 118,gF 120 119 4,gL 121 120,O1 (.mkf 122 96 [3]),gC 123 95 [(true,121),nL 122],gI 124 5 112 113,gF 125 124 4,gS 1 125 123]))) (.ops [gB 126 .add 106 (cI 1),gM 106 126])))))))) (sO [gB 128 .eql 87 (cI 11),gA 127 128] (.cond 127 (.seq (.block 5 (.seq (.Dh [[],[0],[1],[2],[],[4],[3,5],[6]] [gM 130 9,O1 (.C8 131 130),gF 132 131 2,gL 133 132,gF 134 3 10,gU 135 4 134,.K4 none (some 136) 72 [nL 133,nL 135],gA 129 136]) (.cond 129 (sO [gA 4 (cI 15)] .ret) (sO [gM 138 9,O1 (.C8 139 138),gF 140 139 2,gL 141 140,gN 142 141,gB 143 .geq 142 (cI 8),gA 137 143] (cR 137 [gA 4 (cI 17)]))))) (.Dh [[],[],[1],[2],[3],[],[5],[6],[4,7],[0,8],[9],[10]] [gM 144 9,gM 145 9,O1 (.C8 146 145),gF 147 146 2,gL 148 147,gF 149 3 10,gU 150 4 149,O1 (.Wh 151 36 4 (.agg [(.agg [(.str []),(.str [])]),(.bool false),(.bool false)]) 1 [(0,150)]),O1 (.app 152 36 4 40 148 151),O1 (.C8 153 144),gF 154 153 2,gS 1 154 152])) (sO [gB 156 .eql 87 (cI 12),gA 155 156] (.cond 155 (sO [gA 11 (.Cd 36 4)] (.seq (sO [gM 157 9,O1 (.C8 158 157),gF 159 158 2,gL 160 159,gN 161 160,gM 162 (cI 0)] (.block 6 (.loop [13,15,21,26,86,163,164,165,166,167,168,169,170,171,172,173,174,175,176,177,178,179,180,181,182,183,184,185,186,187,188,189,190,194] (sO [gB 163 .lss 162 161] (.seq (.cond 163 .skip (.exit 6)) (.seq (.block 7 (sO [gI 164 4 160 162,gU 165 4 164,O1 (.alloc 13 (.one (.i (.agg [(.agg [(.str []),(.str [])]),(.bool false),(.bool false)])))),gS 4 13 165] (sO [gF 166 13 0,gU 167 2 166,O1 (.Wh 168 34 2 (.agg [(.str []),(.str [])]) 1 [(0,167)]),gF 169 3 10,gF 170 169 0,gU 171 2 170,gC 172 97 [nL 168,nL 171],gN 173 172,gM 174 (cI 0)] (.block 8 (.loop [15,21,26,86,175,176,177,178,179,180,181,182,183,184,185,186,187,188,190,194] (sO [gB 175 .lss 174 173] (.seq (.cond 175 .skip (.exit 8)) (.seq (.block 9 (sO [gI 176 2 172 174,gU 177 2 176,O1 (.alloc 15 (.one (.i (.agg [(.str []),(.str [])])))),gS 2 15 177] (sO [gU 178 2 15,gF 179 13 0,gS 2 179 178] (sO [gM 180 11,gU 181 4 13,.K4 none (some 182) 72 [nL 180,nL 181],gT 183 182] (.cond 183 (.ops [O1 (.Rm 184 11),gU 185 4 13,O1 (.Wh 186 36 4 (.agg [(.agg [(.str []),(.str [])]),(.bool false),(.bool false)]) 1 [(0,185)]),O1 (.app 187 36 4 40 184 186),O1 (.Rm 11 187)]) .skip))))) (.ops [gB 188 .add 174 (cI 1),gM 174 188]))))))))) (.ops [gB 189 .add 162 (cI 1),gM 162 189]))))))) (.seq (sO [gM 190 11,gN 191 190,gB 192 .gtr 191 (cI 8)] (cR 192 [gA 4 (cI 17)])) (.ops [gM 193 9,O1 (.Rm 194 11),O1 (.C8 195 193),gF 196 195 2,gS 1 196 194])))) .skip)))))))) (sO [gA 4 (cI 0)] .ret)))))))
theorem R6:OF 67 197 Avz [.t 4]:=oF Tryz.func67 rfl Tryz.ntmps67 (by kernel_rfl) (by kernel_rfl)
set_option maxHeartbeats 4000000

open Go.Proofs
theorem Be4(o:List Sp):Cj (o++([]++[]))=Cj o:=by simp
theorem Be5(o:List Sp)(a:Sp):Cj (o++([a]++[]))=Cj o++[a.Ae]:=by simp
theorem Be6(o:List Sp)(b:Sp):Cj (o++([]++[b]))=Cj o++[b.Ae]:=by simp
theorem Be7(o:List Sp)(a b:Sp):Cj (o++([a]++[b]))=Cj o++[a.Ae]++[b.Ae]:=by simp
theorem A8v(l:List Sp)(s:Sp)(hl:l.length≤1000):Fn Tryz.prog Axe [.v (.list (Cj l)),.v s.Ae] (Is (.v (.list (Cj (minus l s)))) [.no,.no]):=by
 refine Awa ?_ (by simp)
 have hu:=A8z Bhk l hl;have Pw:(Uh l).length≤1000:=Nat.le_trans (A84 l) hl;by_cases hr:Dk s
 case neg=>
  have n1:¬(!decide (Dk s))=false:=by simp[hr]
  rw[show minus l s=Uh l from if_neg hr];repeat'((conv=>whnf);first|(apply aI<;>intro hb<;>first|exact absurd hb (by assumption)|((try rw[hb]);(try simp only[Ad]at hb)))|(refine eI ?_ ?_;focus (and_intros<;>first|omega|exact rfl|(intro _ hh;cases hh;done)|(simp;done)|decide))|(refine Ac.mk ⟨_,hu,?_⟩;rintro _ _ ⟨rfl,rfl⟩)|(refine Ac.mk ⟨_,Rz _,?_⟩;rintro _ _ ⟨rfl,rfl⟩))
  all_goals(try(conv=>whnf))
  exact Bd.mk ⟨rfl,by kernel_rfl⟩ (by kernel_rfl)
 have n1:¬(!decide (Dk s))=true:=by simp[hr]
 have Ayw:minus l s=(Uh l).flatMap (Rr s):=if_pos hr;generalize Uh l=u at hu Pw Ayw;rw[Ayw];clear Ayw;have Gb:u.length≤maxLen:=by simp only[maxLen];omega
 repeat'((conv=>whnf);first|(apply aI<;>intro hb<;>first|exact absurd hb (by assumption)|((try rw[hb]);(try simp only[Ad]at hb)))|(refine eI ?_ ?_;focus (and_intros<;>first|omega|exact rfl|(intro _ hh;cases hh;done)|(simp;done)|decide))|(intro Aa)|(refine Ac.mk ⟨_,hu,?_⟩;rintro _ _ ⟨rfl,rfl⟩)|(refine Ac.mk ⟨_,Rz _,?_⟩;rintro _ _ ⟨rfl,rfl⟩))
 all_goals(try(conv=>whnf))
 refine Bq.by (X:=Nat × List Sp) (fun x=>[(6,.vec 34 2 (Cj x.2)),(18,.v (.int .i64 x.1))]) (fun x=>x.1≤u.length∧x.2=(u.take x.1).flatMap (Rr s)∧x.2.length≤2*x.1) (fun x=>u.length - x.1)
  (0,[]) (by kernel_rfl) ⟨Nat.zero_le _,rfl,Nat.le_refl _⟩ ?_
 rintro⟨k,out⟩ ⟨h1,h2,h3⟩;dsimp only at h1 h2 h3 ⊢;by_cases hk:k<u.length
 case neg=>
  have Bb:¬decide ((k:Int)<((Cj u).length:Int))=true:=by simp;omega
  rw[show u.take k=u from List.take_of_length_le (by omega)]at h2
  subst h2;repeat'((conv=>whnf);first|(apply aI<;>intro hb<;>first|exact absurd hb (by assumption)|((try rw[hb]);(try simp only[Ad]at hb)))|(refine eI ?_ ?_;focus (and_intros<;>first|omega|exact rfl|(simp;done))))
  all_goals(try(conv=>whnf))
  exact Bd.mk ⟨rfl,by kernel_rfl⟩ (by kernel_rfl)
 obtain⟨e,he⟩:∃e,u[k]?=some e:=⟨_,List.getElem?_eq_getElem hk⟩;have Bb:¬decide ((k:Int)<((Cj u).length:Int))=false:=by simp[hk]
 have hg:(Cj u)[Int.toNat (k:Int)]?=some e.Ae:=Vg he;have Nq:Int.toNat (k:Int)<(Cj u).length:=by simp[hk]
 have Di:u.length - (k+1)<u.length - k:=by omega
 have Ek:(u.take (k+1)).flatMap (Rr s)=out++(Ack s e++Yq s e):=by
  rw[List.take_add_one,he,List.flatMap_append, ←h2];simp[Rr]
 have hA:(¬Op.bytesLess e.f s.f=true∧Ack s e=[])∨(¬Op.bytesLess e.f s.f=false∧¬decide (0<Nn e.t s.f)=false∧Ack s e=[⟨e.f,s.f⟩])∨(¬Op.bytesLess e.f s.f=false∧¬decide (0<Nn e.t s.f)=true∧Ack s e=[⟨e.f,e.t⟩]):=by
  simp only[Ut,G5];unfold Ack;by_cases g1:e.f<s.f<;>by_cases g2:Gr e.t s.f<;>simp[g1,g2]
 have hB:(¬(!decide (s.t=[]))=true∧Yq s e=[])∨(¬(!decide (s.t=[]))=false∧¬decide (0<Nn e.t s.t)=true∧Yq s e=[])∨(¬(!decide (s.t=[]))=false∧¬decide (0<Nn e.t s.t)=false∧¬(!Op.bytesLess e.f s.t)=false∧Yq s e=[⟨e.f,e.t⟩])∨
  (¬(!decide (s.t=[]))=false∧¬decide (0<Nn e.t s.t)=false∧¬(!Op.bytesLess e.f s.t)=true∧Yq s e=[⟨s.t,e.t⟩]):=by
  simp only[Ut];unfold Yq Azy;by_cases g1:s.t=[]<;>by_cases g2:Gr e.t s.t<;>by_cases g3:(!Op.bytesLess e.f s.t)=true<;>simp[g1,g2,g3]at*
 rcases hA with⟨a1,hA⟩|⟨a1,a2,hA⟩|⟨a1,a2,hA⟩<;>rcases hB with⟨b1,hB⟩|⟨b1,b2,hB⟩|⟨b1,b2,b3,hB⟩|⟨b1,b2,b3,hB⟩
 all_goals rw[hA,hB]at Ek
 all_goals(
  repeat'((conv=>whnf);first|(apply aI<;>intro hb<;>first|exact absurd hb (by first|assumption|decide)|((try rw[hb]);(try simp only[Ad]at hb)))|(refine eI ?_ ?_;focus (and_intros<;>first|omega|exact rfl|(intro _ hh;cases hh;done)|exact B8 (by rfl)|(simp only[Az];omega)|(simp;done)|decide))|((try dsimp only);rw[hg])|(refine Ac.mk ⟨_,Wa _ _,?_⟩;rintro _ _ ⟨rfl,rfl⟩))
  all_goals(try(conv=>whnf))
  refine Round.by (k+1,_) ?_ ⟨hk,Ek.symm,by simp;omega⟩ Di
  dsimp only;rw[Ak hk Gb];first|rw[Be4]|rw[Be5]|rw[Be6]|rw[Be7]
  show norm _ _=Bt _ _
  kernel_rfl)
set_option maxHeartbeats 40000000

open Go.Proofs
abbrev Bj2(s:Sp)(l:List Dg):List Dg:=Wr l s
def D5(r:A8)(c:Ds):A8 × Int:=
 if c.kind=9 then
  if D2 c.name=false then(r,5)
  else if Et Bh.name r.Am c.name=true then(r,15)
  else if(Fc r.Be c.other).2=false then(r,16)
  else if 16≤(r.Am.length:Int)then(r,17)
  else({r with Am:=Hk (Ch Bh.name r.Am c.name) ⟨c.name,c.other,[]⟩ r.Am},0)
 else if c.kind=11∧(decide (Dk c.Bz.sp)&&(c.Bz.r||c.Bz.w))=false then(r,1)
 else if c.kind=12∧decide (Dk c.Bz.sp)=false then(r,1)
 else if Et Bh.name r.Am c.name=false then(r,16)
 else if c.kind=10 then({r with Am:=H6 (Ch Bh.name r.Am c.name) r.Am,Ag:=r.Ag.map (T6 c.name)},0)
 else match r.Am[Ch Bh.name r.Am c.name]? with
 |none=>(r,16)
 |some x=>
  if c.kind=11 then
   if x.A4.any (fun e=>decide (e=c.Bz))=true then(r,15)
   else if 8≤(x.A4.length:Int)then(r,17)
   else({r with Am:=r.Am.set (Ch Bh.name r.Am c.name) {x with A4:=x.A4++[c.Bz]}},0)
  else if c.kind=12 then
   if 8<((Bj2 c.Bz.sp x.A4).length:Int)then(r,17)
   else({r with Am:=r.Am.set (Ch Bh.name r.Am c.name) {x with A4:=Bj2 c.Bz.sp x.A4}},0)
  else(r,0)
def Lp(r:A8)(c:Ds):D:=
 if c.kind=9∧(D5 r c).2=0 then .st [.it (.int .i64 r.rev),.vec Cc 3 ((r.Be.map B7.Ae).map D.it),.vec B3 5 (r.Ag.map Bc.A6),.vec B2 3 (Hk (Ch Bh.name r.Am c.name) (.it (Bh.Ae ⟨c.name,c.other,[]⟩)) (r.Am.map Bh.A6))]
 else(D5 r c).1.A6
theorem A37(r:A8)(hs:r.Small)(c:Ds)(hk:c.kind=9):Fn Tryz.prog Rp [.own [] (.ptr r.A6),.v c.Ae] (Is (.v (.int .i64 (D5 r c).2)) [.own [] (.ptr (Lp r c)),.no]):=by
 refine R6 ?_ (by simp)
 have D0:=hs;obtain⟨b1,b2,b3,b4,b5⟩:=hs;have hf:=T3 r.Am c.name (by omega)
 have hn:=X0 c.name;have ht:=Nv r D0 c.other;repeat'((conv=>whnf);first|(apply aI<;>intro hb<;>first|(exfalso;simp only[Az]at hb<;>omega)|((try rw[hb]);(try simp only[Ad]at hb)))|(refine eI ?_ ?_;focus (and_intros<;>first|omega|exact rfl|(intro _ hh;cases hh;done)|(simp;done)|decide))|(intro Aa)|((with_reducible apply A5.B5);(focus kernel_rfl);intro Aa;(try simp only[dRS]at Aa))|((simp only[show D.at (0::[].append [3]) (D.ptr r.A6)=some (D.vec B2 3 (r.Am.map Bh.A6))from rfl,Ge,show D.at [0] (D.ptr r.A6)=some r.A6 from rfl,Dr]))|(refine Aj.mk ⟨_,_,hf,?_⟩)|(refine Ac.mk ⟨_,hn,?_⟩;rintro _ _ ⟨rfl,rfl⟩)|(refine Aj.mk ⟨_,_,ht,?_⟩))
 all_goals(try(conv=>whnf))
 all_goals(
  obtain⟨X,hX⟩:∃X,D5 r c=X:=⟨_,rfl⟩;obtain⟨Y,hY⟩:∃Y,Lp r c=Y:=⟨_,rfl⟩;have hY2:=hY;unfold Lp at hY2;rw[hX]at hY2;rw[hX,hY];clear hY;simp[D5, *, -hY2]at hX;subst hX;simp only[hk,true_and,false_and,if_true,if_false,Int.reduceEq]at hY2;subst hY2)
 all_goals try(apply dK<;>kernel_rfl)
 have hle:=S9 Bh.name r.Am c.name;have Rj:=A15 (r.Am.map Bh.A6) (.it (Bh.Ae ⟨c.name,c.other,[]⟩)) (Ch Bh.name r.Am c.name) (by simp;omega) (by simp;omega)
 have htn:=R7 ⟨c.name,c.other,[]⟩;refine Agr ?_ (by decide)
 repeat'((conv=>whnf);first|(refine eI ?_ ?_;focus (and_intros<;>first|omega|exact rfl|(intro _ hh;cases hh;done)|exact F5 rfl|(simp;done)|decide))|((with_reducible apply A5.B5);(focus kernel_rfl);intro Aa;(try simp only[dRS]at Aa))|((simp only[show D.at (0::[].append [3]) (D.ptr r.A6)=some (D.vec B2 3 (r.Am.map Bh.A6))from rfl,Ge,show D.at [0] (D.ptr r.A6)=some r.A6 from rfl,Dr]))|(refine Aj.mk ⟨_,_,hf,?_⟩)|(refine Aj.mk ⟨_,_,htn,?_⟩)|(refine Aj.mk ⟨_,_,Rj,?_⟩))
 all_goals(try(conv=>whnf))
 (apply dK<;>kernel_rfl)
theorem A18(r:A8)(hs:r.Small)(c:Ds)(hk:c.kind=11):Fn Tryz.prog Rp [.own [] (.ptr r.A6),.v c.Ae] (Is (.v (.int .i64 (D5 r c).2)) [.own [] (.ptr (Lp r c)),.no]):=by
 refine R6 ?_ (by simp)
 have D0:=hs;obtain⟨b1,b2,b3,b4,b5⟩:=hs;have hf:=T3 r.Am c.name (by omega)
 have hU:Lp r c=(D5 r c).1.A6:=by simp[Lp,hk]
 rw[hU];have hg:=Ab5 c.Bz;cases Gm:(decide (Dk c.Bz.sp)&&(c.Bz.r||c.Bz.w))with
 |false=>
  rw[Gm]at hg;rw[show D5 r c=(r,1)by simp only[D5,hk,Gm,Int.reduceEq,if_false,if_true,and_self]]
  repeat'((conv=>whnf);first|(apply aI<;>intro hb<;>first|exact absurd hb (by decide)|(exfalso;simp only[Az]at hb<;>omega)|((try rw[hb]);(try simp only[Ad]at hb)))|(refine eI ?_ ?_;focus (and_intros<;>first|omega|exact rfl|(intro _ hh;cases hh;done)|(simp;done)|decide))|((with_reducible apply A5.B5);(focus kernel_rfl);intro Aa;(try simp only[dRS]at Aa))|((simp only[show D.at (0::[].append [3]) (D.ptr r.A6)=some (D.vec B2 3 (r.Am.map Bh.A6))from rfl,Ge,show D.at [0] (D.ptr r.A6)=some r.A6 from rfl,Dr]))|(refine Aj.mk ⟨_,_,hf,?_⟩)|(refine Ac.mk ⟨_,hg,?_⟩;rintro _ _ ⟨rfl,rfl⟩))
  all_goals(try(conv=>whnf))
  all_goals(apply dK<;>kernel_rfl)
 |true=>
 rw[Gm]at hg;cases hb:Et Bh.name r.Am c.name with
 |false=>
  rw[hb]at hf;rw[show D5 r c=(r,16)by simp only[D5,hk,Gm,hb,Int.reduceEq,if_false,if_true,and_false,false_and,Bool.true_eq_false]]
  repeat'((conv=>whnf);first|(apply aI<;>intro hb<;>first|exact absurd hb (by decide)|(exfalso;simp only[Az]at hb<;>omega)|((try rw[hb]);(try simp only[Ad]at hb)))|(refine eI ?_ ?_;focus (and_intros<;>first|omega|exact rfl|(intro _ hh;cases hh;done)|(simp;done)|decide))|((with_reducible apply A5.B5);(focus kernel_rfl);intro Aa;(try simp only[dRS]at Aa))|((simp only[show D.at (0::[].append [3]) (D.ptr r.A6)=some (D.vec B2 3 (r.Am.map Bh.A6))from rfl,Ge,show D.at [0] (D.ptr r.A6)=some r.A6 from rfl,Dr]))|(refine Aj.mk ⟨_,_,hf,?_⟩)|(refine Ac.mk ⟨_,hg,?_⟩;rintro _ _ ⟨rfl,rfl⟩))
  all_goals(try(conv=>whnf))
  all_goals(apply dK<;>kernel_rfl)
 |true=>
  rw[hb]at hf;obtain⟨x,hx, -⟩:=Lv hb;have Bb:Ch Bh.name r.Am c.name<r.Am.length:=(List.getElem?_eq_some_iff.1 hx).1;have hxl:=b5 x (List.mem_of_getElem? hx);have hP:D5 r c=(if x.A4.any (fun e=>decide (e=c.Bz))=true then(r,15)
   else if 8≤(x.A4.length:Int)then(r,17)
   else({r with Am:=r.Am.set (Ch Bh.name r.Am c.name) {x with A4:=x.A4++[c.Bz]}},0)):=by
   simp only[D5,hk,Gm,hb,hx,Int.reduceEq,if_false,if_true,and_false,false_and,Bool.true_eq_false]
  rw[hP];clear hP hU;have hc:=Q2 x.A4 c.Bz (by omega)
  have Ry:(r.Am.map Bh.A6)[Ch Bh.name r.Am c.name]?=some x.A6:=by simp[hx]
  have Cs:(r.Am.set (Ch Bh.name r.Am c.name) {x with A4:=x.A4++[c.Bz]}).map Bh.A6=(r.Am.map Bh.A6).set (Ch Bh.name r.Am c.name) (Bh.A6 {x with A4:=x.A4++[c.Bz]}):=by simp[List.map_set]
  have hD:A8.A6 {r with Am:=r.Am.set (Ch Bh.name r.Am c.name) {x with A4:=x.A4++[c.Bz]}}= .st [.it (.int .i64 r.rev),.vec Cc 3 ((r.Be.map B7.Ae).map D.it),.vec B3 5 (r.Ag.map Bc.A6),.vec B2 3 ((r.Am.map Bh.A6).set (Ch Bh.name r.Am c.name) (.st [.it (.str x.name),.it (.str x.Du),.vec Ep 4 (((x.A4.map Dg.Ae).map D.it)++[D.it c.Bz.Ae])]))]:=by
   show D.st [_,_,_,D.vec _ _ (List.map _ (r.Am.set _ _))]=_;rw[Cs];simp only[Bh.A6,List.map_append,List.map_cons,List.map_nil]
  cases ha:x.A4.any fun e=>decide (e=c.Bz)with
  |true=>
   rw[ha]at hc;rw[if_pos rfl];repeat'((conv=>whnf);first|(apply aI<;>intro hb<;>first|exact absurd hb (by decide)|(exfalso;simp only[Az]at hb<;>omega)|((try rw[hb]);(try simp only[Ad]at hb)))|(refine eI ?_ ?_;focus (and_intros<;>first|omega|exact rfl|(intro _ hh;cases hh;done)|(simp only[Az];omega)|(simp;done)|decide))|((with_reducible apply A5.B5);(focus kernel_rfl);intro Aa;(try simp only[dRS]at Aa))|((simp only[show D.at (0::[].append [3]) (D.ptr r.A6)=some (D.vec B2 3 (r.Am.map Bh.A6))from rfl,Ge,show D.at [0] (D.ptr r.A6)=some r.A6 from rfl,Dr]))|(refine Aj.mk ⟨_,_,hf,?_⟩)|(refine Ac.mk ⟨_,hg,?_⟩;rintro _ _ ⟨rfl,rfl⟩)|(refine Aj.mk ⟨_,_,hc,?_⟩)|((first|with_reducible apply Lr|((with_reducible apply D9);(focus rfl)));(focus (simp only[D.at,D.put,D.Dj,D.Db,List.cons_append,List.nil_append,List.append,List.getElem?_cons_zero,List.getElem?_cons_succ,Int.toNat_natCast,List.getElem?_set_self',Option.map_eq_map,Option.map_some,List.set_cons_zero,List.set_cons_succ,List.set_set,Function.const_apply,List.map_cons,List.map_nil,Cu,Cn,D.Ae,Bx,Bn,List.getElem?_map,List.length_map,List.length_set,Ry]<;>exact rfl));(try(focus exact rfl))))
   all_goals(try(conv=>whnf))
   (apply dK<;>kernel_rfl)
  |false=>
   rw[ha]at hc;rw[if_neg (by simp)]
   by_cases h8:8≤(x.A4.length:Int)
   ·rw[if_pos h8];repeat'((conv=>whnf);first|(apply aI<;>intro hb<;>first|exact absurd hb (by decide)|(exfalso;simp only[Az]at hb<;>omega)|((try rw[hb]);(try simp only[Ad]at hb)))|(refine eI ?_ ?_;focus (and_intros<;>first|omega|exact rfl|(intro _ hh;cases hh;done)|(simp only[Az];omega)|(simp;done)|decide))|(intro Aa)|((with_reducible apply A5.B5);(focus kernel_rfl);intro Aa;(try simp only[dRS]at Aa))|((simp only[show D.at (0::[].append [3]) (D.ptr r.A6)=some (D.vec B2 3 (r.Am.map Bh.A6))from rfl,Ge,show D.at [0] (D.ptr r.A6)=some r.A6 from rfl,Dr]))|(refine Aj.mk ⟨_,_,hf,?_⟩)|(refine Ac.mk ⟨_,hg,?_⟩;rintro _ _ ⟨rfl,rfl⟩)|(refine Aj.mk ⟨_,_,hc,?_⟩)|((first|with_reducible apply Lr|((first|with_reducible apply D9|with_reducible apply X8);(focus rfl)));(focus (simp only[D.at,D.put,D.Dj,D.Db,List.cons_append,List.nil_append,List.append,List.getElem?_cons_zero,List.getElem?_cons_succ,Int.toNat_natCast,List.getElem?_set_self',Option.map_eq_map,Option.map_some,List.set_cons_zero,List.set_cons_succ,List.set_set,Function.const_apply,List.map_cons,List.map_nil,Cu,Cn,D.Ae,Bx,Bn,List.getElem?_map,List.length_map,List.length_set,Ry]<;>exact rfl));(try(focus exact rfl))))
    all_goals(try(conv=>whnf))
    (apply dK<;>kernel_rfl)
   ·rw[if_neg h8,hD];repeat'((conv=>whnf);first|(apply aI<;>intro hb<;>first|exact absurd hb (by decide)|(exfalso;simp only[Az]at hb<;>omega)|((try rw[hb]);(try simp only[Ad]at hb)))|(refine eI ?_ ?_;focus (and_intros<;>first|omega|exact rfl|(intro _ hh;cases hh;done)|exact F5 rfl|(simp only[Az];omega)|(simp;done)|decide))|(intro Aa)|((with_reducible apply A5.B5);(focus kernel_rfl);intro Aa;(try simp only[dRS]at Aa))|((simp only[show D.at (0::[].append [3]) (D.ptr r.A6)=some (D.vec B2 3 (r.Am.map Bh.A6))from rfl,Ge,show D.at [0] (D.ptr r.A6)=some r.A6 from rfl,Dr]))|(refine Aj.mk ⟨_,_,hf,?_⟩)|(refine Ac.mk ⟨_,hg,?_⟩;rintro _ _ ⟨rfl,rfl⟩)|(refine Aj.mk ⟨_,_,hc,?_⟩)|((first|with_reducible apply Lr|((first|with_reducible apply D9|with_reducible apply X8);(focus rfl)));(focus (simp only[D.at,D.put,D.Dj,D.Db,List.cons_append,List.nil_append,List.append,List.getElem?_cons_zero,List.getElem?_cons_succ,Int.toNat_natCast,List.getElem?_set_self',Option.map_eq_map,Option.map_some,List.set_cons_zero,List.set_cons_succ,List.set_set,Function.const_apply,List.map_cons,List.map_nil,Cu,Cn,D.Ae,Bx,Bn,List.getElem?_map,List.length_map,List.length_set,Ry]<;>exact rfl));(try(focus exact rfl))))
    all_goals(try(conv=>whnf))
    (apply dK<;>kernel_rfl)

open Go.Proofs
theorem A17(r:A8)(hs:r.Small)(c:Ds)(hk:c.kind=10):Fn Tryz.prog Rp [.own [] (.ptr r.A6),.v c.Ae] (Is (.v (.int .i64 (D5 r c).2)) [.own [] (.ptr (Lp r c)),.no]):=by
 refine R6 ?_ (by simp)
 have D0:=hs;obtain⟨b1,b2,b3,b4,b5⟩:=hs;have hf:=T3 r.Am c.name (by omega)
 have hU:Lp r c=(D5 r c).1.A6:=by simp[Lp,hk]
 rw[hU];cases hb:Et Bh.name r.Am c.name with
 |false=>
  rw[hb]at hf;rw[show D5 r c=(r,16)by simp only[D5,hk,hb,Int.reduceEq,if_false,if_true,and_false,false_and,Bool.true_eq_false]]
  repeat'((conv=>whnf);first|(apply aI<;>intro hb<;>first|exact absurd hb (by decide)|(exfalso;simp only[Az]at hb<;>omega)|((try rw[hb]);(try simp only[Ad]at hb)))|(refine eI ?_ ?_;focus (and_intros<;>first|omega|exact rfl|(simp;done)))|((with_reducible apply A5.B5);(focus kernel_rfl);intro Aa;(try simp only[dRS]at Aa))|((simp only[show D.at (0::[].append [3]) (D.ptr r.A6)=some (D.vec B2 3 (r.Am.map Bh.A6))from rfl,Ge,show D.at [0] (D.ptr r.A6)=some r.A6 from rfl,Dr]))|(refine Aj.mk ⟨_,_,hf,?_⟩))
  all_goals(try(conv=>whnf))
  all_goals(apply dK<;>kernel_rfl)
 |true=>
  rw[hb]at hf;obtain⟨x,hx, -⟩:=Lv hb;have Bb:Ch Bh.name r.Am c.name<r.Am.length:=(List.getElem?_eq_some_iff.1 hx).1;have hP:D5 r c=({r with Am:=H6 (Ch Bh.name r.Am c.name) r.Am,Ag:=r.Ag.map (T6 c.name)},0):=by
   simp only[D5,hk,hb,Int.reduceEq,if_false,if_true,and_false,false_and,Bool.true_eq_false]
  rw[hP];clear hP hU;have Ry:(r.Am.map Bh.A6)[Ch Bh.name r.Am c.name]?=some x.A6:=by simp[hx]
  have Ajf:=A1u (r.Am.map Bh.A6) (Ch Bh.name r.Am c.name) (by simpa using Bb) (by simp;omega)
  rw[Atv]at Ajf;have hw:IntKind.i64.wrap ((Ch Bh.name r.Am c.name:Int)+1)=((Ch Bh.name r.Am c.name+1:Nat):Int):=Ak Bb (by simp only[maxLen];omega)
  repeat'((conv=>whnf);first|(apply aI<;>intro hb<;>first|exact absurd hb (by decide)|(exfalso;simp only[Az]at hb<;>omega)|((try rw[hb]);(try simp only[Ad]at hb)))|(refine eI ?_ ?_;focus (and_intros<;>first|omega|exact rfl|(intro _ hh;cases hh;done)|(simp only[Az];omega)|(simp;done)|decide))|(intro Aa)|((with_reducible apply A5.B5);(focus kernel_rfl);intro Aa;(try simp only[dRS]at Aa))|((simp only[show D.at (0::[].append [3]) (D.ptr r.A6)=some (D.vec B2 3 (r.Am.map Bh.A6))from rfl,Ge,show D.at [0] (D.ptr r.A6)=some r.A6 from rfl,Dr]))|(refine Aj.mk ⟨_,_,hf,?_⟩)|((simp only[List.tail,List.headD,hw]))|(refine Ac.mk ⟨_,Ajf,?_⟩;rintro _ _ ⟨rfl,rfl⟩))
  all_goals(try(conv=>whnf))
  refine Bq.by (X:=Nat) (fun k=>[(197,.own [] (.ptr (.st [.it (.int .i64 r.rev),.vec Cc 3 ((r.Be.map B7.Ae).map D.it),.vec B3 5 ((Lb c.name r.Ag k).map Bc.A6),.vec B2 3 ((H6 (Ch Bh.name r.Am c.name) r.Am).map Bh.A6)]))),(3,if k=0 then .box (.one (.i c.Ae))else .rp c.Ae),(106,.v (.int .i64 k))]) (fun k=>k≤r.Ag.length) (fun k=>r.Ag.length - k)
   0 (by kernel_rfl) (by omega) ?_
  intro k Ce;have hlen:(r.Ag.map Bc.A6).length=r.Ag.length:=by simp
  by_cases hk3:k<r.Ag.length
  case neg=>
   obtain rfl:k=r.Ag.length:=by omega
   rw[Aun];have Ga:¬decide ((r.Ag.length:Int)<((r.Ag.map Bc.A6).length:Int))=true:=by simp
   by_cases hk0:r.Ag.length=0
   ·rw[if_pos hk0];repeat'((conv=>whnf);(apply aI<;>intro hb<;>first|exact absurd hb (by assumption)|((try rw[hb]);(try simp only[Ad]at hb))))
    all_goals(try(conv=>whnf))
    (apply dK<;>kernel_rfl)
   ·rw[if_neg hk0];repeat'((conv=>whnf);(apply aI<;>intro hb<;>first|exact absurd hb (by assumption)|((try rw[hb]);(try simp only[Ad]at hb))))
    all_goals(try(conv=>whnf))
    (apply dK<;>kernel_rfl)
  obtain⟨u,hu⟩:∃u,r.Ag[k]?=some u:=⟨_,List.getElem?_eq_getElem hk3⟩;have Ga:¬decide ((k:Int)<((r.Ag.map Bc.A6).length:Int))=false:=by simp[hk3]
  have Pw:=b4 u (List.mem_of_getElem? hu);have Rw:=(A1w u.A2 c (by omega)).Bjw (by decide)
  have hpg:((Lb c.name r.Ag k).map Bc.A6)[k]?=some u.A6:=by rw[List.getElem?_map,Auo hu];rfl
  have W3:((Lb c.name r.Ag k).map Bc.A6).set k (T6 c.name u).A6=(Lb c.name r.Ag (k+1)).map Bc.A6:=by rw[←Aup hu,List.map_set]
  have Hz:((Lb c.name r.Ag k).map Bc.A6).length=r.Ag.length:=by rw[List.length_map,Aj9]
  have Bi4:¬k+1=0:=by omega
  have hws:IntKind.i64.wrap ((k:Int)+1)=((k+1:Nat):Int):=Ak hk3 (by simp only[maxLen];omega)
  obtain⟨L,hL⟩:∃L,L=(Lb c.name r.Ag k).map Bc.A6:=⟨_,rfl⟩;rw[←hL]at hpg W3 Hz ⊢;by_cases hk0:k=0
  ·rw[if_pos hk0];repeat'((conv=>whnf);first|(apply aI<;>intro hb<;>first|exact absurd hb (by assumption)|((try rw[hb]);(try simp only[Ad]at hb)))|(refine eI ?_ ?_;focus (and_intros<;>first|omega|exact rfl|(intro _ hh;cases hh;done)|(simp only[Az];omega)|(simp;done)|decide))|(refine A5.mk (by kernel_rfl) (by repeat'((conv=>whnf);first|exact True.intro|refine And.intro ?_ ?_|rfl|(dsimp only[Agd,Ar8,Ai5,Agc,seen];rfl))) (fun Aa=>?_);(try simp only[dRS]at Aa))|(refine Aj.mk ⟨_,_,Rw,?_⟩)|((first|with_reducible apply Lr|((with_reducible apply D9);(focus rfl)));(focus (simp only[D.at,D.put,D.Dj,D.Db,List.cons_append,List.nil_append,List.append,List.getElem?_cons_zero,List.getElem?_cons_succ,Int.toNat_natCast,List.getElem?_set_self',Option.map_eq_map,Option.map_some,List.set_cons_zero,List.set_cons_succ,List.set_set,Function.const_apply,List.map_cons,List.map_nil,Cu,Cn,D.Ae,Bx,Bn,List.getElem?_map,List.length_map,List.length_set,hpg]<;>exact rfl));(try(focus exact rfl))))
   all_goals(try(conv=>whnf))
   refine Round.by (k+1) ?_ (by omega) (by omega)
   rw[if_neg Bi4,hws, ←W3];show norm _ _=Bt _ _
   kernel_rfl
  ·rw[if_neg hk0];repeat'((conv=>whnf);first|(apply aI<;>intro hb<;>first|exact absurd hb (by assumption)|((try rw[hb]);(try simp only[Ad]at hb)))|(refine eI ?_ ?_;focus (and_intros<;>first|omega|exact rfl|(intro _ hh;cases hh;done)|(simp only[Az];omega)|(simp;done)|decide))|(refine A5.mk (by kernel_rfl) (by repeat'((conv=>whnf);first|exact True.intro|refine And.intro ?_ ?_|rfl|(dsimp only[Agd,Ar8,Ai5,Agc,seen];rfl))) (fun Aa=>?_);(try simp only[dRS]at Aa))|(refine Aj.mk ⟨_,_,Rw,?_⟩)|((first|with_reducible apply Lr|((with_reducible apply D9);(focus rfl)));(focus (simp only[D.at,D.put,D.Dj,D.Db,List.cons_append,List.nil_append,List.append,List.getElem?_cons_zero,List.getElem?_cons_succ,Int.toNat_natCast,List.getElem?_set_self',Option.map_eq_map,Option.map_some,List.set_cons_zero,List.set_cons_succ,List.set_set,Function.const_apply,List.map_cons,List.map_nil,Cu,Cn,D.Ae,Bx,Bn,List.getElem?_map,List.length_map,List.length_set,hpg]<;>exact rfl));(try(focus exact rfl))))
   all_goals(try(conv=>whnf))
   refine Round.by (k+1) ?_ (by omega) (by omega)
   rw[if_neg Bi4,hws, ←W3];show norm _ _=Bt _ _
   kernel_rfl
end Go.Ab
