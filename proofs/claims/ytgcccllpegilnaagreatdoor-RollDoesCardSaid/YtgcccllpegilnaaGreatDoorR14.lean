/- Lemmas for the last text. -/
import Derived.Test.YtgcccllpegilnaaGreatDoorN6
set_option linter.unusedVariables false
set_option linter.unusedSimpArgs false
set_option maxRecDepth 100000
set_option maxHeartbeats 40000000
namespace Go.Ab
open Go.Proofs
theorem Ain (l:List Ad) (c:Cmd) (hl:l.length≤1000000):Fn Tryz.prog G7 [.v (.list (strs l)),.v (.clo K0 [c.toI])] (Is (.v (.int .i64 (idxP (fun s=>decide (s=c.name)) 0 l))) [.no,.no]):=by
 refine Gw ?_ (by simp)
 have hmax:l.length≤maxLen:=by simp only[maxLen];omega
 repeat'((conv=>whnf);first|(refine eI ?_ ?_;focus (and_intros<;>exact rfl))|(intro hfact))
 all_goals(try(conv=>whnf))
 refine LoopWq.by (X:=Nat) (fun x=>[(8,.v (.int .i64 x))]) (fun x=>x≤l.length∧idxP (fun s=>decide (s=c.name)) x (l.drop x)=idxP (fun s=>decide (s=c.name)) 0 l) (fun x=>l.length - x)
  0 (by kernel_rfl) ⟨Nat.zero_le _,rfl⟩ ?_
 rintro k ⟨h1,h2⟩
 by_cases hk:k<l.length
 ·obtain⟨e,he⟩:∃e,l[k]?=some e:=⟨_,List.getElem?_eq_getElem hk⟩
  have hlt:¬decide ((k:Int)<((strs l).length:Int))=false:=by simp[hk]
  have hke:l[k]=e:=by rw[List.getElem?_eq_getElem hk]at he;simpa using he
  rw[List.drop_eq_getElem_cons hk,hke]at h2
  have hr:=Zj e c
  by_cases hec:e=c.name
  ·rw[show decide (e=c.name)=true by simp[hec]]at hr
   repeat'((conv=>whnf);first|(apply aI<;>intro hb<;>first|exact absurd hb (by first|assumption|decide)|((try rw[hb]);(try simp only[Aa]at hb)))|(refine eI ?_ ?_;focus (and_intros<;>first|omega|exact rfl|(simp;done)))|((try dsimp only);first|rw[Au he]|rw[Am he]|rw[An he])|(refine CallWp.mk ⟨_,hr,?_⟩;rintro _ _ ⟨rfl,rfl⟩))
   all_goals(try(conv=>whnf))
   refine Done.mk ⟨congrArg (fun n=>SV.v (.int .i64 n)) ?_,by kernel_rfl⟩ (by kernel_rfl)
   rw[←h2,idxP,if_pos (by simp[hec])]
  ·rw[show decide (e=c.name)=false by simp[hec]]at hr
   repeat'((conv=>whnf);first|(apply aI<;>intro hb<;>first|exact absurd hb (by first|assumption|decide)|((try rw[hb]);(try simp only[Aa]at hb)))|(refine eI ?_ ?_;focus (and_intros<;>first|omega|exact rfl|(simp;done)))|((try dsimp only);first|rw[Au he]|rw[Am he]|rw[An he])|(refine CallWp.mk ⟨_,hr,?_⟩;rintro _ _ ⟨rfl,rfl⟩))
   all_goals(try(conv=>whnf))
   refine Round.by (k+1) ?_ ⟨hk,?_⟩ (by omega)
   ·rw[Ae hk hmax]
    show norm _ _=upd _ _
    kernel_rfl
   ·rw[←h2,idxP,if_neg (by simp[hec])]
 ·have hlt:¬decide ((k:Int)<((strs l).length:Int))=true:=by simp;omega
  repeat'((conv=>whnf);(apply aI<;>intro hb<;>first|exact absurd hb (by assumption)|((try rw[hb]);(try simp only[Aa]at hb))))
  all_goals(try(conv=>whnf))
  refine Done.mk ⟨congrArg (fun n=>SV.v (.int .i64 n)) ?_,by kernel_rfl⟩ (by kernel_rfl)
  rw[←h2,List.drop_eq_nil_of_le (by omega)]
  rfl
theorem Abf {α:Type} {p:α→Bool}:∀{l:List α} {k:Nat},idxP p k l= -1→(l.filter fun s=> !p s)=l
 | [],_,_=>rfl
 |s::r,k,h=>by
  unfold idxP at h
  split at h
  ·omega
  ·rename_i hs
   rw[List.filter_cons,if_pos (by simpa using hs),Abf h]
theorem Abg {α:Type} {p:α→Bool}:∀{l:List α} {k:Nat},idxP p k l≠ -1→∃i:Nat,idxP p k l=k+i∧i<l.length∧((l.take i).filter fun s=> !p s)=l.take i∧∃s,l[i]?=some s∧p s=true
 | [],k,h=>by simp[idxP]at h
 |s::r,k,h=>by
  unfold idxP at h ⊢
  split
  ·rename_i hs
   exact⟨0,by simp,by simp,rfl,s,rfl,hs⟩
  ·rename_i hs
   rw[if_neg hs]at h
   obtain⟨i,h1,h2,h3,h4⟩:=Abg h
   refine⟨i+1,by rw[h1];simp;omega,by simpa using h2,?_,by simpa using h4⟩
   rw[List.take_succ_cons,List.filter_cons,if_pos (by simpa using hs),h3]
theorem Agm (l:List Ad) (c:Cmd) (hl:l.length≤1000000):Fn Tryz.prog Gj [.vec B3 1 (strs l),.v (.clo K0 [c.toI])] (Is (.vec B3 1 (strs (l.filter fun s=> !decide (s=c.name)))) [.no,.no]):=by
 refine Fw ?_ (by simp)
 obtain⟨p,hp⟩:∃p:Ad→Bool,p=fun s=>decide (s=c.name):=⟨_,rfl⟩
 have hidx:=Ain l c hl
 rw[←hp]at hidx
 rw[show(fun s:Ad=> !decide (s=c.name))=fun s=> !p s by rw[hp]]
 by_cases hn:idxP p 0 l= -1
 ·rw[hn]at hidx
  repeat'((conv=>whnf);first|(apply aI<;>intro hb<;>first|exact absurd hb (by decide)|((try rw[hb]);(try simp only[Aa]at hb)))|(refine eI ?_ ?_;focus (and_intros<;>first|omega|exact rfl|(simp;done)))|(refine CallWp.mk ⟨_,hidx,?_⟩;rintro _ _ ⟨rfl,rfl⟩))
  all_goals(try(conv=>whnf))
  exact Done.mk ⟨by rw[Abf hn],by kernel_rfl⟩ (by kernel_rfl)
 obtain⟨i0,hi0,hlt0,hf0,b0,hb0,hbad0⟩:=Abg hn
 rw[hi0,show((0:Nat):Int)+(i0:Int)=(i0:Int)from by omega]at hidx
 have n1:¬decide ((i0:Int)= -1)=true:=by simp
 have hw0:IntKind.i64.wrap ((i0:Int)+1)=((i0+1:Nat):Int):=(A5 (by omega)).trans (by omega)
 repeat'((conv=>whnf);first|(apply aI<;>intro hb<;>first|exact absurd hb (by assumption)|((try rw[hb]);(try simp only[Aa]at hb)))|(refine eI ?_ ?_;focus (and_intros<;>first|omega|(simp;done)))|(refine CallWp.mk ⟨_,hidx,?_⟩;rintro _ _ ⟨rfl,rfl⟩)|((try dsimp only);rw[hw0]))
 all_goals(try(conv=>whnf))
 have hmax:l.length≤maxLen:=by simp only[maxLen];omega
 refine LoopWq.by (X:=Nat × Nat × List Ad) (fun x=>[(42,.vec B3 1 (strs x.2.2)),(5,.v (.int .i64 x.2.1)),(6,.v (.int .i64 x.1))])
  (fun x=>x.2.1<x.1∧x.1≤l.length∧x.2.2.length=l.length∧x.2.2.drop x.1=l.drop x.1∧x.2.2.take x.2.1=(l.take x.1).filter fun s=> !p s) (fun x=>l.length - x.1)
  (i0+1,i0,l) (by kernel_rfl) ⟨Nat.lt_succ_self _,hlt0,rfl,rfl,by
    rw[List.take_add_one,hb0,List.filter_append,hf0]
    simp[hbad0]⟩ ?_
 rintro⟨j,i,d⟩ ⟨h1,h2,h3,h4,h5⟩
 dsimp only at h1 h2 h3 h4 h5 ⊢
 by_cases hj:j<l.length
 case neg=>
  have hlt:¬decide ((j:Int)<((strs d).length:Int))=true:=by simp;omega
  have hle:(i:Int)≤((strs d).length:Int):=by simp;omega
  have hle0:Int.toNat (i:Int)≤(strs d).length:=by simp;omega
  rw[show l.take j=l from List.take_of_length_le (by omega)]at h5
  have hle2:(i:Int)≤(((strs d).take (i:Int).toNat++List.replicate ((strs d).length - (i:Int).toNat) (I.str [])).length:Int):=by
   simp only[List.length_append,List.length_take,List.length_replicate,List.length_map];omega
  repeat'((conv=>whnf);first|(apply aI<;>intro hb<;>first|exact absurd hb (by assumption)|((try rw[hb]);(try simp only[Aa]at hb)))|(refine eI ?_ ?_;focus (and_intros<;>first|omega|exact rfl|(simp;done)))|(intro hfact))
  all_goals(try(conv=>whnf))
  refine Done.mk ⟨congrArg (fun l=>SV.vec B3 1 l) ?_,by kernel_rfl⟩ (by kernel_rfl)
  rw[←h5,Int.toNat_natCast,List.take_append_of_le_length (by simp;omega),List.take_take,Nat.min_self]
  simp[strs]
 obtain⟨e,he⟩:∃e,l[j]?=some e:=⟨_,List.getElem?_eq_getElem hj⟩
 have hce:d[j]?=some e:=by
  have:=congrArg (fun q=>q[0]?) h4
  simp only[List.getElem?_drop,Nat.add_zero]at this
  rw[this,he]
 have hlt:¬decide ((j:Int)<((strs d).length:Int))=false:=by simp;omega
 have hgc:(strs d)[Int.toNat (j:Int)]?=some (.str e):=by simp[hce]
 have hh:=Kn (e:=B3) (sz:=1) hgc
 have hkl:Int.toNat (j:Int)<(strs d).length:=by simp;omega
 have hki:Int.toNat (i:Int)<(strs d).length:=by simp;omega
 obtain⟨y,hy⟩:∃y,d[i]?=some y:=⟨_,List.getElem?_eq_getElem (by omega)⟩
 have hgi:(strs d)[Int.toNat (i:Int)]?=some (.str y):=by simp[hy]
 have hhi:=Kn (e:=B3) (sz:=1) hgi
 have hround:l.length - (j+1)<l.length - j:=by omega
 have hwj:IntKind.i64.wrap ((j:Int)+1)=((j+1:Nat):Int):=(A5 (by omega)).trans (by omega)
 have hwi:IntKind.i64.wrap ((i:Int)+1)=((i+1:Nat):Int):=(A5 (by omega)).trans (by omega)
 have htk:((l.take (j+1)).filter fun s=> !p s)=((l.take j).filter fun s=> !p s)++[e].filter fun s=> !p s:=by rw[List.take_add_one,he,List.filter_append];rfl
 have hr:=Zj e c
 rw[show decide (e=c.name)=p e by rw[hp]]at hr
 cases hpe:p e with
 |false=>
  rw[hpe]at hr
  repeat'((conv=>whnf);first|(apply aI<;>intro hb<;>first|exact absurd hb (by first|assumption|decide)|((try rw[hb]);(try simp only[Aa]at hb)))|(refine eI ?_ ?_;focus (and_intros<;>first|omega|exact rfl|(simp;done)))|(intro hfact)|((try dsimp only);rw[hh])|((try dsimp only);rw[hhi])|(refine CallWp.mk ⟨_,hr,?_⟩;rintro _ _ ⟨rfl,rfl⟩))
  all_goals(try(conv=>whnf))
  refine Round.by (j+1,i+1,d.set i e) ?_ ⟨by dsimp only;omega,hj,by simp[h3],?_,?_⟩ hround
  ·have hput:strs (d.set i e)=putV (strs d) [Int.toNat (i:Int)] ((I.str []).put [] (.str e)):=by
    rw[Afe hgi,Int.toNat_natCast]
    simp only[strs,List.map_set]
    rfl
   dsimp only
   rw[hwj,hwi,hput]
   show norm _ _=upd _ _
   kernel_rfl
  ·dsimp only
   have:=congrArg (List.drop 1) h4
   rw[List.drop_set_of_lt (by omega)]
   simpa[List.drop_drop]using this
  ·dsimp only
   rw[htk, ←h5,List.take_add_one,List.getElem?_set_self (by omega),List.take_set_of_le (by omega)]
   simp[hpe]
 |true=>
  rw[hpe]at hr
  repeat'((conv=>whnf);first|(apply aI<;>intro hb<;>first|exact absurd hb (by assumption)|((try rw[hb]);(try simp only[Aa]at hb)))|(refine eI ?_ ?_;focus (and_intros<;>first|omega|exact rfl|(simp;done)))|(intro hfact)|((try dsimp only);rw[hh])|(refine CallWp.mk ⟨_,hr,?_⟩;rintro _ _ ⟨rfl,rfl⟩))
  all_goals(try(conv=>whnf))
  refine Round.by (j+1,i,d) ?_ ⟨by dsimp only;omega,hj,h3,?_,?_⟩ hround
  ·rw[hwj]
   show norm _ _=upd _ _
   kernel_rfl
  ·dsimp only
   have:=congrArg (List.drop 1) h4
   simpa[List.drop_drop]using this
  ·dsimp only
   rw[htk,h5]
   simp[hpe]

open Go.Proofs
def Acx:Stm:=(.seq (.ops [O1 (.box 3 1),gA 4 (cI 0)]) (.seq (.drw [[],[0],[1],[2],[],[4],[3,5],[6],[7],[7],[8,6,0,1,2,3,4,5,7],[9,10,0,1,2,3,4,5,6,7,8]] [gM 17 0,O1 (.nchk 18 17),gF 19 18 3,gL 20 19,gF 21 3 4,gL 22 21,.peek none (some 23) 91 [(false,20),(false,22),(false,(.c (.fn 34)))],gA 16 23,gE 24 16 0,gE 25 16 1,gA 5 24,gA 6 25]) (.seq (.seq (.ops [gF 26 3 3,gL 27 26]) (.block 0 (.seq (.ops [gB 29 .eql 27 (cI 9),gA 28 29]) (.cond 28 (.seq (.drw [[],[0],[1],[],[3],[2,4],[5],[6],[6],[],[9,7,5,0,1,2,3,4,6],[8,10,0,1,2,3,4,5,6,7,9]] [gM 31 0,O1 (.nchk 32 31),O1 (.loadB 33 true 4 32),gF 34 3 5,gL 35 34,.peek none (some 36) 14 [(false,33),(false,35)],gA 30 36,gE 37 30 0,gE 38 30 1,O1 (.alloc 7 (.one (.i (.agg [(.str []),(.int .i64 0),(.int .i64 0)])))),gS 3 7 37,gA 8 38]) (.seq (.block 1 (.seq (.ops [gF 40 3 4,gL 41 40,.call none (some 42) 70 [(false,41)],gT 43 42,gA 39 43]) (.cond 39 (.seq (.ops [gA 4 (cI 5)]) .ret) (.seq (.ops [gM 45 6,gA 44 45]) (.cond 44 (.seq (.ops [gA 4 (cI 15)]) .ret) (.seq (.ops [gM 47 8,gT 48 47,gA 46 48]) (.cond 46 (.seq (.ops [gA 4 (cI 16)]) .ret) (.seq (.ops [gM 50 0,O1 (.nchk 51 50),gF 52 51 3,gL 53 52,gN 54 53,gB 55 .geq 54 (cI 16),gA 49 55]) (.cond 49 (.seq (.ops [gA 4 (cI 17)]) .ret) .skip))))))))) (.seq (.drwL [[],[0],[1],[],[3],[],[5],[4,6]] [2,7] [gM 56 0,O1 (.nchk 57 56),gF 58 57 3,gF 59 3 4,gL 60 59,gF 61 3 5,gL 62 61,O1 (.build 63 [(.str []),(.str []),(.list [])] [(0,60),(1,62)])] (.inl (some 64) 197 92 [58,63,(.c (.fn 34))])) (.seq (.ops [gA 4 (cI 0)]) .ret)))) (.seq (.ops [gB 66 .eql 27 (cI 11),gA 65 66]) (.cond 65 (.seq (.ops [gF 67 3 10,gU 68 4 67,.call none (some 69) 71 [(false,68)],gT 70 69]) (.cond 70 (.seq (.ops [gA 4 (cI 1)]) .ret) .skip)) (.seq (.ops [gB 72 .eql 27 (cI 12),gA 71 72]) (.cond 71 (.seq (.ops [gF 73 3 10,gF 74 73 0,gU 75 2 74,.call none (some 76) 93 [(false,75)],gT 77 76]) (.cond 77 (.seq (.ops [gA 4 (cI 1)]) .ret) .skip)) .skip)))))))) (.seq (.seq (.ops [gM 78 6,gT 79 78]) (.cond 79 (.seq (.ops [gA 4 (cI 16)]) .ret) .skip)) (.seq (.ops [gM 80 0,O1 (.nchk 81 80),gF 82 81 3,gL 83 82,gM 84 5,gI 85 3 83 84,gA 9 85]) (.seq (.seq (.ops [gF 86 3 3,gL 87 86]) (.block 2 (.seq (.ops [gB 89 .eql 87 (cI 10),gA 88 89]) (.cond 88 (.seq (.ops [gM 90 0,gM 91 0,O1 (.nchk 92 91),gF 93 92 3,gL 94 93,gM 95 5,gM 96 5,gB 97 .add 96 (cI 1),.call none (some 98) 94 [(true,94),(false,95),(false,97)],O1 (.nchk 99 90),gF 100 99 3,gS 1 100 98]) (.seq (.ops [gM 101 0,O1 (.nchk 102 101),gF 103 102 2,gL 104 103,gN 105 104,gM 106 (cI 0)]) (.block 3 (.loop [10,21,26,86,107,108,109,110,111,112,113,114,115,116,117,118,119,120,121,122,123,124,125,126,180,184,190,194] (.seq (.ops [gB 107 .lss 106 105]) (.seq (.cond 107 .skip (.exit 3)) (.seq (.block 4 (.seq (.ops [gM 108 106,gA 10 108]) (.drw [[],[0],[1],[2],[],[],[5],[6],[7],[],[8,9],[10],[11],[],[12,13],[3,4,0,1,2,5,6,7,8,9,10,11,12,13,14],[15,0,1,2,3,4,5,6,7,8,9,10,11,12,13,14],[16,14,0,1,2,3,4,5,6,7,8,9,10,11,12,13]] [gM 109 0,O1 (.nchk 110 109),gF 111 110 2,gL 112 111,gM 113 10,gM 114 0,O1 (.nchk 115 114),gF 116 115 2,gL 117 116,gM 118 10,gI 119 5 117 118,gF 120 119 4,gL 121 120,O1 (.mkf 122 96 [3]),.call none (some 123) 95 [(true,121),(false,122)],gI 124 5 112 113,gF 125 124 4,gS 1 125 123]))) (.ops [gB 126 .add 106 (cI 1),gM 106 126])))))))) (.seq (.ops [gB 128 .eql 87 (cI 11),gA 127 128]) (.cond 127 (.seq (.block 5 (.seq (.drw [[],[0],[1],[2],[],[4],[3,5],[6]] [gM 130 9,O1 (.nchk 131 130),gF 132 131 2,gL 133 132,gF 134 3 10,gU 135 4 134,.peek none (some 136) 72 [(false,133),(false,135)],gA 129 136]) (.cond 129 (.seq (.ops [gA 4 (cI 15)]) .ret) (.seq (.ops [gM 138 9,O1 (.nchk 139 138),gF 140 139 2,gL 141 140,gN 142 141,gB 143 .geq 142 (cI 8),gA 137 143]) (.cond 137 (.seq (.ops [gA 4 (cI 17)]) .ret) .skip))))) (.drw [[],[],[1],[2],[3],[],[5],[6],[4,7],[0,1,2,3,4,5,6,7,8],[9,0,1,2,3,4,5,6,7,8],[10,8,0,1,2,3,4,5,6,7]] [gM 144 9,gM 145 9,O1 (.nchk 146 145),gF 147 146 2,gL 148 147,gF 149 3 10,gU 150 4 149,O1 (.bslD 151 36 4 (.agg [(.agg [(.str []),(.str [])]),(.bool false),(.bool false)]) 1 [(0,150)]),O1 (.app 152 36 4 40 148 151),O1 (.nchk 153 144),gF 154 153 2,gS 1 154 152])) (.seq (.ops [gB 156 .eql 87 (cI 12),gA 155 156]) (.cond 155 (.seq (.ops [gA 11 (.nils 36 4)]) (.seq (.seq (.ops [gM 157 9,O1 (.nchk 158 157),gF 159 158 2,gL 160 159,gN 161 160,gM 162 (cI 0)]) (.block 6 (.loop [13,15,21,26,86,163,164,165,166,167,168,169,170,171,172,173,174,175,176,177,178,179,180,181,182,183,184,185,186,187,188,189,190,194] (.seq (.ops [gB 163 .lss 162 161]) (.seq (.cond 163 .skip (.exit 6)) (.seq (.block 7 (.seq (.ops [gI 164 4 160 162,gU 165 4 164,O1 (.alloc 13 (.one (.i (.agg [(.agg [(.str []),(.str [])]),(.bool false),(.bool false)])))),gS 4 13 165]) (.seq (.ops [gF 166 13 0,gU 167 2 166,O1 (.bslD 168 34 2 (.agg [(.str []),(.str [])]) 1 [(0,167)]),gF 169 3 10,gF 170 169 0,gU 171 2 170,.call none (some 172) 97 [(false,168),(false,171)],gN 173 172,gM 174 (cI 0)]) (.block 8 (.loop [15,21,26,86,175,176,177,178,179,180,181,182,183,184,185,186,187,188,190,194] (.seq (.ops [gB 175 .lss 174 173]) (.seq (.cond 175 .skip (.exit 8)) (.seq (.block 9 (.seq (.ops [gI 176 2 172 174,gU 177 2 176,O1 (.alloc 15 (.one (.i (.agg [(.str []),(.str [])])))),gS 2 15 177]) (.seq (.ops [gU 178 2 15,gF 179 13 0,gS 2 179 178]) (.seq (.ops [gM 180 11,gU 181 4 13,.peek none (some 182) 72 [(false,180),(false,181)],gT 183 182]) (.cond 183 (.ops [O1 (.movD 184 11),gU 185 4 13,O1 (.bslD 186 36 4 (.agg [(.agg [(.str []),(.str [])]),(.bool false),(.bool false)]) 1 [(0,185)]),O1 (.app 187 36 4 40 184 186),O1 (.movD 11 187)]) .skip))))) (.ops [gB 188 .add 174 (cI 1),gM 174 188]))))))))) (.ops [gB 189 .add 162 (cI 1),gM 162 189]))))))) (.seq (.seq (.ops [gM 190 11,gN 191 190,gB 192 .gtr 191 (cI 8)]) (.cond 192 (.seq (.ops [gA 4 (cI 17)]) .ret) .skip)) (.ops [gM 193 9,O1 (.movD 194 11),O1 (.nchk 195 193),gF 196 195 2,gS 1 196 194])))) .skip)))))))) (.seq (.ops [gA 4 (cI 0)]) .ret)))))))
theorem Hg:OF 67 197 Acx [.t 4]:=oF Tryz.func67 rfl Tryz.ntmps67 (by kernel_rfl) (by kernel_rfl)

open Go.Proofs
abbrev Roll.toU (r:Roll):D:=.st [.it (.int .i64 r.rev),.vec Ax 3 ((r.tens.map Ten.toI).map D.it),.vec Ar 5 ((r.usrs.map Usr.toI).map D.it),.it (.list (r.rols.map Rol.toI))]
theorem Amg (r:Roll) (hs:r.Small):Fn Tryz.prog Dk [.v r.toI] (Is (.own [] r.toU) [.no]):=by
 refine(Dw r hs).part ?_
 rintro _ _ ⟨rfl,rfl⟩
 refine⟨[],_,r.toU,rfl,?_,rfl,rfl⟩
 simp only[Frz,Frzs,D.toI,true_and,and_true,B6]
 exact⟨Mu _,Mu _⟩
def Nk (n:Ad) (u:Usr):Usr:={u with roles:=u.roles.filter fun e=> !decide (e=n)}
def He (r:Roll) (c:Cmd):Roll × Int:=
 if r.rolAt c.name<0 then(r,16)
 else({r with rev:=r.rev+1,rols:=r.rols.take (r.rolAt c.name).toNat++r.rols.drop ((r.rolAt c.name).toNat+1),usrs:=r.usrs.map (Nk c.name)},0)
def Ee (n:Ad) (l:List Usr) (k:Nat):List Usr:=(l.take k).map (Nk n)++l.drop k
theorem Abq {n:Ad} {l:List Usr} {k:Nat} {u:Usr} (h:l[k]?=some u):(Ee n l k)[k]?=some u:=by
 have hk:=(List.getElem?_eq_some_iff.1 h).1
 unfold Ee
 rw[List.getElem?_append_right (by simp;omega)]
 simp[Nat.min_eq_left (Nat.le_of_lt hk),h]
theorem Abr {n:Ad} {l:List Usr} {k:Nat} {u:Usr} (h:l[k]?=some u):(Ee n l k).set k (Nk n u)=Ee n l (k+1):=by
 have hk:=(List.getElem?_eq_some_iff.1 h).1
 have hu:l[k]=u:=by rw[List.getElem?_eq_getElem hk]at h;simpa using h
 unfold Ee
 rw[List.set_append_right _ _ (by simp;omega)]
 simp only[List.length_map,List.length_take,Nat.min_eq_left (Nat.le_of_lt hk),Nat.sub_self]
 rw[List.drop_eq_getElem_cons hk,List.set_cons_zero,List.take_add_one,h]
 simp
theorem Vj {n:Ad} {l:List Usr} {k:Nat}:(Ee n l k).length=l.length:=by
 unfold Ee;simp;omega
theorem Abp {n:Ad} {l:List Usr}:Ee n l l.length=l.map (Nk n):=by
 unfold Ee;simp
theorem Agn (r:Roll) (hs:r.Small) (c:Cmd) (hrev: -9223372036854775808≤r.rev∧r.rev<1099511627776) (hk:c.kind=10):Fn Tryz.prog Ba [.v r.toI,.v c.toI] (Is (.tup [.i (He r c).1.toI,.i (.int .i64 (He r c).2)]) [.no,.no]):=by
 refine Fn.isF (x:=[(He r c).1.toI,.int .i64 (He r c).2]) ?_
 refine A9 ?_ (by simp)
 have cp:=Amg r hs
 have hw:IntKind.i64.wrap (r.rev+1)=r.rev+1:=A5 (by omega)
 have hb1:=hs.hT
 have hb2:=hs.hU
 have hb3:=hs.hX
 have t1:=Bn r c.other (by omega)
 have u1:=Cg r c.name (by omega)
 have x1:=Ca r c.name (by omega)
 rcases Cv (fun t:Rol=>decide (t.name=c.name)) 0 r.rols with h|⟨j,h,hj,x,hju,hun⟩
 ·have h':r.rolAt c.name= -1:=h
  rw[h']at x1
  repeat'((conv=>whnf);first|(apply aI<;>intro hb<;>first|exact absurd hb (by decide)|(exfalso;simp only[Ag]at hb<;>omega)|((try rw[hb]);(try simp only[Aa]at hb)))|(refine eI ?_ ?_;focus (and_intros<;>first|exact rfl|(intro _ hh;cases hh;done)|(simp;done)|decide))|((with_reducible apply Drawn.by0);(focus kernel_rfl);intro hfact;(try simp only[dRS]at hfact))|(refine CallWp.mk ⟨_,cp,?_⟩;rintro _ _ ⟨rfl,rfl⟩)|((try dsimp only);rw[hw])|(refine CallIs.mk ⟨_,_,t1,?_⟩)|(refine CallIs.mk ⟨_,_,u1,?_⟩)|(refine CallIs.mk ⟨_,_,x1,?_⟩))
  all_goals(try(conv=>whnf))
  all_goals(refine Done.mk ⟨?_,by kernel_rfl⟩ (by kernel_rfl))
  all_goals(try simp only[He,h'])
  all_goals(try simp only[He,h', *,if_true,if_false,Bool.false_eq_true,Bool.true_eq_false,Bool.not_true,Bool.not_false,decide_true,decide_false,not_true_eq_false,not_false_eq_true,ne_eq,reduceIte])
  all_goals(try simp only[resD,Bu,I.put,List.replicate_succ,List.replicate_zero,toIs,D.toI,Aj,Bf,List.map_cons,List.map_nil,List.set_cons_zero,List.set_cons_succ,mkSt,A1,List.map_set,Int.toNat_natCast])
  all_goals(try rfl)
 ·have h':r.rolAt c.name=(j:Int):=by rw[show r.rolAt c.name=((0+j:Nat):Int)from h,Nat.zero_add]
  rw[h']at x1
  have hw1:IntKind.i64.wrap ((j:Int)+1)=((j+1:Nat):Int):=Ae hj (by simp only[maxLen];omega)
  repeat'((conv=>whnf);first|(apply aI<;>intro hb<;>first|exact absurd hb (by decide)|(exfalso;simp only[Ag]at hb<;>omega)|((try rw[hb]);(try simp only[Aa]at hb)))|(refine eI ?_ ?_;focus (and_intros<;>first|omega|exact rfl|(intro _ hh;cases hh;done)|exact size_map (fun _=>rfl)|exact take_size (fun _=>rfl)|(simp only[Ag];omega)|(simp;done)|decide))|((with_reducible apply Drawn.by0);(focus kernel_rfl);intro hfact;(try simp only[dRS]at hfact))|(refine CallWp.mk ⟨_,cp,?_⟩;rintro _ _ ⟨rfl,rfl⟩)|((try dsimp only);rw[hw])|(refine CallIs.mk ⟨_,_,t1,?_⟩)|(refine CallIs.mk ⟨_,_,u1,?_⟩)|(refine CallIs.mk ⟨_,_,x1,?_⟩)|((try dsimp only);rw[hw1]))
  all_goals(try(conv=>whnf))
  obtain⟨RL,hRL⟩:∃RL:List I,RL=([]++List.drop (Int.toNat 0) (List.take (Int.toNat (j:Int)) (r.rols.map Rol.toI))++List.drop (Int.toNat ((j+1:Nat):Int)) (List.take (Int.toNat ((r.rols.map Rol.toI).length:Int)) (r.rols.map Rol.toI))):=⟨_,rfl⟩
  refine LoopWq.by (X:=Nat) (fun k=>[(6,.own [] (.ptr (.st [.it (.int .i64 (r.rev+1)),.vec Ax 3 ((r.tens.map Ten.toI).map D.it),.vec Ar 5 (((Ee c.name r.usrs k).map Usr.toI).map D.it),.vec Aq 3 (RL.map D.it)]))),(12,.v (.int .i64 k))]) (fun k=>k≤r.usrs.length) (fun k=>r.usrs.length - k)
   0 (by rw[hRL];kernel_rfl) (Nat.zero_le _) ?_
  ·intro k hkl
   have hpl:=@Vj c.name r.usrs k
   rcases Nat.lt_or_ge k r.usrs.length with hlt|hge
   ·obtain⟨u,hu⟩:∃u,r.usrs[k]?=some u:=⟨_,List.getElem?_eq_getElem hlt⟩
    have hul:=hs.hR u (List.mem_of_getElem? hu)
    have hpg:=@Abq c.name r.usrs k u hu
    have g2:=Vt u.roles c.name (by omega)
    have hps:=@Abr c.name r.usrs k u hu
    obtain⟨U,hU⟩:∃U,U=Ee c.name r.usrs k:=⟨_,rfl⟩
    rw[←hU]at hpl hpg hps ⊢
    repeat'((conv=>whnf);first|(apply aI<;>intro hb<;>first|(exfalso;simp only[Ag]at hb<;>omega)|((try rw[hb]);(try simp only[Aa]at hb)))|(refine eI ?_ ?_;focus (and_intros<;>first|omega|exact rfl|(intro _ hh;cases hh;done)|(simp only[Ag];omega)|(simp;done)|decide))|(intro hfact)|((with_reducible apply Drawn.by0);(focus kernel_rfl);intro hfact;(try simp only[dRS]at hfact))|(refine CallIs.mk ⟨_,_,g2,?_⟩)|((first|with_reducible apply Eo|((with_reducible apply Bm);(focus rfl)));(focus (simp only[D.at,D.put,D.kid,D.setKid,List.cons_append,List.nil_append,List.append,List.getElem?_cons_zero,List.getElem?_cons_succ,Int.toNat_natCast,List.getElem?_set_self',Option.map_eq_map,Option.map_some,List.set_cons_zero,List.set_cons_succ,List.set_set,Function.const_apply,List.map_cons,List.map_nil,mkSt,A1,D.toI,toIs,Aj,List.getElem?_map,List.length_map,List.length_set,hpg]<;>exact rfl));(try(focus exact rfl))))
    all_goals(try(conv=>whnf))
    refine Round.by (k+1) ?_ (by omega) (by omega)
    have hwk:IntKind.i64.wrap ((k:Int)+1)=((k+1:Nat):Int):=Ae hlt (by simp only[maxLen];omega)
    try dsimp only
    rw[hwk, ←hps,List.map_set,List.map_set]
    show norm _ _=upd _ _
    kernel_rfl
   ·have:k=r.usrs.length:=by omega
    subst this
    repeat'((conv=>whnf);first|(apply aI<;>intro hb<;>first|(exfalso;simp only[Ag]at hb<;>omega)|((try rw[hb]);(try simp only[Aa]at hb)))|(refine eI ?_ ?_;focus (and_intros<;>first|omega|exact rfl|(simp;done)))|(intro hfact))
    all_goals(try(conv=>whnf))
    rw[Abp]
    simp only[Int.toNat_natCast, ←List.map_take, ←List.map_drop, ←List.map_append,List.nil_append,List.length_map,List.take_length,List.drop_zero,Int.toNat_zero]at hRL
    subst hRL
    all_goals(refine Done.mk ⟨?_,by kernel_rfl⟩ (by kernel_rfl))
    all_goals(try simp only[He,h'])
    all_goals(try simp only[He,h', *,if_true,if_false,Bool.false_eq_true,Bool.true_eq_false,Bool.not_true,Bool.not_false,decide_true,decide_false,not_true_eq_false,not_false_eq_true,ne_eq,reduceIte])
    all_goals(try simp only[resD,Bu,I.put,List.replicate_succ,List.replicate_zero,toIs,D.toI,Aj,Bf,List.map_cons,List.map_nil,List.set_cons_zero,List.set_cons_succ,mkSt,A1, ←List.map_take, ←List.map_drop, ←List.map_append, ←List.map_set,List.nil_append,List.length_map,List.take_length,List.drop_zero,Int.toNat_zero,Int.toNat_natCast,Roll.toI])
    all_goals(try simp only[Roll.toI])
    all_goals(try rfl)
set_option maxHeartbeats 8000000

open Go.Proofs
def ins (s:Ad):List Ad→List Ad
 | []=>[s]
 |x::r=>if s<x then s::x::r else if x=s then x::r else x::ins s r
def pstep (s:Ad) (o:List Ad × Bool) (x:Ad):List Ad × Bool:=
 if o.2=false∧s<x then(o.1++[s]++[x],true)else if x=s then(o.1++[x],true)else(o.1++[x],o.2)
theorem Tz (s:Ad):∀(l out:List Ad),l.foldl (pstep s) (out,true)=(out++l,true)
 | [],out=>by simp
 |x::r,out=>by
  rw[List.foldl_cons]
  have:pstep s (out,true) x=(out++[x],true):=by simp[pstep]
  rw[this,Tz s r]
  simp
def pend (s:Ad) (o:List Ad × Bool):List Ad:=if o.2=true then o.1 else o.1++[s]
theorem Abu (s:Ad):∀(l out:List Ad),pend s (l.foldl (pstep s) (out,false))=out++ins s l
 | [],out=>by simp[pend,ins]
 |x::r,out=>by
  rw[List.foldl_cons,ins]
  by_cases h1:s<x
  ·have:pstep s (out,false) x=(out++[s]++[x],true):=by simp[pstep,h1]
   rw[this,Tz,if_pos h1]
   simp[pend]
  ·by_cases h2:x=s
   ·have:pstep s (out,false) x=(out++[x],true):=by simp[pstep,h1,h2]
    rw[this,Tz,if_neg h1,if_pos h2]
    simp[pend]
   ·have:pstep s (out,false) x=(out++[x],false):=by simp[pstep,h1,h2]
    rw[this,Abu s r,if_neg h1,if_neg h2]
    simp
theorem Ln (s:Ad):∀l:List Ad,(ins s l).length≤l.length+1
 | []=>by simp[ins]
 |x::r=>by
  unfold ins
  have:=Ln s r
  split
  ·simp
  ·split
   ·simp
   ·simp;omega
theorem Ace (l:List Ad) (s:Ad) (hl:l.length≤10000):Fn Tryz.prog Sz [.v (.list (strs l)),.v (.str s)] (Is (.vec 9 1 (strs (ins s l))) [.no,.no]):=by
 refine Q5 ?_ (by simp)
 have hm:l.length≤maxLen:=by simp only[maxLen];omega
 have hins:=Abu s l []
 rw[List.nil_append]at hins
 repeat'((conv=>whnf);(refine eI ?_ ?_;focus (and_intros<;>omega)))
 all_goals(try(conv=>whnf))
 refine LoopWq.by (X:=Nat × List Ad × Bool) (fun x=>[(5,.vec 9 1 (strs x.2.1)),(6,.v (.bool x.2.2)),(7,.v (.int .i64 x.1))]) (fun x=>x.1≤l.length∧x.2=(l.take x.1).foldl (pstep s) ([],false)∧x.2.1.length≤2*x.1) (fun x=>l.length - x.1)
  (0,[],false) (by kernel_rfl) ⟨Nat.zero_le _,rfl,Nat.le_refl _⟩ ?_
 rintro⟨k,out,dn⟩ ⟨h1,h2,h3⟩
 dsimp only at h1 h2 h3 ⊢
 by_cases hk:k<l.length
 case neg=>
  have hlt:¬decide ((k:Int)<((strs l).length:Int))=true:=by simp;omega
  rw[show l.take k=l from List.take_of_length_le (by omega)]at h2
  rw[←h2]at hins
  have hb1:((strs out).length+[I.str s].length)*16≤140737488355328:=by simp;omega
  have hb2:(strs out).length+[I.str s].length≤maxLen:=by simp[maxLen];omega
  have hb3:∀u∈[I.str s],u.size=1:=by simp[I.size]
  cases dn with
  |true=>
   have hi:ins s l=out:=by rw[←hins];rfl
   rw[hi]
   repeat'((conv=>whnf);first|(apply aI<;>intro hb<;>first|exact absurd hb (by first|assumption|decide)|((try rw[hb]);(try simp only[Aa]at hb)))|(refine eI ?_ ?_;focus (and_intros<;>first|omega|exact rfl|(simp;done)))|(intro hfact))
   all_goals(try(conv=>whnf))
   exact Done.mk ⟨rfl,by kernel_rfl⟩ (by kernel_rfl)
  |false=>
   have hi:ins s l=out++[s]:=by rw[←hins];rfl
   rw[hi]
   repeat'((conv=>whnf);first|(apply aI<;>intro hb<;>first|exact absurd hb (by first|assumption|decide)|((try rw[hb]);(try simp only[Aa]at hb)))|(refine eI ?_ ?_;focus (and_intros<;>first|omega|exact rfl|assumption|(simp;done)))|(intro hfact))
   all_goals(try(conv=>whnf))
   refine Done.mk ⟨congrArg (fun l=>SV.vec 9 1 l) ?_,by kernel_rfl⟩ (by kernel_rfl)
   simp[strs]
 obtain⟨e,he⟩:∃e,l[k]?=some e:=⟨_,List.getElem?_eq_getElem hk⟩
 have hg:(strs l)[Int.toNat (k:Int)]?=some (.str e):=Nj he
 have hlt:¬decide ((k:Int)<((strs l).length:Int))=false:=by simp[hk]
 have hround:l.length - (k+1)<l.length - k:=by omega
 have hsucc:(l.take (k+1)).foldl (pstep s) ([],false)=pstep s (out,dn) e:=by
  rw[List.take_add_one,he,List.foldl_append, ←h2]
  rfl
 have hb1:∀u:I,((strs out).length+[u].length)*16≤140737488355328:=fun u=>by simp;omega
 have hb2:∀u:I,(strs out).length+[u].length≤maxLen:=fun u=>by simp[maxLen];omega
 have hb3:∀t:Ad,∀u∈[I.str t],u.size=1:=by simp[I.size]
 have hso:(strs out++[I.str s]).length=out.length+1:=by rw[List.length_append,List.length_map];rfl
 have f1:((strs out++[I.str s]).length+[I.str e].length)*16≤140737488355328:=by
  rw[hso]
  show(out.length+1+1)*16≤140737488355328
  omega
 have f2:(strs out++[I.str s]).length+[I.str e].length≤maxLen:=by
  rw[hso]
  show out.length+1+1≤9223372036854775807
  omega
 have e1:=hb1 (.str e)
 have e2:=hb2 (.str e)
 have e3:=hb3 e
 have s1:=hb1 (.str s)
 have s2:=hb2 (.str s)
 have s3:=hb3 s
 have hap1:strs out++[I.str e]=strs (out++[e]):=by simp
 have hap2:strs out++[I.str s]++[I.str e]=strs (out++[s]++[e]):=by simp
 by_cases c1:dn=false∧s<e
 ·obtain⟨rfl,c1⟩:=c1
  have n1:¬Op.bytesLess s e=false:=by simp[Cu,c1]
  have n2:¬decide (e=s)=true:=by simp;grind
  rw[show pstep s (out,false) e=(out++[s]++[e],true)from by simp[pstep,c1]]at hsucc
  repeat'((conv=>whnf);first|(apply aI<;>intro hb<;>first|exact absurd hb (by first|assumption|decide)|((try rw[hb]);(try simp only[Aa]at hb)))|(refine eI ?_ ?_;focus (and_intros<;>first|omega|exact rfl|assumption|(simp;done)))|(intro hfact)|((try dsimp only);rw[hg]))
  all_goals(try(conv=>whnf))
  refine Round.by (k+1,out++[s]++[e],true) ?_ ⟨hk,hsucc.symm,by simp;omega⟩ hround
  dsimp only
  rw[Ae hk hm, ←hap2]
  show norm _ _=upd _ _
  kernel_rfl
 by_cases c2:e=s
 ·have n2:¬decide (e=s)=false:=by simp[c2]
  rw[show pstep s (out,dn) e=(out++[e],true)from by unfold pstep;rw[if_neg c1,if_pos c2]]at hsucc
  have n1:¬Op.bytesLess s e=true:=by simp[Cu,c2]
  cases dn with
  |true=>
   repeat'((conv=>whnf);first|(apply aI<;>intro hb<;>first|exact absurd hb (by first|assumption|decide)|((try rw[hb]);(try simp only[Aa]at hb);(try subst hb)))|(refine eI ?_ ?_;focus (and_intros<;>first|omega|exact rfl|assumption|(simp;done)))|(intro hfact)|((try dsimp only);rw[hg]))
   all_goals(try(conv=>whnf))
   refine Round.by (k+1,out++[e],true) ?_ ⟨hk,hsucc.symm,by simp;omega⟩ hround
   dsimp only
   rw[Ae hk hm, ←hap1]
   show norm _ _=upd _ _
   kernel_rfl
  |false=>
   repeat'((conv=>whnf);first|(apply aI<;>intro hb<;>first|exact absurd hb (by first|assumption|decide)|((try rw[hb]);(try simp only[Aa]at hb);(try subst hb)))|(refine eI ?_ ?_;focus (and_intros<;>first|omega|exact rfl|assumption|(simp;done)))|(intro hfact)|((try dsimp only);rw[hg]))
   all_goals(try(conv=>whnf))
   refine Round.by (k+1,out++[e],true) ?_ ⟨hk,hsucc.symm,by simp;omega⟩ hround
   dsimp only
   rw[Ae hk hm, ←hap1]
   show norm _ _=upd _ _
   kernel_rfl
 ·have n2:¬decide (e=s)=true:=by simp[c2]
  rw[show pstep s (out,dn) e=(out++[e],dn)from by unfold pstep;rw[if_neg c1,if_neg c2]]at hsucc
  cases dn with
  |true=>
   repeat'((conv=>whnf);first|(apply aI<;>intro hb<;>first|exact absurd hb (by first|assumption|decide)|((try rw[hb]);(try simp only[Aa]at hb)))|(refine eI ?_ ?_;focus (and_intros<;>first|omega|exact rfl|assumption|(simp;done)))|(intro hfact)|((try dsimp only);rw[hg]))
   all_goals(try(conv=>whnf))
   refine Round.by (k+1,out++[e],true) ?_ ⟨hk,hsucc.symm,by simp;omega⟩ hround
   dsimp only
   rw[Ae hk hm, ←hap1]
   show norm _ _=upd _ _
   kernel_rfl
  |false=>
   have n1:¬Op.bytesLess s e=true:=by simp[Cu];exact fun h=>c1 ⟨rfl,h⟩
   repeat'((conv=>whnf);first|(apply aI<;>intro hb<;>first|exact absurd hb (by first|assumption|decide)|((try rw[hb]);(try simp only[Aa]at hb)))|(refine eI ?_ ?_;focus (and_intros<;>first|omega|exact rfl|assumption|(simp;done)))|(intro hfact)|((try dsimp only);rw[hg]))
   all_goals(try(conv=>whnf))
   refine Round.by (k+1,out++[e],false) ?_ ⟨hk,hsucc.symm,by simp;omega⟩ hround
   dsimp only
   rw[Ae hk hm, ←hap1]
   show norm _ _=upd _ _
   kernel_rfl
set_option maxHeartbeats 4000000

open Go.Proofs
def estep (E:List Ad) (s:Sp):List Ad:=if Bj s then ins s.t (ins s.f E)else E
def C0 (l:List Sp):List Ad:=l.foldl estep [[]]
theorem Aed (E:List Ad) (s:Sp):(estep E s).length≤E.length+2:=by
 unfold estep
 split
 ·exact Nat.le_trans (Ln _ _) (Nat.add_le_add_right (Ln _ _) 1)
 ·omega
theorem Aj5 {l:List Sp} {k:Nat} {e:Sp} (he:l[k]?=some e):C0 (l.take (k+1))=estep (C0 (l.take k)) e:=by
 unfold C0
 rw[List.take_add_one,he,List.foldl_append]
 rfl
theorem Ms (l:List Sp):(C0 l).length≤1+2*l.length:=by
 have:∀(l:List Sp) (E:List Ad),(l.foldl estep E).length≤E.length+2*l.length:=by
  intro l
  induction l with
  |nil=>intro E;simp
  |cons s r ih=>
   intro E
   have h1:=ih (estep E s)
   have h2:=Aed E s
   simp only[List.foldl_cons,List.length_cons]
   omega
 exact this l [[]]
theorem Amp (l:List Sp) (hl:l.length≤1000):Fn Tryz.prog Ri [.v (.list (sps l))] (Is (.v (.list (strs (C0 l)))) [.no]):=by
 refine Qw ?_ (by simp)
 have hm:l.length≤maxLen:=by simp only[maxLen];omega
 repeat'((conv=>whnf);(refine eI ?_ ?_;focus (and_intros<;>first|omega|exact rfl|exact A0 (by rfl))))
 all_goals(try(conv=>whnf))
 refine LoopWq.by (X:=Nat) (fun x=>[(3,.vec 9 1 (strs (C0 (l.take x)))),(4,.v (.int .i64 x))]) (fun x=>x≤l.length) (fun x=>l.length - x)
  0 (by rw[List.take_zero];kernel_rfl) (Nat.zero_le _) ?_
 intro k h1
 have hEl:(C0 (l.take k)).length≤3000:=by have:=Ms (l.take k);rw[List.length_take]at this;omega
 by_cases hk:k<l.length
 case neg=>
  have hlt:¬decide ((k:Int)<((sps l).length:Int))=true:=by simp;omega
  rw[show l.take k=l from List.take_of_length_le (by omega)]
  repeat'((conv=>whnf);first|(apply aI<;>intro hb<;>first|exact absurd hb (by assumption)|((try rw[hb]);(try simp only[Aa]at hb)))|(refine eI ?_ ?_;focus (and_intros<;>first|omega|exact rfl|(simp;done)))|(intro hfact))
  all_goals(try(conv=>whnf))
  exact Done.mk ⟨rfl,by kernel_rfl⟩ (by kernel_rfl)
 obtain⟨e,he⟩:∃e,l[k]?=some e:=⟨_,List.getElem?_eq_getElem hk⟩
 have hg:(sps l)[Int.toNat (k:Int)]?=some e.toI:=J8 he
 have hlt:¬decide ((k:Int)<((sps l).length:Int))=false:=by simp[hk]
 have hround:l.length - (k+1)<l.length - k:=by omega
 have hs:=Aj5 he
 obtain⟨E,hE⟩:∃E,E=C0 (l.take k):=⟨_,rfl⟩
 rw[←hE]at hs hEl ⊢
 have hp1:=Ace E e.f (by omega)
 have hp2:=Ace (ins e.f E) e.t (by have:=Ln e.f E;omega)
 by_cases hr:Bj e
 ·have n1:¬decide (Bj e)=false:=by simp[hr]
  rw[estep,if_pos hr]at hs
  repeat'((conv=>whnf);first|(apply aI<;>intro hb<;>first|exact absurd hb (by assumption)|((try rw[hb]);(try simp only[Aa]at hb)))|(refine eI ?_ ?_;focus (and_intros<;>first|omega|exact rfl|(intro _ hh;cases hh;done)|(simp;done)|decide))|(intro hfact)|((with_reducible apply Drawn.by0);(focus kernel_rfl);intro hfact;(try simp only[dRS]at hfact))|((try dsimp only);rw[hg])|(refine CallWp.mk ⟨_,Cy _,?_⟩;rintro _ _ ⟨rfl,rfl⟩)|(refine CallIs.mk ⟨_,_,hp1,?_⟩)|(refine CallIs.mk ⟨_,_,hp2,?_⟩))
  all_goals(try(conv=>whnf))
  refine Round.by (k+1) ?_ hk hround
  rw[Ae hk hm,hs]
  show norm _ _=upd _ _
  kernel_rfl
 ·have n1:¬decide (Bj e)=true:=by simp[hr]
  rw[estep,if_neg hr]at hs
  repeat'((conv=>whnf);first|(apply aI<;>intro hb<;>first|exact absurd hb (by assumption)|((try rw[hb]);(try simp only[Aa]at hb)))|(refine eI ?_ ?_;focus (and_intros<;>first|omega|exact rfl|(intro _ hh;cases hh;done)|(simp;done)|decide))|(intro hfact)|((try dsimp only);rw[hg])|(refine CallWp.mk ⟨_,Cy _,?_⟩;rintro _ _ ⟨rfl,rfl⟩))
  all_goals(try(conv=>whnf))
  refine Round.by (k+1) ?_ hk hround
  rw[Ae hk hm,hs]
  show norm _ _=upd _ _
  kernel_rfl
def mstep (o:List Sp × Bool) (p:Ad × Bool):List Sp × Bool:=
 if p.2=true then(if o.2=true then(o.1,true)else(o.1++[⟨p.1,[]⟩],true))
 else(if o.2=true then(match o.1.getLast? with
  |some s=>o.1.set (o.1.length - 1) ⟨s.f,p.1⟩
  |none=>o.1,false)else(o.1,false))
def Tn (E:List Ad) (H:List Bool):List Sp:=((E.zip H).foldl mstep ([],false)).1
abbrev bools (H:List Bool):List I:=H.map I.bool
theorem Am3 {H:List Bool} {k:Nat} {e:Bool} (h:H[k]?=some e):(bools H)[k]?=some (.bool e):=by simp[h]
theorem Ao6 (E:List Ad) (H:List Bool) (hEH:H.length=E.length) (hl:E.length≤5000):Fn Tryz.prog Rj [.v (.list (strs E)),.v (.list (bools H))] (Is (.v (.list (sps (Tn E H)))) [.no,.no]):=by
 refine Qy ?_ (by simp)
 have hm:E.length≤maxLen:=by simp only[maxLen];omega
 have hzl:(E.zip H).length=E.length:=by rw[List.length_zip];omega
 repeat'((conv=>whnf);(refine eI ?_ ?_;focus (and_intros<;>omega)))
 all_goals(try(conv=>whnf))
 refine LoopWq.by (X:=Nat × List Sp × Bool) (fun x=>[(5,.vec 34 2 (sps x.2.1)),(6,.v (.bool x.2.2)),(7,.v (.int .i64 x.1))])
  (fun x=>x.1≤E.length∧x.2=((E.zip H).take x.1).foldl mstep ([],false)∧x.2.1.length≤x.1∧(x.2.2=true→x.2.1≠[])) (fun x=>E.length - x.1)
  (0,[],false) (by kernel_rfl) ⟨Nat.zero_le _,rfl,Nat.le_refl _,by simp⟩ ?_
 rintro⟨k,out,op⟩ ⟨h1,h2,h3,h4⟩
 dsimp only at h1 h2 h3 h4 ⊢
 by_cases hk:k<E.length
 case neg=>
  have hlt:¬decide ((k:Int)<((strs E).length:Int))=true:=by simp;omega
  rw[List.take_of_length_le (by omega)]at h2
  have hout:Tn E H=out:=by unfold Tn;rw[←h2]
  rw[hout]
  repeat'((conv=>whnf);first|(apply aI<;>intro hb<;>first|exact absurd hb (by assumption)|((try rw[hb]);(try simp only[Aa]at hb)))|(refine eI ?_ ?_;focus (and_intros<;>first|omega|exact rfl|(simp;done)))|(intro hfact))
  all_goals(try(conv=>whnf))
  exact Done.mk ⟨rfl,by kernel_rfl⟩ (by kernel_rfl)
 obtain⟨e,he⟩:∃e,E[k]?=some e:=⟨_,List.getElem?_eq_getElem hk⟩
 obtain⟨b,hb0⟩:∃b,H[k]?=some b:=⟨_,List.getElem?_eq_getElem (by omega)⟩
 have hg:(strs E)[Int.toNat (k:Int)]?=some (.str e):=Nj he
 have hgb:(bools H)[Int.toNat (k:Int)]?=some (.bool b):=Am3 hb0
 have hlt:¬decide ((k:Int)<((strs E).length:Int))=false:=by simp[hk]
 have hround:E.length - (k+1)<E.length - k:=by omega
 have hsucc:((E.zip H).take (k+1)).foldl mstep ([],false)=mstep (out,op) (e,b):=by
  have hz:(E.zip H)[k]?=some (e,b):=by simp[List.getElem?_zip_eq_some,he,hb0]
  rw[List.take_add_one,hz,List.foldl_append, ←h2]
  rfl
 have e1:((sps out).length+[(⟨e,[]⟩:Sp).toI].length)*32≤140737488355328:=by
  rw[List.length_map]
  show(out.length+1)*32≤140737488355328
  omega
 have e2:(sps out).length+[(⟨e,[]⟩:Sp).toI].length≤maxLen:=by
  rw[List.length_map]
  show out.length+1≤9223372036854775807
  omega
 have e3:∀u∈[(⟨e,[]⟩:Sp).toI],u.size=2:=J9 [⟨e,[]⟩]
 have hap:sps out++[(⟨e,[]⟩:Sp).toI]=sps (out++[⟨e,[]⟩]):=by simp
 cases b with
 |true=>
  cases op with
  |true=>
   rw[show mstep (out,true) (e,true)=(out,true)from rfl]at hsucc
   repeat'((conv=>whnf);first|(apply aI<;>intro hb<;>first|exact absurd hb (by first|assumption|decide)|((try rw[hb]);(try simp only[Aa]at hb)))|(refine eI ?_ ?_;focus (and_intros<;>first|omega|exact rfl))|(intro hfact)|((try dsimp only);rw[hgb]))
   all_goals(try(conv=>whnf))
   refine Round.by (k+1,out,true) ?_ ⟨hk,hsucc.symm,by dsimp only;omega,h4⟩ hround
   dsimp only
   rw[Ae hk hm]
   show norm _ _=upd _ _
   kernel_rfl
  |false=>
   rw[show mstep (out,false) (e,true)=(out++[⟨e,[]⟩],true)from rfl]at hsucc
   repeat'((conv=>whnf);first|(apply aI<;>intro hb<;>first|exact absurd hb (by first|assumption|decide)|((try rw[hb]);(try simp only[Aa]at hb)))|(refine eI ?_ ?_;focus (and_intros<;>first|omega|exact rfl|assumption|(simp;done)))|(intro hfact)|((try dsimp only);rw[hg])|((try dsimp only);rw[hgb]))
   all_goals(try(conv=>whnf))
   refine Round.by (k+1,out++[⟨e,[]⟩],true) ?_ ⟨hk,hsucc.symm,by simp;omega,by simp⟩ hround
   dsimp only
   rw[Ae hk hm, ←hap]
   show norm _ _=upd _ _
   kernel_rfl
 |false=>
  cases op with
  |false=>
   rw[show mstep (out,false) (e,false)=(out,false)from rfl]at hsucc
   repeat'((conv=>whnf);first|(apply aI<;>intro hb<;>first|exact absurd hb (by first|assumption|decide)|((try rw[hb]);(try simp only[Aa]at hb)))|(refine eI ?_ ?_;focus (and_intros<;>first|omega|exact rfl))|(intro hfact)|((try dsimp only);rw[hgb]))
   all_goals(try(conv=>whnf))
   refine Round.by (k+1,out,false) ?_ ⟨hk,hsucc.symm,by dsimp only;omega,by simp⟩ hround
   dsimp only
   rw[Ae hk hm]
   show norm _ _=upd _ _
   kernel_rfl
  |true=>
   rcases List.eq_nil_or_concat out with rfl|⟨o,lst,ho⟩
   ·exact absurd rfl (h4 rfl)
   rw[List.concat_eq_append]at ho
   subst ho
   have hol:(sps (o++[lst])).length=o.length+1:=by simp
   rw[show mstep (o++[lst],true) (e,false)=(o++[⟨lst.f,e⟩],false)from by simp[mstep]]at hsucc
   have hw:IntKind.i64.wrap (((sps (o++[lst])).length:Int) - 1)=(o.length:Int):=by
    rw[hol]
    exact(A5 (by simp at h3;omega)).trans (by omega)
   have h0:0≤IntKind.i64.wrap (((sps (o++[lst])).length:Int) - 1):=by rw[hw];omega
   have hlt2:Int.toNat (IntKind.i64.wrap (((sps (o++[lst])).length:Int) - 1))<(sps (o++[lst])).length:=by rw[hw,hol];omega
   have hgl:(sps (o++[lst]))[Int.toNat (IntKind.i64.wrap (((sps (o++[lst])).length:Int) - 1))]?=some lst.toI:=by
    rw[hw]
    simp
   have hhl:=Aqu (e:=34) hgl
   have hput:putV (sps (o++[lst])) ([Int.toNat (IntKind.i64.wrap (((sps (o++[lst])).length:Int) - 1))]++[1]) (.str e)=sps (o++[⟨lst.f,e⟩]):=by
    rw[Aqw hgl,hw]
    simp
   repeat'((conv=>whnf);first|(apply aI<;>intro hb<;>first|exact absurd hb (by first|assumption|decide)|((try rw[hb]);(try simp only[Aa]at hb)))|(refine eI ?_ ?_;focus (and_intros<;>first|omega|exact rfl|(simp;done)))|(intro hfact)|((try dsimp only);rw[hg])|((try dsimp only);rw[hgb])|((try dsimp only);rw[hhl]))
   all_goals(try(conv=>whnf))
   refine Round.by (k+1,o++[⟨lst.f,e⟩],false) ?_ ⟨hk,hsucc.symm,by simp at h3 ⊢;omega,by simp⟩ hround
   dsimp only
   rw[Ae hk hm, ←hput]
   show norm _ _=upd _ _
   kernel_rfl

open Go.Proofs
def RCov (l:List Sp) (s:Sp):Prop:=Bj s∧∀e∈C0 (l++[s]),SpH s e→AnyH l e
instance (l:List Sp) (s:Sp):Decidable (RCov l s):=by unfold RCov;infer_instance
end Go.Ab
