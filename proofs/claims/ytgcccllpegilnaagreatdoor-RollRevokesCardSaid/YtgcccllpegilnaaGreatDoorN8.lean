/- Lemmas for the last text. -/
import Derived.Shelf.SlSortCmp.NoneTotal
import Derived.Test.YtgcccllpegilnaaGreatDoorN7
set_option linter.unusedVariables false
set_option linter.unusedSimpArgs false
set_option maxRecDepth 100000
namespace Go.Ab
open Go.Proofs
def Acx:Stm:=(.seq (.ops [O1 (.box 3 1),gA 4 (cI 0)]) (.seq (.drw [[],[0],[1],[2],[],[4],[3,5],[6],[7],[7],[8,6,0,1,2,3,4,5,7],[9,10,0,1,2,3,4,5,6,7,8]] [gM 17 0,O1 (.nchk 18 17),gF 19 18 3,gL 20 19,gF 21 3 4,gL 22 21,.peek none (some 23) 91 [(false,20),(false,22),(false,(.c (.fn 34)))],gA 16 23,gE 24 16 0,gE 25 16 1,gA 5 24,gA 6 25]) (.seq (.seq (.ops [gF 26 3 3,gL 27 26]) (.block 0 (.seq (.ops [gB 29 .eql 27 (cI 9),gA 28 29]) (.cond 28 (.seq (.drw [[],[0],[1],[],[3],[2,4],[5],[6],[6],[],[9,7,5,0,1,2,3,4,6],[8,10,0,1,2,3,4,5,6,7,9]] [gM 31 0,O1 (.nchk 32 31),O1 (.loadB 33 true 4 32),gF 34 3 5,gL 35 34,.peek none (some 36) 14 [(false,33),(false,35)],gA 30 36,gE 37 30 0,gE 38 30 1,O1 (.alloc 7 (.one (.i (.agg [(.str []),(.int .i64 0),(.int .i64 0)])))),gS 3 7 37,gA 8 38]) (.seq (.block 1 (.seq (.ops [gF 40 3 4,gL 41 40,.call none (some 42) 70 [(false,41)],gT 43 42,gA 39 43]) (.cond 39 (.seq (.ops [gA 4 (cI 5)]) .ret) (.seq (.ops [gM 45 6,gA 44 45]) (.cond 44 (.seq (.ops [gA 4 (cI 15)]) .ret) (.seq (.ops [gM 47 8,gT 48 47,gA 46 48]) (.cond 46 (.seq (.ops [gA 4 (cI 16)]) .ret) (.seq (.ops [gM 50 0,O1 (.nchk 51 50),gF 52 51 3,gL 53 52,gN 54 53,gB 55 .geq 54 (cI 16),gA 49 55]) (.cond 49 (.seq (.ops [gA 4 (cI 17)]) .ret) .skip))))))))) (.seq (.drwL [[],[0],[1],[],[3],[],[5],[4,6]] [2,7] [gM 56 0,O1 (.nchk 57 56),gF 58 57 3,gF 59 3 4,gL 60 59,gF 61 3 5,gL 62 61,O1 (.build 63 [(.str []),(.str []),(.list [])] [(0,60),(1,62)])] (.inl (some 64) 197 92 [58,63,(.c (.fn 34))])) (.seq (.ops [gA 4 (cI 0)]) .ret)))) (.seq (.ops [gB 66 .eql 27 (cI 11),gA 65 66]) (.cond 65 (.seq (.ops [gF 67 3 10,gU 68 4 67,.call none (some 69) 71 [(false,68)],gT 70 69]) (.cond 70 (.seq (.ops [gA 4 (cI 1)]) .ret) .skip)) (.seq (.ops [gB 72 .eql 27 (cI 12),gA 71 72]) (.cond 71 (.seq (.ops [gF 73 3 10,gF 74 73 0,gU 75 2 74,.call none (some 76) 93 [(false,75)],gT 77 76]) (.cond 77 (.seq (.ops [gA 4 (cI 1)]) .ret) .skip)) .skip)))))))) (.seq (.seq (.ops [gM 78 6,gT 79 78]) (.cond 79 (.seq (.ops [gA 4 (cI 16)]) .ret) .skip)) (.seq (.ops [gM 80 0,O1 (.nchk 81 80),gF 82 81 3,gL 83 82,gM 84 5,gI 85 3 83 84,gA 9 85]) (.seq (.seq (.ops [gF 86 3 3,gL 87 86]) (.block 2 (.seq (.ops [gB 89 .eql 87 (cI 10),gA 88 89]) (.cond 88 (.seq (.ops [gM 90 0,gM 91 0,O1 (.nchk 92 91),gF 93 92 3,gL 94 93,gM 95 5,gM 96 5,gB 97 .add 96 (cI 1),.call none (some 98) 94 [(true,94),(false,95),(false,97)],O1 (.nchk 99 90),gF 100 99 3,gS 1 100 98]) (.seq (.ops [gM 101 0,O1 (.nchk 102 101),gF 103 102 2,gL 104 103,gN 105 104,gM 106 (cI 0)]) (.block 3 (.loop [10,21,26,86,107,108,109,110,111,112,113,114,115,116,117,118,119,120,121,122,123,124,125,126,180,184,190,194] (.seq (.ops [gB 107 .lss 106 105]) (.seq (.cond 107 .skip (.exit 3)) (.seq (.block 4 (.seq (.ops [gM 108 106,gA 10 108]) (.drw [[],[0],[1],[2],[],[],[5],[6],[7],[],[8,9],[10],[11],[],[12,13],[3,4,0,1,2,5,6,7,8,9,10,11,12,13,14],[15,0,1,2,3,4,5,6,7,8,9,10,11,12,13,14],[16,14,0,1,2,3,4,5,6,7,8,9,10,11,12,13]] [gM 109 0,O1 (.nchk 110 109),gF 111 110 2,gL 112 111,gM 113 10,gM 114 0,O1 (.nchk 115 114),gF 116 115 2,gL 117 116,gM 118 10,gI 119 5 117 118,gF 120 119 4,gL 121 120,O1 (.mkf 122 96 [3]),.call none (some 123) 95 [(true,121),(false,122)],gI 124 5 112 113,gF 125 124 4,gS 1 125 123]))) (.ops [gB 126 .add 106 (cI 1),gM 106 126])))))))) (.seq (.ops [gB 128 .eql 87 (cI 11),gA 127 128]) (.cond 127 (.seq (.block 5 (.seq (.drw [[],[0],[1],[2],[],[4],[3,5],[6]] [gM 130 9,O1 (.nchk 131 130),gF 132 131 2,gL 133 132,gF 134 3 10,gU 135 4 134,.peek none (some 136) 72 [(false,133),(false,135)],gA 129 136]) (.cond 129 (.seq (.ops [gA 4 (cI 15)]) .ret) (.seq (.ops [gM 138 9,O1 (.nchk 139 138),gF 140 139 2,gL 141 140,gN 142 141,gB 143 .geq 142 (cI 8),gA 137 143]) (.cond 137 (.seq (.ops [gA 4 (cI 17)]) .ret) .skip))))) (.drw [[],[],[1],[2],[3],[],[5],[6],[4,7],[0,1,2,3,4,5,6,7,8],[9,0,1,2,3,4,5,6,7,8],[10,8,0,1,2,3,4,5,6,7]] [gM 144 9,gM 145 9,O1 (.nchk 146 145),gF 147 146 2,gL 148 147,gF 149 3 10,gU 150 4 149,O1 (.bslD 151 36 4 (.agg [(.agg [(.str []),(.str [])]),(.bool false),(.bool false)]) 1 [(0,150)]),O1 (.app 152 36 4 40 148 151),O1 (.nchk 153 144),gF 154 153 2,gS 1 154 152])) (.seq (.ops [gB 156 .eql 87 (cI 12),gA 155 156]) (.cond 155 (.seq (.ops [gA 11 (.nils 36 4)]) (.seq (.seq (.ops [gM 157 9,O1 (.nchk 158 157),gF 159 158 2,gL 160 159,gN 161 160,gM 162 (cI 0)]) (.block 6 (.loop [13,15,21,26,86,163,164,165,166,167,168,169,170,171,172,173,174,175,176,177,178,179,180,181,182,183,184,185,186,187,188,189,190,194] (.seq (.ops [gB 163 .lss 162 161]) (.seq (.cond 163 .skip (.exit 6)) (.seq (.block 7 (.seq (.ops [gI 164 4 160 162,gU 165 4 164,O1 (.alloc 13 (.one (.i (.agg [(.agg [(.str []),(.str [])]),(.bool false),(.bool false)])))),gS 4 13 165]) (.seq (.ops [gF 166 13 0,gU 167 2 166,O1 (.bslD 168 34 2 (.agg [(.str []),(.str [])]) 1 [(0,167)]),gF 169 3 10,gF 170 169 0,gU 171 2 170,.call none (some 172) 97 [(false,168),(false,171)],gN 173 172,gM 174 (cI 0)]) (.block 8 (.loop [15,21,26,86,175,176,177,178,179,180,181,182,183,184,185,186,187,188,190,194] (.seq (.ops [gB 175 .lss 174 173]) (.seq (.cond 175 .skip (.exit 8)) (.seq (.block 9 (.seq (.ops [gI 176 2 172 174,gU 177 2 176,O1 (.alloc 15 (.one (.i (.agg [(.str []),(.str [])])))),gS 2 15 177]) (.seq (.ops [gU 178 2 15,gF 179 13 0,gS 2 179 178]) (.seq (.ops [gM 180 11,gU 181 4 13,.peek none (some 182) 72 [(false,180),(false,181)],gT 183 182]) (.cond 183 (.ops [O1 (.movD 184 11),gU 185 4 13,O1 (.bslD 186 36 4 (.agg [(.agg [(.str []),(.str [])]),(.bool false),(.bool false)]) 1 [(0,185)]),O1 (.app 187 36 4 40 184 186),O1 (.movD 11 187)]) .skip))))) (.ops [gB 188 .add 174 (cI 1),gM 174 188]))))))))) (.ops [gB 189 .add 162 (cI 1),gM 162 189]))))))) (.seq (.seq (.ops [gM 190 11,gN 191 190,gB 192 .gtr 191 (cI 8)]) (.cond 192 (.seq (.ops [gA 4 (cI 17)]) .ret) .skip)) (.ops [gM 193 9,O1 (.movD 194 11),O1 (.nchk 195 193),gF 196 195 2,gS 1 196 194])))) .skip)))))))) (.seq (.ops [gA 4 (cI 0)]) .ret)))))))
theorem Hg:OF 67 197 Acx [.t 4]:=oF Tryz.func67 rfl Tryz.ntmps67 (by kernel_rfl) (by kernel_rfl)
set_option maxHeartbeats 40000000

open Go.Proofs
def Nk (n:Ad) (u:Usr):Usr:={u with roles:=u.roles.filter fun e=> !decide (e=n)}
def He (r:Roll) (c:Cmd):Roll × Int:=
 if r.rolAt c.name<0 then(r,16)
 else({r with rev:=r.rev+1,rols:=r.rols.take (r.rolAt c.name).toNat++r.rols.drop ((r.rolAt c.name).toNat+1),usrs:=r.usrs.map (Nk c.name)},0)
def Ee (n:Ad) (l:List Usr) (k:Nat):List Usr:=(l.take k).map (Nk n)++l.drop k
theorem Abq {n:Ad} {l:List Usr} {k:Nat} {u:Usr} (h:l[k]?=some u):(Ee n l k)[k]?=some u:=by
 have hk:=(List.getElem?_eq_some_iff.1 h).1
 unfold Ee
 rw[List.getElem?_append_right (by simp;omega)]
 simp[Nat.min_eq_left (Nat.le_of_lt hk),h]
theorem Abr {n:Ad} {l:List Usr} {k:Nat} {u:Usr} (h:l[k]?=some u):(Ee n l k).set k (Nk n u)=Ee n l (k+1):=by
 have hk:=(List.getElem?_eq_some_iff.1 h).1
 have hu:l[k]=u:=by rw[List.getElem?_eq_getElem hk]at h;simpa using h
 unfold Ee
 rw[List.set_append_right _ _ (by simp;omega)]
 simp only[List.length_map,List.length_take,Nat.min_eq_left (Nat.le_of_lt hk),Nat.sub_self]
 rw[List.drop_eq_getElem_cons hk,List.set_cons_zero,List.take_add_one,h]
 simp
theorem Vj {n:Ad} {l:List Usr} {k:Nat}:(Ee n l k).length=l.length:=by
 unfold Ee;simp;omega
theorem Abp {n:Ad} {l:List Usr}:Ee n l l.length=l.map (Nk n):=by
 unfold Ee;simp
set_option maxHeartbeats 8000000

open Go.Proofs
def ins (s:Ad):List Ad→List Ad
 | []=>[s]
 |x::r=>if s<x then s::x::r else if x=s then x::r else x::ins s r
theorem Ln (s:Ad):∀l:List Ad,(ins s l).length≤l.length+1
 | []=>by simp[ins]
 |x::r=>by
  unfold ins
  have:=Ln s r
  split
  ·simp
  ·split
   ·simp
   ·simp;omega
set_option maxHeartbeats 4000000

open Go.Proofs
def estep (E:List Ad) (s:Sp):List Ad:=if Bj s then ins s.t (ins s.f E)else E
def C0 (l:List Sp):List Ad:=l.foldl estep [[]]
theorem Aed (E:List Ad) (s:Sp):(estep E s).length≤E.length+2:=by
 unfold estep
 split
 ·exact Nat.le_trans (Ln _ _) (Nat.add_le_add_right (Ln _ _) 1)
 ·omega
theorem Ms (l:List Sp):(C0 l).length≤1+2*l.length:=by
 have:∀(l:List Sp) (E:List Ad),(l.foldl estep E).length≤E.length+2*l.length:=by
  intro l
  induction l with
  |nil=>intro E;simp
  |cons s r ih=>
   intro E
   have h1:=ih (estep E s)
   have h2:=Aed E s
   simp only[List.foldl_cons,List.length_cons]
   omega
 exact this l [[]]
def mstep (o:List Sp × Bool) (p:Ad × Bool):List Sp × Bool:=
 if p.2=true then(if o.2=true then(o.1,true)else(o.1++[⟨p.1,[]⟩],true))
 else(if o.2=true then(match o.1.getLast? with
  |some s=>o.1.set (o.1.length - 1) ⟨s.f,p.1⟩
  |none=>o.1,false)else(o.1,false))
def Tn (E:List Ad) (H:List Bool):List Sp:=((E.zip H).foldl mstep ([],false)).1

open Go.Proofs
def RCov (l:List Sp) (s:Sp):Prop:=Bj s∧∀e∈C0 (l++[s]),SpH s e→AnyH l e
instance (l:List Sp) (s:Sp):Decidable (RCov l s):=by unfold RCov;infer_instance

abbrev Rise (E:List Ad):Prop:=E.Pairwise fun x y=>x<y
theorem V3 (s x:Ad):∀l:List Ad,x∈ins s l↔x=s∨x∈l
 | []=>by simp[ins]
 |y::r=>by
  unfold ins
  have:=V3 s x r
  split
  ·simp
  ·split
   ·rename_i h;subst h;simp
   ·simp[this];grind
theorem Xb (s:Ad):∀{l:List Ad},Rise l→Rise (ins s l)
 | [],_=>by simp[ins,Rise]
 |y::r,h=>by
  obtain⟨h1,h2⟩:=List.pairwise_cons.1 h
  unfold ins
  split
  ·rename_i hs
   refine List.pairwise_cons.2 ⟨fun z hz=>?_,h⟩
   rcases List.mem_cons.1 hz with rfl|hz
   ·exact hs
   ·have:=h1 z hz
    grind
  ·split
   ·exact h
   ·rename_i hs hne
    refine List.pairwise_cons.2 ⟨fun z hz=>?_,Xb s h2⟩
    rcases(V3 s z r).1 hz with rfl|hz
    ·grind
    ·exact h1 z hz
theorem Aj7 {E:List Ad} {s:Sp} (h:Rise E):Rise (estep E s):=by
 unfold estep
 split
 ·exact Xb _ (Xb _ h)
 ·exact h
theorem Anb {E:List Ad} {s:Sp} {x:Ad}:x∈estep E s↔x∈E∨(Bj s∧(x=s.f∨x=s.t)):=by
 unfold estep
 split
 ·rename_i h
  rw[V3,V3]
  grind
 ·grind
theorem Lj (l:List Sp):Rise (C0 l)∧∀x,x∈C0 l↔x=[]∨∃s∈l,Bj s∧(x=s.f∨x=s.t):=by
 have:∀(l:List Sp) (E:List Ad),Rise E→Rise (l.foldl estep E)∧∀x,x∈l.foldl estep E↔x∈E∨∃s∈l,Bj s∧(x=s.f∨x=s.t):=by
  intro l
  induction l with
  |nil=>intro E h;exact⟨h,by simp⟩
  |cons s r ih=>
   intro E h
   obtain⟨h1,h2⟩:=ih (estep E s) (Aj7 h)
   refine⟨h1,fun x=>?_⟩
   rw[List.foldl_cons,h2,Anb]
   simp only[List.mem_cons]
   grind
 obtain⟨h1,h2⟩:=this l [[]] (by simp[Rise])
 exact⟨h1,fun x=>by rw[C0,h2];simp⟩
def Hd (E:List Ad) (k e:Ad):Prop:=e∈E∧e≤k∧∀x∈E,x≤k→x≤e
theorem U3:∀{E:List Ad} {k:Ad},(∃e∈E,e≤k)→∃e,Hd E k e
 | [],k,h=>by simp at h
 |y::r,k,h=>by
  by_cases hr:∃e∈r,e≤k
  ·obtain⟨e,h1,h2,h3⟩:=U3 hr
   by_cases hy:y≤k∧e<y
   ·refine⟨y,List.mem_cons_self ..,hy.1,fun x hx hxk=>?_⟩
    rcases List.mem_cons.1 hx with rfl|hx
    ·exact Std.le_refl _
    ·have:=h3 x hx hxk
     grind
   ·refine⟨e,List.mem_cons_of_mem _ h1,h2,fun x hx hxk=>?_⟩
    rcases List.mem_cons.1 hx with rfl|hx
    ·grind
    ·exact h3 x hx hxk
  ·obtain⟨e,he,hek⟩:=h
   rcases List.mem_cons.1 he with rfl|he
   ·refine⟨e,List.mem_cons_self ..,hek,fun x hx hxk=>?_⟩
    rcases List.mem_cons.1 hx with rfl|hx
    ·exact Std.le_refl _
    ·exact absurd ⟨x,hx,hxk⟩ hr
   ·exact absurd ⟨e,he,hek⟩ hr
theorem Aj8 {D:List Ad} {e k x:Ad} (h:∀d∈D,d<e):Hd (D++[e]) k x↔if e≤k then x=e else Hd D k x:=by
 unfold Hd
 simp only[List.mem_append,List.mem_singleton]
 split
 ·rename_i hk
  constructor
  ·rintro⟨h1,h2,h3⟩
   have h4:=h3 e (.inr rfl) hk
   rcases h1 with h1|h1
   ·have:=h x h1
    grind
   ·exact h1
  ·rintro rfl
   refine⟨.inr rfl,hk,fun y hy hyk=>?_⟩
   rcases hy with hy|rfl
   ·have:=h y hy
    grind
   ·exact Std.le_refl _
 ·rename_i hk
  constructor
  ·rintro⟨h1,h2,h3⟩
   refine⟨?_,h2,fun y hy hyk=>h3 y (.inl hy) hyk⟩
   rcases h1 with h1|rfl
   ·exact h1
   ·exact absurd h2 hk
  ·rintro⟨h1,h2,h3⟩
   refine⟨.inl h1,h2,fun y hy hyk=>?_⟩
   rcases hy with hy|rfl
   ·exact h3 y hy hyk
   ·exact absurd hyk hk
structure MInv (p:Ad→Bool) (D:List Ad) (o:List Sp × Bool):Prop where
 canon:Canon o.1
 keys:∀k,Keys o.1 k↔∃e,Hd D k e∧p e=true
 starts:∀x∈o.1,x.f∈D
 shut:o.2=false→∀x∈o.1,x.t≠[]∧x.t∈D
 opened:o.2=true→∃q f,o.1=q++[⟨f,[]⟩]∧f∈D∧∀x∈q,x.t≠[]∧x.t∈D
theorem Pr (o:List Sp) (y:Sp) (k:Ad):Keys (o++[y]) k↔Keys o k∨SpH y k:=by
 unfold Keys
 simp only[List.mem_append,List.mem_singleton]
 constructor
 ·rintro⟨x,hx|rfl,hk⟩
  ·exact .inl ⟨x,hx,hk⟩
  ·exact .inr hk
 ·rintro(⟨x,hx,hk⟩|hk)
  ·exact⟨x,.inl hx,hk⟩
  ·exact⟨y,.inr rfl,hk⟩
theorem Anx {p:Ad→Bool} {D:List Ad} {o:List Sp × Bool} {e:Ad} (h:MInv p D o) (hD:∀d∈D,d<e):MInv p (D++[e]) (mstep o (e,p e)):=by
 obtain⟨out,op⟩:=o
 obtain⟨hc,hk,hs,hsh,hop⟩:=h
 dsimp only at hc hk hs hsh hop
 have hnew:∀k,(∃x,Hd (D++[e]) k x∧p x=true)↔if e≤k then p e=true else Keys out k:=by
  intro k
  simp only[Aj8 hD]
  split
  ·constructor
   ·rintro⟨x,rfl,hx⟩;exact hx
   ·intro hx;exact⟨e,rfl,hx⟩
  ·rw[hk]
 have hs':∀x∈out,x.f∈D++[e]:=fun x hx=>List.mem_append_left _ (hs x hx)
 have dead:∀x∈out,x.t≠[]→x.t∈D→∀k,e≤k→¬SpH x k:=by
  intro x hx h1 h2 k hek hh
  have h3:=hD _ h2
  have h4:=hh.2
  grind
 cases hp:p e with
 |true=>
  cases op with
  |true=>
   obtain⟨q,f,rfl,hf,hq⟩:=hop rfl
   refine⟨hc,fun k=>?_,hs',fun h=>(by cases h),fun _=>⟨q,f,rfl,List.mem_append_left _ hf,fun x hx=>⟨(hq x hx).1,List.mem_append_left _ (hq x hx).2⟩⟩⟩
   rw[hnew]
   split
   ·rename_i hek
    rw[hp]
    simp only[iff_true]
    show Keys (q++[⟨f,[]⟩]) k
    rw[Pr]
    right
    have:=hD f hf
    exact⟨by dsimp only;grind,.inl rfl⟩
   ·rfl
  |false=>
   have hsh:=hsh rfl
   refine⟨?_,fun k=>?_,?_,fun h=>(by cases h),fun _=>⟨out,e,rfl,by simp,fun x hx=>⟨(hsh x hx).1,List.mem_append_left _ (hsh x hx).2⟩⟩⟩
   ·refine⟨?_,List.pairwise_append.2 ⟨hc.2,by simp,?_⟩⟩
    ·intro x hx
     rcases List.mem_append.1 hx with hx|hx
     ·exact hc.1 x hx
     ·rw[List.mem_singleton.1 hx];exact .inl rfl
    ·intro x hx y hy
     rw[List.mem_singleton.1 hy]
     exact⟨(hsh x hx).1,hD _ (hsh x hx).2⟩
   ·rw[hnew]
    show Keys (out++[⟨e,[]⟩]) k↔_
    rw[Pr]
    split
    ·rename_i hek
     rw[hp]
     simp only[iff_true]
     exact .inr ⟨hek,.inl rfl⟩
    ·rename_i hek
     constructor
     ·rintro(h|h)
      ·exact h
      ·exact absurd h.1 hek
     ·exact .inl
   ·intro x hx
    rcases List.mem_append.1 hx with hx|hx
    ·exact hs' x hx
    ·rw[List.mem_singleton.1 hx];simp
 |false=>
  cases op with
  |true=>
   obtain⟨q,f,rfl,hf,hq⟩:=hop rfl
   have hfe:=hD f hf
   have hm:mstep (q++[⟨f,[]⟩],true) (e,false)=(q++[⟨f,e⟩],false):=by simp[mstep]
   rw[hm]
   have hne:e≠[]:=by
    rintro rfl
    exact List.not_lt_nil f hfe
   have hpw:=List.pairwise_append.1 hc.2
   refine⟨⟨?_,List.pairwise_append.2 ⟨hpw.1,by simp,?_⟩⟩,fun k=>?_,?_,fun _ x hx=>?_,fun h=>(by cases h)⟩
   ·intro x hx
    rcases List.mem_append.1 hx with hx|hx
    ·exact hc.1 x (List.mem_append_left _ hx)
    ·rw[List.mem_singleton.1 hx];exact .inr hfe
   ·intro x hx y hy
    rw[List.mem_singleton.1 hy]
    exact hpw.2.2 x hx ⟨f,[]⟩ (by simp)
   ·rw[hnew]
    show Keys (q++[⟨f,e⟩]) k↔_
    rw[Pr]
    split
    ·rename_i hek
     rw[hp]
     simp only[Bool.false_eq_true,iff_false]
     rintro(⟨x,hx,hk⟩|hk)
     ·exact dead x (List.mem_append_left _ hx) (hq x hx).1 (hq x hx).2 k hek hk
     ·have:=hk.2
      dsimp only at this
      grind
    ·rename_i hek
     rw[Pr]
     unfold SpH
     dsimp only
     grind
   ·intro x hx
    rcases List.mem_append.1 hx with hx|hx
    ·exact hs' x (List.mem_append_left _ hx)
    ·rw[List.mem_singleton.1 hx];exact List.mem_append_left _ hf
   ·rcases List.mem_append.1 hx with hx|hx
    ·exact⟨(hq x hx).1,List.mem_append_left _ (hq x hx).2⟩
    ·rw[List.mem_singleton.1 hx];exact⟨hne,by simp⟩
  |false=>
   have hsh:=hsh rfl
   refine⟨hc,fun k=>?_,hs',fun _ x hx=>⟨(hsh x hx).1,List.mem_append_left _ (hsh x hx).2⟩,fun h=>(by cases h)⟩
   rw[hnew]
   split
   ·rename_i hek
    rw[hp]
    simp only[Bool.false_eq_true,iff_false]
    rintro⟨x,hx,hk⟩
    exact dead x hx (hsh x hx).1 (hsh x hx).2 k hek hk
   ·rfl
theorem Aez (p:Ad→Bool):∀{R D:List Ad} {o:List Sp × Bool},MInv p D o→Rise (D++R)→MInv p (D++R) ((R.zip (R.map p)).foldl mstep o)
 | [],D,o,h,_=>by simpa using h
 |e::R,D,o,h,hr=>by
  have h1:=Anx h fun d hd=>(List.pairwise_append.1 hr).2.2 d hd e (List.mem_cons_self ..)
  have:=Aez p (R:=R) h1 (by simpa using hr)
  simpa using this
theorem Anw {p:Ad→Bool} {E:List Ad} (hr:Rise E):Canon (Tn E (E.map p))∧∀k,Keys (Tn E (E.map p)) k↔∃e,Hd E k e∧p e=true:=by
 have h0:MInv p [] ([],false):=⟨⟨by simp,by simp⟩,fun k=>by simp[Keys,Hd],by simp,by simp,by simp⟩
 have:=Aez p (R:=E) h0 (by simpa using hr)
 rw[List.nil_append]at this
 exact⟨this.canon,this.keys⟩
theorem Pm {E:List Ad} {k e:Ad} (h:Hd E k e) {s:Sp} (hf:s.f∈E) (ht:s.t∈E):SpH s k↔SpH s e:=by
 obtain⟨h1,h2,h3⟩:=h
 have h4:=h3 _ hf
 have h5:=h3 _ ht
 unfold SpH
 grind
theorem Ang {l:List Sp} {E:List Ad} (hE:∀s∈l,Bj s→s.f∈E∧s.t∈E) {k e:Ad} (h:Hd E k e):AnyH l k↔AnyH l e:=by
 unfold AnyH
 constructor
 ·rintro⟨s,hs,hr,hk⟩
  obtain⟨h1,h2⟩:=hE s hs hr
  exact⟨s,hs,hr,(Pm h h1 h2).1 hk⟩
 ·rintro⟨s,hs,hr,hk⟩
  obtain⟨h1,h2⟩:=hE s hs hr
  exact⟨s,hs,hr,(Pm h h1 h2).2 hk⟩
theorem Ahn (l:List Sp) (k:Ad):∃e,Hd (C0 l) k e:=U3 ⟨[],((Lj l).2 []).2 (.inl rfl),List.nil_le k⟩
theorem U0 {l:List Sp} {s:Sp} (hs:s∈l) (hr:Bj s):s.f∈C0 l∧s.t∈C0 l:=
 ⟨((Lj l).2 _).2 (.inr ⟨s,hs,hr,.inl rfl⟩),((Lj l).2 _).2 (.inr ⟨s,hs,hr,.inr rfl⟩)⟩

open Go.Proofs Go.Shelf
theorem Aru:Aiz:=by
 intro G σ Fr w cargs hok hcl hargs
 have hc0:RepV G (.list []) (cargs.getD 0 undef):=(hargs 0 _ rfl).2
 have hc1:RepV G (.fn 141) (cargs.getD 1 undef):=(hargs 1 _ rfl).2
 rw[RepV.fn]at hc1
 obtain⟨ad,cap,hc,_⟩:=RepV.list.1 hc0
 have hca:cargs= #[.slice ad 0 cap,.func (.func 141) #[] #[]]:=by
  rw[←hc1,show(.slice ad 0 cap:Value)=cargs.getD 0 undef from hc.symm]
  apply Array.ext
  ·simpa using hcl
  ·intro j h1 h2
   have:j=0∨j=1:=by simp at h2;omega
   rcases this with rfl|rfl<;>simp[Array.getD,h1]
 have hcall:=AnyF.slices_SortFunc_none Aq1 ad cap (.func (.func 141) #[] #[]) w
 rw[hca]
 refine Calls.mono hcall ?_
 rintro e w' ⟨rfl,rfl⟩
 refine⟨_,_,_,G,fun _=>none,rfl,⟨rfl,rfl⟩,Mem.le.refl G,⟨hok.fixed,fun b lab h=>by(cases h),fun b b' lab h=>by(cases h),hok.frame,rfl,rfl,rfl,Nat.le_refl _,hok.apart,hok.amb⟩,rfl,⟨#[],rfl,rfl⟩,rfl,?_⟩
 intro i sv hi
 have:sv= .no:=by
  have:=List.mem_of_getElem? hi
  simpa using this
 subst this
 exact⟨rfl,trivial⟩

open Go.Proofs
theorem Ag4 (u:List Sp) (s:Sp):(Jm u s).length≤u.length+1:=by
 unfold Jm
 split
 ·simp
 ·split
  ·simp
  ·split
   ·simp
   ·omega
theorem Aa2 (p:List Sp):(Hv p).length≤p.length:=by
 have:∀(p u:List Sp),(p.foldl Jm u).length≤u.length+p.length:=by
  intro p
  induction p with
  |nil=>intro u;simp
  |cons s r ih=>
   intro u
   have h1:=ih (Jm u s)
   have h2:=Ag4 u s
   simp only[List.foldl_cons,List.length_cons]
   omega
 have h:=this p []
 rw[List.length_nil,Nat.zero_add]at h
 exact h
theorem Amw (l:List Sp):(uni l).length≤l.length:=by
 unfold uni
 refine Nat.le_trans (Aa2 _) ?_
 rw[List.length_mergeSort]
 exact List.length_filter_le ..

def maxS (a b:Ad):Ad:=if(!Op.bytesLess a b)=true then a else b
theorem Aad (a b:Ad):maxS a b=if a<b then b else a:=by
 unfold maxS
 rw[Cu]
 by_cases h:a<b<;>simp[h]
def cutA (s x:Sp):List Sp:=if x.f<s.f then[⟨x.f,if Cn x.t s.f then s.f else x.t⟩]else[]
def cutB (s x:Sp):List Sp:=if s.t≠[]∧Cn x.t s.t then[⟨maxS x.f s.t,x.t⟩]else[]
def H6 (s x:Sp):List Sp:=cutA s x++cutB s x
def minus (l:List Sp) (s:Sp):List Sp:=if Bj s then(uni l).flatMap (H6 s)else uni l
theorem Pk {s x y:Sp} (h:y∈H6 s x):(x.f<s.f∧s.f≠[]∧y.f=x.f∧((Cn x.t s.f∧y.t=s.f)∨(¬Cn x.t s.f∧y.t=x.t)))∨(s.t≠[]∧Cn x.t s.t∧y.t=x.t∧((x.f<s.t∧y.f=s.t)∨(¬x.f<s.t∧y.f=x.f))):=by
 unfold H6 cutA cutB at h
 rcases List.mem_append.1 h with h|h
 ·split at h
  ·rw[List.mem_singleton.1 h]
   left
   rename_i h1
   refine⟨h1,fun e=>List.not_lt_nil x.f (by rw[e]at h1;exact h1),rfl,?_⟩
   dsimp only
   split
   ·exact .inl ⟨by assumption,rfl⟩
   ·exact .inr ⟨by assumption,rfl⟩
  ·cases h
 ·split at h
  ·rw[List.mem_singleton.1 h,Aad]
   rename_i hc
   right
   refine⟨hc.1,hc.2,rfl,?_⟩
   dsimp only
   split
   ·exact .inl ⟨by assumption,rfl⟩
   ·exact .inr ⟨by assumption,rfl⟩
  ·cases h
theorem Aea {s x:Sp} (hs:Sane s) (hx:Sane x) (k:Ad):(∃y∈H6 s x,SpH y k)↔SpH x k∧¬SpH s k:=by
 unfold Sane at hs hx
 constructor
 ·rintro⟨y,hy,h1,h2⟩
  have:=Pk hy
  unfold Cn at this
  unfold SpH
  grind
 ·rintro⟨⟨h1,h2⟩,h3⟩
  unfold SpH at h3
  by_cases h4:k<s.f
  ·refine⟨⟨x.f,if Cn x.t s.f then s.f else x.t⟩,List.mem_append_left _ (by unfold cutA;rw[if_pos (by grind)];exact List.mem_singleton.2 rfl),h1,?_⟩
   dsimp only
   unfold Cn
   grind
  ·have h5:s.t≠[]∧¬k<s.t:=by grind
   refine⟨⟨maxS x.f s.t,x.t⟩,List.mem_append_right _ (by unfold cutB;rw[if_pos (by unfold Cn;grind)];exact List.mem_singleton.2 rfl),?_,h2⟩
   dsimp only
   rw[Aad]
   grind
theorem Am5 {s:Sp} (hs:Sane s) {u:List Sp} (hu:Canon u):Canon (u.flatMap (H6 s)):=by
 unfold Sane at hs
 refine⟨fun y hy=>?_,List.pairwise_flatMap.2 ⟨fun x hx=>?_,?_⟩⟩
 ·obtain⟨x,hx,hy⟩:=List.mem_flatMap.1 hy
  have h1:=hu.1 x hx
  have:=Pk hy
  unfold Cn at this
  unfold Sane at h1 ⊢
  grind
 ·have h1:=hu.1 x hx
  unfold Sane at h1
  refine List.pairwise_append.2 ⟨by unfold cutA;split<;>simp,by unfold cutB;split<;>simp,fun a ha b hb=>?_⟩
  unfold cutA at ha
  unfold cutB at hb
  split at ha
  ·rename_i h2
   split at hb
   ·rename_i h3
    rw[Aad]at hb
    rw[List.mem_singleton.1 ha,List.mem_singleton.1 hb]
    dsimp only
    unfold Cn at h3 ⊢
    have h4:s.f≠[]:=by
     intro e
     rw[e]at h2
     exact List.not_lt_nil _ h2
    grind
   ·cases hb
  ·cases ha
 ·refine hu.2.imp_of_mem ?_
  intro a b ha hb hab y1 hy1 y2 hy2
  have h1:=hu.1 a ha
  have h2:=hu.1 b hb
  have h3:=Pk hy1
  have h4:=Pk hy2
  unfold Cn at h3 h4
  unfold Sane at h1 h2
  have h5:∀{p q:Ad},p<q→q≠[]:=by
   intro p q h e
   rw[e]at h
   exact List.not_lt_nil _ h
  grind
theorem Le {s:Sp} (hs:Bj s) {u:List Sp} (hc:Canon u) (hu:∀x∈u,Bj x):∀y∈u.flatMap (H6 s),Bj y:=by
 intro y hy
 have hsane:=(Am5 hs.2.2 hc).1 y hy
 obtain⟨x,hx,hy⟩:=List.mem_flatMap.1 hy
 have h1:=hu x hx
 have:=Pk hy
 have g1:=h1.1
 have g2:=h1.2.1
 have g3:=hs.1
 have g4:=hs.2.1
 refine⟨?_,?_,hsane⟩
 ·rcases this with⟨_,_,e,_⟩|⟨_,_,_,⟨_,e⟩|⟨_,e⟩⟩<;>rw[e]<;>assumption
 ·rcases this with⟨_,_,_,⟨_,e⟩|⟨_,e⟩⟩|⟨_,_,e,_⟩<;>rw[e]<;>assumption
theorem Ahv (l:List Sp) (s:Sp):Canon (minus l s):=by
 unfold minus
 split
 ·rename_i h;exact Am5 h.2.2 (Kx l)
 ·exact Kx l
theorem Kp (l:List Sp) (s:Sp):∀y∈minus l s,Bj y:=by
 unfold minus
 split
 ·rename_i h;exact Le h (Kx l) Jy
 ·exact Jy
theorem Ake (l:List Sp) (s:Sp) (k:Ad):Keys (minus l s) k↔AnyH l k∧¬(Bj s∧SpH s k):=by
 unfold minus
 split
 ·rename_i h
  rw[←Xv]
  unfold Keys
  constructor
  ·rintro⟨y,hy,hk⟩
   obtain⟨x,hx,hy⟩:=List.mem_flatMap.1 hy
   have:=(Aea h.2.2 ((Kx l).1 x hx) k).1 ⟨y,hy,hk⟩
   exact⟨⟨x,hx,this.1⟩,fun g=>this.2 g.2⟩
  ·rintro⟨⟨x,hx,hk⟩,h2⟩
   obtain⟨y,hy,hk⟩:=(Aea h.2.2 ((Kx l).1 x hx) k).2 ⟨hk,fun g=>h2 ⟨h,g⟩⟩
   exact⟨y,List.mem_flatMap.2 ⟨x,hx,hy⟩,hk⟩
 ·rename_i h
  rw[Xv]
  simp[h]
def Fp (l:List Sp) (s:Sp) (e:Ad):Bool:=decide (AnyH l e)&& !(decide (Bj s)&&decide (SpH s e))
def Ef (l:List Sp) (s:Sp):List Sp:=Tn (C0 (l++[s])) ((C0 (l++[s])).map (Fp l s))
theorem An5 (l:List Sp) (s:Sp):Ef l s=minus l s:=by
 obtain⟨h1,h2⟩:=Anw (p:=Fp l s) (Lj (l++[s])).1
 refine Mk h1 (Ahv l s) fun k=>?_
 rw[show Keys (Ef l s) k↔_ from h2 k,Ake]
 have aux:∀e,Hd (C0 (l++[s])) k e→(Fp l s e=true↔AnyH l k∧¬(Bj s∧SpH s k)):=by
  intro e hf
  rw[Ang (fun x hx hr=>U0 (List.mem_append_left _ hx) hr) hf]
  have:(Bj s∧SpH s k)↔(Bj s∧SpH s e):=by
   constructor
   ·rintro⟨h3,h4⟩
    obtain⟨h5,h6⟩:=U0 (l:=l++[s]) (s:=s) (by simp) h3
    exact⟨h3,(Pm hf h5 h6).1 h4⟩
   ·rintro⟨h3,h4⟩
    obtain⟨h5,h6⟩:=U0 (l:=l++[s]) (s:=s) (by simp) h3
    exact⟨h3,(Pm hf h5 h6).2 h4⟩
  rw[this]
  unfold Fp
  by_cases g1:Bj s<;>by_cases g2:SpH s e<;>simp[g1,g2]
 constructor
 ·rintro⟨e,hf,he⟩
  exact(aux e hf).1 he
 ·intro h
  obtain⟨e,hf⟩:=Ahn (l++[s]) k
  exact⟨e,hf,(aux e hf).2 h⟩
set_option maxHeartbeats 40000000

open Go.Proofs
theorem Ae1 (st:List Sp × Bool) (e:Ad × Bool):(mstep st e).1.length≤st.1.length+1:=by
 unfold mstep
 split
 ·split
  ·simp
  ·simp
 ·split
  ·cases st.1.getLast? <;>simp
  ·simp
theorem Vc:∀(l:List (Ad × Bool)) (st:List Sp × Bool),(l.foldl mstep st).1.length≤st.1.length+l.length
 | [],st=>Nat.le_refl _
 |e::l,st=>by
  have h1:=Vc l (mstep st e)
  have h2:=Ae1 st e
  simp only[List.foldl_cons,List.length_cons]
  omega
theorem J4 (g s:Sp):(Ef [g] s).length≤5:=by
 unfold Ef Tn
 have h1:=Vc ((C0 ([g]++[s])).zip ((C0 ([g]++[s])).map (Fp [g] s))) ([],false)
 have h2:=Ms ([g]++[s])
 simp at h1 h2 ⊢
 omega
def F3 {α S:Type} (f:S→α→S) (s:S) (e:α):S ⊕ S:=.inl (f s e)
def Me {S:Type} (s:S):S:=s
theorem Jx {α S:Type} (f:S→α→S):∀(l:List α) (s:S),runL (F3 f) Me l s=l.foldl f s
 | [],_=>rfl
 |a::r,s=>by rw[D0];simp[F3,aft,Jx f r]
def addG (g:Gra) (out:List Gra) (sp:Sp):List Gra:=if out.any (fun e=>decide (e=⟨sp,g.r,g.w⟩))then out else out++[⟨sp,g.r,g.w⟩]
def De (s:Sp) (out:List Gra) (g:Gra):List Gra:=(Ef [g.sp] s).foldl (addG g) out
def revM (l:List Gra) (s:Sp):List Gra:=l.foldl (De s) []
theorem Fb (g:Gra) (out:List Gra) (sp:Sp):(addG g out sp).length≤out.length+1:=by
 unfold addG;split<;>simp
theorem Uv (g:Gra):∀(l:List Sp) (out:List Gra),(l.foldl (addG g) out).length≤out.length+l.length
 | [],_=>Nat.le_refl _
 |e::l,out=>by
  have h1:=Uv g l (addG g out e)
  have h2:=Fb g out e
  simp only[List.foldl_cons,List.length_cons]
  omega
theorem Uf (s:Sp) (out:List Gra) (g:Gra):(De s out g).length≤out.length+5:=by
 have h1:=Uv g (Ef [g.sp] s) out
 have h2:=J4 g.sp s
 unfold De
 omega
def Dp (r:Roll) (c:Cmd):Roll × Int:=
 if decide (Bj c.grant.sp)=false then(r,1)
 else if r.rolAt c.name<0 then(r,16)
 else match r.rols[(r.rolAt c.name).toNat]? with
 |none=>(r,16)
 |some x=>
  if 8<((revM x.grants c.grant.sp).length:Int)then(r,17)
  else({r with rev:=r.rev+1,rols:=r.rols.set (r.rolAt c.name).toNat {x with grants:=revM x.grants c.grant.sp}},0)
set_option maxHeartbeats 4000000

open Go.Proofs
theorem Aqj (o:List Sp):sps (o++([]++[]))=sps o:=by simp
theorem Aqk (o:List Sp) (a:Sp):sps (o++([a]++[]))=sps o++[a.toI]:=by simp
theorem Aqm (o:List Sp) (b:Sp):sps (o++([]++[b]))=sps o++[b.toI]:=by simp
theorem Aqn (o:List Sp) (a b:Sp):sps (o++([a]++[b]))=sps o++[a.toI]++[b.toI]:=by simp
theorem Amm (l:List Sp) (s:Sp) (hl:l.length≤1000):Fn Tryz.prog Ad0 [.v (.list (sps l)),.v s.toI] (Is (.v (.list (sps (minus l s)))) [.no,.no]):=by
 refine Ac7 ?_ (by simp)
 have hu:=Amr Aru l hl
 have hul:(uni l).length≤1000:=Nat.le_trans (Amw l) hl
 by_cases hr:Bj s
 case neg=>
  have n1:¬(!decide (Bj s))=false:=by simp[hr]
  rw[show minus l s=uni l from if_neg hr]
  repeat'((conv=>whnf);first|(apply aI<;>intro hb<;>first|exact absurd hb (by assumption)|((try rw[hb]);(try simp only[Aa]at hb)))|(refine eI ?_ ?_;focus (and_intros<;>first|omega|exact rfl|(intro _ hh;cases hh;done)|(simp;done)|decide))|(refine CallWp.mk ⟨_,hu,?_⟩;rintro _ _ ⟨rfl,rfl⟩)|(refine CallWp.mk ⟨_,Hc _,?_⟩;rintro _ _ ⟨rfl,rfl⟩))
  all_goals(try(conv=>whnf))
  exact Done.mk ⟨rfl,by kernel_rfl⟩ (by kernel_rfl)
 have n1:¬(!decide (Bj s))=true:=by simp[hr]
 have hfin:minus l s=(uni l).flatMap (H6 s):=if_pos hr
 generalize uni l=u at hu hul hfin
 rw[hfin]
 clear hfin
 have hmax:u.length≤maxLen:=by simp only[maxLen];omega
 repeat'((conv=>whnf);first|(apply aI<;>intro hb<;>first|exact absurd hb (by assumption)|((try rw[hb]);(try simp only[Aa]at hb)))|(refine eI ?_ ?_;focus (and_intros<;>first|omega|exact rfl|(intro _ hh;cases hh;done)|(simp;done)|decide))|(intro hfact)|(refine CallWp.mk ⟨_,hu,?_⟩;rintro _ _ ⟨rfl,rfl⟩)|(refine CallWp.mk ⟨_,Hc _,?_⟩;rintro _ _ ⟨rfl,rfl⟩))
 all_goals(try(conv=>whnf))
 refine LoopWq.by (X:=Nat × List Sp) (fun x=>[(6,.vec 34 2 (sps x.2)),(18,.v (.int .i64 x.1))]) (fun x=>x.1≤u.length∧x.2=(u.take x.1).flatMap (H6 s)∧x.2.length≤2*x.1) (fun x=>u.length - x.1)
  (0,[]) (by kernel_rfl) ⟨Nat.zero_le _,rfl,Nat.le_refl _⟩ ?_
 rintro⟨k,out⟩ ⟨h1,h2,h3⟩
 dsimp only at h1 h2 h3 ⊢
 by_cases hk:k<u.length
 case neg=>
  have hlt:¬decide ((k:Int)<((sps u).length:Int))=true:=by simp;omega
  rw[show u.take k=u from List.take_of_length_le (by omega)]at h2
  subst h2
  repeat'((conv=>whnf);first|(apply aI<;>intro hb<;>first|exact absurd hb (by assumption)|((try rw[hb]);(try simp only[Aa]at hb)))|(refine eI ?_ ?_;focus (and_intros<;>first|omega|exact rfl|(simp;done))))
  all_goals(try(conv=>whnf))
  exact Done.mk ⟨rfl,by kernel_rfl⟩ (by kernel_rfl)
 obtain⟨e,he⟩:∃e,u[k]?=some e:=⟨_,List.getElem?_eq_getElem hk⟩
 have hlt:¬decide ((k:Int)<((sps u).length:Int))=false:=by simp[hk]
 have hg:(sps u)[Int.toNat (k:Int)]?=some e.toI:=J8 he
 have hkl:Int.toNat (k:Int)<(sps u).length:=by simp[hk]
 have hround:u.length - (k+1)<u.length - k:=by omega
 have hsucc:(u.take (k+1)).flatMap (H6 s)=out++(cutA s e++cutB s e):=by
  rw[List.take_add_one,he,List.flatMap_append, ←h2]
  simp[H6]
 have hA:(¬Op.bytesLess e.f s.f=true∧cutA s e=[])∨(¬Op.bytesLess e.f s.f=false∧¬decide (0<Fm e.t s.f)=false∧cutA s e=[⟨e.f,s.f⟩])∨(¬Op.bytesLess e.f s.f=false∧¬decide (0<Fm e.t s.f)=true∧cutA s e=[⟨e.f,e.t⟩]):=by
  simp only[Jw,Cu]
  unfold cutA
  by_cases g1:e.f<s.f<;>by_cases g2:Cn e.t s.f<;>simp[g1,g2]
 have hB:(¬(!decide (s.t=[]))=true∧cutB s e=[])∨(¬(!decide (s.t=[]))=false∧¬decide (0<Fm e.t s.t)=true∧cutB s e=[])∨(¬(!decide (s.t=[]))=false∧¬decide (0<Fm e.t s.t)=false∧¬(!Op.bytesLess e.f s.t)=false∧cutB s e=[⟨e.f,e.t⟩])∨
  (¬(!decide (s.t=[]))=false∧¬decide (0<Fm e.t s.t)=false∧¬(!Op.bytesLess e.f s.t)=true∧cutB s e=[⟨s.t,e.t⟩]):=by
  simp only[Jw]
  unfold cutB maxS
  by_cases g1:s.t=[]<;>by_cases g2:Cn e.t s.t<;>by_cases g3:(!Op.bytesLess e.f s.t)=true<;>simp[g1,g2,g3]at*
 rcases hA with⟨a1,hA⟩|⟨a1,a2,hA⟩|⟨a1,a2,hA⟩<;>rcases hB with⟨b1,hB⟩|⟨b1,b2,hB⟩|⟨b1,b2,b3,hB⟩|⟨b1,b2,b3,hB⟩
 all_goals rw[hA,hB]at hsucc
 all_goals(
  repeat'((conv=>whnf);first|(apply aI<;>intro hb<;>first|exact absurd hb (by first|assumption|decide)|((try rw[hb]);(try simp only[Aa]at hb)))|(refine eI ?_ ?_;focus (and_intros<;>first|omega|exact rfl|(intro _ hh;cases hh;done)|exact A0 (by rfl)|(simp only[Ag];omega)|(simp;done)|decide))|((try dsimp only);rw[hg])|(refine CallWp.mk ⟨_,Kv _ _,?_⟩;rintro _ _ ⟨rfl,rfl⟩))
  all_goals(try(conv=>whnf))
  refine Round.by (k+1,_) ?_ ⟨hk,hsucc.symm,by simp;omega⟩ hround
  dsimp only
  rw[Ae hk hmax]
  first|rw[Aqj]|rw[Aqk]|rw[Aqm]|rw[Aqn]
  show norm _ _=upd _ _
  kernel_rfl)
set_option maxHeartbeats 40000000

open Go.Proofs
abbrev revP (s:Sp) (l:List Gra):List Gra:=revM l s
def Bi (r:Roll) (c:Cmd):Roll × Int:=
 if c.kind=9 then
  if Co c.name=false then(r,5)
  else if Bv Rol.name r.rols c.name=true then(r,15)
  else if(getT r.tens c.other).2=false then(r,16)
  else if 16≤(r.rols.length:Int)then(r,17)
  else({r with rols:=C2 (Az Rol.name r.rols c.name) ⟨c.name,c.other,[]⟩ r.rols},0)
 else if c.kind=11∧(decide (Bj c.grant.sp)&&(c.grant.r||c.grant.w))=false then(r,1)
 else if c.kind=12∧decide (Bj c.grant.sp)=false then(r,1)
 else if Bv Rol.name r.rols c.name=false then(r,16)
 else if c.kind=10 then({r with rols:=Da (Az Rol.name r.rols c.name) r.rols,usrs:=r.usrs.map (Nk c.name)},0)
 else match r.rols[Az Rol.name r.rols c.name]? with
 |none=>(r,16)
 |some x=>
  if c.kind=11 then
   if x.grants.any (fun e=>decide (e=c.grant))=true then(r,15)
   else if 8≤(x.grants.length:Int)then(r,17)
   else({r with rols:=r.rols.set (Az Rol.name r.rols c.name) {x with grants:=x.grants++[c.grant]}},0)
  else if c.kind=12 then
   if 8<((revP c.grant.sp x.grants).length:Int)then(r,17)
   else({r with rols:=r.rols.set (Az Rol.name r.rols c.name) {x with grants:=revP c.grant.sp x.grants}},0)
  else(r,0)
def Em (r:Roll) (c:Cmd):D:=
 if c.kind=9∧(Bi r c).2=0 then .st [.it (.int .i64 r.rev),.vec Ax 3 ((r.tens.map Ten.toI).map D.it),.vec Ar 5 (r.usrs.map Usr.toD),.vec Aq 3 (C2 (Az Rol.name r.rols c.name) (.it (Rol.toI ⟨c.name,c.other,[]⟩)) (r.rols.map Rol.toD))]
 else(Bi r c).1.toD
theorem Ais (r:Roll) (hs:r.Small) (c:Cmd) (hk:c.kind=9):Fn Tryz.prog Ha [.own [] (.ptr r.toD),.v c.toI] (Is (.v (.int .i64 (Bi r c).2)) [.own [] (.ptr (Em r c)),.no]):=by
 refine Hg ?_ (by simp)
 have hs':=hs
 obtain⟨b1,b2,b3,b4,b5⟩:=hs
 have hf:=Jh r.rols c.name (by omega)
 have hn:=T4 c.name
 have ht:=Jj r hs' c.other
 repeat'((conv=>whnf);first|(apply aI<;>intro hb<;>first|(exfalso;simp only[Ag]at hb<;>omega)|((try rw[hb]);(try simp only[Aa]at hb)))|(refine eI ?_ ?_;focus (and_intros<;>first|omega|exact rfl|(intro _ hh;cases hh;done)|(simp;done)|decide))|(intro hfact)|((with_reducible apply Drawn.by0);(focus kernel_rfl);intro hfact;(try simp only[dRS]at hfact))|((simp only[show D.at (0::[].append [3]) (D.ptr r.toD)=some (D.vec Aq 3 (r.rols.map Rol.toD))from rfl,Ci,show D.at [0] (D.ptr r.toD)=some r.toD from rfl,Be]))|(refine CallIs.mk ⟨_,_,hf,?_⟩)|(refine CallWp.mk ⟨_,hn,?_⟩;rintro _ _ ⟨rfl,rfl⟩)|(refine CallIs.mk ⟨_,_,ht,?_⟩))
 all_goals(try(conv=>whnf))
 all_goals(
  obtain⟨X,hX⟩:∃X,Bi r c=X:=⟨_,rfl⟩
  obtain⟨Y,hY⟩:∃Y,Em r c=Y:=⟨_,rfl⟩
  have hY2:=hY
  unfold Em at hY2
  rw[hX]at hY2
  rw[hX,hY]
  clear hY
  simp[Bi, *, -hY2]at hX
  subst hX
  simp only[hk,true_and,false_and,if_true,if_false,Int.reduceEq]at hY2
  subst hY2)
 all_goals try exact Done.mk ⟨by kernel_rfl,by kernel_rfl⟩ (by kernel_rfl)
 have hle:=H5 Rol.name r.rols c.name
 have hins:=Agw (r.rols.map Rol.toD) (.it (Rol.toI ⟨c.name,c.other,[]⟩)) (Az Rol.name r.rols c.name) (by simp;omega) (by simp;omega)
 have htn:=K9 ⟨c.name,c.other,[]⟩
 refine Td ?_ (by decide)
 repeat'((conv=>whnf);first|(refine eI ?_ ?_;focus (and_intros<;>first|omega|exact rfl|(intro _ hh;cases hh;done)|exact B5 rfl|(simp;done)|decide))|((with_reducible apply Drawn.by0);(focus kernel_rfl);intro hfact;(try simp only[dRS]at hfact))|((simp only[show D.at (0::[].append [3]) (D.ptr r.toD)=some (D.vec Aq 3 (r.rols.map Rol.toD))from rfl,Ci,show D.at [0] (D.ptr r.toD)=some r.toD from rfl,Be]))|(refine CallIs.mk ⟨_,_,hf,?_⟩)|(refine CallIs.mk ⟨_,_,htn,?_⟩)|(refine CallIs.mk ⟨_,_,hins,?_⟩))
 all_goals(try(conv=>whnf))
 exact Done.mk ⟨by kernel_rfl,by kernel_rfl⟩ (by kernel_rfl)
theorem Agz (r:Roll) (hs:r.Small) (c:Cmd) (hk:c.kind=11):Fn Tryz.prog Ha [.own [] (.ptr r.toD),.v c.toI] (Is (.v (.int .i64 (Bi r c).2)) [.own [] (.ptr (Em r c)),.no]):=by
 refine Hg ?_ (by simp)
 have hs':=hs
 obtain⟨b1,b2,b3,b4,b5⟩:=hs
 have hf:=Jh r.rols c.name (by omega)
 have hU:Em r c=(Bi r c).1.toD:=by simp[Em,hk]
 rw[hU]
 have hg:=Zi c.grant
 cases hgr:(decide (Bj c.grant.sp)&&(c.grant.r||c.grant.w))with
 |false=>
  rw[hgr]at hg
  rw[show Bi r c=(r,1)by simp only[Bi,hk,hgr,Int.reduceEq,if_false,if_true,and_self]]
  repeat'((conv=>whnf);first|(apply aI<;>intro hb<;>first|exact absurd hb (by decide)|(exfalso;simp only[Ag]at hb<;>omega)|((try rw[hb]);(try simp only[Aa]at hb)))|(refine eI ?_ ?_;focus (and_intros<;>first|omega|exact rfl|(intro _ hh;cases hh;done)|(simp;done)|decide))|((with_reducible apply Drawn.by0);(focus kernel_rfl);intro hfact;(try simp only[dRS]at hfact))|((simp only[show D.at (0::[].append [3]) (D.ptr r.toD)=some (D.vec Aq 3 (r.rols.map Rol.toD))from rfl,Ci,show D.at [0] (D.ptr r.toD)=some r.toD from rfl,Be]))|(refine CallIs.mk ⟨_,_,hf,?_⟩)|(refine CallWp.mk ⟨_,hg,?_⟩;rintro _ _ ⟨rfl,rfl⟩))
  all_goals(try(conv=>whnf))
  all_goals exact Done.mk ⟨by kernel_rfl,by kernel_rfl⟩ (by kernel_rfl)
 |true=>
 rw[hgr]at hg
 cases hb:Bv Rol.name r.rols c.name with
 |false=>
  rw[hb]at hf
  rw[show Bi r c=(r,16)by simp only[Bi,hk,hgr,hb,Int.reduceEq,if_false,if_true,and_false,false_and,Bool.true_eq_false]]
  repeat'((conv=>whnf);first|(apply aI<;>intro hb<;>first|exact absurd hb (by decide)|(exfalso;simp only[Ag]at hb<;>omega)|((try rw[hb]);(try simp only[Aa]at hb)))|(refine eI ?_ ?_;focus (and_intros<;>first|omega|exact rfl|(intro _ hh;cases hh;done)|(simp;done)|decide))|((with_reducible apply Drawn.by0);(focus kernel_rfl);intro hfact;(try simp only[dRS]at hfact))|((simp only[show D.at (0::[].append [3]) (D.ptr r.toD)=some (D.vec Aq 3 (r.rols.map Rol.toD))from rfl,Ci,show D.at [0] (D.ptr r.toD)=some r.toD from rfl,Be]))|(refine CallIs.mk ⟨_,_,hf,?_⟩)|(refine CallWp.mk ⟨_,hg,?_⟩;rintro _ _ ⟨rfl,rfl⟩))
  all_goals(try(conv=>whnf))
  all_goals exact Done.mk ⟨by kernel_rfl,by kernel_rfl⟩ (by kernel_rfl)
 |true=>
  rw[hb]at hf
  obtain⟨x,hx, -⟩:=Ep hb
  have hlt:Az Rol.name r.rols c.name<r.rols.length:=(List.getElem?_eq_some_iff.1 hx).1
  have hxl:=b5 x (List.mem_of_getElem? hx)
  have hP:Bi r c=(if x.grants.any (fun e=>decide (e=c.grant))=true then(r,15)
   else if 8≤(x.grants.length:Int)then(r,17)
   else({r with rols:=r.rols.set (Az Rol.name r.rols c.name) {x with grants:=x.grants++[c.grant]}},0)):=by
   simp only[Bi,hk,hgr,hb,hx,Int.reduceEq,if_false,if_true,and_false,false_and,Bool.true_eq_false]
  rw[hP]
  clear hP hU
  have hc:=J7 x.grants c.grant (by omega)
  have hxd:(r.rols.map Rol.toD)[Az Rol.name r.rols c.name]?=some x.toD:=by simp[hx]
  have hset:(r.rols.set (Az Rol.name r.rols c.name) {x with grants:=x.grants++[c.grant]}).map Rol.toD=(r.rols.map Rol.toD).set (Az Rol.name r.rols c.name) (Rol.toD {x with grants:=x.grants++[c.grant]}):=by simp[List.map_set]
  have hD:Roll.toD {r with rols:=r.rols.set (Az Rol.name r.rols c.name) {x with grants:=x.grants++[c.grant]}}= .st [.it (.int .i64 r.rev),.vec Ax 3 ((r.tens.map Ten.toI).map D.it),.vec Ar 5 (r.usrs.map Usr.toD),.vec Aq 3 ((r.rols.map Rol.toD).set (Az Rol.name r.rols c.name) (.st [.it (.str x.name),.it (.str x.ten),.vec Bt 4 (((x.grants.map Gra.toI).map D.it)++[D.it c.grant.toI])]))]:=by
   show D.st [_,_,_,D.vec _ _ (List.map _ (r.rols.set _ _))]=_
   rw[hset]
   simp only[Rol.toD,List.map_append,List.map_cons,List.map_nil]
  cases ha:x.grants.any fun e=>decide (e=c.grant)with
  |true=>
   rw[ha]at hc
   rw[if_pos rfl]
   repeat'((conv=>whnf);first|(apply aI<;>intro hb<;>first|exact absurd hb (by decide)|(exfalso;simp only[Ag]at hb<;>omega)|((try rw[hb]);(try simp only[Aa]at hb)))|(refine eI ?_ ?_;focus (and_intros<;>first|omega|exact rfl|(intro _ hh;cases hh;done)|(simp only[Ag];omega)|(simp;done)|decide))|((with_reducible apply Drawn.by0);(focus kernel_rfl);intro hfact;(try simp only[dRS]at hfact))|((simp only[show D.at (0::[].append [3]) (D.ptr r.toD)=some (D.vec Aq 3 (r.rols.map Rol.toD))from rfl,Ci,show D.at [0] (D.ptr r.toD)=some r.toD from rfl,Be]))|(refine CallIs.mk ⟨_,_,hf,?_⟩)|(refine CallWp.mk ⟨_,hg,?_⟩;rintro _ _ ⟨rfl,rfl⟩)|(refine CallIs.mk ⟨_,_,hc,?_⟩)|((first|with_reducible apply Eo|((with_reducible apply Bm);(focus rfl)));(focus (simp only[D.at,D.put,D.kid,D.setKid,List.cons_append,List.nil_append,List.append,List.getElem?_cons_zero,List.getElem?_cons_succ,Int.toNat_natCast,List.getElem?_set_self',Option.map_eq_map,Option.map_some,List.set_cons_zero,List.set_cons_succ,List.set_set,Function.const_apply,List.map_cons,List.map_nil,mkSt,A1,D.toI,toIs,Aj,List.getElem?_map,List.length_map,List.length_set,hxd]<;>exact rfl));(try(focus exact rfl))))
   all_goals(try(conv=>whnf))
   exact Done.mk ⟨by kernel_rfl,by kernel_rfl⟩ (by kernel_rfl)
  |false=>
   rw[ha]at hc
   rw[if_neg (by simp)]
   by_cases h8:8≤(x.grants.length:Int)
   ·rw[if_pos h8]
    repeat'((conv=>whnf);first|(apply aI<;>intro hb<;>first|exact absurd hb (by decide)|(exfalso;simp only[Ag]at hb<;>omega)|((try rw[hb]);(try simp only[Aa]at hb)))|(refine eI ?_ ?_;focus (and_intros<;>first|omega|exact rfl|(intro _ hh;cases hh;done)|(simp only[Ag];omega)|(simp;done)|decide))|(intro hfact)|((with_reducible apply Drawn.by0);(focus kernel_rfl);intro hfact;(try simp only[dRS]at hfact))|((simp only[show D.at (0::[].append [3]) (D.ptr r.toD)=some (D.vec Aq 3 (r.rols.map Rol.toD))from rfl,Ci,show D.at [0] (D.ptr r.toD)=some r.toD from rfl,Be]))|(refine CallIs.mk ⟨_,_,hf,?_⟩)|(refine CallWp.mk ⟨_,hg,?_⟩;rintro _ _ ⟨rfl,rfl⟩)|(refine CallIs.mk ⟨_,_,hc,?_⟩)|((first|with_reducible apply Eo|((first|with_reducible apply Bm|with_reducible apply Md);(focus rfl)));(focus (simp only[D.at,D.put,D.kid,D.setKid,List.cons_append,List.nil_append,List.append,List.getElem?_cons_zero,List.getElem?_cons_succ,Int.toNat_natCast,List.getElem?_set_self',Option.map_eq_map,Option.map_some,List.set_cons_zero,List.set_cons_succ,List.set_set,Function.const_apply,List.map_cons,List.map_nil,mkSt,A1,D.toI,toIs,Aj,List.getElem?_map,List.length_map,List.length_set,hxd]<;>exact rfl));(try(focus exact rfl))))
    all_goals(try(conv=>whnf))
    exact Done.mk ⟨by kernel_rfl,by kernel_rfl⟩ (by kernel_rfl)
   ·rw[if_neg h8,hD]
    repeat'((conv=>whnf);first|(apply aI<;>intro hb<;>first|exact absurd hb (by decide)|(exfalso;simp only[Ag]at hb<;>omega)|((try rw[hb]);(try simp only[Aa]at hb)))|(refine eI ?_ ?_;focus (and_intros<;>first|omega|exact rfl|(intro _ hh;cases hh;done)|exact B5 rfl|(simp only[Ag];omega)|(simp;done)|decide))|(intro hfact)|((with_reducible apply Drawn.by0);(focus kernel_rfl);intro hfact;(try simp only[dRS]at hfact))|((simp only[show D.at (0::[].append [3]) (D.ptr r.toD)=some (D.vec Aq 3 (r.rols.map Rol.toD))from rfl,Ci,show D.at [0] (D.ptr r.toD)=some r.toD from rfl,Be]))|(refine CallIs.mk ⟨_,_,hf,?_⟩)|(refine CallWp.mk ⟨_,hg,?_⟩;rintro _ _ ⟨rfl,rfl⟩)|(refine CallIs.mk ⟨_,_,hc,?_⟩)|((first|with_reducible apply Eo|((first|with_reducible apply Bm|with_reducible apply Md);(focus rfl)));(focus (simp only[D.at,D.put,D.kid,D.setKid,List.cons_append,List.nil_append,List.append,List.getElem?_cons_zero,List.getElem?_cons_succ,Int.toNat_natCast,List.getElem?_set_self',Option.map_eq_map,Option.map_some,List.set_cons_zero,List.set_cons_succ,List.set_set,Function.const_apply,List.map_cons,List.map_nil,mkSt,A1,D.toI,toIs,Aj,List.getElem?_map,List.length_map,List.length_set,hxd]<;>exact rfl));(try(focus exact rfl))))
    all_goals(try(conv=>whnf))
    exact Done.mk ⟨by kernel_rfl,by kernel_rfl⟩ (by kernel_rfl)
end Go.Ab
