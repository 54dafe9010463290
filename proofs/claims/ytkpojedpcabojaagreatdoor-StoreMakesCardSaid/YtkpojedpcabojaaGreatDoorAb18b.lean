/- Lemmas -/
import Derived.Test.YtkpojedpcabojaaGreatDoorAb18a
import Derived.Orders
set_option linter.unusedVariables false
set_option linter.unusedSimpArgs false
namespace Go.Ab
def Is(r0:SV)(as0:List SV)(r:SV)(az:List SV):Prop:=r=r0∧az=as0
structure Fv(P:Program)(f:FuncId)(args:List SV)(K:SV→List SV→Prop):Prop where
 out:∃r0 as0,Fn P f args (Is r0 as0)∧K r0 as0
abbrev Log:=List (Nat × (Nat × SV))
def Mu:Log→St→St
 | [],st=>st
 |(i,c)::r,st=>(Mu r st).set i c
inductive Rd where
 |all (i:Nat)
 |Qa (i:Nat) (f:Nat→SV→Nat × SV) (o:Nat × SV)
def Rd.slot:Rd→Nat
 | .all i=>i
 | .Qa i _ _=>i
def Rd.Azy(r:Rd)(st' st:St):Prop:=match r with
 | .all i=>st'[i]?=st[i]?
 | .Qa i f o=>∃cur,st'[i]?=some cur∧f cur.1 cur.2=o
def K0:List Rd→List Nat
 | []=>[]
 | .all i::r=>i::K0 r
 | .Qa _ _ _::r=>K0 r
def Yh(R:List Rd):List Nat:=R.map Rd.slot
theorem V8:∀{R:List Rd} {i:Nat},Rd.all i∈R→i∈K0 R
 | .all j::r,i,h=>by
   simp only[K0,Ah];rcases Ah.1 h with h|h
   ·cases h;exact .inl rfl
   ·exact .inr (V8 h)
 | .Qa _ _ _::r,i,h=>by
   rcases Ah.1 h with h|h
   ·cases h
   ·exact V8 (R:=r) h
def Bj(L:Log):List Nat:=L.map (·.1)
def M.wr(P:Program):M→(St→List Rd→Log→List Prop→Prop)→St→List Rd→Log→List Prop→Prop
 | .get i k,K,st,R,L,F=>st[i]?≠none∧∀cur,st[i]?=some cur→(k cur.1 cur.2).wr P K st (.all i::R) L F
 | .Pd i f k,K,st,R,L,F=>st[i]?≠none∧∀cur,st[i]?=some cur→(k (f cur.1 cur.2).1 (f cur.1 cur.2).2).wr P K st ((match(Bj L).contains i with|true=>.all i|false=>.Qa i f (f cur.1 cur.2))::R) L F
 | .set i ver sv k,K,st,R,L,F=>k.wr P K (st.set i (ver,sv)) R ((i,(ver,sv))::L) F
 | .done,K,st,R,L,F=>K st R L F
 | .K8 _,_,_,_,_,_=>False
 | .fail,_,_,_,_,_=>False
 | .Co p k,K,st,R,L,F=>∃h:p,(k h).wr P K st R L F
 | .all _ _,_,_,_,_,_=>False
 | .any _ _,_,_,_,_,_=>False
 | .fact p k,K,st,R,L,F=>k.wr P K st R L (p::F)
 | .ite b x y,K,st,R,L,F=>(b=true→x.wr P K st R L F)∧(b=false→y.wr P K st R L F)
 | .call f args k,K,st,R,L,F=>Fv P f args fun r az=>(k r az).wr P K st R L F
theorem Z0{L:Log}{x:Nat}:∀{st st':St},st[x]?=st'[x]?→(Mu L st)[x]?=(Mu L st')[x]?:=by
 induction L with
 |nil=>intro st st' h;exact h
 |cons p L ih=>
  intro st st' h;obtain⟨i,c⟩:=p;simp only[Mu,List.getElem?_set'];rw[ih h]
theorem Aer{L:Log}{x:Nat}(h:x ∉ Bj L):∀{st:St},(Mu L st)[x]?=st[x]?:=by
 induction L with
 |nil=>intro st;rfl
 |cons p L ih=>
  intro st;obtain⟨i,c⟩:=p;simp only[Bj,A0,Ah,not_or]at h;simp only[Mu];rw[Az (fun e=>h.1 e.symm)]
  exact ih h.2
structure Rec where
 R:List Rd
 L:Log
 F:List Prop
def Local(P:Program)(m:M)(st:St)(d:Rec):Prop:=
 ∀st':St,(∀x∈d.R,x.Azy st' st)→m.wp P (fun st2=>st2=Mu d.L st'∧∀p∈d.F,p) st'
theorem M.Bor{P:Program}{K:St→List Rd→Log→List Prop→Prop}:∀{m:M} {st0:St} {R:List Rd} {L:Log} {F:List Prop},m.wr P K (Mu L st0) R L F→
 ∃R' L' F',K (Mu L' st0) R' L' F'∧(∀x∈R,x∈R')∧(∀p∈F,p∈F')∧(∀x∈R',x∈R∨x.Azy st0 st0)∧
  ∀st':St,(∀x∈R',x.Azy st' st0)→(∀p∈F,p)→m.wp P (fun st2=>st2=Mu L' st'∧∀p∈F',p) (Mu L st'):=by
 intro m;induction m with
 |get i k ih=>
  intro st0 R L F h;obtain⟨h1,h2⟩:=h;cases hc:(Mu L st0)[i]? with
  |none=>exact absurd hc h1
  |some cur=>
   obtain⟨R',L',F',g1,g2,g3,g5,g4⟩:=ih _ _ (h2 cur hc);refine⟨R',L',F',g1,fun x hx=>g2 x (Au _ hx),g3,fun x hx=>?_,?_⟩
   ·rcases g5 x hx with h|h
    ·rcases Ah.1 h with rfl|h
     ·exact .inr rfl
     ·exact .inl h
    ·exact .inr h
   intro st' ha hF;have:(Mu L st')[i]?=some cur:=by rw[←hc];exact Z0 (show st'[i]?=st0[i]? from ha (.all i) (g2 _ (Ar ..)))
   simp only[M.wp,this];exact g4 st' ha hF
 |Pd i f k ih=>
  intro st0 R L F h;obtain⟨h1,h2⟩:=h;cases hc:(Mu L st0)[i]? with
  |none=>exact absurd hc h1
  |some cur=>
   obtain⟨R',L',F',g1,g2,g3,g5,g4⟩:=ih _ _ (h2 cur hc);refine⟨R',L',F',g1,fun x hx=>g2 x (Au _ hx),g3,fun x hx=>?_,?_⟩
   ·rcases g5 x hx with h|h
    ·rcases Ah.1 h with rfl|h
     ·right;cases Eh:(Bj L).contains i with
      |true=>exact rfl
      |false=>
       refine⟨cur,?_,rfl⟩;rw[←hc,Aer];intro Vx;rw[Ha.2 Vx]at Eh;cases Eh
     ·exact .inl h
    ·exact .inr h
   intro st' ha hF;have hm:=g2 _ (Ar ..);have:∃Gu,(Mu L st')[i]?=some Gu∧f Gu.1 Gu.2=f cur.1 cur.2:=by
    cases Eh:(Bj L).contains i with
    |true=>
     rw[Eh]at hm;exact⟨cur,by rw[←hc];exact Z0 (show st'[i]?=st0[i]? from ha (.all i) hm),rfl⟩
    |false=>
     rw[Eh]at hm;obtain⟨Gu,k1,k2⟩:=ha _ hm;refine⟨Gu,?_,k2⟩;rw[Aer]
     ·exact k1
     ·intro Vx;rw[Ha.2 Vx]at Eh;cases Eh
   obtain⟨Gu,k1,k2⟩:=this;simp only[M.wp,k1];have k3:(f Gu.1 Gu.2).1=(f cur.1 cur.2).1:=by rw[k2]
   have k4:(f Gu.1 Gu.2).2=(f cur.1 cur.2).2:=by rw[k2]
   rw[k3,k4];exact g4 st' ha hF
 |set i ver sv k ih=>
  intro st0 R L F h;obtain⟨R',L',F',g1,g2,g3,g5,g4⟩:=ih (L:=(i,(ver,sv))::L) (st0:=st0) h;exact⟨R',L',F',g1,g2,g3,g5,fun st' ha hF=>g4 st' ha hF⟩
 |done=>intro st0 R L F h;exact⟨R,L,F,h,fun _ h=>h,fun _ h=>h,fun _ h=>.inl h,fun st' _ hF=>⟨rfl,hF⟩⟩
 |K8 p=>intro st0 R L F h;exact h.elim
 |fail=>intro st0 R L F h;exact h.elim
 |Co p k ih=>
  intro st0 R L F ⟨h1,h2⟩;obtain⟨R',L',F',g1,g2,g3,g5,g4⟩:=ih h1 h2;exact⟨R',L',F',g1,g2,g3,g5,fun st' ha hF=>⟨h1,g4 st' ha hF⟩⟩
 |all p k ih=>intro st0 R L F h;exact h.elim
 |any l k ih=>intro st0 R L F h;exact h.elim
 |fact p k ih=>
  intro st0 R L F h;obtain⟨R',L',F',g1,g2,g3,g5,g4⟩:=ih h;refine⟨R',L',F',g1,g2,fun q hq=>g3 q (Au _ hq),g5,fun st' ha hF hp=>g4 st' ha ?_⟩
  intro q hq;rcases List.mem_cons.mp hq with rfl|hq
  ·exact hp
  ·exact hF q hq
 |ite b x y ihx ihy=>
  intro st0 R L F ⟨h1,h2⟩;cases b with
  |true=>
   obtain⟨R',L',F',g1,g2,g3,g5,g4⟩:=ihx (h1 rfl);exact⟨R',L',F',g1,g2,g3,g5,fun st' ha hF=>⟨fun _=>g4 st' ha hF,fun hb=>by cases hb⟩⟩
  |false=>
   obtain⟨R',L',F',g1,g2,g3,g5,g4⟩:=ihy (h2 rfl);exact⟨R',L',F',g1,g2,g3,g5,fun st' ha hF=>⟨fun hb=>(by cases hb),fun _=>g4 st' ha hF⟩⟩
 |call f args k ih=>
  intro st0 R L F ⟨r0,as0,h1,h2⟩;obtain⟨R',L',F',g1,g2,g3,g5,g4⟩:=ih r0 as0 h2;refine⟨R',L',F',g1,g2,g3,g5,fun st' ha hF=>⟨Is r0 as0,h1,?_⟩⟩
  rintro r az ⟨rfl,rfl⟩;exact g4 st' ha hF
def Abk(P:Program):List Ao→(List Rec→St→Prop)→List Rec→St→Prop
 | [],K,ds,st=>K ds st
 |i::l,K,ds,st=>i.sem.wr P (fun st' R L F=>Abk P l K (ds++[⟨R,L,F⟩]) st') st [] [] []
def Ec(b:Nat→Bool):Nat→List Rec→St→St
 |_,[],st=>st
 |k,d::ds,st=>Ec b (k+1) ds (if b k then Mu d.L st else st)
theorem Py{b b':Nat→Bool}{x:Nat}:∀{ds:List Rec} {k:Nat} {st st':St},st[x]?=st'[x]?→(∀j d,ds[j]?=some d→b (k+j)=b' (k+j)∨x ∉ Bj d.L)→
 (Ec b k ds st)[x]?=(Ec b' k ds st')[x]?
 | [],k,st,st',h,_=>h
 |d::ds,k,st,st',h,hd=>by
  refine Py (ds:=ds) ?_ fun j d' hj=>by
   have:=hd (j+1) d' hj;rwa [show k+(j+1)=k+1+j by omega]at this
  rcases hd 0 d rfl with h1|h1
  ·simp only[Gk]at h1;rw[h1];split
   ·exact Z0 h
   ·exact h
  ·have:∀(c:Bool) (s:St),(if c then Mu d.L s else s)[x]?=s[x]?:=by
    intro c s;cases c
    ·rfl
    ·exact Aer h1
   rw[this,this,h]
theorem Xj{b:Nat→Bool}:∀{ds:List Rec} {n k:Nat} {st:St},Ec (fun j=>b j&&decide (j<k+n)) k ds st=Ec b k (ds.take n) st
 | [],n,k,st=>by simp[Ec]
 |d::ds,0,k,st=>by
  simp only[Ec,Gk,Nat.lt_irrefl,decide_false,Bool.and_false,List.take_zero];have aux:∀(ds:List Rec) (k':Nat) (s:St),k≤k'→Ec (fun j=>b j&&decide (j<k)) k' ds s=s:=by
   intro ds;induction ds with
   |nil=>intro _ _ _;rfl
   |cons d ds ih=>
    intro k' s hk;simp only[Ec];rw[ih _ _ (by omega)]
    simp[show ¬k'<k by omega]
  exact aux ds (k+1) st (by omega)
 |d::ds,n+1,k,st=>by
  simp only[Ec,List.take_succ_cons];rw[←Xj (ds:=ds) (n:=n) (k:=k+1)];simp only[show k<k+(n+1)by omega,decide_true,Bool.and_true,show k+1+n=k+(n+1)by omega]
theorem Ai7{b:Nat→Bool}{d:Rec}:∀{ds:List Rec} {k:Nat} {st:St},Ec b k (ds++[d]) st=if b (k+ds.length)then Mu d.L (Ec b k ds st)else Ec b k ds st
 | [],k,st=>by simp[Ec]
 |e::ds,k,st=>by
  simp only[C4,Ec,Cg];rw[Ai7 (ds:=ds),show k+1+ds.length=k+(ds.length+1)by omega]
theorem Zf{b b':Nat→Bool}:∀{ds:List Rec} {k:Nat} {st:St},(∀j,j<ds.length→b (k+j)=b' (k+j))→Ec b k ds st=Ec b' k ds st
 | [],_,_,_=>rfl
 |d::ds,k,st,h=>by
  have h0:=h 0 (by simp)
  simp only[Gk]at h0;simp only[Ec,h0];exact Zf (ds:=ds) fun j hj=>by
   have:=h (j+1) (by simpa using hj)
   rwa [show k+(j+1)=k+1+j by omega]at this
theorem Ax7{b:Nat→Bool}{ds:List Rec}{i:Nat}{d:Rec}{st:St}(hd:ds[i]?=some d)(hb:b i=false)
 (hx:∀j e,i<j→ds[j]?=some e→b j=true→∀x∈Bj d.L,x ∉ Bj e.L):
 Ec (fun j=>b j||j==i) 0 ds st=Mu d.L (Ec b 0 ds st):=by
 apply List.ext_getElem?;intro x;by_cases h:x∈Bj d.L
 ·have hi:i<ds.length:=(Ak.1 hd).1;have e1:(Ec (fun j=>b j||j==i) 0 ds st)[x]?=(Ec (fun j=>(b j||j==i)&&decide (j<0+(i+1))) 0 ds st)[x]?:=by
   refine Py rfl fun j e hj=>?_
   by_cases hj':j<i+1
   ·left;simp[hj']
   ·by_cases hbj:b j=true
    ·exact .inr (hx j e (by omega) hj hbj x h)
    ·left;simp at hbj;simp[hbj,show ¬j=i by omega]
  have e2:(Ec b 0 ds st)[x]?=(Ec (fun j=>b j&&decide (j<0+i)) 0 ds st)[x]?:=by
   refine Py rfl fun j e hj=>?_
   by_cases hj':j<i
   ·left;simp[hj']
   ·by_cases hbj:b j=true
    ·by_cases L7:j=i
     ·subst L7;rw[hb]at hbj;cases hbj
     ·exact .inr (hx j e (by omega) hj hbj x h)
    ·left;simp at hbj;simp[hbj]
  rw[e1,Xj,Z0 e2,Xj];have e3:ds.take (i+1)=ds.take i++[d]:=by rw[D5,hd];rfl
  rw[e3,Ai7];have e4:0+(ds.take i).length=i:=by simp;omega
  rw[e4];simp only[beq_self_eq_true,Bool.or_true,if_true];refine Z0 ?_;rw[Zf];intro j hj;simp at hj;simp;omega
 ·rw[Aer h];refine Py rfl fun j e hj=>?_
  by_cases L7:j=i
  ·subst L7;rw[hd]at hj;cases hj;exact .inr h
  ·left;simp[L7]
def Aiv:List (List Nat)→List Nat→List Nat
 | [],acc=>acc
 |e::r,acc=>Aiv r (acc++[e.foldl (fun s j=>s ||| 2^j ||| acc.getD j 0) 0])
def Pg(es:List (List Nat))(e:List Nat)(j:Nat):Prop:=∀b:Nat→Bool,(∀i l,es[i]?=some l→b i=true→∀k∈l,b k=true)→(∀k∈e,b k=true)→b j=true
theorem Q1{es:List (List Nat)}:∀{r pre:List (List Nat)} {acc:List Nat},es=pre++r→acc.length=pre.length→
 (∀(i:Nat) e (m:Nat),pre[i]?=some e→acc[i]?=some m→∀j,m.testBit j=true→Pg es e j)→
 ∀(i:Nat) e (m:Nat),es[i]?=some e→(Aiv r acc)[i]?=some m→∀j,m.testBit j=true→Pg es e j
 | [],pre,acc,h,hl,ha=>by
   simp only[Dk]at h;subst h;exact ha
 |e::r,pre,acc,h,hl,ha=>by
  refine Q1 (r:=r) (pre:=pre++[e]) (by rw[h];simp) (by simp[hl]) ?_
  intro i e' m h1 h2 j hj;by_cases hi:i<pre.length
  ·rw[B0 hi]at h1;rw[B0 (by omega)]at h2
   exact ha i e' m h1 h2 j hj
  ·have hi':i=pre.length:=by
    have:=(Ak.1 h1).1;simp at this;omega
   subst hi';rw[←hl,List.getElem?_concat_length]at h2;rw[List.getElem?_concat_length]at h1;cases h1;cases h2;have aux:∀(l:List Nat) (s:Nat),(∀j,s.testBit j=true→Pg es e j)→(∀k∈l,k∈e)→∀j,(l.foldl (fun s j=>s ||| 2^j ||| acc.getD j 0) s).testBit j=true→Pg es e j:=by
    intro l;induction l with
    |nil=>intro s hs _ j hj;exact hs j hj
    |cons k l ih=>
     intro s hs Ve j hj;refine ih _ ?_ (fun k hk=>Ve k (Au _ hk)) j hj
     intro j hj;have hke:=Ve k (Ar ..);simp only[Nat.testBit_or,C1]at hj;rcases hj with(hj|hj)|hj
     ·exact hs j hj
     ·rw[Nat.testBit_two_pow]at hj;simp at hj;subst hj;exact fun b _ h2=>h2 k hke
     ·intro b Jx Ku;cases hk:acc[k]? with
      |none=>rw[Gz,hk]at hj;simp at hj
      |some m=>
       rw[Gz,hk]at hj;have L8:k<pre.length:=by rw[←hl];exact(Ak.1 hk).1
       have Vy:pre[k]?=some pre[k]:=Ac L8;have U9:es[k]?=some pre[k]:=by rw[h,B0 L8,Vy]
       exact ha k _ m Vy hk j hj b Jx (Jx k _ U9 (Ku k hke))
   exact aux e 0 (fun j hj=>by simp at hj) (fun _ h=>h) j hj
def Nt:List Nat→List Nat→Bool
 | [],_=>true
 |x::r,l=> !l.contains x&&Nt r l
theorem S2:∀{a l:List Nat},Nt a l=true→∀x∈a,x ∉ l
 | [],_,_,_,h=>by cases h
 |y::r,l,h,x,hx=>by
  simp only[Nt,Ad,Ds]at h;rcases List.mem_cons.mp hx with rfl|hx
  ·intro hm;have:=Ha.2 hm;rw[h.1]at this;cases this
  ·exact S2 h.2 x hx
def Xg(d:Rec)(m:Nat):Nat→List Rec→Bool
 |_,[]=>true
 |j,e::r=>(m.testBit j||(Nt (Bj d.L) (Bj e.L)&&Nt (Bj d.L) (K0 e.R)&&Nt (Bj e.L) (K0 d.R)))&&Xg d m (j+1) r
def Zd(pre:List Rec):List Rec→List Nat→Bool
 | [],_=>true
 |d::r,m::ms=>Xg d m 0 pre&&Zd (pre++[d]) r ms
 |_::_,[]=>false
def Auj(d:Rec)(m:Nat):Nat→List Rec→Bool
 |_,[]=>true
 |j,e::r=>(m.testBit j||(Nt (Bj d.L) (Bj e.L)&&Nt (Bj d.L) (K0 e.R)&&Nt (Bj e.L) (Yh d.R)))&&Auj d m (j+1) r
def Aui(pre:List Rec):List Rec→List Nat→Bool
 | [],_=>true
 |d::r,m::ms=>Auj d m 0 pre&&Aui (pre++[d]) r ms
 |_::_,[]=>false
def Ah8(c:Nat × (Nat × SV)):List Rd→Prop
 | []=>True
 | .all _::r=>Ah8 c r
 | .Qa i f o::r=>(match Nat.beq i c.1 with
   |true=>f c.2.1 c.2.2=o
   |false=>True)∧Ah8 c r
def Qu:Log→List Rd→Prop
 | [],_=>True
 |c::L,R=>Ah8 c R∧Qu L R
def S1(d:Rec)(m:Nat):Nat→List Rec→Prop
 |_,[]=>True
 |j,e::r=>(match m.testBit j with
  |true=>True
  |false=>Qu d.L e.R)∧S1 d m (j+1) r
def Abp(pre:List Rec):List Rec→List Nat→Prop
 | [],_=>True
 |d::r,m::ms=>S1 d m 0 pre∧Abp (pre++[d]) r ms
 |_::_,[]=>False
theorem Ah9{c:Nat × (Nat × SV)}:∀{R:List Rd},Ah8 c R→∀i f o,Rd.Qa i f o∈R→i=c.1→f c.2.1 c.2.2=o
 | [],_,_,_,_,h,_=>by cases h
 | .all _::r,h,i,f,o,hm,hi=>by
   rcases Ah.1 hm with hm|hm
   ·cases hm
   ·exact Ah9 (R:=r) h i f o hm hi
 | .Qa i' f' o'::r,h,i,f,o,hm,hi=>by
   simp only[Ah8]at h;rcases Ah.1 hm with hm|hm
   ·rw[Rd.Qa.injEq]at hm;obtain⟨h1,h2,h3⟩:=hm;subst h1;subst h2;subst h3;have:Nat.beq i c.1=true:=by rw[hi];exact Nat.beq_refl _
    rw[this]at h;exact h.1
   ·exact Ah9 h.2 i f o hm hi
theorem Sj:∀{L:Log} {R:List Rd},Qu L R→∀c∈L,∀i f o,Rd.Qa i f o∈R→i=c.1→f c.2.1 c.2.2=o
 | [],_,_,_,hc=>by cases hc
 |a::L,R,h,c,hc=>by
  rcases Ah.1 hc with rfl|hc
  ·exact Ah9 h.1
  ·exact Sj h.2 c hc
theorem Amn{d:Rec}{m:Nat}:∀{pre:List Rec} {k:Nat},S1 d m k pre→∀j e,pre[j]?=some e→m.testBit (k+j)=true∨Qu d.L e.R
 | [],_,_,j,e,h=>by simp at h
 |f::r,k,h,j,e,he=>by
  simp only[S1]at h;cases j with
  |zero=>
   cases he;cases hb:m.testBit k with
   |true=>exact .inl (by simp)
   |false=>rw[hb]at h;exact .inr h.1
  |succ j=>
   have:=Amn h.2 j e he;rwa [show k+1+j=k+(j+1)by omega]at this
theorem Ab7:∀{ds pre:List Rec} {ms:List Nat},Abp pre ds ms→∀i d,ds[i]?=some d→∃m,ms[i]?=some m∧∀j e,j<pre.length+i→(pre++ds)[j]?=some e→m.testBit j=true∨Qu d.L e.R
 | [],_,_,_,i,d,h=>by simp at h
 |d::r,pre,[],h,_,_,_=>by cases h
 |d::r,pre,m::ms,h,i,d',hd=>by
  simp only[Abp]at h;cases i with
  |zero=>
   cases hd;refine⟨m,rfl,fun j e hj he=>?_⟩
   rw[B0 (by omega)]at he
   have:=Amn h.1 j e he;rwa [Bm]at this
  |succ i=>
   obtain⟨m',h1,h2⟩:=Ab7 h.2 i d' hd;refine⟨m',h1,fun j e hj he=>h2 j e (by simp;omega) (by rw[A8];exact he)⟩
def Auh(d:Rec)(m:Nat):Nat→List Rec→Bool
 |_,[]=>true
 |j,e::r=>(m.testBit j||Nt (Bj d.L) (Yh e.R))&&Auh d m (j+1) r
def Aug(pre:List Rec):List Rec→List Nat→Bool
 | [],_=>true
 |d::r,m::ms=>Auh d m 0 pre&&Aug (pre++[d]) r ms
 |_::_,[]=>false
theorem Axg:∀{L:Log} {R:List Rd},Nt (Bj L) (Yh R)=true→Qu L R
 | [],_,_=>trivial
 |p::L,R,h=>by
  simp only[Bj,A0,Nt,Ad,Ds]at h;refine⟨?_,Axg h.2⟩;have hi:p.1 ∉ Yh R:=fun hm=>by rw[Ha.2 hm]at h;cases h.1
  clear h;induction R with
  |nil=>trivial
  |cons r R ih=>
   simp only[Yh,A0,Ah,not_or]at hi;cases r with
   |all j=>exact ih hi.2
   |Qa j f o=>
    refine⟨?_,ih hi.2⟩;have:Nat.beq j p.1=false:=by
     rw[Bool.eq_false_iff];intro e;exact hi.1 (Nat.eq_of_beq_eq_true e).symm
    rw[this];trivial
theorem Apw{d:Rec}{m:Nat}:∀{pre:List Rec} {k:Nat},Auh d m k pre=true→S1 d m k pre
 | [],_,_=>trivial
 |f::r,k,h=>by
  simp only[Auh,Ad,C1]at h;refine⟨?_,Apw h.2⟩;cases hb:m.testBit k with
  |true=>trivial
  |false=>
   rcases h.1 with h1|h1
   ·rw[hb]at h1;cases h1
   ·exact Axg h1
theorem Apv:∀{ds pre:List Rec} {ms:List Nat},Aug pre ds ms=true→Abp pre ds ms
 | [],_,_,_=>trivial
 |_::_,_,[],h=>by cases h
 |d::r,pre,m::ms,h=>by
  simp only[Aug,Ad]at h;exact⟨Apw h.1,Apv h.2⟩
theorem Auq{x:Nat}{f:Nat→SV→Nat × SV}{o:Nat × SV}:∀{L:Log} {st:St},(∃cur,st[x]?=some cur∧f cur.1 cur.2=o)→(∀c∈L,c.1=x→f c.2.1 c.2.2=o)→∃cur,(Mu L st)[x]?=some cur∧f cur.1 cur.2=o
 | [],_,h,_=>h
 |(i,c)::L,st,h,hL=>by
  obtain⟨cur,h1,h2⟩:=Auq (L:=L) h fun c hc=>hL c (Au _ hc)
  simp only[Mu];by_cases hi:i=x
  ·subst hi;exact⟨c,by rw[E7 (Ak.1 h1).1],hL _ (Ar ..) rfl⟩
  ·exact⟨cur,by rw[Az hi];exact h1,h2⟩
theorem Xi{b:Nat→Bool}{x:Nat}{f:Nat→SV→Nat × SV}{o:Nat × SV}:∀{ds:List Rec} {k:Nat} {st:St},(∃cur,st[x]?=some cur∧f cur.1 cur.2=o)→
 (∀j d,ds[j]?=some d→b (k+j)=true→∀c∈d.L,c.1=x→f c.2.1 c.2.2=o)→∃cur,(Ec b k ds st)[x]?=some cur∧f cur.1 cur.2=o
 | [],_,_,h,_=>h
 |d::ds,k,st,h,hd=>by
  simp only[Ec];refine Xi (ds:=ds) ?_ fun j e hj hb=>hd (j+1) e hj (by rwa [show k+(j+1)=k+1+j by omega])
  split
  ·rename_i hb;exact Auq h (hd 0 d rfl hb)
  ·exact h
theorem Afw{b:Nat→Bool}:∀{ds ds':List Rec} {k:Nat} {st:St},Ec b k (ds++ds') st=Ec b (k+ds.length) ds' (Ec b k ds st)
 | [],_,_,_=>rfl
 |d::ds,ds',k,st=>by
  simp only[C4,Ec,Cg];rw[Afw,show k+1+ds.length=k+(ds.length+1)by omega]
theorem Aun{d:Rec}{m:Nat}:∀{pre:List Rec} {k:Nat},Xg d m k pre=true→∀j e,pre[j]?=some e→m.testBit (k+j)=true∨
 ((∀x∈Bj d.L,x ∉ Bj e.L)∧(∀x∈Bj d.L,x ∉ K0 e.R)∧∀x∈Bj e.L,x ∉ K0 d.R)
 | [],_,_,j,e,h=>by simp at h
 |f::r,k,h,j,e,he=>by
  simp only[Xg,Ad,C1]at h;cases j with
  |zero=>
   cases he;rcases h.1 with h1|⟨⟨h1,h2⟩,h3⟩
   ·exact .inl h1
   ·exact .inr ⟨S2 h1,S2 h2,S2 h3⟩
  |succ j=>
   have:=Aun h.2 j e he;rwa [show k+1+j=k+(j+1)by omega]at this
theorem Ai3:∀{ds pre:List Rec} {ms:List Nat},Zd pre ds ms=true→∀i d,ds[i]?=some d→∃m,ms[i]?=some m∧∀j e,j<pre.length+i→(pre++ds)[j]?=some e→m.testBit j=true∨
 ((∀x∈Bj d.L,x ∉ Bj e.L)∧(∀x∈Bj d.L,x ∉ K0 e.R)∧∀x∈Bj e.L,x ∉ K0 d.R)
 | [],_,_,_,i,d,h=>by simp at h
 |d::r,pre,[],h,_,_,_=>by cases h
 |d::r,pre,m::ms,h,i,d',hd=>by
  simp only[Zd,Ad]at h;cases i with
  |zero=>
   cases hd;refine⟨m,rfl,fun j e hj he=>?_⟩
   rw[B0 (by omega)]at he
   have:=Aun h.1 j e he;rwa [Bm]at this
  |succ i=>
   obtain⟨m',h1,h2⟩:=Ai3 h.2 i d' hd;refine⟨m',h1,fun j e hj he=>h2 j e (by simp;omega) (by rw[A8];exact he)⟩
def M7(y m:Nat):Nat→List Rec→Bool
 |_,[]=>true
 |j,e::r=>(m.testBit j|| !(Bj e.L).contains y)&&M7 y m (j+1) r
def T9(rd:Rd):List Rec→Prop
 | []=>True
 |e::r=>Qu e.L [rd]∧T9 rd r
def T7(st0:St)(pre:List Rec)(m:Nat):List Rd→Prop
 | []=>True
 | .all _::r=>T7 st0 pre m r
 | .Qa y f o::r=>(match M7 y m 0 pre with
   |true=>True
   |false=>(match st0[y]? with
    |some c=>f c.1 c.2=o
    |none=>False)∧T9 (.Qa y f o) pre)∧T7 st0 pre m r
def Abm(st0:St)(pre:List Rec):List Rec→List Nat→Prop
 | [],_=>True
 |d::r,m::ms=>T7 st0 pre m d.R∧Abm st0 (pre++[d]) r ms
 |_::_,[]=>False
theorem Ac0{y m:Nat}:∀{pre:List Rec} {k:Nat},M7 y m k pre=true→∀j e,pre[j]?=some e→m.testBit (k+j)=true∨y ∉ Bj e.L
 | [],_,_,j,e,h=>by simp at h
 |f::r,k,h,j,e,he=>by
  simp only[M7,Ad,C1,Ds]at h;cases j with
  |zero=>
   cases he;rcases h.1 with h1|h1
   ·exact .inl h1
   ·exact .inr fun hm=>by rw[Ha.2 hm]at h1;cases h1
  |succ j=>
   have:=Ac0 h.2 j e he;rwa [show k+1+j=k+(j+1)by omega]at this
theorem Acb{rd:Rd}:∀{pre:List Rec},T9 rd pre→∀(j:Nat) (e:Rec),pre[j]?=some e→Qu e.L [rd]
 | [],_,j,e,h=>by simp at h
 |f::r,h,j,e,he=>by
  cases j with
  |zero=>cases he;exact h.1
  |succ j=>exact Acb h.2 j e he
theorem Wv{st0:St}{pre:List Rec}{m:Nat}:∀{R:List Rd},T7 st0 pre m R→∀y f o,Rd.Qa y f o∈R→M7 y m 0 pre=true∨((∃c,st0[y]?=some c∧f c.1 c.2=o)∧T9 (.Qa y f o) pre)
 | [],_,_,_,_,h=>by cases h
 | .all _::r,h,y,f,o,hm=>by
   rcases Ah.1 hm with hm|hm
   ·cases hm
   ·exact Wv (R:=r) h y f o hm
 | .Qa y' f' o'::r,h,y,f,o,hm=>by
   simp only[T7]at h;rcases Ah.1 hm with hm|hm
   ·rw[Rd.Qa.injEq]at hm;obtain⟨h1,h2,h3⟩:=hm;subst h1;subst h2;subst h3;cases ho:M7 y m 0 pre with
    |true=>exact .inl rfl
    |false=>
     rw[ho]at h;refine .inr ⟨?_,h.1.2⟩;have h4:=h.1.1;split at h4
     ·rename_i c hc;exact⟨c,hc,h4⟩
     ·exact h4.elim
   ·exact Wv h.2 y f o hm
theorem Ab1{st0:St}:∀{ds pre:List Rec} {ms:List Nat},Abm st0 pre ds ms→∀i d,ds[i]?=some d→∃m,ms[i]?=some m∧T7 st0 (pre++ds.take i) m d.R
 | [],_,_,_,i,d,h=>by simp at h
 |d::r,pre,[],h,_,_,_=>by cases h
 |d::r,pre,m::ms,h,i,d',hd=>by
  simp only[Abm]at h;cases i with
  |zero=>
   cases hd;exact⟨m,rfl,by simpa using h.1⟩
  |succ i=>
   obtain⟨m',h1,h2⟩:=Ab1 h.2 i d' hd;exact⟨m',h1,by simpa using h2⟩
theorem Aic:∀{R:List Rd} {x:Nat},x∈K0 R→x∈Yh R
 | .all i::r,x,h=>by
   simp only[K0,Ah]at h;simp only[Yh,A0,Ah,Rd.slot];rcases h with h|h
   ·exact .inl h
   ·exact .inr (Aic h)
 | .Qa i _ _::r,x,h=>by
   simp only[Yh,A0,Ah];exact .inr (Aic (R:=r) h)
theorem Ax2:∀{a l:List Nat},(∀x∈a,x ∉ l)→Nt a l=true
 | [],_,_=>rfl
 |y::r,l,h=>by
  simp only[Nt,Ad,Ds];refine⟨?_,Ax2 fun x hx=>h x (Au _ hx)⟩
  rw[Bool.eq_false_iff];intro hc;exact h y (Ar ..) (Ha.1 hc)
theorem Ax3{d:Rec}{m:Nat}:∀{pre:List Rec} {k:Nat},Auj d m k pre=true→Xg d m k pre=true∧∀y∈Yh d.R,M7 y m k pre=true
 | [],_,_=>⟨rfl,fun _ _=>rfl⟩
 |e::r,k,h=>by
  simp only[Auj,Ad,C1]at h;obtain⟨h1,h2⟩:=Ax3 h.2;refine⟨?_,fun y hy=>?_⟩
  ·simp only[Xg,Ad,C1];refine⟨?_,h1⟩;rcases h.1 with h3|⟨⟨h3,h4⟩,h5⟩
   ·exact .inl h3
   ·exact .inr ⟨⟨h3,h4⟩,Ax2 fun x hx hm=>S2 h5 x hx (Aic hm)⟩
  ·simp only[M7,Ad,C1,Ds];refine⟨?_,h2 y hy⟩;rcases h.1 with h3|⟨_,h5⟩
   ·exact .inl h3
   ·right;rw[Bool.eq_false_iff];intro hc;exact S2 h5 y (Ha.1 hc) hy
theorem Ae8{st0:St}{pre:List Rec}{m:Nat}:∀{R:List Rd},(∀y∈Yh R,M7 y m 0 pre=true)→T7 st0 pre m R
 | [],_=>trivial
 | .all _::r,h=>Ae8 (R:=r) fun y hy=>h y (by simp only[Yh,A0,Ah];exact .inr hy)
 | .Qa y f o::r,h=>by
   refine⟨?_,Ae8 fun z hz=>h z (by simp only[Yh,A0,Ah];exact .inr hz)⟩
   rw[h y (by simp[Yh,Rd.slot])]
   trivial
theorem Anu{st0:St}:∀{ds pre:List Rec} {ms:List Nat},Aui pre ds ms=true→Zd pre ds ms=true∧Abm st0 pre ds ms
 | [],_,_,_=>⟨rfl,trivial⟩
 |_::_,_,[],h=>by cases h
 |d::r,pre,m::ms,h=>by
  simp only[Aui,Ad]at h;obtain⟨h1,h2⟩:=Ax3 h.1;obtain⟨h3,h4⟩:=Anu h.2;exact⟨by simp only[Zd,Ad];exact⟨h1,h3⟩,Ae8 h2,h4⟩
structure Dw(st0:St)(ms:List Nat)(Q:St→Prop)(ds:List Rec)(st:St):Prop where
 ok:Zd [] ds ms=true
 fits:Abp [] ds ms
 base:Abm st0 [] ds ms
 go:(∀d∈ds,∀p∈d.F,p)→Q st
theorem Dw.by0{st0:St}{ms:List Nat}{Q:St→Prop}{ds:List Rec}{st:St}(h:(Aui [] ds ms&&Aug [] ds ms)=true)(hq:(∀d∈ds,∀p∈d.F,p)→Q st):Dw st0 ms Q ds st:=by
 rw[Ad]at h;exact⟨(Anu h.1 (st0:=st0)).1,Apv h.2,(Anu h.1).2,hq⟩
def Yn(os:List Oper):List (List Nat):=os.map fun o=>(o.after.toList.filter (Region.binds .any ·)).map (·.on)
def Yo:List (List Nat)→Nat→List Oper→Bool
 | [],_,[]=>true
 |e::es,i,o::os=>(e.all fun j=>o.after.any fun x=>Region.binds .any x&&x.on==j)&&(o.after.all fun x=> !Region.binds .any x||decide (x.on<i))&&Yo es (i+1) os
 |_,_,_=>false
theorem Ab5:∀{es:List (List Nat)} {k:Nat} {os:List Oper},Yo es k os=true→es.length=os.length∧∀i o,os[i]?=some o→∃e,es[i]?=some e∧
 (∀j∈e,∃x∈o.after,Region.binds .any x=true∧x.on=j)∧∀x∈o.after,Region.binds .any x=true→x.on<k+i
 | [],_,[],_=>⟨rfl,fun i o h=>by simp at h⟩
 |e::es,k,o::os,h=>by
  simp only[Yo,Ad]at h;obtain⟨⟨h1,h2⟩,h3⟩:=h;obtain⟨h4,h5⟩:=Ab5 h3;refine⟨by simp[h4],fun i o' hi=>?_⟩
  cases i with
  |zero=>
   cases hi;refine⟨e,rfl,fun j hj=>?_,fun x hx hb=>?_⟩
   ·have:=Ew.1 h1 j hj;obtain⟨x,hx,hx'⟩:=Array.any_eq_true'.1 this;simp only[Ad,beq_iff_eq]at hx';exact⟨x,hx,hx'.1,hx'.2⟩
   ·have:=Array.all_eq_true'.1 h2 x hx;simpa[hb]using this
  |succ i=>
   obtain⟨e',g1,g2,g3⟩:=h5 i o' hi;exact⟨e',g1,g2,fun x hx hb=>by have:=g3 x hx hb;omega⟩
 | [],_,_::_,h=>by cases h
 |_::_,_,[],h=>by cases h
theorem Ajw{P:Program}{K:List Rec→St→Prop}{st0:St}:∀{l:List Ao} {pre:List Rec},Abk P l K pre (Ec (fun _=>true) 0 pre st0)→
 ∃ds,ds.length=l.length∧K (pre++ds) (Ec (fun _=>true) 0 (pre++ds) st0)∧
  ∀i m d,l[i]?=some m→ds[i]?=some d→Local P m.sem (Ec (fun _=>true) 0 ((pre++ds).take (pre.length+i)) st0) d∧
   ∀x∈d.R,x.Azy (Ec (fun _=>true) 0 ((pre++ds).take (pre.length+i)) st0) (Ec (fun _=>true) 0 ((pre++ds).take (pre.length+i)) st0)
 | [],pre,h=>⟨[],rfl,by simpa[Abk]using h,fun i m d h=>by simp at h⟩
 |m::l,pre,h=>by
  simp only[Abk]at h;obtain⟨R,L,F,h1,h2,h3,h5,h4⟩:=M.Bor (L:=[]) (st0:=Ec (fun _=>true) 0 pre st0) h
  have e1:Ec (fun _=>true) 0 (pre++[⟨R,L,F⟩]) st0=Mu L (Ec (fun _=>true) 0 pre st0):=by rw[Ai7];rfl
  rw[←e1]at h1;obtain⟨ds,g1,g2,g3⟩:=Ajw (l:=l) (pre:=pre++[⟨R,L,F⟩]) h1;rw[A8]at g2 g3;refine⟨⟨R,L,F⟩::ds,by simp[g1],g2,fun i m' d hm hd=>?_⟩
  cases i with
  |zero=>
   cases hm;cases hd;rw[Gk,List.take_left' rfl];refine⟨fun st' Ga=>h4 st' Ga (fun p hp=>by cases hp),fun x hx=>?_⟩
   rcases h5 x hx with h|h
   ·cases h
   ·exact h
  |succ i=>
   have:=g3 i m' d hm hd;simpa[Nat.add_assoc,Nat.add_comm 1 i]using this
section
variable{P:Program}{N:Nat}{G:Mem}{σ:Lab}{Fr:Mem}{w0:Base}{w:World}{st:St}{a:Act}
theorem Aq1{ops:Array Oper}:∀{l:List Oper} {m:List Ao},Z8 P N ops l m=true→l.length=m.length∧∀(i:Nat) o,l[i]?=some o→∃x,m[i]?=some x∧Vn P N ops o x=true
 | [],[],_=>⟨rfl,fun i o h=>by simp at h⟩
 |o::l,x::m,h=>by
  simp only[Z8,Ad]at h;obtain⟨h1,h2⟩:=Aq1 h.2;refine⟨by simp[h1],fun i o' hi=>?_⟩
  cases i with
  |zero=>cases hi;exact⟨x,rfl,h.1⟩
  |succ i=>exact h2 i o' hi
 | [],_::_,h=>by cases h
 |_::_,[],h=>by simp[Z8]at h
theorem Gc.drawn(h:Gc G σ Fr w0 w)(n:Nat):Gc G σ Fr w0 {w with drawn:=n}:=⟨h.fixed,h.own,h.inj,h.frame,h.os,h.tape,h.output,h.size,h.apart,h.Mv⟩
theorem Rel.drawn(h:Rel G σ Fr w0 st a w)(n:Nat):Rel G σ Fr w0 st a {w with drawn:=n}:=
 ⟨h.Bz.drawn n,h.defers,h.n,h.len,fun s ver sv hs=>(h.Bj s ver sv hs).Mk (Mem.le.refl G) (fun _ _ _ hb=>⟨hb,rfl⟩) h.Bj,h.Nv⟩
theorem A9s{ro:Option Nat}{id:Nat}{ops:Array Oper}{es:List (List Nat)}{ms:List Nat}{l:List Ao}{Q:St→Prop}{Qx:Exit→Act→World→Prop}(hm:P.follows .mixedOrders=true)(hms:Aiv es []=ms)
 (hc:Z8 P w0.n ops ops.toList l=true) (he:Yo es 0 ops.toList=true) (hr:Rel G σ Fr w0 st a w) (hq:Abk P l (Dw st ms Q) [] st)
 (hn:∀G' σ' st' a' w',G.le G'→Rel G' σ' Fr w0 st' a' w'→Q st'→Qx .normal a' w'):(Code.region id ops true).wpIn (Wd ro) 0 P Qx a w:=by
 subst hms;obtain⟨hlen,Bi0⟩:=Aq1 hc;obtain⟨Bmr,Aid⟩:=Ab5 he;obtain⟨ds,hdl,⟨Dj,Amy,Atd,hgo⟩,Arb⟩:=Ajw (st0:=st) (pre:=[]) hq;simp only[Cu,Fb,Bm]at Dj Amy Atd hgo Arb;have Up:ds.length=ops.size:=by rw[hdl, ←hlen,Array.length_toList]
 have Atg:∀i d,ds[i]?=some d→∀e,es[i]?=some e→∀j f,j<i→ds[j]?=some f→Pg es e j∨
  (((∀x∈Bj d.L,x ∉ Bj f.L)∧(∀x∈Bj d.L,x ∉ K0 f.R)∧∀x∈Bj f.L,x ∉ K0 d.R)∧Qu d.L f.R):=by
  intro i d hd e U9 j f hj hf;obtain⟨m,h1,h2⟩:=Ai3 Dj i d hd;obtain⟨m',h1',h2'⟩:=Ab7 Amy i d hd;rw[h1]at h1';cases h1';rcases h2 j f (by simpa using hj) (by simpa using hf)with h3|h3
  ·exact .inl (Q1 (r:=es) (pre:=[]) (acc:=[]) rfl rfl (by simp) i e m U9 h1 j h3)
  ·rcases h2' j f (by simpa using hj) (by simpa using hf)with h4|h4
   ·exact .inl (Q1 (r:=es) (pre:=[]) (acc:=[]) rfl rfl (by simp) i e m U9 h1 j h4)
   ·exact .inr ⟨h3,h4⟩
 have A10:∀i d,ds[i]?=some d→∀e,es[i]?=some e→∀y f o,Rd.Qa y f o∈d.R→(∀j g,j<i→ds[j]?=some g→Pg es e j∨y ∉ Bj g.L)∨((∃c,st[y]?=some c∧f c.1 c.2=o)∧T9 (.Qa y f o) (ds.take i)):=by
  intro i d hd e U9 y f o hy;obtain⟨m,h1,h2⟩:=Ab1 Atd i d hd;rw[Cu]at h2;rcases Wv h2 y f o hy with h3|h3
  ·refine .inl fun j g hj hg=>?_
   rcases Ac0 h3 j g (by rw[List.getElem?_take_of_lt hj];exact hg)with h4|h4
   ·rw[Bm]at h4;exact .inl ((Q1 (r:=es) (pre:=[]) (acc:=[]) rfl rfl (by simp) i e m U9 h1 j h4))
   ·exact .inr h4
  ·exact .inr h3
 refine wpIn_region_any hm ?_
 suffices H:∀(fuel:Nat) (listed:Array Bool) (G1:Mem) (σ1:Lab) (a1:Act) (w1:World),listed.size=ops.size→((List.range ops.size).filter fun i=> !listed.getD i true).length≤fuel→G.le G1→
  (∀i e,es[i]?=some e→listed.getD i false=true→∀k∈e,listed.getD k false=true)→
  (∀i d,ds[i]?=some d→listed.getD i false=true→∀p∈d.F,p)→
  Rel G1 σ1 Fr w0 (Ec (fun i=>listed.getD i false) 0 ds st) a1 w1→wpAnyIn (Wd ro) 0 P .any ops Qx fuel listed a1 w1 by
  refine H _ _ G σ a _ (by simp) ?_ (Mem.le.refl G) ?_ ?_ ?_
  ·refine C2 (List.length_filter_le _ _) (by simp)
  ·intro i e _ hi;simp[Aq,Gh]at hi;split at hi<;>simp at hi
  ·intro i d _ hi;simp[Aq,Gh]at hi;split at hi<;>simp at hi
  ·have:Ec (fun i=>(Array.replicate ops.size false).getD i false) 0 ds st=st:=by
    have aux:∀(ds:List Rec) (k:Nat),Ec (fun i=>(Array.replicate ops.size false).getD i false) k ds st=st:=by
     intro ds;induction ds with
     |nil=>intro k;rfl
     |cons d ds ih=>
      intro k;have hf:(Array.replicate ops.size false).getD k false=false:=by
       simp[Aq,Gh];split<;>rfl
      simp only[Ec,hf];exact ih _
    exact aux ds 0
   rw[this];exact hr.drawn _
 have Anz:∀(listed:Array Bool),listed.size=ops.size→Region.ready .any ops listed=[]→∀i,i<ops.size→listed.getD i false=true:=by
  intro listed Cq Ta i;induction i using Nat.strongRecOn with
  |ind i ih=>
   intro hi;cases hli:listed.getD i false with
   |true=>rfl
   |false=>
    exfalso;have:i∈Region.ready .any ops listed:=by
     unfold Region.ready;rw[Ho];refine⟨Eb.2 hi,?_⟩;have A2g:listed.getD i true=false:=by
      rw[Aq,Bg (by omega)]at hli ⊢
      exact hli
     rw[A2g,Bg hi];simp only[Bool.not_false,Bool.true_and,Bx,Option.getD_some];rw[Array.all_eq_true'];intro x hx;cases hb:Region.binds .any x with
     |false=>rfl
     |true=>
      obtain⟨e,_,_,g3⟩:=Aid i ops[i] (by simp[hi])
      have:=g3 x hx hb;simp only[Bm]at this;simp[ih x.on this (by omega)]
    rw[Ta]at this;cases this
 have fin:∀{listed:Array Bool} {G1:Mem} {σ1:Lab} {a1:Act} {w1:World},listed.size=ops.size→Region.ready .any ops listed=[]→G.le G1→
  (∀i d,ds[i]?=some d→listed.getD i false=true→∀p∈d.F,p)→
  Rel G1 σ1 Fr w0 (Ec (fun i=>listed.getD i false) 0 ds st) a1 w1→Qx .normal a1 w1:=by
  intro listed G1 σ1 a1 w1 Cq Ta hG hF Hr;have Jd:=Anz listed Cq Ta;have:Ec (fun i=>listed.getD i false) 0 ds st=Ec (fun _=>true) 0 ds st:=Zf fun j hj=>by rw[Bm];exact Jd j (by omega)
  rw[this]at Hr;refine hn G1 σ1 _ a1 w1 hG Hr (hgo fun d hd=>?_)
  obtain⟨i,hi,rfl⟩:=Hi.1 hd;exact hF i _ (Ac hi) (Jd i (by omega))
 intro fuel;induction fuel with
 |zero=>
  intro listed G1 σ1 a1 w1 Cq Bif hG Eh hF Hr;have Ta:Region.ready .any ops listed=[]:=by
   cases hrd:Region.ready .any ops listed with
   |nil=>rfl
   |cons i r=>
    exfalso;have hi:i∈Region.ready .any ops listed:=by rw[hrd];exact Ar ..
    unfold Region.ready at hi;rw[Ho]at hi;have:i∈(List.range ops.size).filter fun i=> !listed.getD i true:=by
     rw[Ho];exact⟨hi.1,by have:=hi.2;simp only[Ad]at this;exact this.1⟩
    have:=List.length_pos_of_mem this;omega
  exact⟨Ta,fin Cq Ta hG hF Hr⟩
 |succ fuel ih=>
  intro listed G1 σ1 a1 w1 Cq Bif hG Eh hF Hr;refine⟨fun Ta=>fin Cq Ta hG hF Hr,fun i hi=>?_⟩
  have hi0:=hi;unfold Region.ready at hi;rw[Ho,Eb]at hi;obtain⟨Tr,hi2⟩:=hi;rw[Bg Tr]at hi2;simp only[Bx,Option.getD_some,Ad,Ds]at hi2;obtain⟨Xa,Bib⟩:=hi2;have Acn:listed.getD i false=false:=by
   rw[Aq,Bg (by omega)]at Xa ⊢
   exact Xa
  obtain⟨x,hx,A94⟩:=Bi0 i ops[i] (by simp[Tr])
  obtain⟨e,U9,Vy,_⟩:=Aid i ops[i] (by simp[Tr])
  have Aeh:∀k∈e,listed.getD k false=true:=by
   intro k hk;obtain⟨y,hy,hb,rfl⟩:=Vy k hk;have:=Array.all_eq_true'.1 Bib y hy;simpa[hb]using this
  obtain⟨d,hd⟩:∃d,ds[i]?=some d:=⟨ds[i]'(by omega),Ac (by omega)⟩
  have Bih:∀j f,j<i→ds[j]?=some f→listed.getD j false=true∨(((∀x∈Bj d.L,x ∉ Bj f.L)∧(∀x∈Bj d.L,x ∉ K0 f.R)∧∀x∈Bj f.L,x ∉ K0 d.R)∧Qu d.L f.R):=by
   intro j f hj hf;rcases Atg i d hd e U9 j f hj hf with h1|h1
   ·exact .inl (h1 _ Eh Aeh)
   ·exact .inr h1
  have W8:∀j f,i<j→ds[j]?=some f→listed.getD j false=true→(((∀x∈Bj f.L,x ∉ Bj d.L)∧(∀x∈Bj f.L,x ∉ K0 d.R)∧∀x∈Bj d.L,x ∉ K0 f.R)∧Qu f.L d.R):=by
   intro j f hj hf X8;have E6:j<ds.length:=(Ak.1 hf).1;obtain⟨e',A16,_,_⟩:=Aid j (ops[j]'(by omega)) (by simp[show j<ops.size by omega])
   rcases Atg j f hf e' A16 i d hj hd with h1|h1
   ·have:=h1 _ Eh (Eh j e' A16 X8);rw[Acn]at this;cases this
   ·exact h1
  have hL:=(Arb i x d hx hd).1 (Ec (fun i=>listed.getD i false) 0 ds st) ?_
  ·refine(by
    refine Ban (ro:=ro) Wm (Bg Tr) A94 Hr (Ao.Bgb hL) ?_;rintro G2 σ2 st2 a2 w2 Zp Kn ⟨rfl,A17⟩;have Fq:∀k,(listed.setIfInBounds i true).getD k false=(listed.getD k false||k==i):=by
     intro k;simp only[Aq,E4];by_cases hk:i=k
     ·subst hk;simp[Cq,Tr]
     ·simp[hk,show ¬k=i from fun h=>hk h.symm]
    refine ih _ G2 σ2 a2 w2 (by simp[Cq]) ?_ (hG.trans Zp) ?_ ?_ ?_
    ·have Di:((List.range ops.size).filter fun k=> !(listed.setIfInBounds i true).getD k true).length<((List.range ops.size).filter fun k=> !listed.getD k true).length:=by
      have A2r:((List.range ops.size).filter fun k=> !(listed.setIfInBounds i true).getD k true)=((List.range ops.size).filter fun k=> !listed.getD k true).filter fun k=> !(k==i):=by
       rw[List.filter_filter];refine List.filter_congr fun k hk=>?_
       have hk:=Eb.1 hk;simp only[Aq,E4];by_cases hki:i=k
       ·subst hki;simp[Cq,Tr]
       ·simp[hki,show ¬k=i from fun h=>hki h.symm]
      rw[A2r];refine List.length_filter_lt_length_iff_exists.2 ⟨i,?_,by simp⟩
      rw[Ho];exact⟨Eb.2 Tr,by rw[Xa];rfl⟩
     omega
    ·intro k e' hk Qw y hy;rw[Fq]at Qw ⊢;simp only[C1,beq_iff_eq]at Qw ⊢;rcases Qw with Qw|rfl
     ·exact .inl (Eh k e' hk Qw y hy)
     ·rw[U9]at hk;cases hk;exact .inl (Aeh y hy)
    ·intro k f hk Qw;rw[Fq]at Qw;simp only[C1,beq_iff_eq]at Qw;rcases Qw with Qw|rfl
     ·exact hF k f hk Qw
     ·rw[hd]at hk;cases hk;exact A17
    ·have:=Ax7 (b:=fun i=>listed.getD i false) (st:=st) hd Acn fun j f hj hf X8=>fun y hy L9=>(W8 j f hj hf X8).1.1 y L9 hy
     have Bij:(fun k=>(listed.setIfInBounds i true).getD k false)=fun k=>(listed.getD k false||k==i):=funext Fq
     rw[Bij,this];exact Kn)
  ·intro rd hy;cases rd with
   |all y=>
    show(Ec (fun i=>listed.getD i false) 0 ds st)[y]?=(Ec (fun _=>true) 0 (ds.take i) st)[y]?
    rw[←Xj];refine Py rfl fun j f hf=>?_
    simp only[Bm,Bool.true_and];by_cases Zs:j<i
    ·rcases Bih j f Zs hf with h1|h1
     ·left;simp[Zs,h1]
     ·exact .inr fun hm=>h1.1.2.2 y hm (V8 hy)
    ·by_cases L7:j=i
     ·subst L7;left;simp[Acn]
     ·cases X8:listed.getD j false with
      |false=>left;simp[Zs]
      |true=>exact .inr fun hm=>(W8 j f (by omega) hf X8).1.2.1 y hm (V8 hy)
   |Qa y f o=>
    obtain⟨cur,k1,k2⟩:=(Arb i x d hx hd).2 _ hy;have Mx:ds=ds.take i++ds.drop i:=(B3 i ds).symm;have e1:Ec (fun i=>listed.getD i false) 0 ds st=Ec (fun i=>listed.getD i false) (0+(ds.take i).length) (ds.drop i) (Ec (fun i=>listed.getD i false) 0 (ds.take i) st):=by
     conv=>lhs;rw[Mx]
     exact Afw
    have Pv:i<ds.length:=(Ak.1 hd).1;have hl:0+(ds.take i).length=i:=by simp;omega
    show ∃cur,(Ec (fun i=>listed.getD i false) 0 ds st)[y]?=some cur∧f cur.1 cur.2=o
    rcases A10 i d hd e U9 y f o hy with hbc|⟨⟨c0,Gq,hf0⟩,Bae⟩
    rotate_left
    ·refine Xi ⟨c0,Gq,hf0⟩ fun j g hg hb c hc hcy=>?_
     rw[Bm]at hb;by_cases Zs:j<i
     ·exact Sj (Acb Bae j g (by rw[List.getElem?_take_of_lt Zs];exact hg)) c hc y f o (Ar ..) hcy.symm
     ·by_cases L7:j=i
      ·subst L7;rw[Acn]at hb;cases hb
      ·exact Sj (W8 j g (by omega) hg hb).2 c hc y f o hy hcy.symm
    rw[e1,hl];refine Xi ⟨cur,?_,k2⟩ ?_
    ·rw[←k1];refine Py rfl fun j g hg=>?_
     have Zs:j<i:=by
      have:=(Ak.1 hg).1;simp at this;omega
     rw[List.getElem?_take_of_lt Zs]at hg;rcases hbc j g Zs hg with h1|h1
     ·left;rw[Bm,h1 _ Eh Aeh]
     ·exact .inr h1
    ·intro j g hg hb c hc hcy;rw[Ei]at hg;by_cases hj0:j=0
     ·subst hj0;rw[Gk]at hb;rw[Acn]at hb;cases hb
     ·exact Sj (W8 (i+j) g (by omega) hg hb).2 c hc y f o hy hcy.symm
def At6(es:List (List Nat))(el:List Nat):Bool:=match(Aiv (es++[el]) [])[es.length]? with
 |some m=>(List.range es.length).all fun j=>m.testBit j
 |none=>false
theorem A6a{es:List (List Nat)}{el:List Nat}(h:At6 es el=true){j:Nat}(hj:j<es.length):Pg (es++[el]) el j:=by
 unfold At6 at h;split at h
 ·rename_i m hm;exact Q1 (es:=es++[el]) (r:=es++[el]) (pre:=[]) (acc:=[]) rfl rfl (by simp) es.length el m (by simp) hm j (by
   have:=Ew.1 h j (Eb.2 hj);exact this)
 ·cases h
theorem Pg.more{es es':List (List Nat)}{e:List Nat}{j:Nat}(h:Pg es e j):Pg (es++es') e j:=
 fun b hb he=>h b (fun i l hi=>hb i l (by rw[B0 (Ak.1 hi).1];exact hi)) he
theorem Bdi{Y:Hd}{ro:Option Nat}{id:Nat}{ops:Array Oper}{es:List (List Nat)}{ms:List Nat}{el:List Nat}{l:List Ao}{xl:Ao}{Q:St→Prop}{Qx:Exit→Act→World→Prop}(hY:Rs P Y Fr w0)(hm:P.follows .mixedOrders=true)(hms:Aiv es []=ms)(Y6:At6 es el=true)
 (hc:Z8 P w0.n ops ops.toList (l++[xl])=true) (he:Yo (es++[el]) 0 ops.toList=true) (hr:Rel G σ Fr w0 st a w) (hq:Abk P l (Dw st ms (xl.run P Y Q)) [] st)
 (hn:∀G' σ' st' a' w',G.le G'→Rel G' σ' Fr w0 st' a' w'→Q st'→Qx .normal a' w'):(Code.region id ops true).wpIn (Wd ro) 0 P Qx a w:=by
 subst hms;obtain⟨hlen,Bi0⟩:=Aq1 hc;obtain⟨Bmr,Aid⟩:=Ab5 he;obtain⟨ds,hdl,⟨Dj,Amy,Atd,hgo⟩,Arb⟩:=Ajw (st0:=st) (pre:=[]) hq;simp only[Cu,Fb,Bm]at Dj Amy Atd hgo Arb;have Up:ds.length+1=ops.size:=by rw[hdl, ←Array.length_toList,hlen,Cw];rfl
 have Bws:es.length=ds.length:=by
  simp only[Cw,Cg,Fb]at Bmr;have h1:ops.toList.length=ops.size:=Array.length_toList;omega
 have B17:∀{i:Nat} {e:List Nat},es[i]?=some e→(es++[el])[i]?=some e:=fun h=>by
  rw[B0 (Ak.1 h).1];exact h
 have Bwu:(es++[el])[ds.length]?=some el:=by rw[Cf (by omega),Bws,Nat.sub_self];rfl
 have Bta:∀j,j<ds.length→Pg (es++[el]) el j:=fun j hj=>A6a Y6 (by omega)
 have Atg:∀i d,ds[i]?=some d→∀e,es[i]?=some e→∀j f,j<i→ds[j]?=some f→Pg (es++[el]) e j∨
  (((∀x∈Bj d.L,x ∉ Bj f.L)∧(∀x∈Bj d.L,x ∉ K0 f.R)∧∀x∈Bj f.L,x ∉ K0 d.R)∧Qu d.L f.R):=by
  intro i d hd e U9 j f hj hf;obtain⟨m,h1,h2⟩:=Ai3 Dj i d hd;obtain⟨m',h1',h2'⟩:=Ab7 Amy i d hd;rw[h1]at h1';cases h1';rcases h2 j f (by simpa using hj) (by simpa using hf)with h3|h3
  ·exact .inl (Pg.more (Q1 (r:=es) (pre:=[]) (acc:=[]) rfl rfl (by simp) i e m U9 h1 j h3))
  ·rcases h2' j f (by simpa using hj) (by simpa using hf)with h4|h4
   ·exact .inl (Pg.more (Q1 (r:=es) (pre:=[]) (acc:=[]) rfl rfl (by simp) i e m U9 h1 j h4))
   ·exact .inr ⟨h3,h4⟩
 have A10:∀i d,ds[i]?=some d→∀e,es[i]?=some e→∀y f o,Rd.Qa y f o∈d.R→(∀j g,j<i→ds[j]?=some g→Pg (es++[el]) e j∨y ∉ Bj g.L)∨((∃c,st[y]?=some c∧f c.1 c.2=o)∧T9 (.Qa y f o) (ds.take i)):=by
  intro i d hd e U9 y f o hy;obtain⟨m,h1,h2⟩:=Ab1 Atd i d hd;rw[Cu]at h2;rcases Wv h2 y f o hy with h3|h3
  ·refine .inl fun j g hj hg=>?_
   rcases Ac0 h3 j g (by rw[List.getElem?_take_of_lt hj];exact hg)with h4|h4
   ·rw[Bm]at h4;exact .inl (Pg.more (Q1 (r:=es) (pre:=[]) (acc:=[]) rfl rfl (by simp) i e m U9 h1 j h4))
   ·exact .inr h4
  ·exact .inr h3
 refine wpIn_region_any hm ?_
 suffices H:∀(fuel:Nat) (listed:Array Bool) (G1:Mem) (σ1:Lab) (a1:Act) (w1:World),listed.size=ops.size→listed.getD ds.length false=false→((List.range ops.size).filter fun i=> !listed.getD i true).length≤fuel→G.le G1→
  (∀i e,(es++[el])[i]?=some e→listed.getD i false=true→∀k∈e,listed.getD k false=true)→
  (∀i d,ds[i]?=some d→listed.getD i false=true→∀p∈d.F,p)→
  Rel G1 σ1 Fr w0 (Ec (fun i=>listed.getD i false) 0 ds st) a1 w1→wpAnyIn (Wd ro) 0 P .any ops Qx fuel listed a1 w1 by
  refine H _ _ G σ a _ (by simp) ?_ ?_ (Mem.le.refl G) ?_ ?_ ?_
  ·simp[Aq,Gh];split<;>rfl
  ·refine C2 (List.length_filter_le _ _) (by simp)
  ·intro i e _ hi;simp[Aq,Gh]at hi;split at hi<;>simp at hi
  ·intro i d _ hi;simp[Aq,Gh]at hi;split at hi<;>simp at hi
  ·have:Ec (fun i=>(Array.replicate ops.size false).getD i false) 0 ds st=st:=by
    have aux:∀(ds:List Rec) (k:Nat),Ec (fun i=>(Array.replicate ops.size false).getD i false) k ds st=st:=by
     intro ds;induction ds with
     |nil=>intro k;rfl
     |cons d ds ih=>
      intro k;have hf:(Array.replicate ops.size false).getD k false=false:=by
       simp[Aq,Gh];split<;>rfl
      simp only[Ec,hf];exact ih _
    exact aux ds 0
   rw[this];exact hr.drawn _
 have Anz:∀(listed:Array Bool),listed.size=ops.size→Region.ready .any ops listed=[]→∀i,i<ops.size→listed.getD i false=true:=by
  intro listed Cq Ta i;induction i using Nat.strongRecOn with
  |ind i ih=>
   intro hi;cases hli:listed.getD i false with
   |true=>rfl
   |false=>
    exfalso;have:i∈Region.ready .any ops listed:=by
     unfold Region.ready;rw[Ho];refine⟨Eb.2 hi,?_⟩;have A2g:listed.getD i true=false:=by
      rw[Aq,Bg (by omega)]at hli ⊢
      exact hli
     rw[A2g,Bg hi];simp only[Bool.not_false,Bool.true_and,Bx,Option.getD_some];rw[Array.all_eq_true'];intro x hx;cases hb:Region.binds .any x with
     |false=>rfl
     |true=>
      obtain⟨e,_,_,g3⟩:=Aid i ops[i] (by simp[hi])
      have:=g3 x hx hb;simp only[Bm]at this;simp[ih x.on this (by omega)]
    rw[Ta]at this;cases this
 have fin:∀{G1:Mem} {σ1:Lab} {a1:Act} {w1:World} {listed:Array Bool},(∀i,i<ds.length→listed.getD i false=true)→G.le G1→
  (∀i d,ds[i]?=some d→listed.getD i false=true→∀p∈d.F,p)→
  Rel G1 σ1 Fr w0 (Ec (fun i=>listed.getD i false) 0 ds st) a1 w1→xl.run P Y Q (Ec (fun i=>listed.getD i false) 0 ds st):=by
  intro G1 σ1 a1 w1 listed Jd hG hF Hr;have:Ec (fun i=>listed.getD i false) 0 ds st=Ec (fun _=>true) 0 ds st:=Zf fun j hj=>by rw[Bm];exact Jd j hj
  rw[this];refine hgo fun d hd=>?_
  obtain⟨i,hi,rfl⟩:=Hi.1 hd;exact hF i _ (Ac hi) (Jd i hi)
 have stop:∀(fuel:Nat) {listed:Array Bool} {a1:Act} {w1:World},listed.size=ops.size→(∀i,i<ops.size→listed.getD i false=true)→Qx .normal a1 w1→wpAnyIn (Wd ro) 0 P .any ops Qx fuel listed a1 w1:=by
  intro fuel listed a1 w1 Cq Jd hq;have Ta:Region.ready .any ops listed=[]:=by
   unfold Region.ready;rw[List.filter_eq_nil_iff];intro i hi;have h1:=Jd i (Eb.1 hi);have h2:=Eb.1 hi;rw[Aq,Bg (by omega)]at h1
   have h3:listed.getD i true=true:=by rw[Aq,Bg (by omega)];exact h1
   simp[h3]
  cases fuel with
  |zero=>exact⟨Ta,hq⟩
  |succ n=>exact⟨fun _=>hq,fun i hi=>by rw[Ta]at hi;cases hi⟩
 intro fuel;induction fuel with
 |zero=>
  intro listed G1 σ1 a1 w1 Cq A2v Bif hG Eh hF Hr;exfalso;have:ds.length∈(List.range ops.size).filter fun i=> !listed.getD i true:=by
   rw[Ho];refine⟨Eb.2 (by omega),?_⟩
   rw[Aq,Bg (by omega)]at A2v
   rw[Aq,Bg (by omega)]
   simpa using A2v
  have:=List.length_pos_of_mem this;omega
 |succ fuel ih=>
  intro listed G1 σ1 a1 w1 Cq A2v Bif hG Eh hF Hr;refine⟨fun Ta=>?_,fun i hi=>?_⟩
  ·have:=Anz listed Cq Ta ds.length (by omega)
   rw[A2v]at this;cases this
  have hi0:=hi;unfold Region.ready at hi;rw[Ho,Eb]at hi;obtain⟨Tr,hi2⟩:=hi;rw[Bg Tr]at hi2;simp only[Bx,Option.getD_some,Ad,Ds]at hi2;obtain⟨Xa,Bib⟩:=hi2;have Acn:listed.getD i false=false:=by
   rw[Aq,Bg (by omega)]at Xa ⊢
   exact Xa
  obtain⟨x,hx,A94⟩:=Bi0 i ops[i] (by simp[Tr])
  obtain⟨e,U9,Vy,_⟩:=Aid i ops[i] (by simp[Tr])
  have Aeh:∀k∈e,listed.getD k false=true:=by
   intro k hk;obtain⟨y,hy,hb,rfl⟩:=Vy k hk;have:=Array.all_eq_true'.1 Bib y hy;simpa[hb]using this
  by_cases Bw2:i=ds.length
  ·subst Bw2;rw[Bwu]at U9;cases U9;have Jd:∀j,j<ds.length→listed.getD j false=true:=fun j hj=>Bta j hj _ Eh Aeh
   have hx':x=xl:=by
    rw[hdl,Cf (by simp)]at hx
    simpa using hx.symm
   subst hx';refine Ban (ro:=ro) hY (Bg Tr) A94 Hr (fin Jd hG hF Hr) ?_;intro G2 σ2 st2 a2 w2 Zp Kn hq2;refine stop fuel (by simp[Cq]) (fun k hk=>?_) (hn G2 σ2 st2 a2 w2 (hG.trans Zp) Kn hq2)
   simp only[Aq,E4];by_cases Jn:ds.length=k
   ·subst Jn;simp[Cq,Tr]
   ·have:=Jd k (by omega)
    rw[Aq]at this;simp[Jn,this]
  have Bmw:i<ds.length:=by omega
  have A16:es[i]?=some e:=by
   rw[B0 (by omega)]at U9;exact U9
  have hx0:l[i]?=some x:=by
   rw[B0 (by omega)]at hx;exact hx
  obtain⟨d,hd⟩:∃d,ds[i]?=some d:=⟨ds[i]'Bmw,Ac Bmw⟩;have Bih:∀j f,j<i→ds[j]?=some f→listed.getD j false=true∨(((∀x∈Bj d.L,x ∉ Bj f.L)∧(∀x∈Bj d.L,x ∉ K0 f.R)∧∀x∈Bj f.L,x ∉ K0 d.R)∧Qu d.L f.R):=by
   intro j f hj hf;rcases Atg i d hd e A16 j f hj hf with h1|h1
   ·exact .inl (h1 _ Eh Aeh)
   ·exact .inr h1
  have W8:∀j f,i<j→ds[j]?=some f→listed.getD j false=true→(((∀x∈Bj f.L,x ∉ Bj d.L)∧(∀x∈Bj f.L,x ∉ K0 d.R)∧∀x∈Bj d.L,x ∉ K0 f.R)∧Qu f.L d.R):=by
   intro j f hj hf X8;have E6:j<ds.length:=(Ak.1 hf).1;obtain⟨e',Bii,_,_⟩:=Aid j (ops[j]'(by omega)) (by simp[show j<ops.size by omega])
   have Bwt:es[j]?=some e':=by
    rw[B0 (by omega)]at Bii;exact Bii
   rcases Atg j f hf e' Bwt i d hj hd with h1|h1
   ·have:=h1 _ Eh (Eh j e' Bii X8);rw[Acn]at this;cases this
   ·exact h1
  have hL:=(Arb i x d hx0 hd).1 (Ec (fun i=>listed.getD i false) 0 ds st) ?_
  ·refine(by
    refine Ban (ro:=ro) Wm (Bg Tr) A94 Hr (Ao.Bgb hL) ?_;rintro G2 σ2 st2 a2 w2 Zp Kn ⟨rfl,A17⟩;have Fq:∀k,(listed.setIfInBounds i true).getD k false=(listed.getD k false||k==i):=by
     intro k;simp only[Aq,E4];by_cases hk:i=k
     ·subst hk;simp[Cq,Tr]
     ·simp[hk,show ¬k=i from fun h=>hk h.symm]
    refine ih _ G2 σ2 a2 w2 (by simp[Cq]) (by rw[Fq,A2v];simp;omega) ?_ (hG.trans Zp) ?_ ?_ ?_
    ·have Di:((List.range ops.size).filter fun k=> !(listed.setIfInBounds i true).getD k true).length<((List.range ops.size).filter fun k=> !listed.getD k true).length:=by
      have A2r:((List.range ops.size).filter fun k=> !(listed.setIfInBounds i true).getD k true)=((List.range ops.size).filter fun k=> !listed.getD k true).filter fun k=> !(k==i):=by
       rw[List.filter_filter];refine List.filter_congr fun k hk=>?_
       have hk:=Eb.1 hk;simp only[Aq,E4];by_cases hki:i=k
       ·subst hki;simp[Cq,Tr]
       ·simp[hki,show ¬k=i from fun h=>hki h.symm]
      rw[A2r];refine List.length_filter_lt_length_iff_exists.2 ⟨i,?_,by simp⟩
      rw[Ho];exact⟨Eb.2 Tr,by rw[Xa];rfl⟩
     omega
    ·intro k e' hk Qw y hy;rw[Fq]at Qw ⊢;simp only[C1,beq_iff_eq]at Qw ⊢;rcases Qw with Qw|rfl
     ·exact .inl (Eh k e' hk Qw y hy)
     ·rw[U9]at hk;cases hk;exact .inl (Aeh y hy)
    ·intro k f hk Qw;rw[Fq]at Qw;simp only[C1,beq_iff_eq]at Qw;rcases Qw with Qw|rfl
     ·exact hF k f hk Qw
     ·rw[hd]at hk;cases hk;exact A17
    ·have:=Ax7 (b:=fun i=>listed.getD i false) (st:=st) hd Acn fun j f hj hf X8=>fun y hy L9=>(W8 j f hj hf X8).1.1 y L9 hy
     have Bij:(fun k=>(listed.setIfInBounds i true).getD k false)=fun k=>(listed.getD k false||k==i):=funext Fq
     rw[Bij,this];exact Kn)
  ·intro rd hy;cases rd with
   |all y=>
    show(Ec (fun i=>listed.getD i false) 0 ds st)[y]?=(Ec (fun _=>true) 0 (ds.take i) st)[y]?
    rw[←Xj];refine Py rfl fun j f hf=>?_
    simp only[Bm,Bool.true_and];by_cases Zs:j<i
    ·rcases Bih j f Zs hf with h1|h1
     ·left;simp[Zs,h1]
     ·exact .inr fun hm=>h1.1.2.2 y hm (V8 hy)
    ·by_cases L7:j=i
     ·subst L7;left;simp[Acn]
     ·cases X8:listed.getD j false with
      |false=>left;simp[Zs]
      |true=>exact .inr fun hm=>(W8 j f (by omega) hf X8).1.2.1 y hm (V8 hy)
   |Qa y f o=>
    obtain⟨cur,k1,k2⟩:=(Arb i x d hx0 hd).2 _ hy;have Mx:ds=ds.take i++ds.drop i:=(B3 i ds).symm;have e1:Ec (fun i=>listed.getD i false) 0 ds st=Ec (fun i=>listed.getD i false) (0+(ds.take i).length) (ds.drop i) (Ec (fun i=>listed.getD i false) 0 (ds.take i) st):=by
     conv=>lhs;rw[Mx]
     exact Afw
    have Pv:i<ds.length:=(Ak.1 hd).1;have hl:0+(ds.take i).length=i:=by simp;omega
    show ∃cur,(Ec (fun i=>listed.getD i false) 0 ds st)[y]?=some cur∧f cur.1 cur.2=o
    rcases A10 i d hd e A16 y f o hy with hbc|⟨⟨c0,Gq,hf0⟩,Bae⟩
    rotate_left
    ·refine Xi ⟨c0,Gq,hf0⟩ fun j g hg hb c hc hcy=>?_
     rw[Bm]at hb;by_cases Zs:j<i
     ·exact Sj (Acb Bae j g (by rw[List.getElem?_take_of_lt Zs];exact hg)) c hc y f o (Ar ..) hcy.symm
     ·by_cases L7:j=i
      ·subst L7;rw[Acn]at hb;cases hb
      ·exact Sj (W8 j g (by omega) hg hb).2 c hc y f o hy hcy.symm
    rw[e1,hl];refine Xi ⟨cur,?_,k2⟩ ?_
    ·rw[←k1];refine Py rfl fun j g hg=>?_
     have Zs:j<i:=by
      have:=(Ak.1 hg).1;simp at this;omega
     rw[List.getElem?_take_of_lt Zs]at hg;rcases hbc j g Zs hg with h1|h1
     ·left;rw[Bm,h1 _ Eh Aeh]
     ·exact .inr h1
    ·intro j g hg hb c hc hcy;rw[Ei]at hg;by_cases hj0:j=0
     ·subst hj0;rw[Gk]at hb;rw[Acn]at hb;cases hb
     ·exact Sj (W8 (i+j) g (by omega) hg hb).2 c hc y f o hy hcy.symm
end
end Go.Ab
