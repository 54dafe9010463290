/- Lemmas -/
import Derived.Test.YtkpojedpcabojaaDoorAb18a
import Derived.Orders
set_option linter.unusedVariables false
set_option linter.unusedSimpArgs false
namespace Go.Ab
def Is(r0:SV)(as0:List SV)(r:SV)(az:List SV):Prop:=r=r0∧az=as0
structure CallIs(P:Program)(f:FuncId)(args:List SV)(K:SV→List SV→Prop):Prop where
 out:∃r0 as0,Fn P f args (Is r0 as0)∧K r0 as0
abbrev Log:=List (Nat × (Nat × SV))
def K5:Log→St→St
 | [],st=>st
 |(i,c)::r,st=>(K5 r st).set i c
inductive Rd where
 |all (i:Nat)
 |prj (i:Nat) (f:Nat→SV→Nat × SV) (o:Nat × SV)
def Rd.slot:Rd→Nat
 | .all i=>i
 | .prj i _ _=>i
def Rd.Agree(r:Rd)(st' st:St):Prop:=match r with
 | .all i=>st'[i]?=st[i]?
 | .prj i f o=>∃cur,st'[i]?=some cur∧f cur.1 cur.2=o
def fulls:List Rd→List Nat
 | []=>[]
 | .all i::r=>i::fulls r
 | .prj _ _ _::r=>fulls r
def alls(R:List Rd):List Nat:=R.map Rd.slot
theorem Nh:∀{R:List Rd} {i:Nat},Rd.all i∈R→i∈fulls R
 | .all j::r,i,h=>by
   simp only[fulls,List.mem_cons];rcases List.mem_cons.1 h with h|h
   ·cases h;exact .inl rfl
   ·exact .inr (Nh h)
 | .prj _ _ _::r,i,h=>by
   rcases List.mem_cons.1 h with h|h
   ·cases h
   ·exact Nh (R:=r) h
def slots(L:Log):List Nat:=L.map (·.1)
def M.wr(P:Program):M→(St→List Rd→Log→List Prop→Prop)→St→List Rd→Log→List Prop→Prop
 | .get i k,K,st,R,L,F=>st[i]?≠none∧∀cur,st[i]?=some cur→(k cur.1 cur.2).wr P K st (.all i::R) L F
 | .getp i f k,K,st,R,L,F=>st[i]?≠none∧∀cur,st[i]?=some cur→(k (f cur.1 cur.2).1 (f cur.1 cur.2).2).wr P K st ((match(slots L).contains i with|true=>.all i|false=>.prj i f (f cur.1 cur.2))::R) L F
 | .set i ver sv k,K,st,R,L,F=>k.wr P K (st.set i (ver,sv)) R ((i,(ver,sv))::L) F
 | .done,K,st,R,L,F=>K st R L F
 | .chk _,_,_,_,_,_=>False
 | .fail,_,_,_,_,_=>False
 | .need p k,K,st,R,L,F=>∃h:p,(k h).wr P K st R L F
 | .all _ _,_,_,_,_,_=>False
 | .any _ _,_,_,_,_,_=>False
 | .fact p k,K,st,R,L,F=>k.wr P K st R L (p::F)
 | .ite b x y,K,st,R,L,F=>(b=true→x.wr P K st R L F)∧(b=false→y.wr P K st R L F)
 | .call f args k,K,st,R,L,F=>CallIs P f args fun r az=>(k r az).wr P K st R L F
theorem Ph{L:Log}{x:Nat}:∀{st st':St},st[x]?=st'[x]?→(K5 L st)[x]?=(K5 L st')[x]?:=by
 induction L with
 |nil=>intro st st' h;exact h
 |cons p L ih=>
  intro st st' h;obtain⟨i,c⟩:=p;simp only[K5,List.getElem?_set'];rw[ih h]
theorem Ra{L:Log}{x:Nat}(h:x ∉ slots L):∀{st:St},(K5 L st)[x]?=st[x]?:=by
 induction L with
 |nil=>intro st;rfl
 |cons p L ih=>
  intro st;obtain⟨i,c⟩:=p;simp only[slots,List.map_cons,List.mem_cons,not_or]at h;simp only[K5];rw[List.getElem?_set_ne (fun e=>h.1 e.symm)]
  exact ih h.2
structure Rec where
 R:List Rd
 L:Log
 F:List Prop
def Local(P:Program)(m:M)(st:St)(d:Rec):Prop:=
 ∀st':St,(∀x∈d.R,x.Agree st' st)→m.wp P (fun st2=>st2=K5 d.L st'∧∀p∈d.F,p) st'
theorem M.wr_spec{P:Program}{K:St→List Rd→Log→List Prop→Prop}:∀{m:M} {st0:St} {R:List Rd} {L:Log} {F:List Prop},m.wr P K (K5 L st0) R L F→
 ∃R' L' F',K (K5 L' st0) R' L' F'∧(∀x∈R,x∈R')∧(∀p∈F,p∈F')∧(∀x∈R',x∈R∨x.Agree st0 st0)∧
  ∀st':St,(∀x∈R',x.Agree st' st0)→(∀p∈F,p)→m.wp P (fun st2=>st2=K5 L' st'∧∀p∈F',p) (K5 L st'):=by
 intro m;induction m with
 |get i k ih=>
  intro st0 R L F h;obtain⟨h1,h2⟩:=h;cases hc:(K5 L st0)[i]? with
  |none=>exact absurd hc h1
  |some cur=>
   obtain⟨R',L',F',g1,g2,g3,g5,g4⟩:=ih _ _ (h2 cur hc);refine⟨R',L',F',g1,fun x hx=>g2 x (List.mem_cons_of_mem _ hx),g3,fun x hx=>?_,?_⟩
   ·rcases g5 x hx with h|h
    ·rcases List.mem_cons.1 h with rfl|h
     ·exact .inr rfl
     ·exact .inl h
    ·exact .inr h
   intro st' ha hF;have:(K5 L st')[i]?=some cur:=by rw[←hc];exact Ph (show st'[i]?=st0[i]? from ha (.all i) (g2 _ (List.mem_cons_self ..)))
   simp only[M.wp,this];exact g4 st' ha hF
 |getp i f k ih=>
  intro st0 R L F h;obtain⟨h1,h2⟩:=h;cases hc:(K5 L st0)[i]? with
  |none=>exact absurd hc h1
  |some cur=>
   obtain⟨R',L',F',g1,g2,g3,g5,g4⟩:=ih _ _ (h2 cur hc);refine⟨R',L',F',g1,fun x hx=>g2 x (List.mem_cons_of_mem _ hx),g3,fun x hx=>?_,?_⟩
   ·rcases g5 x hx with h|h
    ·rcases List.mem_cons.1 h with rfl|h
     ·right;cases hcl:(slots L).contains i with
      |true=>exact rfl
      |false=>
       refine⟨cur,?_,rfl⟩;rw[←hc,Ra];intro hmem;rw[List.contains_iff_mem.2 hmem]at hcl;cases hcl
     ·exact .inl h
    ·exact .inr h
   intro st' ha hF;have hm:=g2 _ (List.mem_cons_self ..);have:∃cur',(K5 L st')[i]?=some cur'∧f cur'.1 cur'.2=f cur.1 cur.2:=by
    cases hcl:(slots L).contains i with
    |true=>
     rw[hcl]at hm;exact⟨cur,by rw[←hc];exact Ph (show st'[i]?=st0[i]? from ha (.all i) hm),rfl⟩
    |false=>
     rw[hcl]at hm;obtain⟨cur',k1,k2⟩:=ha _ hm;refine⟨cur',?_,k2⟩;rw[Ra]
     ·exact k1
     ·intro hmem;rw[List.contains_iff_mem.2 hmem]at hcl;cases hcl
   obtain⟨cur',k1,k2⟩:=this;simp only[M.wp,k1];have k3:(f cur'.1 cur'.2).1=(f cur.1 cur.2).1:=by rw[k2]
   have k4:(f cur'.1 cur'.2).2=(f cur.1 cur.2).2:=by rw[k2]
   rw[k3,k4];exact g4 st' ha hF
 |set i ver sv k ih=>
  intro st0 R L F h;obtain⟨R',L',F',g1,g2,g3,g5,g4⟩:=ih (L:=(i,(ver,sv))::L) (st0:=st0) h;exact⟨R',L',F',g1,g2,g3,g5,fun st' ha hF=>g4 st' ha hF⟩
 |done=>intro st0 R L F h;exact⟨R,L,F,h,fun _ h=>h,fun _ h=>h,fun _ h=>.inl h,fun st' _ hF=>⟨rfl,hF⟩⟩
 |chk p=>intro st0 R L F h;exact h.elim
 |fail=>intro st0 R L F h;exact h.elim
 |need p k ih=>
  intro st0 R L F ⟨h1,h2⟩;obtain⟨R',L',F',g1,g2,g3,g5,g4⟩:=ih h1 h2;exact⟨R',L',F',g1,g2,g3,g5,fun st' ha hF=>⟨h1,g4 st' ha hF⟩⟩
 |all p k ih=>intro st0 R L F h;exact h.elim
 |any l k ih=>intro st0 R L F h;exact h.elim
 |fact p k ih=>
  intro st0 R L F h;obtain⟨R',L',F',g1,g2,g3,g5,g4⟩:=ih h;refine⟨R',L',F',g1,g2,fun q hq=>g3 q (List.mem_cons_of_mem _ hq),g5,fun st' ha hF hp=>g4 st' ha ?_⟩
  intro q hq;rcases List.mem_cons.mp hq with rfl|hq
  ·exact hp
  ·exact hF q hq
 |ite b x y ihx ihy=>
  intro st0 R L F ⟨h1,h2⟩;cases b with
  |true=>
   obtain⟨R',L',F',g1,g2,g3,g5,g4⟩:=ihx (h1 rfl);exact⟨R',L',F',g1,g2,g3,g5,fun st' ha hF=>⟨fun _=>g4 st' ha hF,fun hb=>by cases hb⟩⟩
  |false=>
   obtain⟨R',L',F',g1,g2,g3,g5,g4⟩:=ihy (h2 rfl);exact⟨R',L',F',g1,g2,g3,g5,fun st' ha hF=>⟨fun hb=>(by cases hb),fun _=>g4 st' ha hF⟩⟩
 |call f args k ih=>
  intro st0 R L F ⟨r0,as0,h1,h2⟩;obtain⟨R',L',F',g1,g2,g3,g5,g4⟩:=ih r0 as0 h2;refine⟨R',L',F',g1,g2,g3,g5,fun st' ha hF=>⟨Is r0 as0,h1,?_⟩⟩
  rintro r az ⟨rfl,rfl⟩;exact g4 st' ha hF
def P0(P:Program):List Ao→(List Rec→St→Prop)→List Rec→St→Prop
 | [],K,ds,st=>K ds st
 |i::l,K,ds,st=>i.sem.wr P (fun st' R L F=>P0 P l K (ds++[⟨R,L,F⟩]) st') st [] [] []
def Jw(b:Nat→Bool):Nat→List Rec→St→St
 |_,[],st=>st
 |k,d::ds,st=>Jw b (k+1) ds (if b k then K5 d.L st else st)
theorem Ln{b b':Nat→Bool}{x:Nat}:∀{ds:List Rec} {k:Nat} {st st':St},st[x]?=st'[x]?→(∀j d,ds[j]?=some d→b (k+j)=b' (k+j)∨x ∉ slots d.L)→
 (Jw b k ds st)[x]?=(Jw b' k ds st')[x]?
 | [],k,st,st',h,_=>h
 |d::ds,k,st,st',h,hd=>by
  refine Ln (ds:=ds) ?_ fun j d' hj=>by
   have:=hd (j+1) d' hj;rwa [show k+(j+1)=k+1+j by omega]at this
  rcases hd 0 d rfl with h1|h1
  ·simp only[Nat.add_zero]at h1;rw[h1];split
   ·exact Ph h
   ·exact h
  ·have:∀(c:Bool) (s:St),(if c then K5 d.L s else s)[x]?=s[x]?:=by
    intro c s;cases c
    ·rfl
    ·exact Ra h1
   rw[this,this,h]
theorem N4{b:Nat→Bool}:∀{ds:List Rec} {n k:Nat} {st:St},Jw (fun j=>b j&&decide (j<k+n)) k ds st=Jw b k (ds.take n) st
 | [],n,k,st=>by simp[Jw]
 |d::ds,0,k,st=>by
  simp only[Jw,Nat.add_zero,Nat.lt_irrefl,decide_false,Bool.and_false,List.take_zero];have aux:∀(ds:List Rec) (k':Nat) (s:St),k≤k'→Jw (fun j=>b j&&decide (j<k)) k' ds s=s:=by
   intro ds;induction ds with
   |nil=>intro _ _ _;rfl
   |cons d ds ih=>
    intro k' s hk;simp only[Jw];rw[ih _ _ (by omega)]
    simp[show ¬k'<k by omega]
  exact aux ds (k+1) st (by omega)
 |d::ds,n+1,k,st=>by
  simp only[Jw,List.take_succ_cons];rw[←N4 (ds:=ds) (n:=n) (k:=k+1)];simp only[show k<k+(n+1)by omega,decide_true,Bool.and_true,show k+1+n=k+(n+1)by omega]
theorem S3{b:Nat→Bool}{d:Rec}:∀{ds:List Rec} {k:Nat} {st:St},Jw b k (ds++[d]) st=if b (k+ds.length)then K5 d.L (Jw b k ds st)else Jw b k ds st
 | [],k,st=>by simp[Jw]
 |e::ds,k,st=>by
  simp only[List.cons_append,Jw,List.length_cons];rw[S3 (ds:=ds),show k+1+ds.length=k+(ds.length+1)by omega]
theorem Pd{b b':Nat→Bool}:∀{ds:List Rec} {k:Nat} {st:St},(∀j,j<ds.length→b (k+j)=b' (k+j))→Jw b k ds st=Jw b' k ds st
 | [],_,_,_=>rfl
 |d::ds,k,st,h=>by
  have h0:=h 0 (by simp)
  simp only[Nat.add_zero]at h0;simp only[Jw,h0];exact Pd (ds:=ds) fun j hj=>by
   have:=h (j+1) (by simpa using hj)
   rwa [show k+(j+1)=k+1+j by omega]at this
theorem W3{b:Nat→Bool}{ds:List Rec}{i:Nat}{d:Rec}{st:St}(hd:ds[i]?=some d)(hb:b i=false)
 (hx:∀j e,i<j→ds[j]?=some e→b j=true→∀x∈slots d.L,x ∉ slots e.L):
 Jw (fun j=>b j||j==i) 0 ds st=K5 d.L (Jw b 0 ds st):=by
 apply List.ext_getElem?;intro x;by_cases h:x∈slots d.L
 ·have hi:i<ds.length:=(List.getElem?_eq_some_iff.1 hd).1;have e1:(Jw (fun j=>b j||j==i) 0 ds st)[x]?=(Jw (fun j=>(b j||j==i)&&decide (j<0+(i+1))) 0 ds st)[x]?:=by
   refine Ln rfl fun j e hj=>?_
   by_cases hj':j<i+1
   ·left;simp[hj']
   ·by_cases hbj:b j=true
    ·exact .inr (hx j e (by omega) hj hbj x h)
    ·left;simp at hbj;simp[hbj,show ¬j=i by omega]
  have e2:(Jw b 0 ds st)[x]?=(Jw (fun j=>b j&&decide (j<0+i)) 0 ds st)[x]?:=by
   refine Ln rfl fun j e hj=>?_
   by_cases hj':j<i
   ·left;simp[hj']
   ·by_cases hbj:b j=true
    ·by_cases hij:j=i
     ·subst hij;rw[hb]at hbj;cases hbj
     ·exact .inr (hx j e (by omega) hj hbj x h)
    ·left;simp at hbj;simp[hbj]
  rw[e1,N4,Ph e2,N4];have e3:ds.take (i+1)=ds.take i++[d]:=by rw[List.take_add_one,hd];rfl
  rw[e3,S3];have e4:0+(ds.take i).length=i:=by simp;omega
  rw[e4];simp only[beq_self_eq_true,Bool.or_true,if_true];refine Ph ?_;rw[Pd];intro j hj;simp at hj;simp;omega
 ·rw[Ra h];refine Ln rfl fun j e hj=>?_
  by_cases hij:j=i
  ·subst hij;rw[hd]at hj;cases hj;exact .inr h
  ·left;simp[hij]
def masks:List (List Nat)→List Nat→List Nat
 | [],acc=>acc
 |e::r,acc=>masks r (acc++[e.foldl (fun s j=>s ||| 2^j ||| acc.getD j 0) 0])
def Covers(es:List (List Nat))(e:List Nat)(j:Nat):Prop:=∀b:Nat→Bool,(∀i l,es[i]?=some l→b i=true→∀k∈l,b k=true)→(∀k∈e,b k=true)→b j=true
theorem Lu{es:List (List Nat)}:∀{r pre:List (List Nat)} {acc:List Nat},es=pre++r→acc.length=pre.length→
 (∀(i:Nat) e (m:Nat),pre[i]?=some e→acc[i]?=some m→∀j,m.testBit j=true→Covers es e j)→
 ∀(i:Nat) e (m:Nat),es[i]?=some e→(masks r acc)[i]?=some m→∀j,m.testBit j=true→Covers es e j
 | [],pre,acc,h,hl,ha=>by
   simp only[List.append_nil]at h;subst h;exact ha
 |e::r,pre,acc,h,hl,ha=>by
  refine Lu (r:=r) (pre:=pre++[e]) (by rw[h];simp) (by simp[hl]) ?_
  intro i e' m h1 h2 j hj;by_cases hi:i<pre.length
  ·rw[List.getElem?_append_left hi]at h1;rw[List.getElem?_append_left (by omega)]at h2
   exact ha i e' m h1 h2 j hj
  ·have hi':i=pre.length:=by
    have:=(List.getElem?_eq_some_iff.1 h1).1;simp at this;omega
   subst hi';rw[←hl,List.getElem?_concat_length]at h2;rw[List.getElem?_concat_length]at h1;cases h1;cases h2;have aux:∀(l:List Nat) (s:Nat),(∀j,s.testBit j=true→Covers es e j)→(∀k∈l,k∈e)→∀j,(l.foldl (fun s j=>s ||| 2^j ||| acc.getD j 0) s).testBit j=true→Covers es e j:=by
    intro l;induction l with
    |nil=>intro s hs _ j hj;exact hs j hj
    |cons k l ih=>
     intro s hs hl' j hj;refine ih _ ?_ (fun k hk=>hl' k (List.mem_cons_of_mem _ hk)) j hj
     intro j hj;have hke:=hl' k (List.mem_cons_self ..);simp only[Nat.testBit_or,Bool.or_eq_true]at hj;rcases hj with(hj|hj)|hj
     ·exact hs j hj
     ·rw[Nat.testBit_two_pow]at hj;simp at hj;subst hj;exact fun b _ h2=>h2 k hke
     ·intro b hb1 hb2;cases hk:acc[k]? with
      |none=>rw[List.getD_eq_getElem?_getD,hk]at hj;simp at hj
      |some m=>
       rw[List.getD_eq_getElem?_getD,hk]at hj;have hkl:k<pre.length:=by rw[←hl];exact(List.getElem?_eq_some_iff.1 hk).1
       have hpre:pre[k]?=some pre[k]:=List.getElem?_eq_getElem hkl;have hes:es[k]?=some pre[k]:=by rw[h,List.getElem?_append_left hkl,hpre]
       exact ha k _ m hpre hk j hj b hb1 (hb1 k _ hes (hb2 k hke))
   exact aux e 0 (fun j hj=>by simp at hj) (fun _ h=>h) j hj
def Lf:List Nat→List Nat→Bool
 | [],_=>true
 |x::r,l=> !l.contains x&&Lf r l
theorem Ma:∀{a l:List Nat},Lf a l=true→∀x∈a,x ∉ l
 | [],_,_,_,h=>by cases h
 |y::r,l,h,x,hx=>by
  simp only[Lf,Bool.and_eq_true,Bool.not_eq_true']at h;rcases List.mem_cons.mp hx with rfl|hx
  ·intro hm;have:=List.contains_iff_mem.2 hm;rw[h.1]at this;cases this
  ·exact Ma h.2 x hx
def N2(d:Rec)(m:Nat):Nat→List Rec→Bool
 |_,[]=>true
 |j,e::r=>(m.testBit j||(Lf (slots d.L) (slots e.L)&&Lf (slots d.L) (fulls e.R)&&Lf (slots e.L) (fulls d.R)))&&N2 d m (j+1) r
def Pc(pre:List Rec):List Rec→List Nat→Bool
 | [],_=>true
 |d::r,m::ms=>N2 d m 0 pre&&Pc (pre++[d]) r ms
 |_::_,[]=>false
def V0(d:Rec)(m:Nat):Nat→List Rec→Bool
 |_,[]=>true
 |j,e::r=>(m.testBit j||(Lf (slots d.L) (slots e.L)&&Lf (slots d.L) (fulls e.R)&&Lf (slots e.L) (alls d.R)))&&V0 d m (j+1) r
def Vz(pre:List Rec):List Rec→List Nat→Bool
 | [],_=>true
 |d::r,m::ms=>V0 d m 0 pre&&Vz (pre++[d]) r ms
 |_::_,[]=>false
def Sj(c:Nat × (Nat × SV)):List Rd→Prop
 | []=>True
 | .all _::r=>Sj c r
 | .prj i f o::r=>(match Nat.beq i c.1 with
   |true=>f c.2.1 c.2.2=o
   |false=>True)∧Sj c r
def Ls:Log→List Rd→Prop
 | [],_=>True
 |c::L,R=>Sj c R∧Ls L R
def L9(d:Rec)(m:Nat):Nat→List Rec→Prop
 |_,[]=>True
 |j,e::r=>(match m.testBit j with
  |true=>True
  |false=>Ls d.L e.R)∧L9 d m (j+1) r
def P7(pre:List Rec):List Rec→List Nat→Prop
 | [],_=>True
 |d::r,m::ms=>L9 d m 0 pre∧P7 (pre++[d]) r ms
 |_::_,[]=>False
theorem Sk{c:Nat × (Nat × SV)}:∀{R:List Rd},Sj c R→∀i f o,Rd.prj i f o∈R→i=c.1→f c.2.1 c.2.2=o
 | [],_,_,_,_,h,_=>by cases h
 | .all _::r,h,i,f,o,hm,hi=>by
   rcases List.mem_cons.1 hm with hm|hm
   ·cases hm
   ·exact Sk (R:=r) h i f o hm hi
 | .prj i' f' o'::r,h,i,f,o,hm,hi=>by
   simp only[Sj]at h;rcases List.mem_cons.1 hm with hm|hm
   ·rw[Rd.prj.injEq]at hm;obtain⟨h1,h2,h3⟩:=hm;subst h1;subst h2;subst h3;have:Nat.beq i c.1=true:=by rw[hi];exact Nat.beq_refl _
    rw[this]at h;exact h.1
   ·exact Sk h.2 i f o hm hi
theorem L8:∀{L:Log} {R:List Rd},Ls L R→∀c∈L,∀i f o,Rd.prj i f o∈R→i=c.1→f c.2.1 c.2.2=o
 | [],_,_,_,hc=>by cases hc
 |a::L,R,h,c,hc=>by
  rcases List.mem_cons.1 hc with rfl|hc
  ·exact Sk h.1
  ·exact L8 h.2 c hc
theorem Td{d:Rec}{m:Nat}:∀{pre:List Rec} {k:Nat},L9 d m k pre→∀j e,pre[j]?=some e→m.testBit (k+j)=true∨Ls d.L e.R
 | [],_,_,j,e,h=>by simp at h
 |f::r,k,h,j,e,he=>by
  simp only[L9]at h;cases j with
  |zero=>
   cases he;cases hb:m.testBit k with
   |true=>exact .inl (by simp)
   |false=>rw[hb]at h;exact .inr h.1
  |succ j=>
   have:=Td h.2 j e he;rwa [show k+1+j=k+(j+1)by omega]at this
theorem Qr:∀{ds pre:List Rec} {ms:List Nat},P7 pre ds ms→∀i d,ds[i]?=some d→∃m,ms[i]?=some m∧∀j e,j<pre.length+i→(pre++ds)[j]?=some e→m.testBit j=true∨Ls d.L e.R
 | [],_,_,_,i,d,h=>by simp at h
 |d::r,pre,[],h,_,_,_=>by cases h
 |d::r,pre,m::ms,h,i,d',hd=>by
  simp only[P7]at h;cases i with
  |zero=>
   cases hd;refine⟨m,rfl,fun j e hj he=>?_⟩
   rw[List.getElem?_append_left (by omega)]at he
   have:=Td h.1 j e he;rwa [Nat.zero_add]at this
  |succ i=>
   obtain⟨m',h1,h2⟩:=Qr h.2 i d' hd;refine⟨m',h1,fun j e hj he=>h2 j e (by simp;omega) (by rw[List.append_assoc];exact he)⟩
def Vy(d:Rec)(m:Nat):Nat→List Rec→Bool
 |_,[]=>true
 |j,e::r=>(m.testBit j||Lf (slots d.L) (alls e.R))&&Vy d m (j+1) r
def Vx(pre:List Rec):List Rec→List Nat→Bool
 | [],_=>true
 |d::r,m::ms=>Vy d m 0 pre&&Vx (pre++[d]) r ms
 |_::_,[]=>false
theorem Wt:∀{L:Log} {R:List Rd},Lf (slots L) (alls R)=true→Ls L R
 | [],_,_=>trivial
 |p::L,R,h=>by
  simp only[slots,List.map_cons,Lf,Bool.and_eq_true,Bool.not_eq_true']at h;refine⟨?_,Wt h.2⟩;have hi:p.1 ∉ alls R:=fun hm=>by rw[List.contains_iff_mem.2 hm]at h;cases h.1
  clear h;induction R with
  |nil=>trivial
  |cons r R ih=>
   simp only[alls,List.map_cons,List.mem_cons,not_or]at hi;cases r with
   |all j=>exact ih hi.2
   |prj j f o=>
    refine⟨?_,ih hi.2⟩;have:Nat.beq j p.1=false:=by
     rw[Bool.eq_false_iff];intro e;exact hi.1 (Nat.eq_of_beq_eq_true e).symm
    rw[this];trivial
theorem Uw{d:Rec}{m:Nat}:∀{pre:List Rec} {k:Nat},Vy d m k pre=true→L9 d m k pre
 | [],_,_=>trivial
 |f::r,k,h=>by
  simp only[Vy,Bool.and_eq_true,Bool.or_eq_true]at h;refine⟨?_,Uw h.2⟩;cases hb:m.testBit k with
  |true=>trivial
  |false=>
   rcases h.1 with h1|h1
   ·rw[hb]at h1;cases h1
   ·exact Wt h1
theorem Uv:∀{ds pre:List Rec} {ms:List Nat},Vx pre ds ms=true→P7 pre ds ms
 | [],_,_,_=>trivial
 |_::_,_,[],h=>by cases h
 |d::r,pre,m::ms,h=>by
  simp only[Vx,Bool.and_eq_true]at h;exact⟨Uw h.1,Uv h.2⟩
theorem V2{x:Nat}{f:Nat→SV→Nat × SV}{o:Nat × SV}:∀{L:Log} {st:St},(∃cur,st[x]?=some cur∧f cur.1 cur.2=o)→(∀c∈L,c.1=x→f c.2.1 c.2.2=o)→∃cur,(K5 L st)[x]?=some cur∧f cur.1 cur.2=o
 | [],_,h,_=>h
 |(i,c)::L,st,h,hL=>by
  obtain⟨cur,h1,h2⟩:=V2 (L:=L) h fun c hc=>hL c (List.mem_cons_of_mem _ hc)
  simp only[K5];by_cases hi:i=x
  ·subst hi;exact⟨c,by rw[List.getElem?_set_self (List.getElem?_eq_some_iff.1 h1).1],hL _ (List.mem_cons_self ..) rfl⟩
  ·exact⟨cur,by rw[List.getElem?_set_ne hi];exact h1,h2⟩
theorem N3{b:Nat→Bool}{x:Nat}{f:Nat→SV→Nat × SV}{o:Nat × SV}:∀{ds:List Rec} {k:Nat} {st:St},(∃cur,st[x]?=some cur∧f cur.1 cur.2=o)→
 (∀j d,ds[j]?=some d→b (k+j)=true→∀c∈d.L,c.1=x→f c.2.1 c.2.2=o)→∃cur,(Jw b k ds st)[x]?=some cur∧f cur.1 cur.2=o
 | [],_,_,h,_=>h
 |d::ds,k,st,h,hd=>by
  simp only[Jw];refine N3 (ds:=ds) ?_ fun j e hj hb=>hd (j+1) e hj (by rwa [show k+(j+1)=k+1+j by omega])
  split
  ·rename_i hb;exact V2 h (hd 0 d rfl hb)
  ·exact h
theorem Rv{b:Nat→Bool}:∀{ds ds':List Rec} {k:Nat} {st:St},Jw b k (ds++ds') st=Jw b (k+ds.length) ds' (Jw b k ds st)
 | [],_,_,_=>rfl
 |d::ds,ds',k,st=>by
  simp only[List.cons_append,Jw,List.length_cons];rw[Rv,show k+1+ds.length=k+(ds.length+1)by omega]
theorem V1{d:Rec}{m:Nat}:∀{pre:List Rec} {k:Nat},N2 d m k pre=true→∀j e,pre[j]?=some e→m.testBit (k+j)=true∨
 ((∀x∈slots d.L,x ∉ slots e.L)∧(∀x∈slots d.L,x ∉ fulls e.R)∧∀x∈slots e.L,x ∉ fulls d.R)
 | [],_,_,j,e,h=>by simp at h
 |f::r,k,h,j,e,he=>by
  simp only[N2,Bool.and_eq_true,Bool.or_eq_true]at h;cases j with
  |zero=>
   cases he;rcases h.1 with h1|⟨⟨h1,h2⟩,h3⟩
   ·exact .inl h1
   ·exact .inr ⟨Ma h1,Ma h2,Ma h3⟩
  |succ j=>
   have:=V1 h.2 j e he;rwa [show k+1+j=k+(j+1)by omega]at this
theorem S2:∀{ds pre:List Rec} {ms:List Nat},Pc pre ds ms=true→∀i d,ds[i]?=some d→∃m,ms[i]?=some m∧∀j e,j<pre.length+i→(pre++ds)[j]?=some e→m.testBit j=true∨
 ((∀x∈slots d.L,x ∉ slots e.L)∧(∀x∈slots d.L,x ∉ fulls e.R)∧∀x∈slots e.L,x ∉ fulls d.R)
 | [],_,_,_,i,d,h=>by simp at h
 |d::r,pre,[],h,_,_,_=>by cases h
 |d::r,pre,m::ms,h,i,d',hd=>by
  simp only[Pc,Bool.and_eq_true]at h;cases i with
  |zero=>
   cases hd;refine⟨m,rfl,fun j e hj he=>?_⟩
   rw[List.getElem?_append_left (by omega)]at he
   have:=V1 h.1 j e he;rwa [Nat.zero_add]at this
  |succ i=>
   obtain⟨m',h1,h2⟩:=S2 h.2 i d' hd;refine⟨m',h1,fun j e hj he=>h2 j e (by simp;omega) (by rw[List.append_assoc];exact he)⟩
def K9(y m:Nat):Nat→List Rec→Bool
 |_,[]=>true
 |j,e::r=>(m.testBit j|| !(slots e.L).contains y)&&K9 y m (j+1) r
def Ms(rd:Rd):List Rec→Prop
 | []=>True
 |e::r=>Ls e.L [rd]∧Ms rd r
def Mq(st0:St)(pre:List Rec)(m:Nat):List Rd→Prop
 | []=>True
 | .all _::r=>Mq st0 pre m r
 | .prj y f o::r=>(match K9 y m 0 pre with
   |true=>True
   |false=>(match st0[y]? with
    |some c=>f c.1 c.2=o
    |none=>False)∧Ms (.prj y f o) pre)∧Mq st0 pre m r
def Av(st0:St)(pre:List Rec):List Rec→List Nat→Prop
 | [],_=>True
 |d::r,m::ms=>Mq st0 pre m d.R∧Av st0 (pre++[d]) r ms
 |_::_,[]=>False
theorem Qz{y m:Nat}:∀{pre:List Rec} {k:Nat},K9 y m k pre=true→∀j e,pre[j]?=some e→m.testBit (k+j)=true∨y ∉ slots e.L
 | [],_,_,j,e,h=>by simp at h
 |f::r,k,h,j,e,he=>by
  simp only[K9,Bool.and_eq_true,Bool.or_eq_true,Bool.not_eq_true']at h;cases j with
  |zero=>
   cases he;rcases h.1 with h1|h1
   ·exact .inl h1
   ·exact .inr fun hm=>by rw[List.contains_iff_mem.2 hm]at h1;cases h1
  |succ j=>
   have:=Qz h.2 j e he;rwa [show k+1+j=k+(j+1)by omega]at this
theorem Qu{rd:Rd}:∀{pre:List Rec},Ms rd pre→∀(j:Nat) (e:Rec),pre[j]?=some e→Ls e.L [rd]
 | [],_,j,e,h=>by simp at h
 |f::r,h,j,e,he=>by
  cases j with
  |zero=>cases he;exact h.1
  |succ j=>exact Qu h.2 j e he
theorem Nw{st0:St}{pre:List Rec}{m:Nat}:∀{R:List Rd},Mq st0 pre m R→∀y f o,Rd.prj y f o∈R→K9 y m 0 pre=true∨((∃c,st0[y]?=some c∧f c.1 c.2=o)∧Ms (.prj y f o) pre)
 | [],_,_,_,_,h=>by cases h
 | .all _::r,h,y,f,o,hm=>by
   rcases List.mem_cons.1 hm with hm|hm
   ·cases hm
   ·exact Nw (R:=r) h y f o hm
 | .prj y' f' o'::r,h,y,f,o,hm=>by
   simp only[Mq]at h;rcases List.mem_cons.1 hm with hm|hm
   ·rw[Rd.prj.injEq]at hm;obtain⟨h1,h2,h3⟩:=hm;subst h1;subst h2;subst h3;cases ho:K9 y m 0 pre with
    |true=>exact .inl rfl
    |false=>
     rw[ho]at h;refine .inr ⟨?_,h.1.2⟩;have h4:=h.1.1;split at h4
     ·rename_i c hc;exact⟨c,hc,h4⟩
     ·exact h4.elim
   ·exact Nw h.2 y f o hm
theorem Qg{st0:St}:∀{ds pre:List Rec} {ms:List Nat},Av st0 pre ds ms→∀i d,ds[i]?=some d→∃m,ms[i]?=some m∧Mq st0 (pre++ds.take i) m d.R
 | [],_,_,_,i,d,h=>by simp at h
 |d::r,pre,[],h,_,_,_=>by cases h
 |d::r,pre,m::ms,h,i,d',hd=>by
  simp only[Av]at h;cases i with
  |zero=>
   cases hd;exact⟨m,rfl,by simpa using h.1⟩
  |succ i=>
   obtain⟨m',h1,h2⟩:=Qg h.2 i d' hd;exact⟨m',h1,by simpa using h2⟩
theorem Sn:∀{R:List Rd} {x:Nat},x∈fulls R→x∈alls R
 | .all i::r,x,h=>by
   simp only[fulls,List.mem_cons]at h;simp only[alls,List.map_cons,List.mem_cons,Rd.slot];rcases h with h|h
   ·exact .inl h
   ·exact .inr (Sn h)
 | .prj i _ _::r,x,h=>by
   simp only[alls,List.map_cons,List.mem_cons];exact .inr (Sn (R:=r) h)
theorem Wv:∀{a l:List Nat},(∀x∈a,x ∉ l)→Lf a l=true
 | [],_,_=>rfl
 |y::r,l,h=>by
  simp only[Lf,Bool.and_eq_true,Bool.not_eq_true'];refine⟨?_,Wv fun x hx=>h x (List.mem_cons_of_mem _ hx)⟩
  rw[Bool.eq_false_iff];intro hc;exact h y (List.mem_cons_self ..) (List.contains_iff_mem.1 hc)
theorem Wy{d:Rec}{m:Nat}:∀{pre:List Rec} {k:Nat},V0 d m k pre=true→N2 d m k pre=true∧∀y∈alls d.R,K9 y m k pre=true
 | [],_,_=>⟨rfl,fun _ _=>rfl⟩
 |e::r,k,h=>by
  simp only[V0,Bool.and_eq_true,Bool.or_eq_true]at h;obtain⟨h1,h2⟩:=Wy h.2;refine⟨?_,fun y hy=>?_⟩
  ·simp only[N2,Bool.and_eq_true,Bool.or_eq_true];refine⟨?_,h1⟩;rcases h.1 with h3|⟨⟨h3,h4⟩,h5⟩
   ·exact .inl h3
   ·exact .inr ⟨⟨h3,h4⟩,Wv fun x hx hm=>Ma h5 x hx (Sn hm)⟩
  ·simp only[K9,Bool.and_eq_true,Bool.or_eq_true,Bool.not_eq_true'];refine⟨?_,h2 y hy⟩;rcases h.1 with h3|⟨_,h5⟩
   ·exact .inl h3
   ·right;rw[Bool.eq_false_iff];intro hc;exact Ma h5 y (List.contains_iff_mem.1 hc) hy
theorem Rm{st0:St}{pre:List Rec}{m:Nat}:∀{R:List Rd},(∀y∈alls R,K9 y m 0 pre=true)→Mq st0 pre m R
 | [],_=>trivial
 | .all _::r,h=>Rm (R:=r) fun y hy=>h y (by simp only[alls,List.map_cons,List.mem_cons];exact .inr hy)
 | .prj y f o::r,h=>by
   refine⟨?_,Rm fun z hz=>h z (by simp only[alls,List.map_cons,List.mem_cons];exact .inr hz)⟩
   rw[h y (by simp[alls,Rd.slot])]
   trivial
theorem Th{st0:St}:∀{ds pre:List Rec} {ms:List Nat},Vz pre ds ms=true→Pc pre ds ms=true∧Av st0 pre ds ms
 | [],_,_,_=>⟨rfl,trivial⟩
 |_::_,_,[],h=>by cases h
 |d::r,pre,m::ms,h=>by
  simp only[Vz,Bool.and_eq_true]at h;obtain⟨h1,h2⟩:=Wy h.1;obtain⟨h3,h4⟩:=Th h.2;exact⟨by simp only[Pc,Bool.and_eq_true];exact⟨h1,h3⟩,Rm h2,h4⟩
structure Drawn(st0:St)(ms:List Nat)(Q:St→Prop)(ds:List Rec)(st:St):Prop where
 ok:Pc [] ds ms=true
 fits:P7 [] ds ms
 base:Av st0 [] ds ms
 go:(∀d∈ds,∀p∈d.F,p)→Q st
theorem Drawn.by0{st0:St}{ms:List Nat}{Q:St→Prop}{ds:List Rec}{st:St}(h:(Vz [] ds ms&&Vx [] ds ms)=true)(hq:(∀d∈ds,∀p∈d.F,p)→Q st):Drawn st0 ms Q ds st:=by
 rw[Bool.and_eq_true]at h;exact⟨(Th h.1 (st0:=st0)).1,Uv h.2,(Th h.1).2,hq⟩
def N7(os:List Oper):List (List Nat):=os.map fun o=>(o.after.toList.filter (Region.binds .any ·)).map (·.on)
def N8:List (List Nat)→Nat→List Oper→Bool
 | [],_,[]=>true
 |e::es,i,o::os=>(e.all fun j=>o.after.any fun x=>Region.binds .any x&&x.on==j)&&(o.after.all fun x=> !Region.binds .any x||decide (x.on<i))&&N8 es (i+1) os
 |_,_,_=>false
theorem Qq:∀{es:List (List Nat)} {k:Nat} {os:List Oper},N8 es k os=true→es.length=os.length∧∀i o,os[i]?=some o→∃e,es[i]?=some e∧
 (∀j∈e,∃x∈o.after,Region.binds .any x=true∧x.on=j)∧∀x∈o.after,Region.binds .any x=true→x.on<k+i
 | [],_,[],_=>⟨rfl,fun i o h=>by simp at h⟩
 |e::es,k,o::os,h=>by
  simp only[N8,Bool.and_eq_true]at h;obtain⟨⟨h1,h2⟩,h3⟩:=h;obtain⟨h4,h5⟩:=Qq h3;refine⟨by simp[h4],fun i o' hi=>?_⟩
  cases i with
  |zero=>
   cases hi;refine⟨e,rfl,fun j hj=>?_,fun x hx hb=>?_⟩
   ·have:=List.all_eq_true.1 h1 j hj;obtain⟨x,hx,hx'⟩:=Array.any_eq_true'.1 this;simp only[Bool.and_eq_true,beq_iff_eq]at hx';exact⟨x,hx,hx'.1,hx'.2⟩
   ·have:=Array.all_eq_true'.1 h2 x hx;simpa[hb]using this
  |succ i=>
   obtain⟨e',g1,g2,g3⟩:=h5 i o' hi;exact⟨e',g1,g2,fun x hx hb=>by have:=g3 x hx hb;omega⟩
 | [],_,_::_,h=>by cases h
 |_::_,_,[],h=>by cases h
theorem Ta{P:Program}{K:List Rec→St→Prop}{st0:St}:∀{l:List Ao} {pre:List Rec},P0 P l K pre (Jw (fun _=>true) 0 pre st0)→
 ∃ds,ds.length=l.length∧K (pre++ds) (Jw (fun _=>true) 0 (pre++ds) st0)∧
  ∀i m d,l[i]?=some m→ds[i]?=some d→Local P m.sem (Jw (fun _=>true) 0 ((pre++ds).take (pre.length+i)) st0) d∧
   ∀x∈d.R,x.Agree (Jw (fun _=>true) 0 ((pre++ds).take (pre.length+i)) st0) (Jw (fun _=>true) 0 ((pre++ds).take (pre.length+i)) st0)
 | [],pre,h=>⟨[],rfl,by simpa[P0]using h,fun i m d h=>by simp at h⟩
 |m::l,pre,h=>by
  simp only[P0]at h;obtain⟨R,L,F,h1,h2,h3,h5,h4⟩:=M.wr_spec (L:=[]) (st0:=Jw (fun _=>true) 0 pre st0) h
  have e1:Jw (fun _=>true) 0 (pre++[⟨R,L,F⟩]) st0=K5 L (Jw (fun _=>true) 0 pre st0):=by rw[S3];rfl
  rw[←e1]at h1;obtain⟨ds,g1,g2,g3⟩:=Ta (l:=l) (pre:=pre++[⟨R,L,F⟩]) h1;rw[List.append_assoc]at g2 g3;refine⟨⟨R,L,F⟩::ds,by simp[g1],g2,fun i m' d hm hd=>?_⟩
  cases i with
  |zero=>
   cases hm;cases hd;rw[Nat.add_zero,List.take_left' rfl];refine⟨fun st' hst=>h4 st' hst (fun p hp=>by cases hp),fun x hx=>?_⟩
   rcases h5 x hx with h|h
   ·cases h
   ·exact h
  |succ i=>
   have:=g3 i m' d hm hd;simpa[Nat.add_assoc,Nat.add_comm 1 i]using this
section
variable{P:Program}{N:Nat}{G:Mem}{σ:Lab}{Fr:Mem}{w0:Base}{w:World}{st:St}{a:Act}
theorem U2{ops:Array Oper}:∀{l:List Oper} {m:List Ao},chkL P N ops l m=true→l.length=m.length∧∀(i:Nat) o,l[i]?=some o→∃x,m[i]?=some x∧M7 P N ops o x=true
 | [],[],_=>⟨rfl,fun i o h=>by simp at h⟩
 |o::l,x::m,h=>by
  simp only[chkL,Bool.and_eq_true]at h;obtain⟨h1,h2⟩:=U2 h.2;refine⟨by simp[h1],fun i o' hi=>?_⟩
  cases i with
  |zero=>cases hi;exact⟨x,rfl,h.1⟩
  |succ i=>exact h2 i o' hi
 | [],_::_,h=>by cases h
 |_::_,[],h=>by simp[chkL]at h
theorem WOk.drawn(h:WOk G σ Fr w0 w)(n:Nat):WOk G σ Fr w0 {w with drawn:=n}:=⟨h.fixed,h.own,h.inj,h.frame,h.os,h.tape,h.output,h.size,h.apart,h.amb⟩
theorem Rel.drawn(h:Rel G σ Fr w0 st a w)(n:Nat):Rel G σ Fr w0 st a {w with drawn:=n}:=
 ⟨h.wok.drawn n,h.defers,h.n,h.len,fun s ver sv hs=>(h.slots s ver sv hs).keep (Mem.le.refl G) (fun _ _ _ hb=>⟨hb,rfl⟩) h.slots,h.pars⟩
theorem Acx{ro:Option Nat}{id:Nat}{ops:Array Oper}{es:List (List Nat)}{ms:List Nat}{l:List Ao}{Q:St→Prop}{Qx:Exit→Act→World→Prop}(hm:P.follows .mixedOrders=true)(hms:masks es []=ms)
 (hc:chkL P w0.n ops ops.toList l=true) (he:N8 es 0 ops.toList=true) (hr:Rel G σ Fr w0 st a w) (hq:P0 P l (Drawn st ms Q) [] st)
 (hn:∀G' σ' st' a' w',G.le G'→Rel G' σ' Fr w0 st' a' w'→Q st'→Qx .normal a' w'):(Code.region id ops true).wpIn (Wd ro) 0 P Qx a w:=by
 subst hms;obtain⟨hlen,hops⟩:=U2 hc;obtain⟨helen,hedge⟩:=Qq he;obtain⟨ds,hdl,⟨hok,hfit,hbase,hgo⟩,hloc⟩:=Ta (st0:=st) (pre:=[]) hq;simp only[List.nil_append,List.length_nil,Nat.zero_add]at hok hfit hbase hgo hloc;have hdn:ds.length=ops.size:=by rw[hdl, ←hlen,Array.length_toList]
 have hconf:∀i d,ds[i]?=some d→∀e,es[i]?=some e→∀j f,j<i→ds[j]?=some f→Covers es e j∨
  (((∀x∈slots d.L,x ∉ slots f.L)∧(∀x∈slots d.L,x ∉ fulls f.R)∧∀x∈slots f.L,x ∉ fulls d.R)∧Ls d.L f.R):=by
  intro i d hd e hes j f hj hf;obtain⟨m,h1,h2⟩:=S2 hok i d hd;obtain⟨m',h1',h2'⟩:=Qr hfit i d hd;rw[h1]at h1';cases h1';rcases h2 j f (by simpa using hj) (by simpa using hf)with h3|h3
  ·exact .inl (Lu (r:=es) (pre:=[]) (acc:=[]) rfl rfl (by simp) i e m hes h1 j h3)
  ·rcases h2' j f (by simpa using hj) (by simpa using hf)with h4|h4
   ·exact .inl (Lu (r:=es) (pre:=[]) (acc:=[]) rfl rfl (by simp) i e m hes h1 j h4)
   ·exact .inr ⟨h3,h4⟩
 have hbconf:∀i d,ds[i]?=some d→∀e,es[i]?=some e→∀y f o,Rd.prj y f o∈d.R→(∀j g,j<i→ds[j]?=some g→Covers es e j∨y ∉ slots g.L)∨((∃c,st[y]?=some c∧f c.1 c.2=o)∧Ms (.prj y f o) (ds.take i)):=by
  intro i d hd e hes y f o hy;obtain⟨m,h1,h2⟩:=Qg hbase i d hd;rw[List.nil_append]at h2;rcases Nw h2 y f o hy with h3|h3
  ·refine .inl fun j g hj hg=>?_
   rcases Qz h3 j g (by rw[List.getElem?_take_of_lt hj];exact hg)with h4|h4
   ·rw[Nat.zero_add]at h4;exact .inl ((Lu (r:=es) (pre:=[]) (acc:=[]) rfl rfl (by simp) i e m hes h1 j h4))
   ·exact .inr h4
  ·exact .inr h3
 refine wpIn_region_any hm ?_
 suffices H:∀(fuel:Nat) (listed:Array Bool) (G1:Mem) (σ1:Lab) (a1:Act) (w1:World),listed.size=ops.size→((List.range ops.size).filter fun i=> !listed.getD i true).length≤fuel→G.le G1→
  (∀i e,es[i]?=some e→listed.getD i false=true→∀k∈e,listed.getD k false=true)→
  (∀i d,ds[i]?=some d→listed.getD i false=true→∀p∈d.F,p)→
  Rel G1 σ1 Fr w0 (Jw (fun i=>listed.getD i false) 0 ds st) a1 w1→wpAnyIn (Wd ro) 0 P .any ops Qx fuel listed a1 w1 by
  refine H _ _ G σ a _ (by simp) ?_ (Mem.le.refl G) ?_ ?_ ?_
  ·refine Nat.le_trans (List.length_filter_le _ _) (by simp)
  ·intro i e _ hi;simp[Array.getD_eq_getD_getElem?,Array.getElem?_replicate]at hi;split at hi<;>simp at hi
  ·intro i d _ hi;simp[Array.getD_eq_getD_getElem?,Array.getElem?_replicate]at hi;split at hi<;>simp at hi
  ·have:Jw (fun i=>(Array.replicate ops.size false).getD i false) 0 ds st=st:=by
    have aux:∀(ds:List Rec) (k:Nat),Jw (fun i=>(Array.replicate ops.size false).getD i false) k ds st=st:=by
     intro ds;induction ds with
     |nil=>intro k;rfl
     |cons d ds ih=>
      intro k;have hf:(Array.replicate ops.size false).getD k false=false:=by
       simp[Array.getD_eq_getD_getElem?,Array.getElem?_replicate];split<;>rfl
      simp only[Jw,hf];exact ih _
    exact aux ds 0
   rw[this];exact hr.drawn _
 have ready_nil:∀(listed:Array Bool),listed.size=ops.size→Region.ready .any ops listed=[]→∀i,i<ops.size→listed.getD i false=true:=by
  intro listed hsz hnil i;induction i using Nat.strongRecOn with
  |ind i ih=>
   intro hi;cases hli:listed.getD i false with
   |true=>rfl
   |false=>
    exfalso;have:i∈Region.ready .any ops listed:=by
     unfold Region.ready;rw[List.mem_filter];refine⟨List.mem_range.2 hi,?_⟩;have hli':listed.getD i true=false:=by
      rw[Array.getD_eq_getD_getElem?,Array.getElem?_eq_getElem (by omega)]at hli ⊢
      exact hli
     rw[hli',Array.getElem?_eq_getElem hi];simp only[Bool.not_false,Bool.true_and,Option.map_some,Option.getD_some];rw[Array.all_eq_true'];intro x hx;cases hb:Region.binds .any x with
     |false=>rfl
     |true=>
      obtain⟨e,_,_,g3⟩:=hedge i ops[i] (by simp[hi])
      have:=g3 x hx hb;simp only[Nat.zero_add]at this;simp[ih x.on this (by omega)]
    rw[hnil]at this;cases this
 have fin:∀{listed:Array Bool} {G1:Mem} {σ1:Lab} {a1:Act} {w1:World},listed.size=ops.size→Region.ready .any ops listed=[]→G.le G1→
  (∀i d,ds[i]?=some d→listed.getD i false=true→∀p∈d.F,p)→
  Rel G1 σ1 Fr w0 (Jw (fun i=>listed.getD i false) 0 ds st) a1 w1→Qx .normal a1 w1:=by
  intro listed G1 σ1 a1 w1 hsz hnil hG hF hr1;have hall:=ready_nil listed hsz hnil;have:Jw (fun i=>listed.getD i false) 0 ds st=Jw (fun _=>true) 0 ds st:=Pd fun j hj=>by rw[Nat.zero_add];exact hall j (by omega)
  rw[this]at hr1;refine hn G1 σ1 _ a1 w1 hG hr1 (hgo fun d hd=>?_)
  obtain⟨i,hi,rfl⟩:=List.mem_iff_getElem.1 hd;exact hF i _ (List.getElem?_eq_getElem hi) (hall i (by omega))
 intro fuel;induction fuel with
 |zero=>
  intro listed G1 σ1 a1 w1 hsz hcnt hG hcl hF hr1;have hnil:Region.ready .any ops listed=[]:=by
   cases hrd:Region.ready .any ops listed with
   |nil=>rfl
   |cons i r=>
    exfalso;have hi:i∈Region.ready .any ops listed:=by rw[hrd];exact List.mem_cons_self ..
    unfold Region.ready at hi;rw[List.mem_filter]at hi;have:i∈(List.range ops.size).filter fun i=> !listed.getD i true:=by
     rw[List.mem_filter];exact⟨hi.1,by have:=hi.2;simp only[Bool.and_eq_true]at this;exact this.1⟩
    have:=List.length_pos_of_mem this;omega
  exact⟨hnil,fin hsz hnil hG hF hr1⟩
 |succ fuel ih=>
  intro listed G1 σ1 a1 w1 hsz hcnt hG hcl hF hr1;refine⟨fun hnil=>fin hsz hnil hG hF hr1,fun i hi=>?_⟩
  have hi0:=hi;unfold Region.ready at hi;rw[List.mem_filter,List.mem_range]at hi;obtain⟨hilt,hi2⟩:=hi;rw[Array.getElem?_eq_getElem hilt]at hi2;simp only[Option.map_some,Option.getD_some,Bool.and_eq_true,Bool.not_eq_true']at hi2;obtain⟨hun,haft⟩:=hi2;have hun':listed.getD i false=false:=by
   rw[Array.getD_eq_getD_getElem?,Array.getElem?_eq_getElem (by omega)]at hun ⊢
   exact hun
  obtain⟨x,hx,hchk⟩:=hops i ops[i] (by simp[hilt])
  obtain⟨e,hes,hpre,_⟩:=hedge i ops[i] (by simp[hilt])
  have hprel:∀k∈e,listed.getD k false=true:=by
   intro k hk;obtain⟨y,hy,hb,rfl⟩:=hpre k hk;have:=Array.all_eq_true'.1 haft y hy;simpa[hb]using this
  obtain⟨d,hd⟩:∃d,ds[i]?=some d:=⟨ds[i]'(by omega),List.getElem?_eq_getElem (by omega)⟩
  have hcov:∀j f,j<i→ds[j]?=some f→listed.getD j false=true∨(((∀x∈slots d.L,x ∉ slots f.L)∧(∀x∈slots d.L,x ∉ fulls f.R)∧∀x∈slots f.L,x ∉ fulls d.R)∧Ls d.L f.R):=by
   intro j f hj hf;rcases hconf i d hd e hes j f hj hf with h1|h1
   ·exact .inl (h1 _ hcl hprel)
   ·exact .inr h1
  have hlater:∀j f,i<j→ds[j]?=some f→listed.getD j false=true→(((∀x∈slots f.L,x ∉ slots d.L)∧(∀x∈slots f.L,x ∉ fulls d.R)∧∀x∈slots d.L,x ∉ fulls f.R)∧Ls f.L d.R):=by
   intro j f hj hf hlj;have hjl:j<ds.length:=(List.getElem?_eq_some_iff.1 hf).1;obtain⟨e',hes',_,_⟩:=hedge j (ops[j]'(by omega)) (by simp[show j<ops.size by omega])
   rcases hconf j f hf e' hes' i d hj hd with h1|h1
   ·have:=h1 _ hcl (hcl j e' hes' hlj);rw[hun']at this;cases this
   ·exact h1
  have hL:=(hloc i x d hx hd).1 (Jw (fun i=>listed.getD i false) 0 ds st) ?_
  ·refine(by
    refine Acz (ro:=ro) Nt (Array.getElem?_eq_getElem hilt) hchk hr1 (Ao.run_of hL) ?_;rintro G2 σ2 st2 a2 w2 hG2 hr2 ⟨rfl,hfacts⟩;have hset:∀k,(listed.setIfInBounds i true).getD k false=(listed.getD k false||k==i):=by
     intro k;simp only[Array.getD_eq_getD_getElem?,Array.getElem?_setIfInBounds];by_cases hk:i=k
     ·subst hk;simp[hsz,hilt]
     ·simp[hk,show ¬k=i from fun h=>hk h.symm]
    refine ih _ G2 σ2 a2 w2 (by simp[hsz]) ?_ (hG.trans hG2) ?_ ?_ ?_
    ·have hlt:((List.range ops.size).filter fun k=> !(listed.setIfInBounds i true).getD k true).length<((List.range ops.size).filter fun k=> !listed.getD k true).length:=by
      have hsub:((List.range ops.size).filter fun k=> !(listed.setIfInBounds i true).getD k true)=((List.range ops.size).filter fun k=> !listed.getD k true).filter fun k=> !(k==i):=by
       rw[List.filter_filter];refine List.filter_congr fun k hk=>?_
       have hk:=List.mem_range.1 hk;simp only[Array.getD_eq_getD_getElem?,Array.getElem?_setIfInBounds];by_cases hki:i=k
       ·subst hki;simp[hsz,hilt]
       ·simp[hki,show ¬k=i from fun h=>hki h.symm]
      rw[hsub];refine List.length_filter_lt_length_iff_exists.2 ⟨i,?_,by simp⟩
      rw[List.mem_filter];exact⟨List.mem_range.2 hilt,by rw[hun];rfl⟩
     omega
    ·intro k e' hk hlk y hy;rw[hset]at hlk ⊢;simp only[Bool.or_eq_true,beq_iff_eq]at hlk ⊢;rcases hlk with hlk|rfl
     ·exact .inl (hcl k e' hk hlk y hy)
     ·rw[hes]at hk;cases hk;exact .inl (hprel y hy)
    ·intro k f hk hlk;rw[hset]at hlk;simp only[Bool.or_eq_true,beq_iff_eq]at hlk;rcases hlk with hlk|rfl
     ·exact hF k f hk hlk
     ·rw[hd]at hk;cases hk;exact hfacts
    ·have:=W3 (b:=fun i=>listed.getD i false) (st:=st) hd hun' fun j f hj hf hlj=>fun y hy hy'=>(hlater j f hj hf hlj).1.1 y hy' hy
     have hfun:(fun k=>(listed.setIfInBounds i true).getD k false)=fun k=>(listed.getD k false||k==i):=funext hset
     rw[hfun,this];exact hr2)
  ·intro rd hy;cases rd with
   |all y=>
    show(Jw (fun i=>listed.getD i false) 0 ds st)[y]?=(Jw (fun _=>true) 0 (ds.take i) st)[y]?
    rw[←N4];refine Ln rfl fun j f hf=>?_
    simp only[Nat.zero_add,Bool.true_and];by_cases hji:j<i
    ·rcases hcov j f hji hf with h1|h1
     ·left;simp[hji,h1]
     ·exact .inr fun hm=>h1.1.2.2 y hm (Nh hy)
    ·by_cases hij:j=i
     ·subst hij;left;simp[hun']
     ·cases hlj:listed.getD j false with
      |false=>left;simp[hji]
      |true=>exact .inr fun hm=>(hlater j f (by omega) hf hlj).1.2.1 y hm (Nh hy)
   |prj y f o=>
    obtain⟨cur,k1,k2⟩:=(hloc i x d hx hd).2 _ hy;have hsp:ds=ds.take i++ds.drop i:=(List.take_append_drop i ds).symm;have e1:Jw (fun i=>listed.getD i false) 0 ds st=Jw (fun i=>listed.getD i false) (0+(ds.take i).length) (ds.drop i) (Jw (fun i=>listed.getD i false) 0 (ds.take i) st):=by
     conv=>lhs;rw[hsp]
     exact Rv
    have hil:i<ds.length:=(List.getElem?_eq_some_iff.1 hd).1;have hl:0+(ds.take i).length=i:=by simp;omega
    show ∃cur,(Jw (fun i=>listed.getD i false) 0 ds st)[y]?=some cur∧f cur.1 cur.2=o
    rcases hbconf i d hd e hes y f o hy with hbc|⟨⟨c0,hc0,hf0⟩,hpre0⟩
    rotate_left
    ·refine N3 ⟨c0,hc0,hf0⟩ fun j g hg hb c hc hcy=>?_
     rw[Nat.zero_add]at hb;by_cases hji:j<i
     ·exact L8 (Qu hpre0 j g (by rw[List.getElem?_take_of_lt hji];exact hg)) c hc y f o (List.mem_cons_self ..) hcy.symm
     ·by_cases hij:j=i
      ·subst hij;rw[hun']at hb;cases hb
      ·exact L8 (hlater j g (by omega) hg hb).2 c hc y f o hy hcy.symm
    rw[e1,hl];refine N3 ⟨cur,?_,k2⟩ ?_
    ·rw[←k1];refine Ln rfl fun j g hg=>?_
     have hji:j<i:=by
      have:=(List.getElem?_eq_some_iff.1 hg).1;simp at this;omega
     rw[List.getElem?_take_of_lt hji]at hg;rcases hbc j g hji hg with h1|h1
     ·left;rw[Nat.zero_add,h1 _ hcl hprel]
     ·exact .inr h1
    ·intro j g hg hb c hc hcy;rw[List.getElem?_drop]at hg;by_cases hj0:j=0
     ·subst hj0;rw[Nat.add_zero]at hb;rw[hun']at hb;cases hb
     ·exact L8 (hlater (i+j) g (by omega) hg hb).2 c hc y f o hy hcy.symm
def Vq(es:List (List Nat))(el:List Nat):Bool:=match(masks (es++[el]) [])[es.length]? with
 |some m=>(List.range es.length).all fun j=>m.testBit j
 |none=>false
theorem Aam{es:List (List Nat)}{el:List Nat}(h:Vq es el=true){j:Nat}(hj:j<es.length):Covers (es++[el]) el j:=by
 unfold Vq at h;split at h
 ·rename_i m hm;exact Lu (es:=es++[el]) (r:=es++[el]) (pre:=[]) (acc:=[]) rfl rfl (by simp) es.length el m (by simp) hm j (by
   have:=List.all_eq_true.1 h j (List.mem_range.2 hj);exact this)
 ·cases h
theorem Covers.more{es es':List (List Nat)}{e:List Nat}{j:Nat}(h:Covers es e j):Covers (es++es') e j:=
 fun b hb he=>h b (fun i l hi=>hb i l (by rw[List.getElem?_append_left (List.getElem?_eq_some_iff.1 hi).1];exact hi)) he
theorem Afk{Y:Hd}{ro:Option Nat}{id:Nat}{ops:Array Oper}{es:List (List Nat)}{ms:List Nat}{el:List Nat}{l:List Ao}{xl:Ao}{Q:St→Prop}{Qx:Exit→Act→World→Prop}(hY:YSound P Y Fr w0)(hm:P.follows .mixedOrders=true)(hms:masks es []=ms)(hlast:Vq es el=true)
 (hc:chkL P w0.n ops ops.toList (l++[xl])=true) (he:N8 (es++[el]) 0 ops.toList=true) (hr:Rel G σ Fr w0 st a w) (hq:P0 P l (Drawn st ms (xl.run P Y Q)) [] st)
 (hn:∀G' σ' st' a' w',G.le G'→Rel G' σ' Fr w0 st' a' w'→Q st'→Qx .normal a' w'):(Code.region id ops true).wpIn (Wd ro) 0 P Qx a w:=by
 subst hms;obtain⟨hlen,hops⟩:=U2 hc;obtain⟨helen,hedge⟩:=Qq he;obtain⟨ds,hdl,⟨hok,hfit,hbase,hgo⟩,hloc⟩:=Ta (st0:=st) (pre:=[]) hq;simp only[List.nil_append,List.length_nil,Nat.zero_add]at hok hfit hbase hgo hloc;have hdn:ds.length+1=ops.size:=by rw[hdl, ←Array.length_toList,hlen,List.length_append];rfl
 have hes0:es.length=ds.length:=by
  simp only[List.length_append,List.length_cons,List.length_nil]at helen;have h1:ops.toList.length=ops.size:=Array.length_toList;omega
 have hesg:∀{i:Nat} {e:List Nat},es[i]?=some e→(es++[el])[i]?=some e:=fun h=>by
  rw[List.getElem?_append_left (List.getElem?_eq_some_iff.1 h).1];exact h
 have hesl:(es++[el])[ds.length]?=some el:=by rw[List.getElem?_append_right (by omega),hes0,Nat.sub_self];rfl
 have hcovl:∀j,j<ds.length→Covers (es++[el]) el j:=fun j hj=>Aam hlast (by omega)
 have hconf:∀i d,ds[i]?=some d→∀e,es[i]?=some e→∀j f,j<i→ds[j]?=some f→Covers (es++[el]) e j∨
  (((∀x∈slots d.L,x ∉ slots f.L)∧(∀x∈slots d.L,x ∉ fulls f.R)∧∀x∈slots f.L,x ∉ fulls d.R)∧Ls d.L f.R):=by
  intro i d hd e hes j f hj hf;obtain⟨m,h1,h2⟩:=S2 hok i d hd;obtain⟨m',h1',h2'⟩:=Qr hfit i d hd;rw[h1]at h1';cases h1';rcases h2 j f (by simpa using hj) (by simpa using hf)with h3|h3
  ·exact .inl (Covers.more (Lu (r:=es) (pre:=[]) (acc:=[]) rfl rfl (by simp) i e m hes h1 j h3))
  ·rcases h2' j f (by simpa using hj) (by simpa using hf)with h4|h4
   ·exact .inl (Covers.more (Lu (r:=es) (pre:=[]) (acc:=[]) rfl rfl (by simp) i e m hes h1 j h4))
   ·exact .inr ⟨h3,h4⟩
 have hbconf:∀i d,ds[i]?=some d→∀e,es[i]?=some e→∀y f o,Rd.prj y f o∈d.R→(∀j g,j<i→ds[j]?=some g→Covers (es++[el]) e j∨y ∉ slots g.L)∨((∃c,st[y]?=some c∧f c.1 c.2=o)∧Ms (.prj y f o) (ds.take i)):=by
  intro i d hd e hes y f o hy;obtain⟨m,h1,h2⟩:=Qg hbase i d hd;rw[List.nil_append]at h2;rcases Nw h2 y f o hy with h3|h3
  ·refine .inl fun j g hj hg=>?_
   rcases Qz h3 j g (by rw[List.getElem?_take_of_lt hj];exact hg)with h4|h4
   ·rw[Nat.zero_add]at h4;exact .inl (Covers.more (Lu (r:=es) (pre:=[]) (acc:=[]) rfl rfl (by simp) i e m hes h1 j h4))
   ·exact .inr h4
  ·exact .inr h3
 refine wpIn_region_any hm ?_
 suffices H:∀(fuel:Nat) (listed:Array Bool) (G1:Mem) (σ1:Lab) (a1:Act) (w1:World),listed.size=ops.size→listed.getD ds.length false=false→((List.range ops.size).filter fun i=> !listed.getD i true).length≤fuel→G.le G1→
  (∀i e,(es++[el])[i]?=some e→listed.getD i false=true→∀k∈e,listed.getD k false=true)→
  (∀i d,ds[i]?=some d→listed.getD i false=true→∀p∈d.F,p)→
  Rel G1 σ1 Fr w0 (Jw (fun i=>listed.getD i false) 0 ds st) a1 w1→wpAnyIn (Wd ro) 0 P .any ops Qx fuel listed a1 w1 by
  refine H _ _ G σ a _ (by simp) ?_ ?_ (Mem.le.refl G) ?_ ?_ ?_
  ·simp[Array.getD_eq_getD_getElem?,Array.getElem?_replicate];split<;>rfl
  ·refine Nat.le_trans (List.length_filter_le _ _) (by simp)
  ·intro i e _ hi;simp[Array.getD_eq_getD_getElem?,Array.getElem?_replicate]at hi;split at hi<;>simp at hi
  ·intro i d _ hi;simp[Array.getD_eq_getD_getElem?,Array.getElem?_replicate]at hi;split at hi<;>simp at hi
  ·have:Jw (fun i=>(Array.replicate ops.size false).getD i false) 0 ds st=st:=by
    have aux:∀(ds:List Rec) (k:Nat),Jw (fun i=>(Array.replicate ops.size false).getD i false) k ds st=st:=by
     intro ds;induction ds with
     |nil=>intro k;rfl
     |cons d ds ih=>
      intro k;have hf:(Array.replicate ops.size false).getD k false=false:=by
       simp[Array.getD_eq_getD_getElem?,Array.getElem?_replicate];split<;>rfl
      simp only[Jw,hf];exact ih _
    exact aux ds 0
   rw[this];exact hr.drawn _
 have ready_nil:∀(listed:Array Bool),listed.size=ops.size→Region.ready .any ops listed=[]→∀i,i<ops.size→listed.getD i false=true:=by
  intro listed hsz hnil i;induction i using Nat.strongRecOn with
  |ind i ih=>
   intro hi;cases hli:listed.getD i false with
   |true=>rfl
   |false=>
    exfalso;have:i∈Region.ready .any ops listed:=by
     unfold Region.ready;rw[List.mem_filter];refine⟨List.mem_range.2 hi,?_⟩;have hli':listed.getD i true=false:=by
      rw[Array.getD_eq_getD_getElem?,Array.getElem?_eq_getElem (by omega)]at hli ⊢
      exact hli
     rw[hli',Array.getElem?_eq_getElem hi];simp only[Bool.not_false,Bool.true_and,Option.map_some,Option.getD_some];rw[Array.all_eq_true'];intro x hx;cases hb:Region.binds .any x with
     |false=>rfl
     |true=>
      obtain⟨e,_,_,g3⟩:=hedge i ops[i] (by simp[hi])
      have:=g3 x hx hb;simp only[Nat.zero_add]at this;simp[ih x.on this (by omega)]
    rw[hnil]at this;cases this
 have fin:∀{G1:Mem} {σ1:Lab} {a1:Act} {w1:World} {listed:Array Bool},(∀i,i<ds.length→listed.getD i false=true)→G.le G1→
  (∀i d,ds[i]?=some d→listed.getD i false=true→∀p∈d.F,p)→
  Rel G1 σ1 Fr w0 (Jw (fun i=>listed.getD i false) 0 ds st) a1 w1→xl.run P Y Q (Jw (fun i=>listed.getD i false) 0 ds st):=by
  intro G1 σ1 a1 w1 listed hall hG hF hr1;have:Jw (fun i=>listed.getD i false) 0 ds st=Jw (fun _=>true) 0 ds st:=Pd fun j hj=>by rw[Nat.zero_add];exact hall j hj
  rw[this];refine hgo fun d hd=>?_
  obtain⟨i,hi,rfl⟩:=List.mem_iff_getElem.1 hd;exact hF i _ (List.getElem?_eq_getElem hi) (hall i hi)
 have stop:∀(fuel:Nat) {listed:Array Bool} {a1:Act} {w1:World},listed.size=ops.size→(∀i,i<ops.size→listed.getD i false=true)→Qx .normal a1 w1→wpAnyIn (Wd ro) 0 P .any ops Qx fuel listed a1 w1:=by
  intro fuel listed a1 w1 hsz hall hq;have hnil:Region.ready .any ops listed=[]:=by
   unfold Region.ready;rw[List.filter_eq_nil_iff];intro i hi;have h1:=hall i (List.mem_range.1 hi);have h2:=List.mem_range.1 hi;rw[Array.getD_eq_getD_getElem?,Array.getElem?_eq_getElem (by omega)]at h1
   have h3:listed.getD i true=true:=by rw[Array.getD_eq_getD_getElem?,Array.getElem?_eq_getElem (by omega)];exact h1
   simp[h3]
  cases fuel with
  |zero=>exact⟨hnil,hq⟩
  |succ n=>exact⟨fun _=>hq,fun i hi=>by rw[hnil]at hi;cases hi⟩
 intro fuel;induction fuel with
 |zero=>
  intro listed G1 σ1 a1 w1 hsz hun0 hcnt hG hcl hF hr1;exfalso;have:ds.length∈(List.range ops.size).filter fun i=> !listed.getD i true:=by
   rw[List.mem_filter];refine⟨List.mem_range.2 (by omega),?_⟩
   rw[Array.getD_eq_getD_getElem?,Array.getElem?_eq_getElem (by omega)]at hun0
   rw[Array.getD_eq_getD_getElem?,Array.getElem?_eq_getElem (by omega)]
   simpa using hun0
  have:=List.length_pos_of_mem this;omega
 |succ fuel ih=>
  intro listed G1 σ1 a1 w1 hsz hun0 hcnt hG hcl hF hr1;refine⟨fun hnil=>?_,fun i hi=>?_⟩
  ·have:=ready_nil listed hsz hnil ds.length (by omega)
   rw[hun0]at this;cases this
  have hi0:=hi;unfold Region.ready at hi;rw[List.mem_filter,List.mem_range]at hi;obtain⟨hilt,hi2⟩:=hi;rw[Array.getElem?_eq_getElem hilt]at hi2;simp only[Option.map_some,Option.getD_some,Bool.and_eq_true,Bool.not_eq_true']at hi2;obtain⟨hun,haft⟩:=hi2;have hun':listed.getD i false=false:=by
   rw[Array.getD_eq_getD_getElem?,Array.getElem?_eq_getElem (by omega)]at hun ⊢
   exact hun
  obtain⟨x,hx,hchk⟩:=hops i ops[i] (by simp[hilt])
  obtain⟨e,hes,hpre,_⟩:=hedge i ops[i] (by simp[hilt])
  have hprel:∀k∈e,listed.getD k false=true:=by
   intro k hk;obtain⟨y,hy,hb,rfl⟩:=hpre k hk;have:=Array.all_eq_true'.1 haft y hy;simpa[hb]using this
  by_cases hil0:i=ds.length
  ·subst hil0;rw[hesl]at hes;cases hes;have hall:∀j,j<ds.length→listed.getD j false=true:=fun j hj=>hcovl j hj _ hcl hprel
   have hx':x=xl:=by
    rw[hdl,List.getElem?_append_right (by simp)]at hx
    simpa using hx.symm
   subst hx';refine Acz (ro:=ro) hY (Array.getElem?_eq_getElem hilt) hchk hr1 (fin hall hG hF hr1) ?_;intro G2 σ2 st2 a2 w2 hG2 hr2 hq2;refine stop fuel (by simp[hsz]) (fun k hk=>?_) (hn G2 σ2 st2 a2 w2 (hG.trans hG2) hr2 hq2)
   simp only[Array.getD_eq_getD_getElem?,Array.getElem?_setIfInBounds];by_cases hk':ds.length=k
   ·subst hk';simp[hsz,hilt]
   ·have:=hall k (by omega)
    rw[Array.getD_eq_getD_getElem?]at this;simp[hk',this]
  have hilt':i<ds.length:=by omega
  have hes':es[i]?=some e:=by
   rw[List.getElem?_append_left (by omega)]at hes;exact hes
  have hx0:l[i]?=some x:=by
   rw[List.getElem?_append_left (by omega)]at hx;exact hx
  obtain⟨d,hd⟩:∃d,ds[i]?=some d:=⟨ds[i]'hilt',List.getElem?_eq_getElem hilt'⟩;have hcov:∀j f,j<i→ds[j]?=some f→listed.getD j false=true∨(((∀x∈slots d.L,x ∉ slots f.L)∧(∀x∈slots d.L,x ∉ fulls f.R)∧∀x∈slots f.L,x ∉ fulls d.R)∧Ls d.L f.R):=by
   intro j f hj hf;rcases hconf i d hd e hes' j f hj hf with h1|h1
   ·exact .inl (h1 _ hcl hprel)
   ·exact .inr h1
  have hlater:∀j f,i<j→ds[j]?=some f→listed.getD j false=true→(((∀x∈slots f.L,x ∉ slots d.L)∧(∀x∈slots f.L,x ∉ fulls d.R)∧∀x∈slots d.L,x ∉ fulls f.R)∧Ls f.L d.R):=by
   intro j f hj hf hlj;have hjl:j<ds.length:=(List.getElem?_eq_some_iff.1 hf).1;obtain⟨e',hes1,_,_⟩:=hedge j (ops[j]'(by omega)) (by simp[show j<ops.size by omega])
   have hes2:es[j]?=some e':=by
    rw[List.getElem?_append_left (by omega)]at hes1;exact hes1
   rcases hconf j f hf e' hes2 i d hj hd with h1|h1
   ·have:=h1 _ hcl (hcl j e' hes1 hlj);rw[hun']at this;cases this
   ·exact h1
  have hL:=(hloc i x d hx0 hd).1 (Jw (fun i=>listed.getD i false) 0 ds st) ?_
  ·refine(by
    refine Acz (ro:=ro) Nt (Array.getElem?_eq_getElem hilt) hchk hr1 (Ao.run_of hL) ?_;rintro G2 σ2 st2 a2 w2 hG2 hr2 ⟨rfl,hfacts⟩;have hset:∀k,(listed.setIfInBounds i true).getD k false=(listed.getD k false||k==i):=by
     intro k;simp only[Array.getD_eq_getD_getElem?,Array.getElem?_setIfInBounds];by_cases hk:i=k
     ·subst hk;simp[hsz,hilt]
     ·simp[hk,show ¬k=i from fun h=>hk h.symm]
    refine ih _ G2 σ2 a2 w2 (by simp[hsz]) (by rw[hset,hun0];simp;omega) ?_ (hG.trans hG2) ?_ ?_ ?_
    ·have hlt:((List.range ops.size).filter fun k=> !(listed.setIfInBounds i true).getD k true).length<((List.range ops.size).filter fun k=> !listed.getD k true).length:=by
      have hsub:((List.range ops.size).filter fun k=> !(listed.setIfInBounds i true).getD k true)=((List.range ops.size).filter fun k=> !listed.getD k true).filter fun k=> !(k==i):=by
       rw[List.filter_filter];refine List.filter_congr fun k hk=>?_
       have hk:=List.mem_range.1 hk;simp only[Array.getD_eq_getD_getElem?,Array.getElem?_setIfInBounds];by_cases hki:i=k
       ·subst hki;simp[hsz,hilt]
       ·simp[hki,show ¬k=i from fun h=>hki h.symm]
      rw[hsub];refine List.length_filter_lt_length_iff_exists.2 ⟨i,?_,by simp⟩
      rw[List.mem_filter];exact⟨List.mem_range.2 hilt,by rw[hun];rfl⟩
     omega
    ·intro k e' hk hlk y hy;rw[hset]at hlk ⊢;simp only[Bool.or_eq_true,beq_iff_eq]at hlk ⊢;rcases hlk with hlk|rfl
     ·exact .inl (hcl k e' hk hlk y hy)
     ·rw[hes]at hk;cases hk;exact .inl (hprel y hy)
    ·intro k f hk hlk;rw[hset]at hlk;simp only[Bool.or_eq_true,beq_iff_eq]at hlk;rcases hlk with hlk|rfl
     ·exact hF k f hk hlk
     ·rw[hd]at hk;cases hk;exact hfacts
    ·have:=W3 (b:=fun i=>listed.getD i false) (st:=st) hd hun' fun j f hj hf hlj=>fun y hy hy'=>(hlater j f hj hf hlj).1.1 y hy' hy
     have hfun:(fun k=>(listed.setIfInBounds i true).getD k false)=fun k=>(listed.getD k false||k==i):=funext hset
     rw[hfun,this];exact hr2)
  ·intro rd hy;cases rd with
   |all y=>
    show(Jw (fun i=>listed.getD i false) 0 ds st)[y]?=(Jw (fun _=>true) 0 (ds.take i) st)[y]?
    rw[←N4];refine Ln rfl fun j f hf=>?_
    simp only[Nat.zero_add,Bool.true_and];by_cases hji:j<i
    ·rcases hcov j f hji hf with h1|h1
     ·left;simp[hji,h1]
     ·exact .inr fun hm=>h1.1.2.2 y hm (Nh hy)
    ·by_cases hij:j=i
     ·subst hij;left;simp[hun']
     ·cases hlj:listed.getD j false with
      |false=>left;simp[hji]
      |true=>exact .inr fun hm=>(hlater j f (by omega) hf hlj).1.2.1 y hm (Nh hy)
   |prj y f o=>
    obtain⟨cur,k1,k2⟩:=(hloc i x d hx0 hd).2 _ hy;have hsp:ds=ds.take i++ds.drop i:=(List.take_append_drop i ds).symm;have e1:Jw (fun i=>listed.getD i false) 0 ds st=Jw (fun i=>listed.getD i false) (0+(ds.take i).length) (ds.drop i) (Jw (fun i=>listed.getD i false) 0 (ds.take i) st):=by
     conv=>lhs;rw[hsp]
     exact Rv
    have hil:i<ds.length:=(List.getElem?_eq_some_iff.1 hd).1;have hl:0+(ds.take i).length=i:=by simp;omega
    show ∃cur,(Jw (fun i=>listed.getD i false) 0 ds st)[y]?=some cur∧f cur.1 cur.2=o
    rcases hbconf i d hd e hes' y f o hy with hbc|⟨⟨c0,hc0,hf0⟩,hpre0⟩
    rotate_left
    ·refine N3 ⟨c0,hc0,hf0⟩ fun j g hg hb c hc hcy=>?_
     rw[Nat.zero_add]at hb;by_cases hji:j<i
     ·exact L8 (Qu hpre0 j g (by rw[List.getElem?_take_of_lt hji];exact hg)) c hc y f o (List.mem_cons_self ..) hcy.symm
     ·by_cases hij:j=i
      ·subst hij;rw[hun']at hb;cases hb
      ·exact L8 (hlater j g (by omega) hg hb).2 c hc y f o hy hcy.symm
    rw[e1,hl];refine N3 ⟨cur,?_,k2⟩ ?_
    ·rw[←k1];refine Ln rfl fun j g hg=>?_
     have hji:j<i:=by
      have:=(List.getElem?_eq_some_iff.1 hg).1;simp at this;omega
     rw[List.getElem?_take_of_lt hji]at hg;rcases hbc j g hji hg with h1|h1
     ·left;rw[Nat.zero_add,h1 _ hcl hprel]
     ·exact .inr h1
    ·intro j g hg hb c hc hcy;rw[List.getElem?_drop]at hg;by_cases hj0:j=0
     ·subst hj0;rw[Nat.add_zero]at hb;rw[hun']at hb;cases hb
     ·exact L8 (hlater (i+j) g (by omega) hg hb).2 c hc y f o hy hcy.symm
end
end Go.Ab
