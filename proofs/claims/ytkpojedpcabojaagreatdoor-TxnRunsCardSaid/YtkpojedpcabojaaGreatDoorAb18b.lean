/- Lemmas -/
import Derived.Test.YtkpojedpcabojaaGreatDoorAb18a
import Derived.Orders
set_option linter.unusedVariables false
set_option linter.unusedSimpArgs false
namespace Go.Ab
def Is(r0:SV)(as0:List SV)(r:SV)(az:List SV):Prop:=r=r0∧az=as0
structure Aq3(P:Program)(f:FuncId)(args:List SV)(K:SV→List SV→Prop):Prop where
 out:∃r0 as0,Fn P f args (Is r0 as0)∧K r0 as0
abbrev Log:=List (Nat × (Nat × SV))
def K5:Log→St→St
 | [],st=>st
 |(i,c)::r,st=>(K5 r st).set i c
inductive Rd where
 |all (i:Nat)
 |prj (i:Nat) (f:Nat→SV→Nat × SV) (o:Nat × SV)
def Rd.slot:Rd→Nat
 | .all i=>i
 | .prj i _ _=>i
def Rd.A9u(r:Rd)(st' st:St):Prop:=match r with
 | .all i=>st'[i]?=st[i]?
 | .prj i f o=>∃cur,st'[i]?=some cur∧f cur.1 cur.2=o
def Aqj:List Rd→List Nat
 | []=>[]
 | .all i::r=>i::Aqj r
 | .prj _ _ _::r=>Aqj r
def Ayp(R:List Rd):List Nat:=R.map Rd.slot
theorem Nh:∀{R:List Rd} {i:Nat},Rd.all i∈R→i∈Aqj R
 | .all j::r,i,h=>by
   simp only[Aqj,Bg];rcases Bg.1 h with h|h
   ·cases h;exact .inl rfl
   ·exact .inr (Nh h)
 | .prj _ _ _::r,i,h=>by
   rcases Bg.1 h with h|h
   ·cases h
   ·exact Nh (R:=r) h
def Eb(L:Log):List Nat:=L.map (·.1)
def M.wr(P:Program):M→(St→List Rd→Log→List Prop→Prop)→St→List Rd→Log→List Prop→Prop
 | .get i k,K,st,R,L,F=>st[i]?≠none∧∀cur,st[i]?=some cur→(k cur.1 cur.2).wr P K st (.all i::R) L F
 | .Atf i f k,K,st,R,L,F=>st[i]?≠none∧∀cur,st[i]?=some cur→(k (f cur.1 cur.2).1 (f cur.1 cur.2).2).wr P K st ((match(Eb L).contains i with|true=>.all i|false=>.prj i f (f cur.1 cur.2))::R) L F
 | .set i ver sv k,K,st,R,L,F=>k.wr P K (st.set i (ver,sv)) R ((i,(ver,sv))::L) F
 | .done,K,st,R,L,F=>K st R L F
 | .chk _,_,_,_,_,_=>False
 | .fail,_,_,_,_,_=>False
 | .Hh p k,K,st,R,L,F=>∃h:p,(k h).wr P K st R L F
 | .all _ _,_,_,_,_,_=>False
 | .any _ _,_,_,_,_,_=>False
 | .fact p k,K,st,R,L,F=>k.wr P K st R L (p::F)
 | .ite b x y,K,st,R,L,F=>(b=true→x.wr P K st R L F)∧(b=false→y.wr P K st R L F)
 | .call f args k,K,st,R,L,F=>Aq3 P f args fun r az=>(k r az).wr P K st R L F
theorem Ph{L:Log}{x:Nat}:∀{st st':St},st[x]?=st'[x]?→(K5 L st)[x]?=(K5 L st')[x]?:=by
 induction L with
 |nil=>intro st st' h;exact h
 |cons p L ih=>
  intro st st' h;obtain⟨i,c⟩:=p;simp only[K5,List.getElem?_set'];rw[ih h]
theorem Ra{L:Log}{x:Nat}(h:x ∉ Eb L):∀{st:St},(K5 L st)[x]?=st[x]?:=by
 induction L with
 |nil=>intro st;rfl
 |cons p L ih=>
  intro st;obtain⟨i,c⟩:=p;simp only[Eb,Cy,Bg,not_or]at h;simp only[K5];rw[B3 (fun e=>h.1 e.symm)]
  exact ih h.2
structure Rec where
 R:List Rd
 L:Log
 F:List Prop
def Local(P:Program)(m:M)(st:St)(d:Rec):Prop:=
 ∀st':St,(∀x∈d.R,x.A9u st' st)→m.wp P (fun st2=>st2=K5 d.L st'∧∀p∈d.F,p) st'
theorem M.Bma{P:Program}{K:St→List Rd→Log→List Prop→Prop}:∀{m:M} {st0:St} {R:List Rd} {L:Log} {F:List Prop},m.wr P K (K5 L st0) R L F→
 ∃R' L' F',K (K5 L' st0) R' L' F'∧(∀x∈R,x∈R')∧(∀p∈F,p∈F')∧(∀x∈R',x∈R∨x.A9u st0 st0)∧
  ∀st':St,(∀x∈R',x.A9u st' st0)→(∀p∈F,p)→m.wp P (fun st2=>st2=K5 L' st'∧∀p∈F',p) (K5 L st'):=by
 intro m;induction m with
 |get i k ih=>
  intro st0 R L F h;obtain⟨h1,h2⟩:=h;cases hc:(K5 L st0)[i]? with
  |none=>exact absurd hc h1
  |some cur=>
   obtain⟨R',L',F',g1,g2,g3,g5,g4⟩:=ih _ _ (h2 cur hc);refine⟨R',L',F',g1,fun x hx=>g2 x (B4 _ hx),g3,fun x hx=>?_,?_⟩
   ·rcases g5 x hx with h|h
    ·rcases Bg.1 h with rfl|h
     ·exact .inr rfl
     ·exact .inl h
    ·exact .inr h
   intro st' ha hF;have:(K5 L st')[i]?=some cur:=by rw[←hc];exact Ph (show st'[i]?=st0[i]? from ha (.all i) (g2 _ (B2 ..)))
   simp only[M.wp,this];exact g4 st' ha hF
 |Atf i f k ih=>
  intro st0 R L F h;obtain⟨h1,h2⟩:=h;cases hc:(K5 L st0)[i]? with
  |none=>exact absurd hc h1
  |some cur=>
   obtain⟨R',L',F',g1,g2,g3,g5,g4⟩:=ih _ _ (h2 cur hc);refine⟨R',L',F',g1,fun x hx=>g2 x (B4 _ hx),g3,fun x hx=>?_,?_⟩
   ·rcases g5 x hx with h|h
    ·rcases Bg.1 h with rfl|h
     ·right;cases hcl:(Eb L).contains i with
      |true=>exact rfl
      |false=>
       refine⟨cur,?_,rfl⟩;rw[←hc,Ra];intro Aw4;rw[Am4.2 Aw4]at hcl;cases hcl
     ·exact .inl h
    ·exact .inr h
   intro st' ha hF;have hm:=g2 _ (B2 ..);have:∃Amr,(K5 L st')[i]?=some Amr∧f Amr.1 Amr.2=f cur.1 cur.2:=by
    cases hcl:(Eb L).contains i with
    |true=>
     rw[hcl]at hm;exact⟨cur,by rw[←hc];exact Ph (show st'[i]?=st0[i]? from ha (.all i) hm),rfl⟩
    |false=>
     rw[hcl]at hm;obtain⟨Amr,k1,k2⟩:=ha _ hm;refine⟨Amr,?_,k2⟩;rw[Ra]
     ·exact k1
     ·intro Aw4;rw[Am4.2 Aw4]at hcl;cases hcl
   obtain⟨Amr,k1,k2⟩:=this;simp only[M.wp,k1];have k3:(f Amr.1 Amr.2).1=(f cur.1 cur.2).1:=by rw[k2]
   have k4:(f Amr.1 Amr.2).2=(f cur.1 cur.2).2:=by rw[k2]
   rw[k3,k4];exact g4 st' ha hF
 |set i ver sv k ih=>
  intro st0 R L F h;obtain⟨R',L',F',g1,g2,g3,g5,g4⟩:=ih (L:=(i,(ver,sv))::L) (st0:=st0) h;exact⟨R',L',F',g1,g2,g3,g5,fun st' ha hF=>g4 st' ha hF⟩
 |done=>intro st0 R L F h;exact⟨R,L,F,h,fun _ h=>h,fun _ h=>h,fun _ h=>.inl h,fun st' _ hF=>⟨rfl,hF⟩⟩
 |chk p=>intro st0 R L F h;exact h.elim
 |fail=>intro st0 R L F h;exact h.elim
 |Hh p k ih=>
  intro st0 R L F ⟨h1,h2⟩;obtain⟨R',L',F',g1,g2,g3,g5,g4⟩:=ih h1 h2;exact⟨R',L',F',g1,g2,g3,g5,fun st' ha hF=>⟨h1,g4 st' ha hF⟩⟩
 |all p k ih=>intro st0 R L F h;exact h.elim
 |any l k ih=>intro st0 R L F h;exact h.elim
 |fact p k ih=>
  intro st0 R L F h;obtain⟨R',L',F',g1,g2,g3,g5,g4⟩:=ih h;refine⟨R',L',F',g1,g2,fun q hq=>g3 q (B4 _ hq),g5,fun st' ha hF hp=>g4 st' ha ?_⟩
  intro q hq;rcases List.mem_cons.mp hq with rfl|hq
  ·exact hp
  ·exact hF q hq
 |ite b x y ihx ihy=>
  intro st0 R L F ⟨h1,h2⟩;cases b with
  |true=>
   obtain⟨R',L',F',g1,g2,g3,g5,g4⟩:=ihx (h1 rfl);exact⟨R',L',F',g1,g2,g3,g5,fun st' ha hF=>⟨fun _=>g4 st' ha hF,fun hb=>by cases hb⟩⟩
  |false=>
   obtain⟨R',L',F',g1,g2,g3,g5,g4⟩:=ihy (h2 rfl);exact⟨R',L',F',g1,g2,g3,g5,fun st' ha hF=>⟨fun hb=>(by cases hb),fun _=>g4 st' ha hF⟩⟩
 |call f args k ih=>
  intro st0 R L F ⟨r0,as0,h1,h2⟩;obtain⟨R',L',F',g1,g2,g3,g5,g4⟩:=ih r0 as0 h2;refine⟨R',L',F',g1,g2,g3,g5,fun st' ha hF=>⟨Is r0 as0,h1,?_⟩⟩
  rintro r az ⟨rfl,rfl⟩;exact g4 st' ha hF
def P0(P:Program):List Ao→(List Rec→St→Prop)→List Rec→St→Prop
 | [],K,ds,st=>K ds st
 |i::l,K,ds,st=>i.sem.wr P (fun st' R L F=>P0 P l K (ds++[⟨R,L,F⟩]) st') st [] [] []
def Jw(b:Nat→Bool):Nat→List Rec→St→St
 |_,[],st=>st
 |k,d::ds,st=>Jw b (k+1) ds (if b k then K5 d.L st else st)
theorem Ln{b b':Nat→Bool}{x:Nat}:∀{ds:List Rec} {k:Nat} {st st':St},st[x]?=st'[x]?→(∀j d,ds[j]?=some d→b (k+j)=b' (k+j)∨x ∉ Eb d.L)→
 (Jw b k ds st)[x]?=(Jw b' k ds st')[x]?
 | [],k,st,st',h,_=>h
 |d::ds,k,st,st',h,hd=>by
  refine Ln (ds:=ds) ?_ fun j d' hj=>by
   have:=hd (j+1) d' hj;rwa [show k+(j+1)=k+1+j by omega]at this
  rcases hd 0 d rfl with h1|h1
  ·simp only[Amf]at h1;rw[h1];split
   ·exact Ph h
   ·exact h
  ·have:∀(c:Bool) (s:St),(if c then K5 d.L s else s)[x]?=s[x]?:=by
    intro c s;cases c
    ·rfl
    ·exact Ra h1
   rw[this,this,h]
theorem N4{b:Nat→Bool}:∀{ds:List Rec} {n k:Nat} {st:St},Jw (fun j=>b j&&decide (j<k+n)) k ds st=Jw b k (ds.take n) st
 | [],n,k,st=>by simp[Jw]
 |d::ds,0,k,st=>by
  simp only[Jw,Amf,Nat.lt_irrefl,decide_false,Bool.and_false,List.take_zero];have aux:∀(ds:List Rec) (k':Nat) (s:St),k≤k'→Jw (fun j=>b j&&decide (j<k)) k' ds s=s:=by
   intro ds;induction ds with
   |nil=>intro _ _ _;rfl
   |cons d ds ih=>
    intro k' s hk;simp only[Jw];rw[ih _ _ (by omega)]
    simp[show ¬k'<k by omega]
  exact aux ds (k+1) st (by omega)
 |d::ds,n+1,k,st=>by
  simp only[Jw,List.take_succ_cons];rw[←N4 (ds:=ds) (n:=n) (k:=k+1)];simp only[show k<k+(n+1)by omega,decide_true,Bool.and_true,show k+1+n=k+(n+1)by omega]
theorem S3{b:Nat→Bool}{d:Rec}:∀{ds:List Rec} {k:Nat} {st:St},Jw b k (ds++[d]) st=if b (k+ds.length)then K5 d.L (Jw b k ds st)else Jw b k ds st
 | [],k,st=>by simp[Jw]
 |e::ds,k,st=>by
  simp only[H3,Jw,Ho];rw[S3 (ds:=ds),show k+1+ds.length=k+(ds.length+1)by omega]
theorem Pd{b b':Nat→Bool}:∀{ds:List Rec} {k:Nat} {st:St},(∀j,j<ds.length→b (k+j)=b' (k+j))→Jw b k ds st=Jw b' k ds st
 | [],_,_,_=>rfl
 |d::ds,k,st,h=>by
  have h0:=h 0 (by simp)
  simp only[Amf]at h0;simp only[Jw,h0];exact Pd (ds:=ds) fun j hj=>by
   have:=h (j+1) (by simpa using hj)
   rwa [show k+(j+1)=k+1+j by omega]at this
theorem W3{b:Nat→Bool}{ds:List Rec}{i:Nat}{d:Rec}{st:St}(hd:ds[i]?=some d)(hb:b i=false)
 (hx:∀j e,i<j→ds[j]?=some e→b j=true→∀x∈Eb d.L,x ∉ Eb e.L):
 Jw (fun j=>b j||j==i) 0 ds st=K5 d.L (Jw b 0 ds st):=by
 apply List.ext_getElem?;intro x;by_cases h:x∈Eb d.L
 ·have hi:i<ds.length:=(A7.1 hd).1;have e1:(Jw (fun j=>b j||j==i) 0 ds st)[x]?=(Jw (fun j=>(b j||j==i)&&decide (j<0+(i+1))) 0 ds st)[x]?:=by
   refine Ln rfl fun j e hj=>?_
   by_cases hj':j<i+1
   ·left;simp[hj']
   ·by_cases hbj:b j=true
    ·exact .inr (hx j e (by omega) hj hbj x h)
    ·left;simp at hbj;simp[hbj,show ¬j=i by omega]
  have e2:(Jw b 0 ds st)[x]?=(Jw (fun j=>b j&&decide (j<0+i)) 0 ds st)[x]?:=by
   refine Ln rfl fun j e hj=>?_
   by_cases hj':j<i
   ·left;simp[hj']
   ·by_cases hbj:b j=true
    ·by_cases hij:j=i
     ·subst hij;rw[hb]at hbj;cases hbj
     ·exact .inr (hx j e (by omega) hj hbj x h)
    ·left;simp at hbj;simp[hbj]
  rw[e1,N4,Ph e2,N4];have e3:ds.take (i+1)=ds.take i++[d]:=by rw[Amx,hd];rfl
  rw[e3,S3];have e4:0+(ds.take i).length=i:=by simp;omega
  rw[e4];simp only[beq_self_eq_true,Bool.or_true,if_true];refine Ph ?_;rw[Pd];intro j hj;simp at hj;simp;omega
 ·rw[Ra h];refine Ln rfl fun j e hj=>?_
  by_cases hij:j=i
  ·subst hij;rw[hd]at hj;cases hj;exact .inr h
  ·left;simp[hij]
def A3b:List (List Nat)→List Nat→List Nat
 | [],acc=>acc
 |e::r,acc=>A3b r (acc++[e.foldl (fun s j=>s ||| 2^j ||| acc.getD j 0) 0])
def Atj(es:List (List Nat))(e:List Nat)(j:Nat):Prop:=∀b:Nat→Bool,(∀i l,es[i]?=some l→b i=true→∀k∈l,b k=true)→(∀k∈e,b k=true)→b j=true
theorem Lu{es:List (List Nat)}:∀{r pre:List (List Nat)} {acc:List Nat},es=pre++r→acc.length=pre.length→
 (∀(i:Nat) e (m:Nat),pre[i]?=some e→acc[i]?=some m→∀j,m.testBit j=true→Atj es e j)→
 ∀(i:Nat) e (m:Nat),es[i]?=some e→(A3b r acc)[i]?=some m→∀j,m.testBit j=true→Atj es e j
 | [],pre,acc,h,hl,ha=>by
   simp only[R2]at h;subst h;exact ha
 |e::r,pre,acc,h,hl,ha=>by
  refine Lu (r:=r) (pre:=pre++[e]) (by rw[h];simp) (by simp[hl]) ?_
  intro i e' m h1 h2 j hj;by_cases hi:i<pre.length
  ·rw[Fi hi]at h1;rw[Fi (by omega)]at h2
   exact ha i e' m h1 h2 j hj
  ·have hi':i=pre.length:=by
    have:=(A7.1 h1).1;simp at this;omega
   subst hi';rw[←hl,List.getElem?_concat_length]at h2;rw[List.getElem?_concat_length]at h1;cases h1;cases h2;have aux:∀(l:List Nat) (s:Nat),(∀j,s.testBit j=true→Atj es e j)→(∀k∈l,k∈e)→∀j,(l.foldl (fun s j=>s ||| 2^j ||| acc.getD j 0) s).testBit j=true→Atj es e j:=by
    intro l;induction l with
    |nil=>intro s hs _ j hj;exact hs j hj
    |cons k l ih=>
     intro s hs hl' j hj;refine ih _ ?_ (fun k hk=>hl' k (B4 _ hk)) j hj
     intro j hj;have hke:=hl' k (B2 ..);simp only[Nat.testBit_or,Q3]at hj;rcases hj with(hj|hj)|hj
     ·exact hs j hj
     ·rw[Nat.testBit_two_pow]at hj;simp at hj;subst hj;exact fun b _ h2=>h2 k hke
     ·intro b hb1 hb2;cases hk:acc[k]? with
      |none=>rw[Amw,hk]at hj;simp at hj
      |some m=>
       rw[Amw,hk]at hj;have hkl:k<pre.length:=by rw[←hl];exact(A7.1 hk).1
       have Aw5:pre[k]?=some pre[k]:=Ae hkl;have hes:es[k]?=some pre[k]:=by rw[h,Fi hkl,Aw5]
       exact ha k _ m Aw5 hk j hj b hb1 (hb1 k _ hes (hb2 k hke))
   exact aux e 0 (fun j hj=>by simp at hj) (fun _ h=>h) j hj
def Lf:List Nat→List Nat→Bool
 | [],_=>true
 |x::r,l=> !l.contains x&&Lf r l
theorem Ma:∀{a l:List Nat},Lf a l=true→∀x∈a,x ∉ l
 | [],_,_,_,h=>by cases h
 |y::r,l,h,x,hx=>by
  simp only[Lf,Ap,Ad8]at h;rcases List.mem_cons.mp hx with rfl|hx
  ·intro hm;have:=Am4.2 hm;rw[h.1]at this;cases this
  ·exact Ma h.2 x hx
def N2(d:Rec)(m:Nat):Nat→List Rec→Bool
 |_,[]=>true
 |j,e::r=>(m.testBit j||(Lf (Eb d.L) (Eb e.L)&&Lf (Eb d.L) (Aqj e.R)&&Lf (Eb e.L) (Aqj d.R)))&&N2 d m (j+1) r
def Pc(pre:List Rec):List Rec→List Nat→Bool
 | [],_=>true
 |d::r,m::ms=>N2 d m 0 pre&&Pc (pre++[d]) r ms
 |_::_,[]=>false
def V0(d:Rec)(m:Nat):Nat→List Rec→Bool
 |_,[]=>true
 |j,e::r=>(m.testBit j||(Lf (Eb d.L) (Eb e.L)&&Lf (Eb d.L) (Aqj e.R)&&Lf (Eb e.L) (Ayp d.R)))&&V0 d m (j+1) r
def Vz(pre:List Rec):List Rec→List Nat→Bool
 | [],_=>true
 |d::r,m::ms=>V0 d m 0 pre&&Vz (pre++[d]) r ms
 |_::_,[]=>false
def Sj(c:Nat × (Nat × SV)):List Rd→Prop
 | []=>True
 | .all _::r=>Sj c r
 | .prj i f o::r=>(match Nat.beq i c.1 with
   |true=>f c.2.1 c.2.2=o
   |false=>True)∧Sj c r
def Ls:Log→List Rd→Prop
 | [],_=>True
 |c::L,R=>Sj c R∧Ls L R
def L9(d:Rec)(m:Nat):Nat→List Rec→Prop
 |_,[]=>True
 |j,e::r=>(match m.testBit j with
  |true=>True
  |false=>Ls d.L e.R)∧L9 d m (j+1) r
def P7(pre:List Rec):List Rec→List Nat→Prop
 | [],_=>True
 |d::r,m::ms=>L9 d m 0 pre∧P7 (pre++[d]) r ms
 |_::_,[]=>False
theorem Sk{c:Nat × (Nat × SV)}:∀{R:List Rd},Sj c R→∀i f o,Rd.prj i f o∈R→i=c.1→f c.2.1 c.2.2=o
 | [],_,_,_,_,h,_=>by cases h
 | .all _::r,h,i,f,o,hm,hi=>by
   rcases Bg.1 hm with hm|hm
   ·cases hm
   ·exact Sk (R:=r) h i f o hm hi
 | .prj i' f' o'::r,h,i,f,o,hm,hi=>by
   simp only[Sj]at h;rcases Bg.1 hm with hm|hm
   ·rw[Rd.prj.injEq]at hm;obtain⟨h1,h2,h3⟩:=hm;subst h1;subst h2;subst h3;have:Nat.beq i c.1=true:=by rw[hi];exact Nat.beq_refl _
    rw[this]at h;exact h.1
   ·exact Sk h.2 i f o hm hi
theorem L8:∀{L:Log} {R:List Rd},Ls L R→∀c∈L,∀i f o,Rd.prj i f o∈R→i=c.1→f c.2.1 c.2.2=o
 | [],_,_,_,hc=>by cases hc
 |a::L,R,h,c,hc=>by
  rcases Bg.1 hc with rfl|hc
  ·exact Sk h.1
  ·exact L8 h.2 c hc
theorem Td{d:Rec}{m:Nat}:∀{pre:List Rec} {k:Nat},L9 d m k pre→∀j e,pre[j]?=some e→m.testBit (k+j)=true∨Ls d.L e.R
 | [],_,_,j,e,h=>by simp at h
 |f::r,k,h,j,e,he=>by
  simp only[L9]at h;cases j with
  |zero=>
   cases he;cases hb:m.testBit k with
   |true=>exact .inl (by simp)
   |false=>rw[hb]at h;exact .inr h.1
  |succ j=>
   have:=Td h.2 j e he;rwa [show k+1+j=k+(j+1)by omega]at this
theorem Qr:∀{ds pre:List Rec} {ms:List Nat},P7 pre ds ms→∀i d,ds[i]?=some d→∃m,ms[i]?=some m∧∀j e,j<pre.length+i→(pre++ds)[j]?=some e→m.testBit j=true∨Ls d.L e.R
 | [],_,_,_,i,d,h=>by simp at h
 |d::r,pre,[],h,_,_,_=>by cases h
 |d::r,pre,m::ms,h,i,d',hd=>by
  simp only[P7]at h;cases i with
  |zero=>
   cases hd;refine⟨m,rfl,fun j e hj he=>?_⟩
   rw[Fi (by omega)]at he
   have:=Td h.1 j e he;rwa [E3]at this
  |succ i=>
   obtain⟨m',h1,h2⟩:=Qr h.2 i d' hd;refine⟨m',h1,fun j e hj he=>h2 j e (by simp;omega) (by rw[Df];exact he)⟩
def Vy(d:Rec)(m:Nat):Nat→List Rec→Bool
 |_,[]=>true
 |j,e::r=>(m.testBit j||Lf (Eb d.L) (Ayp e.R))&&Vy d m (j+1) r
def Vx(pre:List Rec):List Rec→List Nat→Bool
 | [],_=>true
 |d::r,m::ms=>Vy d m 0 pre&&Vx (pre++[d]) r ms
 |_::_,[]=>false
theorem Wt:∀{L:Log} {R:List Rd},Lf (Eb L) (Ayp R)=true→Ls L R
 | [],_,_=>trivial
 |p::L,R,h=>by
  simp only[Eb,Cy,Lf,Ap,Ad8]at h;refine⟨?_,Wt h.2⟩;have hi:p.1 ∉ Ayp R:=fun hm=>by rw[Am4.2 hm]at h;cases h.1
  clear h;induction R with
  |nil=>trivial
  |cons r R ih=>
   simp only[Ayp,Cy,Bg,not_or]at hi;cases r with
   |all j=>exact ih hi.2
   |prj j f o=>
    refine⟨?_,ih hi.2⟩;have:Nat.beq j p.1=false:=by
     rw[Bool.eq_false_iff];intro e;exact hi.1 (Nat.eq_of_beq_eq_true e).symm
    rw[this];trivial
theorem Uw{d:Rec}{m:Nat}:∀{pre:List Rec} {k:Nat},Vy d m k pre=true→L9 d m k pre
 | [],_,_=>trivial
 |f::r,k,h=>by
  simp only[Vy,Ap,Q3]at h;refine⟨?_,Uw h.2⟩;cases hb:m.testBit k with
  |true=>trivial
  |false=>
   rcases h.1 with h1|h1
   ·rw[hb]at h1;cases h1
   ·exact Wt h1
theorem Uv:∀{ds pre:List Rec} {ms:List Nat},Vx pre ds ms=true→P7 pre ds ms
 | [],_,_,_=>trivial
 |_::_,_,[],h=>by cases h
 |d::r,pre,m::ms,h=>by
  simp only[Vx,Ap]at h;exact⟨Uw h.1,Uv h.2⟩
theorem V2{x:Nat}{f:Nat→SV→Nat × SV}{o:Nat × SV}:∀{L:Log} {st:St},(∃cur,st[x]?=some cur∧f cur.1 cur.2=o)→(∀c∈L,c.1=x→f c.2.1 c.2.2=o)→∃cur,(K5 L st)[x]?=some cur∧f cur.1 cur.2=o
 | [],_,h,_=>h
 |(i,c)::L,st,h,hL=>by
  obtain⟨cur,h1,h2⟩:=V2 (L:=L) h fun c hc=>hL c (B4 _ hc)
  simp only[K5];by_cases hi:i=x
  ·subst hi;exact⟨c,by rw[Aiq (A7.1 h1).1],hL _ (B2 ..) rfl⟩
  ·exact⟨cur,by rw[B3 hi];exact h1,h2⟩
theorem N3{b:Nat→Bool}{x:Nat}{f:Nat→SV→Nat × SV}{o:Nat × SV}:∀{ds:List Rec} {k:Nat} {st:St},(∃cur,st[x]?=some cur∧f cur.1 cur.2=o)→
 (∀j d,ds[j]?=some d→b (k+j)=true→∀c∈d.L,c.1=x→f c.2.1 c.2.2=o)→∃cur,(Jw b k ds st)[x]?=some cur∧f cur.1 cur.2=o
 | [],_,_,h,_=>h
 |d::ds,k,st,h,hd=>by
  simp only[Jw];refine N3 (ds:=ds) ?_ fun j e hj hb=>hd (j+1) e hj (by rwa [show k+(j+1)=k+1+j by omega])
  split
  ·rename_i hb;exact V2 h (hd 0 d rfl hb)
  ·exact h
theorem Rv{b:Nat→Bool}:∀{ds ds':List Rec} {k:Nat} {st:St},Jw b k (ds++ds') st=Jw b (k+ds.length) ds' (Jw b k ds st)
 | [],_,_,_=>rfl
 |d::ds,ds',k,st=>by
  simp only[H3,Jw,Ho];rw[Rv,show k+1+ds.length=k+(ds.length+1)by omega]
theorem V1{d:Rec}{m:Nat}:∀{pre:List Rec} {k:Nat},N2 d m k pre=true→∀j e,pre[j]?=some e→m.testBit (k+j)=true∨
 ((∀x∈Eb d.L,x ∉ Eb e.L)∧(∀x∈Eb d.L,x ∉ Aqj e.R)∧∀x∈Eb e.L,x ∉ Aqj d.R)
 | [],_,_,j,e,h=>by simp at h
 |f::r,k,h,j,e,he=>by
  simp only[N2,Ap,Q3]at h;cases j with
  |zero=>
   cases he;rcases h.1 with h1|⟨⟨h1,h2⟩,h3⟩
   ·exact .inl h1
   ·exact .inr ⟨Ma h1,Ma h2,Ma h3⟩
  |succ j=>
   have:=V1 h.2 j e he;rwa [show k+1+j=k+(j+1)by omega]at this
theorem S2:∀{ds pre:List Rec} {ms:List Nat},Pc pre ds ms=true→∀i d,ds[i]?=some d→∃m,ms[i]?=some m∧∀j e,j<pre.length+i→(pre++ds)[j]?=some e→m.testBit j=true∨
 ((∀x∈Eb d.L,x ∉ Eb e.L)∧(∀x∈Eb d.L,x ∉ Aqj e.R)∧∀x∈Eb e.L,x ∉ Aqj d.R)
 | [],_,_,_,i,d,h=>by simp at h
 |d::r,pre,[],h,_,_,_=>by cases h
 |d::r,pre,m::ms,h,i,d',hd=>by
  simp only[Pc,Ap]at h;cases i with
  |zero=>
   cases hd;refine⟨m,rfl,fun j e hj he=>?_⟩
   rw[Fi (by omega)]at he
   have:=V1 h.1 j e he;rwa [E3]at this
  |succ i=>
   obtain⟨m',h1,h2⟩:=S2 h.2 i d' hd;refine⟨m',h1,fun j e hj he=>h2 j e (by simp;omega) (by rw[Df];exact he)⟩
def K9(y m:Nat):Nat→List Rec→Bool
 |_,[]=>true
 |j,e::r=>(m.testBit j|| !(Eb e.L).contains y)&&K9 y m (j+1) r
def Ms(rd:Rd):List Rec→Prop
 | []=>True
 |e::r=>Ls e.L [rd]∧Ms rd r
def Mq(st0:St)(pre:List Rec)(m:Nat):List Rd→Prop
 | []=>True
 | .all _::r=>Mq st0 pre m r
 | .prj y f o::r=>(match K9 y m 0 pre with
   |true=>True
   |false=>(match st0[y]? with
    |some c=>f c.1 c.2=o
    |none=>False)∧Ms (.prj y f o) pre)∧Mq st0 pre m r
def Av(st0:St)(pre:List Rec):List Rec→List Nat→Prop
 | [],_=>True
 |d::r,m::ms=>Mq st0 pre m d.R∧Av st0 (pre++[d]) r ms
 |_::_,[]=>False
theorem Qz{y m:Nat}:∀{pre:List Rec} {k:Nat},K9 y m k pre=true→∀j e,pre[j]?=some e→m.testBit (k+j)=true∨y ∉ Eb e.L
 | [],_,_,j,e,h=>by simp at h
 |f::r,k,h,j,e,he=>by
  simp only[K9,Ap,Q3,Ad8]at h;cases j with
  |zero=>
   cases he;rcases h.1 with h1|h1
   ·exact .inl h1
   ·exact .inr fun hm=>by rw[Am4.2 hm]at h1;cases h1
  |succ j=>
   have:=Qz h.2 j e he;rwa [show k+1+j=k+(j+1)by omega]at this
theorem Qu{rd:Rd}:∀{pre:List Rec},Ms rd pre→∀(j:Nat) (e:Rec),pre[j]?=some e→Ls e.L [rd]
 | [],_,j,e,h=>by simp at h
 |f::r,h,j,e,he=>by
  cases j with
  |zero=>cases he;exact h.1
  |succ j=>exact Qu h.2 j e he
theorem Nw{st0:St}{pre:List Rec}{m:Nat}:∀{R:List Rd},Mq st0 pre m R→∀y f o,Rd.prj y f o∈R→K9 y m 0 pre=true∨((∃c,st0[y]?=some c∧f c.1 c.2=o)∧Ms (.prj y f o) pre)
 | [],_,_,_,_,h=>by cases h
 | .all _::r,h,y,f,o,hm=>by
   rcases Bg.1 hm with hm|hm
   ·cases hm
   ·exact Nw (R:=r) h y f o hm
 | .prj y' f' o'::r,h,y,f,o,hm=>by
   simp only[Mq]at h;rcases Bg.1 hm with hm|hm
   ·rw[Rd.prj.injEq]at hm;obtain⟨h1,h2,h3⟩:=hm;subst h1;subst h2;subst h3;cases ho:K9 y m 0 pre with
    |true=>exact .inl rfl
    |false=>
     rw[ho]at h;refine .inr ⟨?_,h.1.2⟩;have h4:=h.1.1;split at h4
     ·rename_i c hc;exact⟨c,hc,h4⟩
     ·exact h4.elim
   ·exact Nw h.2 y f o hm
theorem Qg{st0:St}:∀{ds pre:List Rec} {ms:List Nat},Av st0 pre ds ms→∀i d,ds[i]?=some d→∃m,ms[i]?=some m∧Mq st0 (pre++ds.take i) m d.R
 | [],_,_,_,i,d,h=>by simp at h
 |d::r,pre,[],h,_,_,_=>by cases h
 |d::r,pre,m::ms,h,i,d',hd=>by
  simp only[Av]at h;cases i with
  |zero=>
   cases hd;exact⟨m,rfl,by simpa using h.1⟩
  |succ i=>
   obtain⟨m',h1,h2⟩:=Qg h.2 i d' hd;exact⟨m',h1,by simpa using h2⟩
theorem Sn:∀{R:List Rd} {x:Nat},x∈Aqj R→x∈Ayp R
 | .all i::r,x,h=>by
   simp only[Aqj,Bg]at h;simp only[Ayp,Cy,Bg,Rd.slot];rcases h with h|h
   ·exact .inl h
   ·exact .inr (Sn h)
 | .prj i _ _::r,x,h=>by
   simp only[Ayp,Cy,Bg];exact .inr (Sn (R:=r) h)
theorem Wv:∀{a l:List Nat},(∀x∈a,x ∉ l)→Lf a l=true
 | [],_,_=>rfl
 |y::r,l,h=>by
  simp only[Lf,Ap,Ad8];refine⟨?_,Wv fun x hx=>h x (B4 _ hx)⟩
  rw[Bool.eq_false_iff];intro hc;exact h y (B2 ..) (Am4.1 hc)
theorem Wy{d:Rec}{m:Nat}:∀{pre:List Rec} {k:Nat},V0 d m k pre=true→N2 d m k pre=true∧∀y∈Ayp d.R,K9 y m k pre=true
 | [],_,_=>⟨rfl,fun _ _=>rfl⟩
 |e::r,k,h=>by
  simp only[V0,Ap,Q3]at h;obtain⟨h1,h2⟩:=Wy h.2;refine⟨?_,fun y hy=>?_⟩
  ·simp only[N2,Ap,Q3];refine⟨?_,h1⟩;rcases h.1 with h3|⟨⟨h3,h4⟩,h5⟩
   ·exact .inl h3
   ·exact .inr ⟨⟨h3,h4⟩,Wv fun x hx hm=>Ma h5 x hx (Sn hm)⟩
  ·simp only[K9,Ap,Q3,Ad8];refine⟨?_,h2 y hy⟩;rcases h.1 with h3|⟨_,h5⟩
   ·exact .inl h3
   ·right;rw[Bool.eq_false_iff];intro hc;exact Ma h5 y (Am4.1 hc) hy
theorem Rm{st0:St}{pre:List Rec}{m:Nat}:∀{R:List Rd},(∀y∈Ayp R,K9 y m 0 pre=true)→Mq st0 pre m R
 | [],_=>trivial
 | .all _::r,h=>Rm (R:=r) fun y hy=>h y (by simp only[Ayp,Cy,Bg];exact .inr hy)
 | .prj y f o::r,h=>by
   refine⟨?_,Rm fun z hz=>h z (by simp only[Ayp,Cy,Bg];exact .inr hz)⟩
   rw[h y (by simp[Ayp,Rd.slot])]
   trivial
theorem Th{st0:St}:∀{ds pre:List Rec} {ms:List Nat},Vz pre ds ms=true→Pc pre ds ms=true∧Av st0 pre ds ms
 | [],_,_,_=>⟨rfl,trivial⟩
 |_::_,_,[],h=>by cases h
 |d::r,pre,m::ms,h=>by
  simp only[Vz,Ap]at h;obtain⟨h1,h2⟩:=Wy h.1;obtain⟨h3,h4⟩:=Th h.2;exact⟨by simp only[Pc,Ap];exact⟨h1,h3⟩,Rm h2,h4⟩
structure Ai2(st0:St)(ms:List Nat)(Q:St→Prop)(ds:List Rec)(st:St):Prop where
 ok:Pc [] ds ms=true
 fits:P7 [] ds ms
 base:Av st0 [] ds ms
 go:(∀d∈ds,∀p∈d.F,p)→Q st
theorem Ai2.by0{st0:St}{ms:List Nat}{Q:St→Prop}{ds:List Rec}{st:St}(h:(Vz [] ds ms&&Vx [] ds ms)=true)(hq:(∀d∈ds,∀p∈d.F,p)→Q st):Ai2 st0 ms Q ds st:=by
 rw[Ap]at h;exact⟨(Th h.1 (st0:=st0)).1,Uv h.2,(Th h.1).2,hq⟩
def N7(os:List Oper):List (List Nat):=os.map fun o=>(o.after.toList.filter (Region.binds .any ·)).map (·.on)
def N8:List (List Nat)→Nat→List Oper→Bool
 | [],_,[]=>true
 |e::es,i,o::os=>(e.all fun j=>o.after.any fun x=>Region.binds .any x&&x.on==j)&&(o.after.all fun x=> !Region.binds .any x||decide (x.on<i))&&N8 es (i+1) os
 |_,_,_=>false
theorem Qq:∀{es:List (List Nat)} {k:Nat} {os:List Oper},N8 es k os=true→es.length=os.length∧∀i o,os[i]?=some o→∃e,es[i]?=some e∧
 (∀j∈e,∃x∈o.after,Region.binds .any x=true∧x.on=j)∧∀x∈o.after,Region.binds .any x=true→x.on<k+i
 | [],_,[],_=>⟨rfl,fun i o h=>by simp at h⟩
 |e::es,k,o::os,h=>by
  simp only[N8,Ap]at h;obtain⟨⟨h1,h2⟩,h3⟩:=h;obtain⟨h4,h5⟩:=Qq h3;refine⟨by simp[h4],fun i o' hi=>?_⟩
  cases i with
  |zero=>
   cases hi;refine⟨e,rfl,fun j hj=>?_,fun x hx hb=>?_⟩
   ·have:=Aia.1 h1 j hj;obtain⟨x,hx,hx'⟩:=Array.any_eq_true'.1 this;simp only[Ap,beq_iff_eq]at hx';exact⟨x,hx,hx'.1,hx'.2⟩
   ·have:=Array.all_eq_true'.1 h2 x hx;simpa[hb]using this
  |succ i=>
   obtain⟨e',g1,g2,g3⟩:=h5 i o' hi;exact⟨e',g1,g2,fun x hx hb=>by have:=g3 x hx hb;omega⟩
 | [],_,_::_,h=>by cases h
 |_::_,_,[],h=>by cases h
theorem Ta{P:Program}{K:List Rec→St→Prop}{st0:St}:∀{l:List Ao} {pre:List Rec},P0 P l K pre (Jw (fun _=>true) 0 pre st0)→
 ∃ds,ds.length=l.length∧K (pre++ds) (Jw (fun _=>true) 0 (pre++ds) st0)∧
  ∀i m d,l[i]?=some m→ds[i]?=some d→Local P m.sem (Jw (fun _=>true) 0 ((pre++ds).take (pre.length+i)) st0) d∧
   ∀x∈d.R,x.A9u (Jw (fun _=>true) 0 ((pre++ds).take (pre.length+i)) st0) (Jw (fun _=>true) 0 ((pre++ds).take (pre.length+i)) st0)
 | [],pre,h=>⟨[],rfl,by simpa[P0]using h,fun i m d h=>by simp at h⟩
 |m::l,pre,h=>by
  simp only[P0]at h;obtain⟨R,L,F,h1,h2,h3,h5,h4⟩:=M.Bma (L:=[]) (st0:=Jw (fun _=>true) 0 pre st0) h
  have e1:Jw (fun _=>true) 0 (pre++[⟨R,L,F⟩]) st0=K5 L (Jw (fun _=>true) 0 pre st0):=by rw[S3];rfl
  rw[←e1]at h1;obtain⟨ds,g1,g2,g3⟩:=Ta (l:=l) (pre:=pre++[⟨R,L,F⟩]) h1;rw[Df]at g2 g3;refine⟨⟨R,L,F⟩::ds,by simp[g1],g2,fun i m' d hm hd=>?_⟩
  cases i with
  |zero=>
   cases hm;cases hd;rw[Amf,List.take_left' rfl];refine⟨fun st' hst=>h4 st' hst (fun p hp=>by cases hp),fun x hx=>?_⟩
   rcases h5 x hx with h|h
   ·cases h
   ·exact h
  |succ i=>
   have:=g3 i m' d hm hd;simpa[Nat.add_assoc,Nat.add_comm 1 i]using this
section
variable{P:Program}{N:Nat}{G:Mem}{σ:Lab}{Fr:Mem}{w0:Base}{w:World}{st:St}{a:Act}
theorem U2{ops:Array Oper}:∀{l:List Oper} {m:List Ao},Aze P N ops l m=true→l.length=m.length∧∀(i:Nat) o,l[i]?=some o→∃x,m[i]?=some x∧M7 P N ops o x=true
 | [],[],_=>⟨rfl,fun i o h=>by simp at h⟩
 |o::l,x::m,h=>by
  simp only[Aze,Ap]at h;obtain⟨h1,h2⟩:=U2 h.2;refine⟨by simp[h1],fun i o' hi=>?_⟩
  cases i with
  |zero=>cases hi;exact⟨x,rfl,h.1⟩
  |succ i=>exact h2 i o' hi
 | [],_::_,h=>by cases h
 |_::_,[],h=>by simp[Aze]at h
theorem WOk.drawn(h:WOk G σ Fr w0 w)(n:Nat):WOk G σ Fr w0 {w with drawn:=n}:=⟨h.fixed,h.own,h.inj,h.frame,h.os,h.tape,h.output,h.size,h.apart,h.amb⟩
theorem Rel.drawn(h:Rel G σ Fr w0 st a w)(n:Nat):Rel G σ Fr w0 st a {w with drawn:=n}:=
 ⟨h.Fc.drawn n,h.defers,h.n,h.len,fun s ver sv hs=>(h.Eb s ver sv hs).Asq (Mem.le.refl G) (fun _ _ _ hb=>⟨hb,rfl⟩) h.Eb,h.As8⟩
theorem Acx{ro:Option Nat}{id:Nat}{ops:Array Oper}{es:List (List Nat)}{ms:List Nat}{l:List Ao}{Q:St→Prop}{Qx:Exit→Act→World→Prop}(hm:P.follows .mixedOrders=true)(hms:A3b es []=ms)
 (hc:Aze P w0.n ops ops.toList l=true) (he:N8 es 0 ops.toList=true) (hr:Rel G σ Fr w0 st a w) (hq:P0 P l (Ai2 st ms Q) [] st)
 (hn:∀G' σ' st' a' w',G.le G'→Rel G' σ' Fr w0 st' a' w'→Q st'→Qx .normal a' w'):(Code.region id ops true).wpIn (Wd ro) 0 P Qx a w:=by
 subst hms;obtain⟨hlen,Bim⟩:=U2 hc;obtain⟨Bj9,A22⟩:=Qq he;obtain⟨ds,hdl,⟨H2,A4s,A62,hgo⟩,A6g⟩:=Ta (st0:=st) (pre:=[]) hq;simp only[H4,Ak7,E3]at H2 A4s A62 hgo A6g;have hdn:ds.length=ops.size:=by rw[hdl, ←hlen,Array.length_toList]
 have A67:∀i d,ds[i]?=some d→∀e,es[i]?=some e→∀j f,j<i→ds[j]?=some f→Atj es e j∨
  (((∀x∈Eb d.L,x ∉ Eb f.L)∧(∀x∈Eb d.L,x ∉ Aqj f.R)∧∀x∈Eb f.L,x ∉ Aqj d.R)∧Ls d.L f.R):=by
  intro i d hd e hes j f hj hf;obtain⟨m,h1,h2⟩:=S2 H2 i d hd;obtain⟨m',h1',h2'⟩:=Qr A4s i d hd;rw[h1]at h1';cases h1';rcases h2 j f (by simpa using hj) (by simpa using hf)with h3|h3
  ·exact .inl (Lu (r:=es) (pre:=[]) (acc:=[]) rfl rfl (by simp) i e m hes h1 j h3)
  ·rcases h2' j f (by simpa using hj) (by simpa using hf)with h4|h4
   ·exact .inl (Lu (r:=es) (pre:=[]) (acc:=[]) rfl rfl (by simp) i e m hes h1 j h4)
   ·exact .inr ⟨h3,h4⟩
 have Ba2:∀i d,ds[i]?=some d→∀e,es[i]?=some e→∀y f o,Rd.prj y f o∈d.R→(∀j g,j<i→ds[j]?=some g→Atj es e j∨y ∉ Eb g.L)∨((∃c,st[y]?=some c∧f c.1 c.2=o)∧Ms (.prj y f o) (ds.take i)):=by
  intro i d hd e hes y f o hy;obtain⟨m,h1,h2⟩:=Qg A62 i d hd;rw[H4]at h2;rcases Nw h2 y f o hy with h3|h3
  ·refine .inl fun j g hj hg=>?_
   rcases Qz h3 j g (by rw[List.getElem?_take_of_lt hj];exact hg)with h4|h4
   ·rw[E3]at h4;exact .inl ((Lu (r:=es) (pre:=[]) (acc:=[]) rfl rfl (by simp) i e m hes h1 j h4))
   ·exact .inr h4
  ·exact .inr h3
 refine wpIn_region_any hm ?_
 suffices H:∀(fuel:Nat) (listed:Array Bool) (G1:Mem) (σ1:Lab) (a1:Act) (w1:World),listed.size=ops.size→((List.range ops.size).filter fun i=> !listed.getD i true).length≤fuel→G.le G1→
  (∀i e,es[i]?=some e→listed.getD i false=true→∀k∈e,listed.getD k false=true)→
  (∀i d,ds[i]?=some d→listed.getD i false=true→∀p∈d.F,p)→
  Rel G1 σ1 Fr w0 (Jw (fun i=>listed.getD i false) 0 ds st) a1 w1→wpAnyIn (Wd ro) 0 P .any ops Qx fuel listed a1 w1 by
  refine H _ _ G σ a _ (by simp) ?_ (Mem.le.refl G) ?_ ?_ ?_
  ·refine Kq (List.length_filter_le _ _) (by simp)
  ·intro i e _ hi;simp[Bt,Amc]at hi;split at hi<;>simp at hi
  ·intro i d _ hi;simp[Bt,Amc]at hi;split at hi<;>simp at hi
  ·have:Jw (fun i=>(Array.replicate ops.size false).getD i false) 0 ds st=st:=by
    have aux:∀(ds:List Rec) (k:Nat),Jw (fun i=>(Array.replicate ops.size false).getD i false) k ds st=st:=by
     intro ds;induction ds with
     |nil=>intro k;rfl
     |cons d ds ih=>
      intro k;have hf:(Array.replicate ops.size false).getD k false=false:=by
       simp[Bt,Amc];split<;>rfl
      simp only[Jw,hf];exact ih _
    exact aux ds 0
   rw[this];exact hr.drawn _
 have A48:∀(listed:Array Bool),listed.size=ops.size→Region.ready .any ops listed=[]→∀i,i<ops.size→listed.getD i false=true:=by
  intro listed Hr Au3 i;induction i using Nat.strongRecOn with
  |ind i ih=>
   intro hi;cases hli:listed.getD i false with
   |true=>rfl
   |false=>
    exfalso;have:i∈Region.ready .any ops listed:=by
     unfold Region.ready;rw[Ajh];refine⟨Agu.2 hi,?_⟩;have Bih:listed.getD i true=false:=by
      rw[Bt,E6 (by omega)]at hli ⊢
      exact hli
     rw[Bih,E6 hi];simp only[Bool.not_false,Bool.true_and,Fq,Option.getD_some];rw[Array.all_eq_true'];intro x hx;cases hb:Region.binds .any x with
     |false=>rfl
     |true=>
      obtain⟨e,_,_,g3⟩:=A22 i ops[i] (by simp[hi])
      have:=g3 x hx hb;simp only[E3]at this;simp[ih x.on this (by omega)]
    rw[Au3]at this;cases this
 have fin:∀{listed:Array Bool} {G1:Mem} {σ1:Lab} {a1:Act} {w1:World},listed.size=ops.size→Region.ready .any ops listed=[]→G.le G1→
  (∀i d,ds[i]?=some d→listed.getD i false=true→∀p∈d.F,p)→
  Rel G1 σ1 Fr w0 (Jw (fun i=>listed.getD i false) 0 ds st) a1 w1→Qx .normal a1 w1:=by
  intro listed G1 σ1 a1 w1 Hr Au3 hG hF hr1;have Anw:=A48 listed Hr Au3;have:Jw (fun i=>listed.getD i false) 0 ds st=Jw (fun _=>true) 0 ds st:=Pd fun j hj=>by rw[E3];exact Anw j (by omega)
  rw[this]at hr1;refine hn G1 σ1 _ a1 w1 hG hr1 (hgo fun d hd=>?_)
  obtain⟨i,hi,rfl⟩:=Akp.1 hd;exact hF i _ (Ae hi) (Anw i (by omega))
 intro fuel;induction fuel with
 |zero=>
  intro listed G1 σ1 a1 w1 Hr Bh5 hG hcl hF hr1;have Au3:Region.ready .any ops listed=[]:=by
   cases hrd:Region.ready .any ops listed with
   |nil=>rfl
   |cons i r=>
    exfalso;have hi:i∈Region.ready .any ops listed:=by rw[hrd];exact B2 ..
    unfold Region.ready at hi;rw[Ajh]at hi;have:i∈(List.range ops.size).filter fun i=> !listed.getD i true:=by
     rw[Ajh];exact⟨hi.1,by have:=hi.2;simp only[Ap]at this;exact this.1⟩
    have:=List.length_pos_of_mem this;omega
  exact⟨Au3,fin Hr Au3 hG hF hr1⟩
 |succ fuel ih=>
  intro listed G1 σ1 a1 w1 Hr Bh5 hG hcl hF hr1;refine⟨fun Au3=>fin Hr Au3 hG hF hr1,fun i hi=>?_⟩
  have hi0:=hi;unfold Region.ready at hi;rw[Ajh,Agu]at hi;obtain⟨Avz,hi2⟩:=hi;rw[E6 Avz]at hi2;simp only[Fq,Option.getD_some,Ap,Ad8]at hi2;obtain⟨hun,Bh2⟩:=hi2;have A0s:listed.getD i false=false:=by
   rw[Bt,E6 (by omega)]at hun ⊢
   exact hun
  obtain⟨x,hx,Bed⟩:=Bim i ops[i] (by simp[Avz])
  obtain⟨e,hes,Aw5,_⟩:=A22 i ops[i] (by simp[Avz])
  have A1c:∀k∈e,listed.getD k false=true:=by
   intro k hk;obtain⟨y,hy,hb,rfl⟩:=Aw5 k hk;have:=Array.all_eq_true'.1 Bh2 y hy;simpa[hb]using this
  obtain⟨d,hd⟩:∃d,ds[i]?=some d:=⟨ds[i]'(by omega),Ae (by omega)⟩
  have Bh6:∀j f,j<i→ds[j]?=some f→listed.getD j false=true∨(((∀x∈Eb d.L,x ∉ Eb f.L)∧(∀x∈Eb d.L,x ∉ Aqj f.R)∧∀x∈Eb f.L,x ∉ Aqj d.R)∧Ls d.L f.R):=by
   intro j f hj hf;rcases A67 i d hd e hes j f hj hf with h1|h1
   ·exact .inl (h1 _ hcl A1c)
   ·exact .inr h1
  have Axr:∀j f,i<j→ds[j]?=some f→listed.getD j false=true→(((∀x∈Eb f.L,x ∉ Eb d.L)∧(∀x∈Eb f.L,x ∉ Aqj d.R)∧∀x∈Eb d.L,x ∉ Aqj f.R)∧Ls f.L d.R):=by
   intro j f hj hf hlj;have hjl:j<ds.length:=(A7.1 hf).1;obtain⟨e',Ba6,_,_⟩:=A22 j (ops[j]'(by omega)) (by simp[show j<ops.size by omega])
   rcases A67 j f hf e' Ba6 i d hj hd with h1|h1
   ·have:=h1 _ hcl (hcl j e' Ba6 hlj);rw[A0s]at this;cases this
   ·exact h1
  have hL:=(A6g i x d hx hd).1 (Jw (fun i=>listed.getD i false) 0 ds st) ?_
  ·refine(by
    refine Acz (ro:=ro) Nt (E6 Avz) Bed hr1 (Ao.Bhf hL) ?_;rintro G2 σ2 st2 a2 w2 hG2 hr2 ⟨rfl,Ba7⟩;have Akv:∀k,(listed.setIfInBounds i true).getD k false=(listed.getD k false||k==i):=by
     intro k;simp only[Bt,Ajv];by_cases hk:i=k
     ·subst hk;simp[Hr,Avz]
     ·simp[hk,show ¬k=i from fun h=>hk h.symm]
    refine ih _ G2 σ2 a2 w2 (by simp[Hr]) ?_ (hG.trans hG2) ?_ ?_ ?_
    ·have Ze:((List.range ops.size).filter fun k=> !(listed.setIfInBounds i true).getD k true).length<((List.range ops.size).filter fun k=> !listed.getD k true).length:=by
      have Bbp:((List.range ops.size).filter fun k=> !(listed.setIfInBounds i true).getD k true)=((List.range ops.size).filter fun k=> !listed.getD k true).filter fun k=> !(k==i):=by
       rw[List.filter_filter];refine List.filter_congr fun k hk=>?_
       have hk:=Agu.1 hk;simp only[Bt,Ajv];by_cases hki:i=k
       ·subst hki;simp[Hr,Avz]
       ·simp[hki,show ¬k=i from fun h=>hki h.symm]
      rw[Bbp];refine List.length_filter_lt_length_iff_exists.2 ⟨i,?_,by simp⟩
      rw[Ajh];exact⟨Agu.2 Avz,by rw[hun];rfl⟩
     omega
    ·intro k e' hk hlk y hy;rw[Akv]at hlk ⊢;simp only[Q3,beq_iff_eq]at hlk ⊢;rcases hlk with hlk|rfl
     ·exact .inl (hcl k e' hk hlk y hy)
     ·rw[hes]at hk;cases hk;exact .inl (A1c y hy)
    ·intro k f hk hlk;rw[Akv]at hlk;simp only[Q3,beq_iff_eq]at hlk;rcases hlk with hlk|rfl
     ·exact hF k f hk hlk
     ·rw[hd]at hk;cases hk;exact Ba7
    ·have:=W3 (b:=fun i=>listed.getD i false) (st:=st) hd A0s fun j f hj hf hlj=>fun y hy hy'=>(Axr j f hj hf hlj).1.1 y hy' hy
     have Bh8:(fun k=>(listed.setIfInBounds i true).getD k false)=fun k=>(listed.getD k false||k==i):=funext Akv
     rw[Bh8,this];exact hr2)
  ·intro rd hy;cases rd with
   |all y=>
    show(Jw (fun i=>listed.getD i false) 0 ds st)[y]?=(Jw (fun _=>true) 0 (ds.take i) st)[y]?
    rw[←N4];refine Ln rfl fun j f hf=>?_
    simp only[E3,Bool.true_and];by_cases hji:j<i
    ·rcases Bh6 j f hji hf with h1|h1
     ·left;simp[hji,h1]
     ·exact .inr fun hm=>h1.1.2.2 y hm (Nh hy)
    ·by_cases hij:j=i
     ·subst hij;left;simp[A0s]
     ·cases hlj:listed.getD j false with
      |false=>left;simp[hji]
      |true=>exact .inr fun hm=>(Axr j f (by omega) hf hlj).1.2.1 y hm (Nh hy)
   |prj y f o=>
    obtain⟨cur,k1,k2⟩:=(A6g i x d hx hd).2 _ hy;have hsp:ds=ds.take i++ds.drop i:=(Fj i ds).symm;have e1:Jw (fun i=>listed.getD i false) 0 ds st=Jw (fun i=>listed.getD i false) (0+(ds.take i).length) (ds.drop i) (Jw (fun i=>listed.getD i false) 0 (ds.take i) st):=by
     conv=>lhs;rw[hsp]
     exact Rv
    have hil:i<ds.length:=(A7.1 hd).1;have hl:0+(ds.take i).length=i:=by simp;omega
    show ∃cur,(Jw (fun i=>listed.getD i false) 0 ds st)[y]?=some cur∧f cur.1 cur.2=o
    rcases Ba2 i d hd e hes y f o hy with hbc|⟨⟨c0,hc0,hf0⟩,Beq⟩
    rotate_left
    ·refine N3 ⟨c0,hc0,hf0⟩ fun j g hg hb c hc hcy=>?_
     rw[E3]at hb;by_cases hji:j<i
     ·exact L8 (Qu Beq j g (by rw[List.getElem?_take_of_lt hji];exact hg)) c hc y f o (B2 ..) hcy.symm
     ·by_cases hij:j=i
      ·subst hij;rw[A0s]at hb;cases hb
      ·exact L8 (Axr j g (by omega) hg hb).2 c hc y f o hy hcy.symm
    rw[e1,hl];refine N3 ⟨cur,?_,k2⟩ ?_
    ·rw[←k1];refine Ln rfl fun j g hg=>?_
     have hji:j<i:=by
      have:=(A7.1 hg).1;simp at this;omega
     rw[List.getElem?_take_of_lt hji]at hg;rcases hbc j g hji hg with h1|h1
     ·left;rw[E3,h1 _ hcl A1c]
     ·exact .inr h1
    ·intro j g hg hb c hc hcy;rw[Ae3]at hg;by_cases hj0:j=0
     ·subst hj0;rw[Amf]at hb;rw[A0s]at hb;cases hb
     ·exact L8 (Axr (i+j) g (by omega) hg hb).2 c hc y f o hy hcy.symm
def Vq(es:List (List Nat))(el:List Nat):Bool:=match(A3b (es++[el]) [])[es.length]? with
 |some m=>(List.range es.length).all fun j=>m.testBit j
 |none=>false
theorem Aam{es:List (List Nat)}{el:List Nat}(h:Vq es el=true){j:Nat}(hj:j<es.length):Atj (es++[el]) el j:=by
 unfold Vq at h;split at h
 ·rename_i m hm;exact Lu (es:=es++[el]) (r:=es++[el]) (pre:=[]) (acc:=[]) rfl rfl (by simp) es.length el m (by simp) hm j (by
   have:=Aia.1 h j (Agu.2 hj);exact this)
 ·cases h
theorem Atj.more{es es':List (List Nat)}{e:List Nat}{j:Nat}(h:Atj es e j):Atj (es++es') e j:=
 fun b hb he=>h b (fun i l hi=>hb i l (by rw[Fi (A7.1 hi).1];exact hi)) he
theorem Afk{Y:Hd}{ro:Option Nat}{id:Nat}{ops:Array Oper}{es:List (List Nat)}{ms:List Nat}{el:List Nat}{l:List Ao}{xl:Ao}{Q:St→Prop}{Qx:Exit→Act→World→Prop}(hY:Auy P Y Fr w0)(hm:P.follows .mixedOrders=true)(hms:A3b es []=ms)(A23:Vq es el=true)
 (hc:Aze P w0.n ops ops.toList (l++[xl])=true) (he:N8 (es++[el]) 0 ops.toList=true) (hr:Rel G σ Fr w0 st a w) (hq:P0 P l (Ai2 st ms (xl.run P Y Q)) [] st)
 (hn:∀G' σ' st' a' w',G.le G'→Rel G' σ' Fr w0 st' a' w'→Q st'→Qx .normal a' w'):(Code.region id ops true).wpIn (Wd ro) 0 P Qx a w:=by
 subst hms;obtain⟨hlen,Bim⟩:=U2 hc;obtain⟨Bj9,A22⟩:=Qq he;obtain⟨ds,hdl,⟨H2,A4s,A62,hgo⟩,A6g⟩:=Ta (st0:=st) (pre:=[]) hq;simp only[H4,Ak7,E3]at H2 A4s A62 hgo A6g;have hdn:ds.length+1=ops.size:=by rw[hdl, ←Array.length_toList,hlen,Hq];rfl
 have Btn:es.length=ds.length:=by
  simp only[Hq,Ho,Ak7]at Bj9;have h1:ops.toList.length=ops.size:=Array.length_toList;omega
 have By7:∀{i:Nat} {e:List Nat},es[i]?=some e→(es++[el])[i]?=some e:=fun h=>by
  rw[Fi (A7.1 h).1];exact h
 have Btp:(es++[el])[ds.length]?=some el:=by rw[G4 (by omega),Btn,Nat.sub_self];rfl
 have Bp7:∀j,j<ds.length→Atj (es++[el]) el j:=fun j hj=>Aam A23 (by omega)
 have A67:∀i d,ds[i]?=some d→∀e,es[i]?=some e→∀j f,j<i→ds[j]?=some f→Atj (es++[el]) e j∨
  (((∀x∈Eb d.L,x ∉ Eb f.L)∧(∀x∈Eb d.L,x ∉ Aqj f.R)∧∀x∈Eb f.L,x ∉ Aqj d.R)∧Ls d.L f.R):=by
  intro i d hd e hes j f hj hf;obtain⟨m,h1,h2⟩:=S2 H2 i d hd;obtain⟨m',h1',h2'⟩:=Qr A4s i d hd;rw[h1]at h1';cases h1';rcases h2 j f (by simpa using hj) (by simpa using hf)with h3|h3
  ·exact .inl (Atj.more (Lu (r:=es) (pre:=[]) (acc:=[]) rfl rfl (by simp) i e m hes h1 j h3))
  ·rcases h2' j f (by simpa using hj) (by simpa using hf)with h4|h4
   ·exact .inl (Atj.more (Lu (r:=es) (pre:=[]) (acc:=[]) rfl rfl (by simp) i e m hes h1 j h4))
   ·exact .inr ⟨h3,h4⟩
 have Ba2:∀i d,ds[i]?=some d→∀e,es[i]?=some e→∀y f o,Rd.prj y f o∈d.R→(∀j g,j<i→ds[j]?=some g→Atj (es++[el]) e j∨y ∉ Eb g.L)∨((∃c,st[y]?=some c∧f c.1 c.2=o)∧Ms (.prj y f o) (ds.take i)):=by
  intro i d hd e hes y f o hy;obtain⟨m,h1,h2⟩:=Qg A62 i d hd;rw[H4]at h2;rcases Nw h2 y f o hy with h3|h3
  ·refine .inl fun j g hj hg=>?_
   rcases Qz h3 j g (by rw[List.getElem?_take_of_lt hj];exact hg)with h4|h4
   ·rw[E3]at h4;exact .inl (Atj.more (Lu (r:=es) (pre:=[]) (acc:=[]) rfl rfl (by simp) i e m hes h1 j h4))
   ·exact .inr h4
  ·exact .inr h3
 refine wpIn_region_any hm ?_
 suffices H:∀(fuel:Nat) (listed:Array Bool) (G1:Mem) (σ1:Lab) (a1:Act) (w1:World),listed.size=ops.size→listed.getD ds.length false=false→((List.range ops.size).filter fun i=> !listed.getD i true).length≤fuel→G.le G1→
  (∀i e,(es++[el])[i]?=some e→listed.getD i false=true→∀k∈e,listed.getD k false=true)→
  (∀i d,ds[i]?=some d→listed.getD i false=true→∀p∈d.F,p)→
  Rel G1 σ1 Fr w0 (Jw (fun i=>listed.getD i false) 0 ds st) a1 w1→wpAnyIn (Wd ro) 0 P .any ops Qx fuel listed a1 w1 by
  refine H _ _ G σ a _ (by simp) ?_ ?_ (Mem.le.refl G) ?_ ?_ ?_
  ·simp[Bt,Amc];split<;>rfl
  ·refine Kq (List.length_filter_le _ _) (by simp)
  ·intro i e _ hi;simp[Bt,Amc]at hi;split at hi<;>simp at hi
  ·intro i d _ hi;simp[Bt,Amc]at hi;split at hi<;>simp at hi
  ·have:Jw (fun i=>(Array.replicate ops.size false).getD i false) 0 ds st=st:=by
    have aux:∀(ds:List Rec) (k:Nat),Jw (fun i=>(Array.replicate ops.size false).getD i false) k ds st=st:=by
     intro ds;induction ds with
     |nil=>intro k;rfl
     |cons d ds ih=>
      intro k;have hf:(Array.replicate ops.size false).getD k false=false:=by
       simp[Bt,Amc];split<;>rfl
      simp only[Jw,hf];exact ih _
    exact aux ds 0
   rw[this];exact hr.drawn _
 have A48:∀(listed:Array Bool),listed.size=ops.size→Region.ready .any ops listed=[]→∀i,i<ops.size→listed.getD i false=true:=by
  intro listed Hr Au3 i;induction i using Nat.strongRecOn with
  |ind i ih=>
   intro hi;cases hli:listed.getD i false with
   |true=>rfl
   |false=>
    exfalso;have:i∈Region.ready .any ops listed:=by
     unfold Region.ready;rw[Ajh];refine⟨Agu.2 hi,?_⟩;have Bih:listed.getD i true=false:=by
      rw[Bt,E6 (by omega)]at hli ⊢
      exact hli
     rw[Bih,E6 hi];simp only[Bool.not_false,Bool.true_and,Fq,Option.getD_some];rw[Array.all_eq_true'];intro x hx;cases hb:Region.binds .any x with
     |false=>rfl
     |true=>
      obtain⟨e,_,_,g3⟩:=A22 i ops[i] (by simp[hi])
      have:=g3 x hx hb;simp only[E3]at this;simp[ih x.on this (by omega)]
    rw[Au3]at this;cases this
 have fin:∀{G1:Mem} {σ1:Lab} {a1:Act} {w1:World} {listed:Array Bool},(∀i,i<ds.length→listed.getD i false=true)→G.le G1→
  (∀i d,ds[i]?=some d→listed.getD i false=true→∀p∈d.F,p)→
  Rel G1 σ1 Fr w0 (Jw (fun i=>listed.getD i false) 0 ds st) a1 w1→xl.run P Y Q (Jw (fun i=>listed.getD i false) 0 ds st):=by
  intro G1 σ1 a1 w1 listed Anw hG hF hr1;have:Jw (fun i=>listed.getD i false) 0 ds st=Jw (fun _=>true) 0 ds st:=Pd fun j hj=>by rw[E3];exact Anw j hj
  rw[this];refine hgo fun d hd=>?_
  obtain⟨i,hi,rfl⟩:=Akp.1 hd;exact hF i _ (Ae hi) (Anw i hi)
 have stop:∀(fuel:Nat) {listed:Array Bool} {a1:Act} {w1:World},listed.size=ops.size→(∀i,i<ops.size→listed.getD i false=true)→Qx .normal a1 w1→wpAnyIn (Wd ro) 0 P .any ops Qx fuel listed a1 w1:=by
  intro fuel listed a1 w1 Hr Anw hq;have Au3:Region.ready .any ops listed=[]:=by
   unfold Region.ready;rw[List.filter_eq_nil_iff];intro i hi;have h1:=Anw i (Agu.1 hi);have h2:=Agu.1 hi;rw[Bt,E6 (by omega)]at h1
   have h3:listed.getD i true=true:=by rw[Bt,E6 (by omega)];exact h1
   simp[h3]
  cases fuel with
  |zero=>exact⟨Au3,hq⟩
  |succ n=>exact⟨fun _=>hq,fun i hi=>by rw[Au3]at hi;cases hi⟩
 intro fuel;induction fuel with
 |zero=>
  intro listed G1 σ1 a1 w1 Hr Bbs Bh5 hG hcl hF hr1;exfalso;have:ds.length∈(List.range ops.size).filter fun i=> !listed.getD i true:=by
   rw[Ajh];refine⟨Agu.2 (by omega),?_⟩
   rw[Bt,E6 (by omega)]at Bbs
   rw[Bt,E6 (by omega)]
   simpa using Bbs
  have:=List.length_pos_of_mem this;omega
 |succ fuel ih=>
  intro listed G1 σ1 a1 w1 Hr Bbs Bh5 hG hcl hF hr1;refine⟨fun Au3=>?_,fun i hi=>?_⟩
  ·have:=A48 listed Hr Au3 ds.length (by omega)
   rw[Bbs]at this;cases this
  have hi0:=hi;unfold Region.ready at hi;rw[Ajh,Agu]at hi;obtain⟨Avz,hi2⟩:=hi;rw[E6 Avz]at hi2;simp only[Fq,Option.getD_some,Ap,Ad8]at hi2;obtain⟨hun,Bh2⟩:=hi2;have A0s:listed.getD i false=false:=by
   rw[Bt,E6 (by omega)]at hun ⊢
   exact hun
  obtain⟨x,hx,Bed⟩:=Bim i ops[i] (by simp[Avz])
  obtain⟨e,hes,Aw5,_⟩:=A22 i ops[i] (by simp[Avz])
  have A1c:∀k∈e,listed.getD k false=true:=by
   intro k hk;obtain⟨y,hy,hb,rfl⟩:=Aw5 k hk;have:=Array.all_eq_true'.1 Bh2 y hy;simpa[hb]using this
  by_cases Btx:i=ds.length
  ·subst Btx;rw[Btp]at hes;cases hes;have Anw:∀j,j<ds.length→listed.getD j false=true:=fun j hj=>Bp7 j hj _ hcl A1c
   have hx':x=xl:=by
    rw[hdl,G4 (by simp)]at hx
    simpa using hx.symm
   subst hx';refine Acz (ro:=ro) hY (E6 Avz) Bed hr1 (fin Anw hG hF hr1) ?_;intro G2 σ2 st2 a2 w2 hG2 hr2 hq2;refine stop fuel (by simp[Hr]) (fun k hk=>?_) (hn G2 σ2 st2 a2 w2 (hG.trans hG2) hr2 hq2)
   simp only[Bt,Ajv];by_cases hk':ds.length=k
   ·subst hk';simp[Hr,Avz]
   ·have:=Anw k (by omega)
    rw[Bt]at this;simp[hk',this]
  have Bke:i<ds.length:=by omega
  have Ba6:es[i]?=some e:=by
   rw[Fi (by omega)]at hes;exact hes
  have hx0:l[i]?=some x:=by
   rw[Fi (by omega)]at hx;exact hx
  obtain⟨d,hd⟩:∃d,ds[i]?=some d:=⟨ds[i]'Bke,Ae Bke⟩;have Bh6:∀j f,j<i→ds[j]?=some f→listed.getD j false=true∨(((∀x∈Eb d.L,x ∉ Eb f.L)∧(∀x∈Eb d.L,x ∉ Aqj f.R)∧∀x∈Eb f.L,x ∉ Aqj d.R)∧Ls d.L f.R):=by
   intro j f hj hf;rcases A67 i d hd e Ba6 j f hj hf with h1|h1
   ·exact .inl (h1 _ hcl A1c)
   ·exact .inr h1
  have Axr:∀j f,i<j→ds[j]?=some f→listed.getD j false=true→(((∀x∈Eb f.L,x ∉ Eb d.L)∧(∀x∈Eb f.L,x ∉ Aqj d.R)∧∀x∈Eb d.L,x ∉ Aqj f.R)∧Ls f.L d.R):=by
   intro j f hj hf hlj;have hjl:j<ds.length:=(A7.1 hf).1;obtain⟨e',Bh7,_,_⟩:=A22 j (ops[j]'(by omega)) (by simp[show j<ops.size by omega])
   have Bto:es[j]?=some e':=by
    rw[Fi (by omega)]at Bh7;exact Bh7
   rcases A67 j f hf e' Bto i d hj hd with h1|h1
   ·have:=h1 _ hcl (hcl j e' Bh7 hlj);rw[A0s]at this;cases this
   ·exact h1
  have hL:=(A6g i x d hx0 hd).1 (Jw (fun i=>listed.getD i false) 0 ds st) ?_
  ·refine(by
    refine Acz (ro:=ro) Nt (E6 Avz) Bed hr1 (Ao.Bhf hL) ?_;rintro G2 σ2 st2 a2 w2 hG2 hr2 ⟨rfl,Ba7⟩;have Akv:∀k,(listed.setIfInBounds i true).getD k false=(listed.getD k false||k==i):=by
     intro k;simp only[Bt,Ajv];by_cases hk:i=k
     ·subst hk;simp[Hr,Avz]
     ·simp[hk,show ¬k=i from fun h=>hk h.symm]
    refine ih _ G2 σ2 a2 w2 (by simp[Hr]) (by rw[Akv,Bbs];simp;omega) ?_ (hG.trans hG2) ?_ ?_ ?_
    ·have Ze:((List.range ops.size).filter fun k=> !(listed.setIfInBounds i true).getD k true).length<((List.range ops.size).filter fun k=> !listed.getD k true).length:=by
      have Bbp:((List.range ops.size).filter fun k=> !(listed.setIfInBounds i true).getD k true)=((List.range ops.size).filter fun k=> !listed.getD k true).filter fun k=> !(k==i):=by
       rw[List.filter_filter];refine List.filter_congr fun k hk=>?_
       have hk:=Agu.1 hk;simp only[Bt,Ajv];by_cases hki:i=k
       ·subst hki;simp[Hr,Avz]
       ·simp[hki,show ¬k=i from fun h=>hki h.symm]
      rw[Bbp];refine List.length_filter_lt_length_iff_exists.2 ⟨i,?_,by simp⟩
      rw[Ajh];exact⟨Agu.2 Avz,by rw[hun];rfl⟩
     omega
    ·intro k e' hk hlk y hy;rw[Akv]at hlk ⊢;simp only[Q3,beq_iff_eq]at hlk ⊢;rcases hlk with hlk|rfl
     ·exact .inl (hcl k e' hk hlk y hy)
     ·rw[hes]at hk;cases hk;exact .inl (A1c y hy)
    ·intro k f hk hlk;rw[Akv]at hlk;simp only[Q3,beq_iff_eq]at hlk;rcases hlk with hlk|rfl
     ·exact hF k f hk hlk
     ·rw[hd]at hk;cases hk;exact Ba7
    ·have:=W3 (b:=fun i=>listed.getD i false) (st:=st) hd A0s fun j f hj hf hlj=>fun y hy hy'=>(Axr j f hj hf hlj).1.1 y hy' hy
     have Bh8:(fun k=>(listed.setIfInBounds i true).getD k false)=fun k=>(listed.getD k false||k==i):=funext Akv
     rw[Bh8,this];exact hr2)
  ·intro rd hy;cases rd with
   |all y=>
    show(Jw (fun i=>listed.getD i false) 0 ds st)[y]?=(Jw (fun _=>true) 0 (ds.take i) st)[y]?
    rw[←N4];refine Ln rfl fun j f hf=>?_
    simp only[E3,Bool.true_and];by_cases hji:j<i
    ·rcases Bh6 j f hji hf with h1|h1
     ·left;simp[hji,h1]
     ·exact .inr fun hm=>h1.1.2.2 y hm (Nh hy)
    ·by_cases hij:j=i
     ·subst hij;left;simp[A0s]
     ·cases hlj:listed.getD j false with
      |false=>left;simp[hji]
      |true=>exact .inr fun hm=>(Axr j f (by omega) hf hlj).1.2.1 y hm (Nh hy)
   |prj y f o=>
    obtain⟨cur,k1,k2⟩:=(A6g i x d hx0 hd).2 _ hy;have hsp:ds=ds.take i++ds.drop i:=(Fj i ds).symm;have e1:Jw (fun i=>listed.getD i false) 0 ds st=Jw (fun i=>listed.getD i false) (0+(ds.take i).length) (ds.drop i) (Jw (fun i=>listed.getD i false) 0 (ds.take i) st):=by
     conv=>lhs;rw[hsp]
     exact Rv
    have hil:i<ds.length:=(A7.1 hd).1;have hl:0+(ds.take i).length=i:=by simp;omega
    show ∃cur,(Jw (fun i=>listed.getD i false) 0 ds st)[y]?=some cur∧f cur.1 cur.2=o
    rcases Ba2 i d hd e Ba6 y f o hy with hbc|⟨⟨c0,hc0,hf0⟩,Beq⟩
    rotate_left
    ·refine N3 ⟨c0,hc0,hf0⟩ fun j g hg hb c hc hcy=>?_
     rw[E3]at hb;by_cases hji:j<i
     ·exact L8 (Qu Beq j g (by rw[List.getElem?_take_of_lt hji];exact hg)) c hc y f o (B2 ..) hcy.symm
     ·by_cases hij:j=i
      ·subst hij;rw[A0s]at hb;cases hb
      ·exact L8 (Axr j g (by omega) hg hb).2 c hc y f o hy hcy.symm
    rw[e1,hl];refine N3 ⟨cur,?_,k2⟩ ?_
    ·rw[←k1];refine Ln rfl fun j g hg=>?_
     have hji:j<i:=by
      have:=(A7.1 hg).1;simp at this;omega
     rw[List.getElem?_take_of_lt hji]at hg;rcases hbc j g hji hg with h1|h1
     ·left;rw[E3,h1 _ hcl A1c]
     ·exact .inr h1
    ·intro j g hg hb c hc hcy;rw[Ae3]at hg;by_cases hj0:j=0
     ·subst hj0;rw[Amf]at hb;rw[A0s]at hb;cases hb
     ·exact L8 (Axr (i+j) g (by omega) hg hb).2 c hc y f o hy hcy.symm
end
end Go.Ab
