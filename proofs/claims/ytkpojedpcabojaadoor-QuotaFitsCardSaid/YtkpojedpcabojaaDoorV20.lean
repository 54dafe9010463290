/- Lemmas -/
import Derived.Test.YtkpojedpcabojaaDoorV12
set_option linter.unusedVariables false
set_option linter.unusedSimpArgs false
namespace Go.Ab
theorem Amk{l:List Hld}{a:Az}(hl:LSo l):∀x∈l.take (Km (Kh a) l),x.at_<a:=by
 rw[LSo,List.pairwise_map]at hl;intro x hx;have:=(Aho (lt:=Kh a) (l:=l) (hl.imp fun {x y} hab hb=>by simp only[Kh,decide_eq_true_eq]at*;exact List.lt_trans hab hb)).1 x hx
 simpa[Kh]using this
theorem Amg{l:List Hld}{a:Az}(hl:LSo l):∀x∈l.drop (Km (Kh a) l),¬x.at_<a:=by
 rw[LSo,List.pairwise_map]at hl;intro x hx;have:=(Aho (lt:=Kh a) (l:=l) (hl.imp fun {x y} hab hb=>by simp only[Kh,decide_eq_true_eq]at*;exact List.lt_trans hab hb)).2 x hx
 simpa[Kh]using this
theorem Amh{l:List Hld}{a:Az}(hl:LSo l)(hf:bsF (Kh a) (eqH a) l=false):∀x∈l.drop (Km (Kh a) l),a<x.at_:=by
 intro x hx;have h3:=Amg hl x hx;have hl':=hl;rw[LSo,List.pairwise_map]at hl';obtain⟨j,hj,rfl⟩:=List.mem_iff_getElem.1 hx;rw[List.length_drop]at hj;rw[List.getElem_drop]at h3 ⊢;have hne:l[Km (Kh a) l+j].at_≠a:=by
  intro e;cases j with
  |zero=>
   unfold bsF at hf;rw[List.getElem?_eq_getElem (show Km (Kh a) l<l.length by omega)]at hf
   simp only[Option.any_some,eqH,decide_eq_false_iff_not]at hf;exact hf e
  |succ j=>
   have h4:=List.pairwise_iff_getElem.1 hl' (Km (Kh a) l) (Km (Kh a) l+(j+1)) (by omega) (by omega) (by omega)
   rw[e]at h4;exact Amg hl (l[Km (Kh a) l]'(by omega)) (by rw[List.drop_eq_getElem_cons (by omega)];exact List.mem_cons_self ..) h4
 exact Std.lt_of_le_of_ne (List.not_lt.1 h3) (Ne.symm hne)
theorem Ajo{n a b:Az}:B7 n a<B7 n b↔a<b:=by rw[Ahd n a,Ahd n b,Aj7]
theorem Qq{n:Az}{l:List Hld}{x:Kv}(hv:∀h∈l,Lies h.at_)(hx:x∈keysOf n l):∃h∈l,h.at_=B7 n x.key∧h.vs=x.vs:=by
 obtain⟨h,hh,e⟩:=List.mem_filterMap.1 hx;unfold G3 at e;split at e
 ·rename_i hn;cases e;exact⟨h,hh,by rw[←hn];exact(hv h hh).whose.1,rfl⟩
 ·cases e
theorem Akv{key:Az}{v:Ver}:∀{a b:List Kv},(∀x∈a,x.key<key)→insK key v (a++b)=a++insK key v b
 | [],b,_=>rfl
 |h::a,b,hl=>by
  have h1:=hl h (List.mem_cons_self ..);rw[List.cons_append]
  conv=>lhs;unfold insK
  rw[if_neg (fun e=>by rw[e]at h1;exact absurd h1 (List.lt_irrefl _)),if_neg (fun c=>absurd (List.lt_trans c h1) (List.lt_irrefl _)),Akv fun x hx=>hl x (List.mem_cons_of_mem _ hx)]
  rfl
theorem Amp{key:Az}{v:Ver}:∀{b:List Kv},(∀x∈b,key<x.key)→insK key v b=⟨key,[v]⟩::b
 | [],_=>rfl
 |h::b,hl=>by
  have h1:=hl h (List.mem_cons_self ..);unfold insK;rw[if_neg (fun e=>by rw[e]at h1;exact absurd h1 (List.lt_irrefl _)),if_pos h1]
theorem Anb{l:List Hld}{n k:Az}{v:Ver}(hn:n.length<256)(hl:LSo l)(hv:∀h∈l,Lies h.at_):keysOf n (putA l (B7 n k) v)=insK k v (keysOf n l):=by
 have hsp:keysOf n l=keysOf n (l.take (Km (Kh (B7 n k)) l))++keysOf n (l.drop (Km (Kh (B7 n k)) l)):=by
  unfold keysOf;rw[←List.filterMap_append,List.take_append_drop]
 have hA:∀x∈keysOf n (l.take (Km (Kh (B7 n k)) l)),x.key<k:=fun x hx=>by
  obtain⟨h,hh,e,_⟩:=Qq (fun h hh=>hv h (List.mem_of_mem_take hh)) hx
  have:=Amk hl h hh;rw[e,Ajo]at this;exact this
 rw[hsp,Akv hA];unfold putA putL;cases hf:bsF (Kh (B7 n k)) (eqH (B7 n k)) l with
 |true=>
  rw[if_pos rfl];obtain⟨e,h2,h3⟩:=Afp hf;have h4:e.at_=B7 n k:=by simpa[eqH]using h3
  have hi:=(List.getElem?_eq_some_iff.1 h2).1;rw[Zv h2,List.set_eq_take_append_cons_drop,if_pos hi];have hd:l.drop (Km (Kh (B7 n k)) l)=e::l.drop (Km (Kh (B7 n k)) l+1):=by
   rw[List.drop_eq_getElem_cons hi];rw[List.getElem?_eq_getElem hi]at h2;rw[Option.some.inj h2]
  rw[hd];unfold keysOf;rw[List.filterMap_append,List.filterMap_cons,List.filterMap_cons];have e1:∀vs,G3 n ⟨e.at_,vs⟩=some ⟨k,vs⟩:=fun vs=>by unfold G3;rw[h4,Mt hn];simp
  rw[e1,show G3 n e=some ⟨k,e.vs⟩from e1 e.vs];dsimp only;unfold insK;rw[if_pos rfl]
 |false=>
  rw[if_neg (by simp)]
  have hB:∀x∈keysOf n (l.drop (Km (Kh (B7 n k)) l)),k<x.key:=fun x hx=>by
   obtain⟨h,hh,e,_⟩:=Qq (fun h hh=>hv h (List.mem_of_mem_drop hh)) hx
   have:=Amh hl hf h hh;rw[e,Ajo]at this;exact this
  rw[Amp hB];unfold keysOf;rw[List.filterMap_append,List.filterMap_cons,show G3 n ⟨B7 n k,[v]⟩=some ⟨k,[v]⟩by unfold G3;rw[Mt hn];simp]
theorem Ws{n:Az}:∀{l:List Hld},LSo l→(∀h∈l,Lies h.at_)→KSo (keysOf n l)
 | [],_,_=>List.Pairwise.nil
 |h::r,hs,hv=>by
  rw[LSo,List.map_cons,List.pairwise_cons]at hs;have hv':=fun x hx=>hv x (List.mem_cons_of_mem h hx)
  have ih:=Ws (n:=n) hs.2 hv';unfold keysOf at ih ⊢;rw[List.filterMap_cons];by_cases hn:(C1 h.at_).1=n
  ·rw[show G3 n h=some ⟨(C1 h.at_).2.1,h.vs⟩by unfold G3;rw[if_pos hn]]
   dsimp only;refine List.pairwise_cons.2 ⟨fun x hx=>?_,ih⟩
   obtain⟨y,hy,e,_⟩:=Qq hv' hx;have h5:=hs.1 y.at_ (List.mem_map_of_mem hy);have hat:h.at_=B7 n (C1 h.at_).2.1:=by rw[←hn];exact(hv h (List.mem_cons_self ..)).whose.1
   rw[hat,e,Ajo]at h5;dsimp only;exact h5
  ·rw[Nv hn];exact ih

def Abb(p:Spc)(was:Ver)(c:Chg):List Ver:=if c.gone=true∧was.gone=true then[]else[Acm p c was]
def Hq:List Chg→Az→Option Chg
 | [],_=>none
 |c::r,k=>match Hq r k with
  |some d=>some d
  |none=>if c.key=k then some c else none
def Z6(p:Spc)(was:Ver):Option Chg→List Ver
 |none=>[]
 |some c=>Abb p was c
theorem Ahb{k:Az}:∀{r:List Chg} {b:Bool},Aba k r b=(b&&(Hq r k).isNone)
 | [],b=>by simp[Aba,Hq]
 |c::r,b=>by
  unfold Aba Hq;rw[Ahb];cases Hq r k with
  |some d=>simp
  |none=>
   by_cases e:c.key=k<;>simp[e]
def newK(ks:List Kv)(k:Az):Ver:=(Jm ks k).getLast?.getD Aj
theorem Agx{k:Az}{rev:Int}:∀{ks:List Kv} {v:Ver},KSo ks→(∀h∈ks,h.vs≠[]∧∀u∈h.vs,u.rev≤rev)→Z9 k rev ks v=if Jm ks k=[]then v else newK ks k
 | [],v,_,_=>by simp[Z9,Jm]
 |h::r,v,hs,hv=>by
  obtain⟨s1,s2⟩:=List.pairwise_cons.1 hs;obtain⟨v1,v2⟩:=hv h (List.mem_cons_self ..);have hv':=fun x hx=>hv x (List.mem_cons_of_mem h hx)
  unfold Z9;by_cases e:h.key=k
  ·have hlow:Jm r k=[]:=R6 fun x hx=>by rw[←e];exact s1 x hx
   have hlk:Jm (h::r) k=h.vs:=by rw[Dv,if_pos e]
   rw[if_pos e,Agx s2 hv',if_pos hlow,hlk,if_neg v1];unfold newK;rw[hlk,V1,List.filter_eq_self.2 fun u hu=>by simpa using v2 u hu]
  ·have hlk:Jm (h::r) k=Jm r k:=by rw[Dv,if_neg e]
   rw[if_neg e,Agx s2 hv',hlk];unfold newK;rw[hlk]
theorem Akz{ks:List Kv}{k:Az}(h:Jm ks k=[]):newK ks k=Aj:=by unfold newK;rw[h];rfl
theorem Ags{p:Spc}(hp:KSo p.keys)(hv:∀h∈p.keys,h.vs≠[]∧∀u∈h.vs,u.rev≤p.rev):∀{cs:List Chg} {nx:Spc},KSo nx.keys→(∀x∈nx.keys,x.vs≠[])→
 KSo (rwGo p cs nx).keys∧(∀x∈(rwGo p cs nx).keys,x.vs≠[])∧(rwGo p cs nx).name=nx.name∧(rwGo p cs nx).floor=nx.floor∧
 (∀k,Jm (rwGo p cs nx).keys k=Jm nx.keys k++Z6 p (newK p.keys k) (Hq cs k))∧
 ((rwGo p cs nx).rev=nx.rev∧(∀k,Z6 p (newK p.keys k) (Hq cs k)=[])∨(rwGo p cs nx).rev=p.rev+1∧∃k,Z6 p (newK p.keys k) (Hq cs k)≠[])
 | [],nx,h1,h2=>⟨h1,h2,rfl,rfl,fun k=>by simp[rwGo,Hq,Z6],.inl ⟨rfl,fun k=>rfl⟩⟩
 |c::r,nx,h1,h2=>by
  have hw:Z9 c.key p.rev p.keys Aj=newK p.keys c.key:=by
   rw[Agx hp hv];split
   ·rename_i e;rw[Akz e]
   ·rfl
  have hl:=Ahb (k:=c.key) (r:=r) (b:=true);rw[Bool.true_and]at hl;have hLC:∀k,Hq (c::r) k=match Hq r k with|some d=>some d|none=>if c.key=k then some c else none:=fun k=>rfl
  by_cases hskip:Aba c.key r true=false∨(c.gone=true∧(Z9 c.key p.rev p.keys Aj).gone=true)
  ·have hst:Xd p c r nx=nx:=by unfold Xd;rw[if_pos hskip]
   obtain⟨i1,i2,i3,i4,i5,i6⟩:=Ags hp hv (cs:=r) (nx:=nx) h1 h2;have heq:∀k,Z6 p (newK p.keys k) (Hq (c::r) k)=Z6 p (newK p.keys k) (Hq r k):=fun k=>by
    rw[hLC];cases hr:Hq r k with
    |some d=>rfl
    |none=>
     dsimp only;by_cases e:c.key=k
     ·subst e;rw[if_pos rfl];rcases hskip with hk|⟨g1,g2⟩
      ·rw[hl,hr]at hk;cases hk
      ·rw[hw]at g2;unfold Z6 Abb;dsimp only;rw[if_pos ⟨g1,g2⟩]
     ·rw[if_neg e]
   unfold rwGo;rw[hst];simp only[heq];exact⟨i1,i2,i3,i4,i5,i6⟩
  ·have hnl:Hq r c.key=none:=by
    cases hr:Hq r c.key with
    |none=>rfl
    |some d=>exact absurd (.inl (by rw[hl,hr];rfl)) hskip
   have hng:¬(c.gone=true∧(newK p.keys c.key).gone=true):=fun g=>hskip (.inr (by rw[hw];exact g))
   have hst:Xd p c r nx=⟨nx.name,p.rev+1,nx.floor,insK c.key (Acm p c (newK p.keys c.key)) nx.keys⟩:=by
    unfold Xd;rw[if_neg hskip,hw,Ais h1];rfl
   have hpl:Z6 p (newK p.keys c.key) (Hq (c::r) c.key)=[Acm p c (newK p.keys c.key)]:=by
    rw[hLC,hnl];dsimp only;rw[if_pos rfl];unfold Z6 Abb;dsimp only;rw[if_neg hng]
   obtain⟨i1,i2,i3,i4,i5,i6⟩:=Ags hp hv (cs:=r) (nx:=Xd p c r nx) (by rw[hst];exact Aky h1) (by rw[hst];exact Akx h2)
   refine⟨i1,i2,by rw[show rwGo p (c::r) nx=rwGo p r (Xd p c r nx)from rfl,i3,hst],by rw[show rwGo p (c::r) nx=rwGo p r (Xd p c r nx)from rfl,i4,hst],fun k=>?_,.inr ⟨?_,c.key,by rw[hpl];simp⟩⟩
   ·rw[show rwGo p (c::r) nx=rwGo p r (Xd p c r nx)from rfl,i5,hst];dsimp only;rw[Af7 k h1];by_cases e:k=c.key
    ·subst e;rw[if_pos rfl,hpl,hnl];simp[Z6]
    ·rw[if_neg e,hLC];cases Hq r k with
     |some d=>rfl
     |none=>
      dsimp only;rw[if_neg (fun q=>e q.symm)]
   ·rw[show rwGo p (c::r) nx=rwGo p r (Xd p c r nx)from rfl];rcases i6 with⟨q,_⟩|⟨q,_⟩
    ·rw[q,hst]
    ·exact q
theorem Akd{F:List Chg}{c:Chg}(k:Az):(Bm F c).find? (fun x=>decide (x.key=k))=if c.key=k then some c else F.find? (fun x=>decide (x.key=k)):=by
 unfold Bm;cases hq:F.findIdx? (fun x=>decide (x.key=c.key))with
 |none=>
  dsimp only;rw[List.findIdx?_eq_none_iff]at hq;rw[List.find?_append];by_cases e:c.key=k
  ·rw[if_pos e,List.find?_eq_none.2 (fun x hx=>by have:=hq x hx;simp at this ⊢;rw[←e];exact this)]
   simp[e]
  ·rw[if_neg e];simp[e]
 |some i=>
  dsimp only;have:∀{F:List Chg} {i:Nat},F.findIdx? (fun x=>decide (x.key=c.key))=some i→(F.set i c).find? (fun x=>decide (x.key=k))=if c.key=k then some c else F.find? (fun x=>decide (x.key=k)):=by
   intro F;induction F with
   |nil=>intro i h;simp at h
   |cons x F ih=>
    intro i h;rw[List.findIdx?_cons]at h;by_cases hx:x.key=c.key
    ·simp only[hx,decide_true,if_true,Option.some.injEq]at h;subst h;rw[List.set_cons_zero,List.find?_cons,List.find?_cons];by_cases e:c.key=k
     ·simp[e]
     ·simp[e,hx]
    ·simp only[hx,decide_false,Bool.false_eq_true,if_false,Option.map_eq_some_iff]at h;obtain⟨j,hj,rfl⟩:=h;rw[List.set_cons_succ,List.find?_cons,List.find?_cons,ih hj];by_cases e:x.key=k
     ·have:¬c.key=k:=fun q=>hx (e.trans q.symm)
      simp[e,this]
     ·simp[e]
  exact this hq
theorem Ahy:∀{cs F FF:List Chg},K6 cs F=some FF→∀k,FF.find? (fun x=>decide (x.key=k))=(Hq cs k).or (F.find? fun x=>decide (x.key=k))
 | [],F,FF,h,k=>by
   have h:some F=some FF:=h;cases h;rfl
 |c::r,F,FF,h,k=>by
  unfold K6 at h;split at h
  ·rw[Ahy h k,Akd,show Hq (c::r) k=match Hq r k with|some d=>some d|none=>if c.key=k then some c else none from rfl]
   cases Hq r k with
   |some d=>rfl
   |none=>
    dsimp only;by_cases e:c.key=k<;>simp[e]
  ·cases h

theorem Ant{l:List Hld}{n k:Az}{e:Hld}(hn:n.length<256)(hl:LSo l)(hv:∀h∈l,Lies h.at_)(he:e∈l)(ha:e.at_=B7 n k):Jm (keysOf n l) k=e.vs:=by
 have hs:=Ws (n:=n) hl hv;have hm:(⟨k,e.vs⟩:Kv)∈keysOf n l:=List.mem_filterMap.2 ⟨e,he,by unfold G3;rw[ha,Mt hn];simp⟩
 have:∀{ks:List Kv},KSo ks→(⟨k,e.vs⟩:Kv)∈ks→Jm ks k=e.vs:=by
  intro ks;induction ks with
  |nil=>intro _ h;cases h
  |cons x r ih=>
   intro hs hm;obtain⟨s1,s2⟩:=List.pairwise_cons.1 hs;rw[Dv];rcases List.mem_cons.1 hm with rfl|hm
   ·rw[if_pos rfl]
   ·have:=s1 _ hm;dsimp only at this;rw[if_neg (fun q=>by rw[q]at this;exact absurd this (List.lt_irrefl _)),ih s2 hm]
 exact this hs hm
theorem Am5{l:List Hld}{n k:Az}(hv:∀h∈l,Lies h.at_)(h:∀e∈l,e.at_≠B7 n k):Jm (keysOf n l) k=[]:=by
 unfold Jm;rw[List.find?_eq_none.2]
 ·rfl
 ·intro x hx q;simp only[decide_eq_true_eq]at q;obtain⟨e,he,h2,_⟩:=Qq hv hx;rw[q]at h2;exact h e he h2
theorem Am3{l:List Hld}{n k:Az}(hn:n.length<256)(hl:LSo l)(hv:∀h∈l,Lies h.at_):Q1 l (B7 n k)=newK (keysOf n l) k:=by
 cases hf:bsF (Kh (B7 n k)) (eqH (B7 n k)) l with
 |true=>
  obtain⟨e,h2,h3⟩:=Afp hf;rw[Ai4 hf h2];unfold newK A1;rw[Ant hn hl hv (List.mem_of_getElem? h2) (by simpa[eqH]using h3)]
 |false=>
  rw[show Q1 l (B7 n k)=Aj from Sto.lastM_no (s:=⟨[],l⟩) hf,Akz];refine Am5 hv fun e he q=>?_
  have hsplit:e∈l.take (Km (Kh (B7 n k)) l)∨e∈l.drop (Km (Kh (B7 n k)) l):=by
   rw[←List.mem_append,List.take_append_drop];exact he
  rcases hsplit with h|h
  ·have:=Amk hl e h;rw[q]at this;exact absurd this (List.lt_irrefl _)
  ·have:=Amh hl hf e h;rw[q]at this;exact absurd this (List.lt_irrefl _)
theorem Aga{n k:Az}{c:Chg}{x:WSt}{p:Spc}(hr:p.rev=x.t.rev):
 (Abb p (Q1 x.l (B7 n k)) c=[]∧(Dw n k c x).l=x.l∧(Dw n k c x).w=x.w)∨∃v,Abb p (Q1 x.l (B7 n k)) c=[v]∧(Dw n k c x).l=putA x.l (B7 n k) v∧(Dw n k c x).w=true:=by
 unfold Dw Abb Acm;dsimp only;rw[hr];by_cases h:c.gone=true∧(Q1 x.l (B7 n k)).gone=true
 ·rw[if_pos h,if_pos h];exact .inl ⟨rfl,rfl,rfl⟩
 ·rw[if_neg h,if_neg h];right;by_cases hc:c.gone=true
  ·rw[if_pos hc,if_pos hc];exact⟨_,rfl,rfl,rfl⟩
  ·rw[if_neg hc,if_neg hc];by_cases hw:(Q1 x.l (B7 n k)).gone=true
   ·rw[if_pos hw,if_pos hw];exact⟨_,rfl,rfl,rfl⟩
   ·rw[if_neg hw,if_neg hw];exact⟨_,rfl,rfl,rfl⟩
theorem Ag1{n:Az}{F:List Chg}{R:Az→Int}{p:Spc}{W:Az→Ver}(hn:n.length<256)(hp:0≤p.rev):∀{KK:List Az} {x:WSt},KK.Nodup→p.rev=x.t.rev→WInv (bndW n p.rev R KK) x.l→(∀k∈KK,newK (keysOf n x.l) k=W k)→
 (∀k,Jm (keysOf n (Ge n F KK x).l) k=Jm (keysOf n x.l) k++(if k∈KK then Abb p (W k) (Bv F k)else[]))∧
 ((Ge n F KK x).w=x.w∧(∀k∈KK,Abb p (W k) (Bv F k)=[])∨(Ge n F KK x).w=true∧∃k∈KK,Abb p (W k) (Bv F k)≠[])
 | [],x,_,_,_,_=>⟨fun k=>by simp[Ge],.inl ⟨rfl,fun k hk=>by cases hk⟩⟩
 |k0::KK,x,hd,hr,hw,hW=>by
  obtain⟨d1,d2⟩:=List.nodup_cons.1 hd;have hv:∀h∈x.l,Lies h.at_:=fun h hh=>(hw.2 h hh).1
  have g1:=Ag6 (x:=x) (R:=R) (c:=Bv F k0) hn d1 (by omega) (by rw[←hr];exact hw)
  rw[←hr]at g1;have hlast:Q1 x.l (B7 n k0)=W k0:=by rw[Am3 hn hw.1 hv];exact hW k0 (List.mem_cons_self ..)
  have hlook:∀k,Jm (keysOf n (Dw n k0 (Bv F k0) x).l) k=Jm (keysOf n x.l) k++(if k=k0 then Abb p (W k0) (Bv F k0)else[]):=by
   intro k;rcases Aga (n:=n) (k:=k0) (c:=Bv F k0) (x:=x) hr with⟨e1,e2,_⟩|⟨v,e1,e2,_⟩
   ·rw[hlast]at e1;rw[e2,e1];simp
   ·rw[hlast]at e1;rw[e2,e1,Anb hn hw.1 hv,Af7 k (Ws hw.1 hv)];by_cases e:k=k0
    ·subst e;rw[if_pos rfl,if_pos rfl]
    ·rw[if_neg e,if_neg e];simp
  obtain⟨i1,i2⟩:=Ag1 (F:=F) (R:=R) (p:=p) (W:=W) hn hp (KK:=KK) (x:=Dw n k0 (Bv F k0) x) d2 (hr.trans (Agt _ _ _ _).1.symm) g1 (fun k hk=>by
   unfold newK;rw[hlook,if_neg (fun e=>d1 (by rw[←e];exact hk)),List.append_nil]
   exact hW k (List.mem_cons_of_mem _ hk))
  refine⟨fun k=>?_,?_⟩
  ·rw[show Ge n F (k0::KK) x=Ge n F KK (Dw n k0 (Bv F k0) x)from rfl,i1,hlook];by_cases e:k=k0
   ·subst e;rw[if_pos rfl,if_neg d1,if_pos (List.mem_cons_self ..)];simp
   ·rw[if_neg e,List.append_nil];simp only[List.mem_cons,e,false_or]
  ·rw[show Ge n F (k0::KK) x=Ge n F KK (Dw n k0 (Bv F k0) x)from rfl];rcases Aga (n:=n) (k:=k0) (c:=Bv F k0) (x:=x) hr with⟨e1,e2,e3⟩|⟨v,e1,e2,e3⟩
   ·rw[hlast]at e1;rcases i2 with⟨j1,j2⟩|⟨j1,k,hk,j2⟩
    ·refine .inl ⟨j1.trans e3,fun k hk=>?_⟩
     rcases List.mem_cons.1 hk with rfl|hk
     ·exact e1
     ·exact j2 k hk
    ·exact .inr ⟨j1,k,List.mem_cons_of_mem _ hk,j2⟩
   ·rw[hlast]at e1;refine .inr ⟨?_,k0,List.mem_cons_self ..,by rw[e1];simp⟩
    rcases i2 with⟨j1,_⟩|⟨j1,_⟩
    ·rw[j1,e3]
    ·exact j1
theorem Aic:∀{cs F:List Chg},Acj cs=(K6 cs F).isSome
 | [],F=>rfl
 |c::r,F=>by
  unfold Acj K6;by_cases h:c.ok
  ·rw[if_pos h,if_pos h];exact Aic
  ·rw[if_neg h,if_neg h];rfl
theorem Amj{m:Nat}{s:Sto}(h:SInv m s){n:Az}{cs FF:List Chg}{i:Nat}(hi:s.fi n=some i)(hF:K6 cs []=some FF){q:Nat}(hq:s.names[q]?=some n):
 (s.writeM n cs).1.ref=s.ref.set q (rwGo (s.spcS n) cs (s.spcS n))∧(s.writeM n cs).2.1=(rwGo (s.spcS n) cs (s.spcS n)).rev∧(s.writeM n cs).2.2=0:=by
 have hn:=h.name hi;obtain⟨f1,f2,_⟩:=Agz hF (by simp) (by simp)
 have hrv:=h.rv n;have hv0:∀y∈s.l,Lies y.at_:=fun y hy=>(h.wi.2 y hy).1
 have hks:=Ws (n:=n) h.wi.1 hv0;have hne:∀x∈keysOf n s.l,x.vs≠[]∧∀u∈x.vs,u.rev≤(s.tal n).rev:=fun x hx=>by
  obtain⟨y,hy,e1,e2⟩:=Qq hv0 hx;rw[←e2];refine⟨(h.lb.held y hy).2.1,fun u hu=>?_⟩
  have:=((h.wi.2 y hy).2.2 u hu).2;dsimp only at this;rw[e1,Mt hn]at this;exact this
 obtain⟨r1,r2,r3,r4,r5,r6⟩:=Ags (p:=s.spcS n) hks hne (cs:=cs) (nx:=s.spcS n) hks fun x hx=>(hne x hx).1
 have hstart:=h.start n (Dc (FF.map Chg.key));obtain⟨w1,w2⟩:=Ag1 (F:=FF) (R:=fun n=>(s.tal n).rev) (p:=s.spcS n) (W:=newK (keysOf n s.l)) hn (show 0≤(s.tal n).rev by omega) (KK:=Dc (FF.map Chg.key)) (x:=⟨s.tal n,s.l,false⟩) (Ahj f1) rfl hstart fun k _=>rfl
 obtain⟨g1,g2,g3⟩:=Ahn (F:=FF) (x:=⟨s.tal n,s.l,false⟩) hn (Ahj f1) (show 0≤(s.tal n).rev by omega) hstart
 obtain⟨b1,_⟩:=Ah0 (n:=n) (F:=FF) (x:=⟨s.tal n,s.l,false⟩) (KK:=Dc (FF.map Chg.key)) (by omega) h.lb (h.tb n) fun k hk=>Ajq f2 hk
 have hplan:∀k,(if k∈Dc (FF.map Chg.key)then Abb (s.spcS n) (newK (keysOf n s.l) k) (Bv FF k)else[])=Z6 (s.spcS n) (newK (keysOf n s.l) k) (Hq cs k):=fun k=>by
  have hfd:=Ahy hF k;rw[show([]:List Chg).find? (fun x=>decide (x.key=k))=none from rfl,Option.or_none]at hfd
  by_cases hk:k∈FF.map Chg.key
  ·rw[if_pos (Aje.2 hk)];unfold Bv;cases hl:FF.find? (fun x=>decide (x.key=k))with
   |some c=>rw[←hfd,hl];rfl
   |none=>
    rw[List.find?_eq_none]at hl;obtain⟨c,hc,e⟩:=List.mem_map.1 hk;exact absurd (by simpa using e) (hl c hc)
  ·rw[if_neg (fun c=>hk (Aje.1 c)), ←hfd,List.find?_eq_none.2]
   ·rfl
   ·intro c hc e;simp only[decide_eq_true_eq]at e;exact hk (List.mem_map.2 ⟨c,hc,e⟩)
 have hwk:=Ahh (g:=fun _:Hld=>(none:Option Unit)) h n cs (fun _ _ _ _=>rfl) (fun _ _ _ _ _ _ _=>rfl)
 have hWM:s.writeM n cs=(⟨s.sp.set i (n,(Ge n FF (Dc (FF.map Chg.key)) ⟨s.tal n,s.l,false⟩).fin),(Ge n FF (Dc (FF.map Chg.key)) ⟨s.tal n,s.l,false⟩).l⟩,(Ge n FF (Dc (FF.map Chg.key)) ⟨s.tal n,s.l,false⟩).fin.rev,0):=by
  unfold Sto.writeM;rw[hi];dsimp only;rw[hF]
 have hkeep:∀k,k≠n→keysOf k (s.writeM n cs).1.l=keysOf k s.l:=fun k hk=>Ahh h n cs (fun k' v hn' _=>Nv (by dsimp only;rw[Mt hn'];exact fun e=>hk e.symm)) (fun y k' v hn' e _ _=>by
  have:(C1 y.at_).1≠k:=by rw[e,Mt hn'];exact fun e=>hk e.symm
  rw[Nv this];exact Nv this)
 rw[hWM]at hkeep ⊢;generalize Ge n FF (Dc (FF.map Chg.key)) ⟨s.tal n,s.l,false⟩=Z at*;dsimp only at w1 w2 g1 g2 g3 b1 hkeep ⊢;have hvZ:∀y∈Z.l,Lies y.at_:=fun y hy=>(g1.2 y hy).1
 have hkeys:keysOf n Z.l=(rwGo (s.spcS n) cs (s.spcS n)).keys:=by
  refine KSo.ext (Ws g1.1 hvZ) r1 (fun x hx=>?_) r2 fun k=>?_
  ·obtain⟨y,hy,_,e2⟩:=Qq hvZ hx;rw[←e2];exact(b1.held y hy).2.1
  ·rw[w1,r5,hplan];rfl
 have hrev:Z.fin.rev=(rwGo (s.spcS n) cs (s.spcS n)).rev:=by
  unfold WSt.fin;rcases w2 with⟨j1,j2⟩|⟨j1,k,hk,j2⟩
  ·rw[j1,if_neg (by simp),g2]
   rcases r6 with⟨q1,_⟩|⟨_,k,q2⟩
   ·rw[q1];rfl
   ·exfalso;have q3:Z6 (s.spcS n) (newK (keysOf n s.l) k) (Hq cs k)≠[]:=q2;rw[←hplan k]at q3;by_cases hk:k∈Dc (FF.map Chg.key)
    ·rw[if_pos hk]at q3;exact q3 (j2 k hk)
    ·rw[if_neg hk]at q3;exact q3 rfl
  ·rw[j1,if_pos rfl];dsimp only;rw[g2];rcases r6 with⟨_,q2⟩|⟨q1,_⟩
   ·exfalso;have q3:Z6 (s.spcS n) (newK (keysOf n s.l) k) (Hq cs k)=[]:=q2 k;rw[←hplan k,if_pos hk]at q3;exact j2 q3
   ·rw[q1];rfl
 refine⟨?_,hrev,rfl⟩;have hself:(Sto.mk (s.sp.set i (n,Z.fin)) Z.l).spcS n=rwGo (s.spcS n) cs (s.spcS n):=by
  unfold Sto.spcS at hkeys hrev r3 r4 ⊢;rw[Mi hi,if_pos rfl];dsimp only at r3 r4 ⊢;generalize rwGo ⟨n,(s.tal n).rev,(s.tal n).floor,keysOf n s.l⟩ cs ⟨n,(s.tal n).rev,(s.tal n).floor,keysOf n s.l⟩=Y at*;obtain⟨yn,yr,yf,yk⟩:=Y;dsimp only at hkeys hrev r3 r4;have hfl:Z.fin.floor=Z.t.floor:=by unfold WSt.fin;split<;>rfl
  rw[hkeys,hrev,hfl,g3,r3,r4]
 unfold Sto.ref;rw[show(Sto.mk (s.sp.set i (n,Z.fin)) Z.l).names=s.names by unfold Sto.names;rw[Agj hi], ←hself]
 refine(Akh (Aki h) hq fun k hk hne'=>?_).symm
 unfold Sto.spcS;rw[Mi hi,if_neg hne',hkeep k hne']

def insN(n:Az):List Az→List Az
 | []=>[n]
 |p::r=>if n<p then n::p::r else p::insN n r
theorem Ah3{n:Az}:∀{r out:List Spc},Z5 n r out true=out++r
 | [],out=>by unfold Z5;rw[if_pos rfl,List.append_nil]
 |p::r,out=>by
  unfold Z5;rw[if_neg (fun c=>by cases c.1),if_neg (fun c=>by cases c.1),Ah3,List.append_assoc];rfl
theorem Aip{f:Az→Spc}(hf:∀m,(f m).name=m){n:Az}(hn:f n=⟨n,0,0,[]⟩):∀{NM:List Az} {out:List Spc},Z5 n (NM.map f) out false=out++(insN n NM).map f
 | [],out=>by
   show Z5 n [] out false=_;unfold Z5;rw[if_neg (by simp), ←hn];rfl
 |p::r,out=>by
  show Z5 n (f p::r.map f) out false=_;unfold Z5 insN;rw[hf p];by_cases c:n<p
  ·rw[if_pos ⟨rfl,c⟩,if_pos ⟨rfl,c⟩,if_pos c,Ah3, ←hn];simp
  ·rw[if_neg (fun q=>c q.2),if_neg (fun q=>c q.2),if_neg c,Aip hf hn]
   simp
theorem Ago{n:Az}:∀{l:List Az},(insN n l).Perm (n::l)
 | []=>List.Perm.refl _
 |p::r=>by
  unfold insN;split
  ·exact List.Perm.refl _
  ·exact(List.Perm.cons p Ago).trans (List.Perm.swap ..)
theorem Ag9{n:Az}:∀{l:List Az},l.Pairwise (· ≤ ·)→(insN n l).Pairwise (· ≤ ·)
 | [],_=>by unfold insN;simp
 |p::r,h=>by
  obtain⟨h1,h2⟩:=List.pairwise_cons.1 h;unfold insN;split
  ·rename_i c;refine List.pairwise_cons.2 ⟨fun x hx=>?_,h⟩
   rcases List.mem_cons.1 hx with rfl|hx
   ·exact List.le_of_lt c
   ·exact List.le_trans (List.le_of_lt c) (h1 x hx)
  ·rename_i c;refine List.pairwise_cons.2 ⟨fun x hx=>?_,Ag9 h2⟩
   rcases List.mem_cons.1 (Ago.mem_iff.1 hx)with rfl|hx
   ·exact List.not_lt.1 c
   ·exact h1 x hx
theorem Agu(l:List Az):(Dc l).Pairwise (· ≤ ·):=by
 have:=List.pairwise_mergeSort (le:=fun x y:Az=>decide (x≤y)) (fun a b c h1 h2=>by
  simp only[decide_eq_true_eq]at*;exact List.le_trans h1 h2) (fun a b=>by
  simp only[Bool.or_eq_true,decide_eq_true_eq];exact List.le_total a b) l
 exact this.imp fun h=>by simpa using h
theorem Ah6:∀{a b:List Az},a.Pairwise (· ≤ ·)→b.Pairwise (· ≤ ·)→a.Perm b→a=b
 | [],b,_,_,h=>(List.nil_perm.1 h).symm
 |x::a,[],_,_,h=>absurd h.length_eq (by simp)
 |x::a,y::b,h1,h2,h=>by
  obtain⟨a1,a2⟩:=List.pairwise_cons.1 h1;obtain⟨b1,b2⟩:=List.pairwise_cons.1 h2;have e:x=y:=by
   have m1:x∈y::b:=h.mem_iff.1 (List.mem_cons_self ..);have m2:y∈x::a:=h.mem_iff.2 (List.mem_cons_self ..);rcases List.mem_cons.1 m1 with e|m1
   ·exact e
   ·rcases List.mem_cons.1 m2 with e|m2
    ·exact e.symm
    ·exact List.le_antisymm (a1 y m2) (b1 x m1)
  subst e;rw[Ah6 a2 b2 (List.perm_cons x |>.1 h)]
theorem Ak3(l:List Az)(n:Az):Dc (l++[n])=insN n (Dc l):=by
 refine Ah6 (Agu _) (Ag9 (Agu _)) ?_;refine(List.mergeSort_perm ..).trans (List.Perm.trans ?_ Ago.symm);exact(List.perm_append_comm (l₁ :=l) (l₂ :=[n])).trans (List.Perm.cons n (List.mergeSort_perm ..).symm)
theorem Ame{m:Nat}{s:Sto}(h:SInv m s){n:Az}(hf:s.fi n=none):keysOf n s.l=[]:=by
 cases hk:keysOf n s.l with
 |nil=>rfl
 |cons x r=>
  exfalso;have hx:x∈keysOf n s.l:=by rw[hk];exact List.mem_cons_self ..
  obtain⟨y,hy,e⟩:=List.mem_filterMap.1 hx;unfold G3 at e;split at e
  ·rename_i ew;have h3:=(h.wi.2 y hy).2.2;have h4:=(h.lb.held y hy).2.1;cases hv:y.vs with
   |nil=>exact h4 hv
   |cons v t=>
    have:=h3 v (by rw[hv];exact List.mem_cons_self ..)
    dsimp only at this;rw[ew,(Sto.fi_none hf).2]at this;unfold tal0 at this;dsimp only at this;omega
  ·cases e
theorem Amz{m:Nat}{s:Sto}(h:SInv m s){n:Az}(hf:s.fi n=none):s.spcS n=⟨n,0,0,[]⟩:=by
 unfold Sto.spcS;rw[Ame h hf,(Sto.fi_none hf).2];rfl
theorem Amx{m:Nat}{s:Sto}(h:SInv m s)(n:Az):Adw s.ref n=((s.openM (D9 n) n).1.ref,(s.openM (D9 n) n).2):=by
 cases hnm:D9 n with
 |false=>
  have e1:Adw s.ref n=(s.ref,5):=by unfold Adw;rw[if_pos hnm]
  have e2:s.openM false n=(s,5):=by unfold Sto.openM;rw[if_pos rfl]
  rw[e1,e2]
 |true=>
  have e1:Adw s.ref n=if 0≤Ev n s.ref 0 then(s.ref,15)else if 8≤s.ref.length then(s.ref,17)else(Z5 n s.ref [] false,0):=by unfold Adw;rw[if_neg (by rw[hnm];simp)]
  have e2:s.openM true n=if(s.fi n).isSome=true then(s,15)else if 8≤s.sp.length then(s,17)else({s with sp:=s.sp++[(n,tal0)]},0):=by unfold Sto.openM;rw[if_neg (by simp)]
  rw[e1,e2];cases hf:s.fi n with
  |some i=>
   obtain⟨q,hq,_⟩:=Aii (s:=s) (n:=n) (by rw[hf];rfl)
   rw[if_pos (show 0≤Ev n s.ref 0 by rw[hq];omega),if_pos (show(some i).isSome=true from rfl)]
  |none=>
   rw[if_neg (show ¬0≤Ev n s.ref 0 by rw[Aju hf];omega),if_neg (show ¬(none:Option Nat).isSome=true by simp)]
   have hl:s.ref.length=s.sp.length:=by unfold Sto.ref Sto.names;rw[List.length_map,Ajd,List.length_map]
   rw[hl];by_cases h8:8≤s.sp.length
   ·rw[if_pos h8,if_pos h8]
   ·rw[if_neg h8,if_neg h8];refine Prod.ext ?_ rfl;dsimp only;unfold Sto.ref Sto.names;dsimp only;rw[List.map_append,show([(n,tal0)]:List (Az × Tal)).map (·.1)=[n]from rfl,Ak3,Aip (f:=s.spcS) (fun _=>rfl) (Amz h hf),List.nil_append]
    refine List.map_congr_left fun k _=>?_
    unfold Sto.spcS;rw[Aij hf]

def sumV(n:Az):List Hld→Int
 | []=>0
 |h::r=>(if(C1 h.at_).1=n then(h.vs.length:Int)else 0)+sumV n r
theorem Ai6(n:Az):∀a b:List Hld,sumV n (a++b)=sumV n a+sumV n b
 | [],b=>by simp[sumV]
 |h::r,b=>by simp only[List.cons_append,sumV,Ai6 n r b];omega
theorem Ak6{n:Az}{h:Hld}:∀{l:List Hld} {p:Nat} {e:Hld},l[p]?=some e→sumV n (l.set p h)=sumV n l - (if(C1 e.at_).1=n then(e.vs.length:Int)else 0)+(if(C1 h.at_).1=n then(h.vs.length:Int)else 0)
 | [],p,e,he=>by simp at he
 |x::r,0,e,he=>by
  simp only[List.getElem?_cons_zero,Option.some.injEq]at he;subst he;simp only[List.set_cons_zero,sumV];omega
 |x::r,p+1,e,he=>by
  simp only[List.getElem?_cons_succ]at he;simp only[List.set_cons_succ,sumV,Ak6 he];omega
theorem Aen{n:Az}{l:List Hld}{a:Az}{v:Ver}:sumV n (putA l a v)=sumV n l+if(C1 a).1=n then 1 else 0:=by
 unfold putA putL;split
 ·rename_i hf;obtain⟨e,h2,h3⟩:=Afp hf;have h4:e.at_=a:=by simpa[eqH]using h3
  rw[Zv h2,Ak6 h2];dsimp only;rw[h4];split
  ·simp only[List.length_append,List.length_singleton];omega
  ·omega
 ·rename_i hf;rw[Ai6]
  conv=>rhs;rw[←List.take_append_drop (Km (Kh a) l) l,Ai6]
  simp only[sumV,List.length_singleton];split<;>omega
theorem Akj{n k:Az}{c:Chg}{x:WSt}(hn:n.length<256)(h:x.t.vers=sumV n x.l):(Dw n k c x).t.vers=sumV n (Dw n k c x).l:=by
 have hw:(C1 (B7 n k)).1=n:=by rw[Mt hn]
 unfold Dw;dsimp only;split
 ·exact h
 ·split
  ·dsimp only;rw[Aen,if_pos hw,h]
  ·split
   ·dsimp only;rw[Aen,if_pos hw,h]
   ·dsimp only;rw[Aen,if_pos hw,h]
theorem Akk{n k n':Az}{c:Chg}{x:WSt}(hn:n.length<256)(h:n'≠n):sumV n' (Dw n k c x).l=sumV n' x.l:=by
 rcases Q7 n k c x with e|⟨v,_,e,_⟩
 ·rw[e]
 ·rw[e,Aen,Mt hn,if_neg (fun q=>h q.symm)];omega
theorem Aib{n:Az}{F:List Chg}(hn:n.length<256):∀{KK:List Az} {x:WSt},x.t.vers=sumV n x.l→(Ge n F KK x).t.vers=sumV n (Ge n F KK x).l∧∀n',n'≠n→sumV n' (Ge n F KK x).l=sumV n' x.l
 | [],x,h=>⟨h,fun _ _=>rfl⟩
 |k::KK,x,h=>by
  obtain⟨a,b⟩:=Aib (F:=F) hn (KK:=KK) (Akj (k:=k) (c:=Bv F k) hn h);exact⟨a,fun n' hn'=>(b n' hn').trans (Akk hn hn')⟩
def VInv(s:Sto):Prop:=∀n,(s.tal n).vers=sumV n s.l
theorem VInv.write{m:Nat}{s:Sto}(h:SInv m s)(hc:VInv s)(n:Az)(cs:List Chg):VInv (s.writeM n cs).1:=by
 unfold Sto.writeM;split
 ·exact hc
 ·rename_i i hi;split
  ·exact hc
  ·rename_i F hF;have hn:n.length<256:=by
    obtain⟨_,_,h3⟩:=Sto.fi_some hi;exact h.nm _ (List.mem_of_getElem? h3)
   obtain⟨a,b⟩:=Aib (F:=F) hn (KK:=Dc (F.map Chg.key)) (x:=⟨s.tal n,s.l,false⟩) (hc n);generalize Ge n F (Dc (F.map Chg.key)) ⟨s.tal n,s.l,false⟩=Z at*;intro n';rw[Mi hi];dsimp only at b ⊢;by_cases e:n'=n
   ·subst e;rw[if_pos rfl, ←a];unfold WSt.fin;split<;>rfl
   ·rw[if_neg e,b n' e];exact hc n'
theorem Aku{n:Az}{rev:Int}:∀{l:List Hld} {x:CSt},(Mz n rev l x).c=x.c+sumV n (l.filterMap (Pf n rev))
 | [],x=>by show x.c=x.c+0;omega
 |h::r,x=>by
  unfold Mz;rw[Aku,List.filterMap_cons];unfold Uy Pf;by_cases e:(C1 h.at_).1=n
  ·rw[if_pos e,if_pos e];by_cases g:h.vs.length≤Lm rev h.vs
   ·rw[if_pos g,if_pos g]
   ·rw[if_neg g,if_neg g];dsimp only;simp only[sumV];rw[if_pos e,List.length_drop];omega
  ·rw[if_neg e,if_neg e];dsimp only;simp only[sumV];rw[if_neg e];omega
theorem Ak5{n n':Az}{rev:Int}(hn:n'≠n):∀{l:List Hld},sumV n' (l.filterMap (Pf n rev))=sumV n' l
 | []=>rfl
 |h::r=>by
  rw[List.filterMap_cons];have ih:=Ak5 (rev:=rev) hn (l:=r);by_cases e:(C1 h.at_).1=n
  ·have e2:¬(C1 h.at_).1=n':=fun q=>hn (q.symm.trans e)
   cases hc:Pf n rev h with
   |none=>
    dsimp only;rw[ih];simp only[sumV];rw[if_neg e2,Int.zero_add]
   |some y=>
    obtain⟨a1,k,a2,_⟩:=Agy hc;dsimp only;simp only[sumV];rw[a1,if_neg e2,if_neg e2,Int.zero_add,Int.zero_add,ih]
  ·rw[show Pf n rev h=some h by unfold Pf;rw[if_neg e]]
   dsimp only;simp only[sumV];rw[ih]
theorem VInv.comp{s:Sto}(hc:VInv s)(n:Az)(rev:Int):VInv (s.compM n rev).1:=by
 unfold Sto.compM;split
 ·exact hc
 ·rename_i i hi;split
  ·obtain⟨c1,_⟩:=Ahp (n:=n) (rev:=rev) (l:=s.l) (x:=⟨[],0⟩);have c2:=Aku (n:=n) (rev:=rev) (l:=s.l) (x:=⟨[],0⟩);rw[List.nil_append]at c1;generalize Mz n rev s.l ⟨[],0⟩=Z at*;dsimp only at c2;intro n';rw[Mi hi];dsimp only;rw[c1];by_cases e:n'=n
   ·subst e;rw[if_pos rfl];dsimp only;rw[c2];omega
   ·rw[if_neg e,Ak5 e];exact hc n'
  ·exact hc
theorem VInv.open{s:Sto}(hc:VInv s)(nm:Bool)(n:Az):VInv (s.openM nm n).1:=by
 have h2:=(Ah4 (s:=s) (nm:=nm) (n:=n) (n':=[])).2;intro n';rw[h2,Ah4.1];exact hc n'
set_option maxRecDepth 100000
set_option maxHeartbeats 40000000

open Go.Proofs
theorem Af9(s:Sto):s.ref.length=s.sp.length:=by unfold Sto.ref Sto.names;rw[List.length_map,Ajd,List.length_map]
theorem Amu(n:Az)(l:List Hld):(keysOf n l).length≤l.length:=List.length_filterMap_le _ _
theorem Aiq{n:Az}{l:List Hld}{x:Kv}(hx:x∈keysOf n l):∃y∈l,x.key=(C1 y.at_).2.1∧x.vs=y.vs:=by
 obtain⟨y,hy,e⟩:=List.mem_filterMap.1 hx;unfold G3 at e;split at e
 ·simp only[Option.some.injEq]at e;subst e;exact⟨y,hy,rfl,rfl⟩
 ·cases e
theorem Aie{m:Nat}{s:Sto}(h:SInv m s)(hm:m≤80000)(hc:CInv s)(n:Az):KvBd (keysOf n s.l)∧KL 80000 (keysOf n s.l):=by
 have hl:=Amu n s.l;have hlen:=h.lb.len;refine⟨⟨by omega,fun x hx=>?_⟩,⟨by omega,fun x hx=>?_⟩⟩
 ·obtain⟨y,hy,e1,e2⟩:=Aiq hx;obtain⟨_,_,b3,b4⟩:=h.lb.held y hy;have:=(hc.vk y hy).1;rw[e1,e2];exact⟨by omega,by omega,b4⟩
 ·obtain⟨y,hy,e1,e2⟩:=Aiq hx;obtain⟨_,_,b3,b4⟩:=h.lb.held y hy;rw[e2];omega
theorem Ajn:∀{V:List (Az × Ver)} {a:Int},prsB (V.map prOf) a=a+Ah9 V
 | [],a=>by show a=a+0;omega
 |p::r,a=>by
  show prsB (r.map prOf) (a+(p.1.length:Int)+(p.2.val.length:Int))=_;rw[Ajn];simp only[Ah9];omega

open Go.Proofs
theorem Am8{m:Nat}{s:Sto}(h:SInv m s)(hm:m≤80000)(hl:s.sp.length≤8)(hc:CInv s)(n:Az)(cs:List Chg)(hcs:cs.length≤1000):
 Fn Tryd.prog Du [rT s.ref,.v (.str n),.v (.list (cs.map Chg.toI))] (Is (.tup [.i (ti (s.writeM n cs).2.1),.i (ti (s.writeM n cs).2.2)]) [rT (s.writeM n cs).1.ref,.no,.no]):=by
 have hl2:=Af9 s;cases hf:s.fi n with
 |none=>
  rw[show s.writeM n cs=(s,0,16)by unfold Sto.writeM;rw[hf]]
  exact Akm s.ref n _ (by omega) (Aju hf)
 |some j=>
  obtain⟨i,h1,h2,h3⟩:=Aii (s:=s) (n:=n) (by rw[hf];rfl)
  cases hF:K6 cs []with
  |none=>
   rw[show s.writeM n cs=(s,0,1)by unfold Sto.writeM;rw[hf];dsimp only;rw[hF]]
   exact Ak2 s.ref n cs (by omega) hcs i (s.spcS n) h1 h2 false rfl (by rw[Aic (F:=[]),hF];rfl)
  |some FF=>
   obtain⟨e1,e2,e3⟩:=Amj h hf hF h3;rw[e1,e2,e3];have hk:=(Aie h hm hc n).2;have hr:=h.rv n;exact Amn s.ref n cs (by omega) hcs i (s.spcS n) h1 h2 ⟨Nat.le_trans hk.1 (by omega),fun x hx=>Nat.le_trans (hk.2 x hx) (by omega)⟩ ⟨by show 0≤(s.tal n).rev;omega,by show(s.tal n).rev≤_;omega⟩ true rfl (by rw[Aic (F:=[]),hF];rfl) _ rfl
theorem Ani{m:Nat}{s:Sto}(h:SInv m s)(hl:s.sp.length≤8)(n:Az):
 Fn Tryd.prog Mg [rT s.ref,.v (.str n)] (Is (.v (ti (s.openM (D9 n) n).2)) [rT (s.openM (D9 n) n).1.ref,.no]):=by
 have hl2:=Af9 s;have:=Aks s.ref n (by omega)
 rw[Amx h n]at this;exact this
theorem VInv.step{m:Nat}{s:Sto}(h:SInv m s)(hc:VInv s)(o:Opn):VInv (s.stepM o):=by
 unfold Sto.stepM;split
 ·exact hc.write h _ _
 ·split
  ·exact hc.comp _ _
  ·split
   ·exact hc.open _ _
   ·exact hc

def qB(was:Ver)(c:Chg):Int:=(if c.gone=true then 0 else(c.key.length:Int)+(c.val.length:Int)) - (if was.gone=true then 0 else(c.key.length:Int)+(was.val.length:Int))
def qK(was:Ver)(c:Chg):Int:=(if c.gone=true then 0 else 1) - (if was.gone=true then 0 else 1)
def sumI:List Int→Int
 | []=>0
 |x::r=>x+sumI r
theorem Qy{a b:List Int}(h:a.Perm b):sumI a=sumI b:=by
 induction h with
 |nil=>rfl
 |cons x _ ih=>simp only[sumI,ih]
 |swap x y l=>simp only[sumI];omega
 |trans _ _ h1 h2=>rw[h1,h2]
theorem Xc{l:List Hld}{n k k':Az}{v:Ver}(hn:n.length<256)(hl:LSo l)(hv:∀h∈l,Lies h.at_)(hk:k'≠k):Q1 (putA l (B7 n k) v) (B7 n k')=Q1 l (B7 n k'):=by
 have hv2:∀h∈putA l (B7 n k) v,Lies h.at_:=fun h hh=>by
  rcases Ajm hh with h1|rfl|⟨e,_,_,rfl⟩
  ·exact hv h h1
  ·exact⟨n,k,rfl,hn⟩
  ·exact⟨n,k,rfl,hn⟩
 rw[Am3 hn (Ajt hl) hv2,Am3 hn hl hv,Anb hn hl hv];unfold newK;rw[Af7 k' (Ws hl hv),if_neg hk]
theorem Ta(n:Az)(c:Chg)(x:WSt):(Dw n c.key c x).t.bytes=x.t.bytes+qB (Q1 x.l (B7 n c.key)) c∧(Dw n c.key c x).t.keys=x.t.keys+qK (Q1 x.l (B7 n c.key)) c:=by
 unfold Dw qB qK;dsimp only;generalize Q1 x.l (B7 n c.key)=was;cases hc:c.gone<;>cases hw:was.gone<;>simp<;>omega
theorem Qk{n k k':Az}{c:Chg}{x:WSt}(hn:n.length<256)(hl:LSo x.l)(hv:∀h∈x.l,Lies h.at_):
 (LSo (Dw n k c x).l∧∀h∈(Dw n k c x).l,Lies h.at_)∧(k'≠k→Q1 (Dw n k c x).l (B7 n k')=Q1 x.l (B7 n k')):=by
 rcases Q7 n k c x with e|⟨v,_,e,_⟩
 ·rw[e];exact⟨⟨hl,hv⟩,fun _=>rfl⟩
 ·rw[e];refine⟨⟨Ajt hl,fun h hh=>?_⟩,fun hk=>Xc hn hl hv hk⟩
  rcases Ajm hh with h1|rfl|⟨e,_,_,rfl⟩
  ·exact hv h h1
  ·exact⟨n,k,rfl,hn⟩
  ·exact⟨n,k,rfl,hn⟩
theorem Mo{n:Az}{F:List Chg}{W:Az→Ver}(hn:n.length<256):∀{KK:List Az} {x:WSt},KK.Nodup→LSo x.l→(∀h∈x.l,Lies h.at_)→(∀k∈KK,Q1 x.l (B7 n k)=W k∧(Bv F k).key=k)→
 (Ge n F KK x).t.bytes=x.t.bytes+sumI (KK.map fun k=>qB (W k) (Bv F k))∧(Ge n F KK x).t.keys=x.t.keys+sumI (KK.map fun k=>qK (W k) (Bv F k))
 | [],x,_,_,_,_=>by simp[Ge,sumI]
 |k::KK,x,hd,hl,hv,hW=>by
  obtain⟨d1,d2⟩:=List.nodup_cons.1 hd;obtain⟨w1,w2⟩:=hW k (List.mem_cons_self ..);obtain⟨s1,s2⟩:=Ta n (Bv F k) x;rw[w2,w1]at s1 s2;have hs:=fun k'=>Qk (k:=k) (k':=k') (c:=Bv F k) (x:=x) hn hl hv
  obtain⟨i1,i2⟩:=Mo (F:=F) (W:=W) hn (KK:=KK) (x:=Dw n k (Bv F k) x) d2 (hs k).1.1 (hs k).1.2 fun k' hk'=>by
   have hne:k'≠k:=fun e=>d1 (e ▸ hk')
   rw[(hs k').2 hne];exact hW k' (List.mem_cons_of_mem _ hk')
  unfold Ge;rw[i1,i2,s1,s2];simp only[List.map_cons,sumI];constructor<;>omega
theorem Wn{F:List Chg}(hd:(F.map Chg.key).Nodup){c:Chg}(hc:c∈F):Bv F c.key=c:=by
 obtain⟨q,h1,h2,h3⟩:=Adz (F:=F) (k:=c.key) (List.mem_map.2 ⟨c,hc,rfl⟩);obtain⟨i,hi⟩:=List.getElem?_of_mem hc;have e1:(F.map Chg.key)[q]?=some c.key:=by rw[List.getElem?_map,h2,Option.map_some,h3]
 have e2:(F.map Chg.key)[i]?=some c.key:=by rw[List.getElem?_map,hi];rfl
 have:q=i:=by
  obtain⟨l1,l2⟩:=List.getElem?_eq_some_iff.1 e1;obtain⟨l3,l4⟩:=List.getElem?_eq_some_iff.1 e2;exact(List.getElem_inj hd).1 (l2.trans l4.symm)
 subst this;rw[hi]at h2;exact(Option.some.inj h2).symm
theorem Mb{m:Nat}{s:Sto}(h:SInv m s){n:Az}{cs F:List Chg}{i:Nat}(hi:s.fi n=some i)(hF:K6 cs []=some F):
 ((s.writeM n cs).1.tal n).bytes=(s.tal n).bytes+sumI (F.map fun c=>qB (Q1 s.l (B7 n c.key)) c)∧((s.writeM n cs).1.tal n).keys=(s.tal n).keys+sumI (F.map fun c=>qK (Q1 s.l (B7 n c.key)) c):=by
 have hn:=h.name hi;obtain⟨f1,f2,_⟩:=Agz hF (by simp) (by simp)
 obtain⟨g1,g2⟩:=Mo (F:=F) (W:=fun k=>Q1 s.l (B7 n k)) (x:=⟨s.tal n,s.l,false⟩) hn (Ahj f1) h.wi.1 (fun x hx=>(h.wi.2 x hx).1) (fun k hk=>by
  obtain⟨_,_,_,h3⟩:=Adz (Aje.1 hk);exact⟨rfl,h3⟩)
 have e:(s.writeM n cs).1.tal n=(Ge n F (Dc (F.map Chg.key)) ⟨s.tal n,s.l,false⟩).fin:=by
  unfold Sto.writeM;simp only[hi,hF];rw[Mi hi,if_pos rfl]
 have hfin:∀x:WSt,x.fin.bytes=x.t.bytes∧x.fin.keys=x.t.keys:=fun x=>by unfold WSt.fin;split<;>exact⟨rfl,rfl⟩
 have hp:∀f:Ver→Chg→Int,sumI ((Dc (F.map Chg.key)).map fun k=>f (Q1 s.l (B7 n k)) (Bv F k))=sumI (F.map fun c=>f (Q1 s.l (B7 n c.key)) c):=fun f=>by
  have hpm:(Dc (F.map Chg.key)).Perm (F.map Chg.key):=List.mergeSort_perm ..;rw[Qy (hpm.map _),List.map_map]
  congr 1
  refine List.map_congr_left fun c hc=>?_
  simp only[Function.comp,Wn f1 hc]
 rw[e,(hfin _).1,(hfin _).2,g1,g2];exact⟨by rw[hp qB],by rw[hp qK]⟩
theorem Lr{s:Sto}{n:Az}{cs:List Chg}(h:s.fi n=none∨K6 cs []=none):(s.writeM n cs).1=s:=by
 unfold Sto.writeM;rcases h with h|h
 ·rw[h]
 ·rw[h];cases s.fi n<;>rfl
def spK1(k:Az):Sp:=⟨k,k++[0]⟩
theorem Ms{k x:Az}:SpH (spK1 k) x↔x=k:=by
 unfold SpH spK1;dsimp only;rw[←Nz (p:=k) (k:=x)];simp
theorem V8{k:Az}(hk:k.length≤64):SpR (spK1 k):=
 ⟨by simp[spK1];omega,by simp[spK1];omega,.inr ((Nz (p:=k) (k:=k)).2 rfl).2⟩
theorem U1{k:Az}{rev:Int}:∀{ks:List Kv},KSo ks→ks.filterMap (selR (spK1 k) rev)=if(Bx rev (Jm ks k) Aj).gone=true then[]else[⟨k,(Bx rev (Jm ks k) Aj).val,(Bx rev (Jm ks k) Aj).made,(Bx rev (Jm ks k) Aj).rev⟩]
 | [],_=>by
   rw[if_pos (by rfl)];rfl
 |h::r,hs=>by
  obtain⟨s1,s2⟩:=List.pairwise_cons.1 hs;have ih:=U1 (k:=k) (rev:=rev) s2;rw[List.filterMap_cons,Dv];by_cases e:h.key=k
  ·rw[if_pos e];have hno:r.filterMap (selR (spK1 k) rev)=[]:=by
    rw[List.filterMap_eq_nil_iff];intro x hx;unfold selR;rw[if_neg];rintro⟨_,h2⟩;have h3:x.key=k:=Ms.1 h2;have h4:=s1 x hx;rw[h3, ←e]at h4;exact absurd h4 (List.lt_irrefl _)
   have hin:SpH (spK1 k) h.key:=by rw[e];exact Ms.2 rfl
   unfold selR;cases hg:(Bx rev h.vs Aj).gone with
   |true=>
    rw[if_neg (fun c=>by cases c.1)]
    simp only[if_true];exact hno
   |false=>
    rw[if_pos ⟨rfl,hin⟩];simp only[Bool.false_eq_true,if_false];rw[show r.filterMap (fun h=>if(Bx rev h.vs Aj).gone=false∧SpH (spK1 k) h.key then some (⟨h.key,(Bx rev h.vs Aj).val,(Bx rev h.vs Aj).made,(Bx rev h.vs Aj).rev⟩:Pr)else none)=[]from hno,e]
  ·rw[if_neg e, ←ih];have:selR (spK1 k) rev h=none:=by
    unfold selR;rw[if_neg];rintro⟨_,h2⟩;exact e (Ms.1 h2)
   rw[this]
def Vw(was:Ver)(k:Az):List Pr:=if was.gone=true then[]else[⟨k,was.val,was.made,was.rev⟩]
theorem Xn{m:Nat}{s:Sto}(h:SInv m s){n k:Az}{i:Nat}(hi:s.fi n=some i)(hk:k.length≤64):s.rangeM n (spK1 k) 0 1=(Vw (Q1 s.l (B7 n k)) k,false,0):=by
 have hn:=h.name hi;have hl:=h.wi.1;have hv:∀h∈s.l,Lies h.at_:=fun x hx=>(h.wi.2 x hx).1
 have hr:=h.rv n;have hR:=V8 hk;have hks:=Ws (n:=n) hl hv;have hat:Bx (s.tal n).rev (Jm (keysOf n s.l) k) Aj=Q1 s.l (B7 n k):=by
  rw[Am3 hn hl hv,V1];unfold newK;rw[List.filter_eq_self.2];intro v hv2;have:∃e∈s.l,e.at_=B7 n k∧v∈e.vs:=by
   unfold Jm at hv2;cases hf:(keysOf n s.l).find? (fun h=>decide (h.key=k))with
   |none=>rw[hf]at hv2;cases hv2
   |some x=>
    rw[hf]at hv2;obtain⟨e,he,h1,h2⟩:=Qq hv (List.mem_of_find?_eq_some hf);have h3:x.key=k:=by simpa using List.find?_some hf
    rw[h3]at h1;exact⟨e,he,h1,by rw[h2];exact hv2⟩
  obtain⟨e,he,h1,h2⟩:=this;have h3:=((h.wi.2 e he).2.2 v h2).2;dsimp only at h3;rw[h1,Mt hn]at h3;simpa using h3
 unfold Sto.rangeM;rw[hi];rw[if_neg (by simp),if_neg (Classical.not_not.2 ⟨hR,by omega,by omega,by omega⟩),if_neg (by omega),if_neg (by omega),if_pos rfl,Ai2 hn hl hv]
 have:=Aiz (x:=spK1 k) (m:=1) (V:=Lh n (s.tal n).rev s.l) (out:=[]) (by simp)
 rw[show((1:Nat):Int)=(1:Int)from rfl]at this;rw[this];have hvs:=Ajh (n:=n) (x:=spK1 k) (rev:=(s.tal n).rev) (l:=s.l) fun x hx=>(h.wi.2 x hx).2.1
 have hlen:((Lh n (s.tal n).rev s.l).filter fun p=>decide (SpH (spK1 k) p.1)).length=((keysOf n s.l).filterMap (selR (spK1 k) (s.tal n).rev)).length:=by rw[←hvs,List.length_map]
 rw[hlen,hvs,U1 hks,hat];unfold Vw;split<;>simp
end Go.Ab
