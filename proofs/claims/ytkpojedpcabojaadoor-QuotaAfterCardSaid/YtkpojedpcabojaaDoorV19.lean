/- Lemmas -/
import Derived.Test.YtkpojedpcabojaaDoorY10
set_option linter.unusedVariables false
set_option linter.unusedSimpArgs false
namespace Go.Ab
def Sto.spcS(s:Sto)(n:Az):Spc:=⟨n,(s.tal n).rev,(s.tal n).floor,keysOf n s.l⟩
def Sto.ref(s:Sto):List Spc:=s.names.map s.spcS
theorem Agp{s:Sto}{n:Az}:n∈s.names↔(s.fi n).isSome=true:=by
 unfold Sto.names;rw[Aje,Aiv]
theorem Ain{f:Az→Spc}(hf:∀n,(f n).name=n){n:Az}:∀{NM:List Az} {k:Nat},n ∉ NM→Ev n (NM.map f) k= -1
 | [],k,_=>rfl
 |m::NM,k,h=>by
  rw[List.map_cons];unfold Ev;rw[if_neg (by rw[hf];intro e;exact h (by rw[e];exact List.mem_cons_self ..))]
  exact Ain hf fun c=>h (List.mem_cons_of_mem _ c)
theorem Ahz{f:Az→Spc}(hf:∀n,(f n).name=n){n:Az}:∀{NM:List Az} {k:Nat},n∈NM→∃i,Ev n (NM.map f) k=((k+i:Nat):Int)∧NM[i]?=some n
 | [],k,h=>by cases h
 |m::NM,k,h=>by
  rw[List.map_cons];unfold Ev;by_cases e:m=n
  ·rw[if_pos (by rw[hf];exact e)]
   exact⟨0,by simp,by simp[e]⟩
  ·rw[if_neg (by rw[hf];exact e)]
   obtain⟨i,h1,h2⟩:=Ahz hf (n:=n) (NM:=NM) (k:=k+1) ((List.mem_cons.1 h).resolve_left fun c=>e c.symm)
   exact⟨i+1,by rw[h1];congr 1;omega,by simpa using h2⟩
theorem Aju{s:Sto}{n:Az}(h:s.fi n=none):Ev n s.ref 0= -1:=Ain (fun _=>rfl) fun c=>by rw[Agp,h]at c;cases c
theorem Aii{s:Sto}{n:Az}(h:(s.fi n).isSome=true):∃i:Nat,Ev n s.ref 0=(i:Int)∧s.ref[i]?=some (s.spcS n)∧s.names[i]?=some n:=by
 obtain⟨i,h1,h2⟩:=Ahz (f:=s.spcS) (fun _=>rfl) (k:=0) (Agp.2 h)
 exact⟨i,by rw[Nat.zero_add]at h1;exact h1,by unfold Sto.ref;rw[List.getElem?_map,h2];rfl,h2⟩
theorem Akh{α:Type}{f g:Az→α}{NM:List Az}(hd:NM.Nodup){i:Nat}{n:Az}(hi:NM[i]?=some n)(h:∀m∈NM,m≠n→g m=f m):(NM.map f).set i (g n)=NM.map g:=by
 apply List.ext_getElem?;intro j;rw[List.getElem?_set,List.getElem?_map,List.getElem?_map,List.length_map];obtain⟨hil,e⟩:=List.getElem?_eq_some_iff.1 hi;by_cases hij:i=j
 ·subst hij;rw[if_pos rfl,if_pos hil,hi];rfl
 ·rw[if_neg hij];cases hj:NM[j]? with
  |none=>rfl
  |some m=>
   obtain⟨hjl,e2⟩:=List.getElem?_eq_some_iff.1 hj;have hne:m≠n:=by
    rintro rfl;have hp:=List.pairwise_iff_getElem.1 hd;rcases Nat.lt_or_gt_of_ne hij with c|c
    ·exact hp i j hil hjl c (e.trans e2.symm)
    ·exact hp j i hjl hil c (e2.trans e.symm)
   simp only[Option.map_some];rw[h m (List.mem_of_getElem? hj) hne]
theorem Nv{n:Az}{h:Hld}(e:(C1 h.at_).1≠n):G3 n h=none:=by unfold G3;rw[if_neg e]
theorem Aki{m:Nat}{s:Sto}(h:SInv m s):s.names.Nodup:=Ahj h.nd

def Jm(ks:List Kv)(k:Az):List Ver:=((ks.find? fun h=>decide (h.key=k)).map (·.vs)).getD []
abbrev KSo(ks:List Kv):Prop:=ks.Pairwise fun a b=>a.key<b.key
theorem Dv(h:Kv)(r:List Kv)(k:Az):Jm (h::r) k=if h.key=k then h.vs else Jm r k:=by
 unfold Jm;rw[List.find?_cons];by_cases e:h.key=k
 ·simp[e]
 ·simp[e]
theorem R6{ks:List Kv}{k:Az}(h:∀x∈ks,k<x.key):Jm ks k=[]:=by
 unfold Jm;rw[List.find?_eq_none.2]
 ·rfl
 ·intro x hx e;simp only[decide_eq_true_eq]at e;have:=h x hx;rw[e]at this;exact absurd this (List.lt_irrefl k)
theorem KSo.ext:∀{a b:List Kv},KSo a→KSo b→(∀x∈a,x.vs≠[])→(∀x∈b,x.vs≠[])→(∀k,Jm a k=Jm b k)→a=b
 | [],[],_,_,_,_,_=>rfl
 | [],y::b,_,_,_,hb,h=>by
   have:=h y.key;rw[Dv,if_pos rfl]at this;exact absurd this.symm (hb y (List.mem_cons_self ..))
 |x::a,[],_,_,ha,_,h=>by
  have:=h x.key;rw[Dv,if_pos rfl]at this;exact absurd this (ha x (List.mem_cons_self ..))
 |x::a,y::b,h1,h2,ha,hb,h=>by
  obtain⟨a1,a2⟩:=List.pairwise_cons.1 h1;obtain⟨b1,b2⟩:=List.pairwise_cons.1 h2;have hxy:x.key=y.key:=by
   by_cases e:x.key=y.key
   ·exact e
   exfalso;by_cases c:x.key<y.key
   ·have:=h x.key;rw[Dv,if_pos rfl,R6 (ks:=y::b) (fun z hz=>by
     rcases List.mem_cons.1 hz with rfl|hz
     ·exact c
     ·exact List.lt_trans c (b1 z hz))]at this
    exact ha x (List.mem_cons_self ..) this
   ·have c2:y.key<x.key:=Std.lt_of_le_of_ne (List.not_lt.1 c) fun q=>e q.symm
    have:=h y.key;rw[Dv (h:=y),if_pos rfl,R6 (ks:=x::a) (fun z hz=>by
     rcases List.mem_cons.1 hz with rfl|hz
     ·exact c2
     ·exact List.lt_trans c2 (a1 z hz))]at this
    exact hb y (List.mem_cons_self ..) this.symm
  have hv:x.vs=y.vs:=by
   have:=h x.key;rw[Dv,if_pos rfl,Dv,if_pos hxy.symm]at this;exact this
  have htl:∀k,Jm a k=Jm b k:=fun k=>by
   by_cases e:x.key=k
   ·rw[R6 (ks:=a) (fun z hz=>by rw[←e];exact a1 z hz),R6 (ks:=b) (fun z hz=>by rw[←e,hxy];exact b1 z hz)]
   ·have:=h k;rw[Dv,if_neg e,Dv,if_neg (by rw[←hxy];exact e)]at this
    exact this
  rw[KSo.ext a2 b2 (fun z hz=>ha z (List.mem_cons_of_mem _ hz)) (fun z hz=>hb z (List.mem_cons_of_mem _ hz)) htl]
  obtain⟨xk,xv⟩:=x;obtain⟨yk,yv⟩:=y;dsimp only at hxy hv;rw[hxy,hv]
def insK(key:Az)(v:Ver):List Kv→List Kv
 | []=>[⟨key,[v]⟩]
 |h::r=>if h.key=key then⟨h.key,h.vs++[v]⟩::r else if key<h.key then⟨key,[v]⟩::h::r else h::insK key v r
theorem Agi{key:Az}{v:Ver}:∀{r out:List Kv},(∀x∈r,key<x.key)→N2 key v r out true=out++r
 | [],out,_=>by simp[N2]
 |h::r,out,hl=>by
  have h1:=hl h (List.mem_cons_self ..);unfold N2;rw[if_neg (fun e=>by rw[e]at h1;exact absurd h1 (List.lt_irrefl _)),if_neg (fun c=>by cases c.1),if_neg (fun c=>by cases c.1),Agi fun x hx=>hl x (List.mem_cons_of_mem _ hx)]
  simp
theorem Ais{key:Az}{v:Ver}:∀{r out:List Kv},KSo r→N2 key v r out false=out++insK key v r
 | [],out,_=>by simp[N2,insK]
 |h::r,out,hs=>by
  obtain⟨s1,s2⟩:=List.pairwise_cons.1 hs;unfold N2 insK;by_cases e:h.key=key
  ·rw[if_pos e,if_pos e,if_neg (fun c=>by rw[e]at c;exact absurd c.2 (List.lt_irrefl _)),Agi fun x hx=>by rw[←e];exact s1 x hx]
   simp
  ·rw[if_neg e,if_neg e];by_cases c:key<h.key
   ·rw[if_pos ⟨rfl,c⟩,if_pos ⟨rfl,c⟩,if_pos c,Agi fun x hx=>List.lt_trans c (s1 x hx)]
    simp
   ·rw[if_neg (fun q=>c q.2),if_neg (fun q=>c q.2),if_neg c,Ais s2]
    simp
theorem Ajg{key:Az}{v:Ver}:∀{r:List Kv} {x:Kv},x∈insK key v r→x∈r∨x.key=key
 | [],x,h=>by
   unfold insK at h;simp only[List.mem_singleton]at h;exact .inr (by rw[h])
 |h::r,x,hx=>by
  unfold insK at hx;split at hx
  ·rename_i e;rcases List.mem_cons.1 hx with rfl|hx
   ·exact .inr e
   ·exact .inl (List.mem_cons_of_mem _ hx)
  ·split at hx
   ·rcases List.mem_cons.1 hx with rfl|hx
    ·exact .inr rfl
    ·exact .inl hx
   ·rcases List.mem_cons.1 hx with rfl|hx
    ·exact .inl (List.mem_cons_self ..)
    ·rcases Ajg hx with h'|h'
     ·exact .inl (List.mem_cons_of_mem _ h')
     ·exact .inr h'
theorem Aky{key:Az}{v:Ver}:∀{r:List Kv},KSo r→KSo (insK key v r)
 | [],_=>by simp[insK,KSo]
 |h::r,hs=>by
  obtain⟨s1,s2⟩:=List.pairwise_cons.1 hs;unfold insK;split
  ·exact List.pairwise_cons.2 ⟨s1,s2⟩
  ·rename_i e;split
   ·rename_i c;refine List.pairwise_cons.2 ⟨fun x hx=>?_,hs⟩
    rcases List.mem_cons.1 hx with rfl|hx
    ·exact c
    ·exact List.lt_trans c (s1 x hx)
   ·rename_i c;refine List.pairwise_cons.2 ⟨fun x hx=>?_,Aky s2⟩
    rcases Ajg hx with hx|hx
    ·exact s1 x hx
    ·rw[hx];exact Std.lt_of_le_of_ne (List.not_lt.1 c) e
theorem Akx{key:Az}{v:Ver}:∀{r:List Kv},(∀x∈r,x.vs≠[])→∀x∈insK key v r,x.vs≠[]
 | [],_,x,hx=>by
   unfold insK at hx;simp only[List.mem_singleton]at hx;rw[hx];simp
 |h::r,hn,x,hx=>by
  unfold insK at hx;split at hx
  ·rcases List.mem_cons.1 hx with rfl|hx
   ·simp
   ·exact hn x (List.mem_cons_of_mem _ hx)
  ·split at hx
   ·rcases List.mem_cons.1 hx with rfl|hx
    ·simp
    ·exact hn x hx
   ·rcases List.mem_cons.1 hx with rfl|hx
    ·exact hn x (List.mem_cons_self ..)
    ·exact Akx (fun y hy=>hn y (List.mem_cons_of_mem _ hy)) x hx
theorem Af7{key:Az}{v:Ver}:∀{r:List Kv} (k:Az),KSo r→Jm (insK key v r) k=if k=key then Jm r key++[v]else Jm r k
 | [],k,_=>by
   unfold insK;rw[Dv];by_cases e:k=key
   ·subst e;simp[Jm]
   ·rw[if_neg (fun c=>e c.symm),if_neg e]
 |h::r,k,hs=>by
  obtain⟨s1,s2⟩:=List.pairwise_cons.1 hs;unfold insK;by_cases e:h.key=key
  ·rw[if_pos e,Dv,Dv,Dv,if_pos e];by_cases c:k=key
   ·subst c;rw[if_pos e,if_pos rfl]
   ·rw[if_neg (by rw[e];exact fun q=>c q.symm),if_neg c,if_neg (by rw[e];exact fun q=>c q.symm)]
  ·rw[if_neg e];by_cases c:key<h.key
   ·rw[if_pos c,Dv];by_cases d:k=key
    ·subst d;rw[if_pos rfl,if_pos rfl,R6 (ks:=h::r) fun x hx=>by
      rcases List.mem_cons.1 hx with rfl|hx
      ·exact c
      ·exact List.lt_trans c (s1 x hx)]
     rfl
    ·rw[if_neg (fun q=>d q.symm),if_neg d]
   ·rw[if_neg c,Dv,Af7 k s2,Dv,Dv];by_cases d:k=key
    ·subst d;rw[if_neg e,if_pos rfl,if_pos rfl,if_neg e]
    ·rw[if_neg d,if_neg d]

theorem Amk{l:List Hld}{a:Az}(hl:LSo l):∀x∈l.take (Km (Kh a) l),x.at_<a:=by
 rw[LSo,List.pairwise_map]at hl;intro x hx;have:=(Aho (lt:=Kh a) (l:=l) (hl.imp fun {x y} hab hb=>by simp only[Kh,decide_eq_true_eq]at*;exact List.lt_trans hab hb)).1 x hx
 simpa[Kh]using this
theorem Amg{l:List Hld}{a:Az}(hl:LSo l):∀x∈l.drop (Km (Kh a) l),¬x.at_<a:=by
 rw[LSo,List.pairwise_map]at hl;intro x hx;have:=(Aho (lt:=Kh a) (l:=l) (hl.imp fun {x y} hab hb=>by simp only[Kh,decide_eq_true_eq]at*;exact List.lt_trans hab hb)).2 x hx
 simpa[Kh]using this
theorem Amh{l:List Hld}{a:Az}(hl:LSo l)(hf:bsF (Kh a) (eqH a) l=false):∀x∈l.drop (Km (Kh a) l),a<x.at_:=by
 intro x hx;have h3:=Amg hl x hx;have hl':=hl;rw[LSo,List.pairwise_map]at hl';obtain⟨j,hj,rfl⟩:=List.mem_iff_getElem.1 hx;rw[List.length_drop]at hj;rw[List.getElem_drop]at h3 ⊢;have hne:l[Km (Kh a) l+j].at_≠a:=by
  intro e;cases j with
  |zero=>
   unfold bsF at hf;rw[List.getElem?_eq_getElem (show Km (Kh a) l<l.length by omega)]at hf
   simp only[Option.any_some,eqH,decide_eq_false_iff_not]at hf;exact hf e
  |succ j=>
   have h4:=List.pairwise_iff_getElem.1 hl' (Km (Kh a) l) (Km (Kh a) l+(j+1)) (by omega) (by omega) (by omega)
   rw[e]at h4;exact Amg hl (l[Km (Kh a) l]'(by omega)) (by rw[List.drop_eq_getElem_cons (by omega)];exact List.mem_cons_self ..) h4
 exact Std.lt_of_le_of_ne (List.not_lt.1 h3) (Ne.symm hne)
theorem Ajo{n a b:Az}:B7 n a<B7 n b↔a<b:=by rw[Ahd n a,Ahd n b,Aj7]
theorem Qq{n:Az}{l:List Hld}{x:Kv}(hv:∀h∈l,Lies h.at_)(hx:x∈keysOf n l):∃h∈l,h.at_=B7 n x.key∧h.vs=x.vs:=by
 obtain⟨h,hh,e⟩:=List.mem_filterMap.1 hx;unfold G3 at e;split at e
 ·rename_i hn;cases e;exact⟨h,hh,by rw[←hn];exact(hv h hh).whose.1,rfl⟩
 ·cases e
theorem Akv{key:Az}{v:Ver}:∀{a b:List Kv},(∀x∈a,x.key<key)→insK key v (a++b)=a++insK key v b
 | [],b,_=>rfl
 |h::a,b,hl=>by
  have h1:=hl h (List.mem_cons_self ..);rw[List.cons_append]
  conv=>lhs;unfold insK
  rw[if_neg (fun e=>by rw[e]at h1;exact absurd h1 (List.lt_irrefl _)),if_neg (fun c=>absurd (List.lt_trans c h1) (List.lt_irrefl _)),Akv fun x hx=>hl x (List.mem_cons_of_mem _ hx)]
  rfl
theorem Amp{key:Az}{v:Ver}:∀{b:List Kv},(∀x∈b,key<x.key)→insK key v b=⟨key,[v]⟩::b
 | [],_=>rfl
 |h::b,hl=>by
  have h1:=hl h (List.mem_cons_self ..);unfold insK;rw[if_neg (fun e=>by rw[e]at h1;exact absurd h1 (List.lt_irrefl _)),if_pos h1]
theorem Anb{l:List Hld}{n k:Az}{v:Ver}(hn:n.length<256)(hl:LSo l)(hv:∀h∈l,Lies h.at_):keysOf n (putA l (B7 n k) v)=insK k v (keysOf n l):=by
 have hsp:keysOf n l=keysOf n (l.take (Km (Kh (B7 n k)) l))++keysOf n (l.drop (Km (Kh (B7 n k)) l)):=by
  unfold keysOf;rw[←List.filterMap_append,List.take_append_drop]
 have hA:∀x∈keysOf n (l.take (Km (Kh (B7 n k)) l)),x.key<k:=fun x hx=>by
  obtain⟨h,hh,e,_⟩:=Qq (fun h hh=>hv h (List.mem_of_mem_take hh)) hx
  have:=Amk hl h hh;rw[e,Ajo]at this;exact this
 rw[hsp,Akv hA];unfold putA putL;cases hf:bsF (Kh (B7 n k)) (eqH (B7 n k)) l with
 |true=>
  rw[if_pos rfl];obtain⟨e,h2,h3⟩:=Afp hf;have h4:e.at_=B7 n k:=by simpa[eqH]using h3
  have hi:=(List.getElem?_eq_some_iff.1 h2).1;rw[Zv h2,List.set_eq_take_append_cons_drop,if_pos hi];have hd:l.drop (Km (Kh (B7 n k)) l)=e::l.drop (Km (Kh (B7 n k)) l+1):=by
   rw[List.drop_eq_getElem_cons hi];rw[List.getElem?_eq_getElem hi]at h2;rw[Option.some.inj h2]
  rw[hd];unfold keysOf;rw[List.filterMap_append,List.filterMap_cons,List.filterMap_cons];have e1:∀vs,G3 n ⟨e.at_,vs⟩=some ⟨k,vs⟩:=fun vs=>by unfold G3;rw[h4,Mt hn];simp
  rw[e1,show G3 n e=some ⟨k,e.vs⟩from e1 e.vs];dsimp only;unfold insK;rw[if_pos rfl]
 |false=>
  rw[if_neg (by simp)]
  have hB:∀x∈keysOf n (l.drop (Km (Kh (B7 n k)) l)),k<x.key:=fun x hx=>by
   obtain⟨h,hh,e,_⟩:=Qq (fun h hh=>hv h (List.mem_of_mem_drop hh)) hx
   have:=Amh hl hf h hh;rw[e,Ajo]at this;exact this
  rw[Amp hB];unfold keysOf;rw[List.filterMap_append,List.filterMap_cons,show G3 n ⟨B7 n k,[v]⟩=some ⟨k,[v]⟩by unfold G3;rw[Mt hn];simp]
theorem Ws{n:Az}:∀{l:List Hld},LSo l→(∀h∈l,Lies h.at_)→KSo (keysOf n l)
 | [],_,_=>List.Pairwise.nil
 |h::r,hs,hv=>by
  rw[LSo,List.map_cons,List.pairwise_cons]at hs;have hv':=fun x hx=>hv x (List.mem_cons_of_mem h hx)
  have ih:=Ws (n:=n) hs.2 hv';unfold keysOf at ih ⊢;rw[List.filterMap_cons];by_cases hn:(C1 h.at_).1=n
  ·rw[show G3 n h=some ⟨(C1 h.at_).2.1,h.vs⟩by unfold G3;rw[if_pos hn]]
   dsimp only;refine List.pairwise_cons.2 ⟨fun x hx=>?_,ih⟩
   obtain⟨y,hy,e,_⟩:=Qq hv' hx;have h5:=hs.1 y.at_ (List.mem_map_of_mem hy);have hat:h.at_=B7 n (C1 h.at_).2.1:=by rw[←hn];exact(hv h (List.mem_cons_self ..)).whose.1
   rw[hat,e,Ajo]at h5;dsimp only;exact h5
  ·rw[Nv hn];exact ih

def Abb(p:Spc)(was:Ver)(c:Chg):List Ver:=if c.gone=true∧was.gone=true then[]else[Acm p c was]
def Hq:List Chg→Az→Option Chg
 | [],_=>none
 |c::r,k=>match Hq r k with
  |some d=>some d
  |none=>if c.key=k then some c else none
def Z6(p:Spc)(was:Ver):Option Chg→List Ver
 |none=>[]
 |some c=>Abb p was c
theorem Ahb{k:Az}:∀{r:List Chg} {b:Bool},Aba k r b=(b&&(Hq r k).isNone)
 | [],b=>by simp[Aba,Hq]
 |c::r,b=>by
  unfold Aba Hq;rw[Ahb];cases Hq r k with
  |some d=>simp
  |none=>
   by_cases e:c.key=k<;>simp[e]
def newK(ks:List Kv)(k:Az):Ver:=(Jm ks k).getLast?.getD Aj
theorem Agx{k:Az}{rev:Int}:∀{ks:List Kv} {v:Ver},KSo ks→(∀h∈ks,h.vs≠[]∧∀u∈h.vs,u.rev≤rev)→Z9 k rev ks v=if Jm ks k=[]then v else newK ks k
 | [],v,_,_=>by simp[Z9,Jm]
 |h::r,v,hs,hv=>by
  obtain⟨s1,s2⟩:=List.pairwise_cons.1 hs;obtain⟨v1,v2⟩:=hv h (List.mem_cons_self ..);have hv':=fun x hx=>hv x (List.mem_cons_of_mem h hx)
  unfold Z9;by_cases e:h.key=k
  ·have hlow:Jm r k=[]:=R6 fun x hx=>by rw[←e];exact s1 x hx
   have hlk:Jm (h::r) k=h.vs:=by rw[Dv,if_pos e]
   rw[if_pos e,Agx s2 hv',if_pos hlow,hlk,if_neg v1];unfold newK;rw[hlk,V1,List.filter_eq_self.2 fun u hu=>by simpa using v2 u hu]
  ·have hlk:Jm (h::r) k=Jm r k:=by rw[Dv,if_neg e]
   rw[if_neg e,Agx s2 hv',hlk];unfold newK;rw[hlk]
theorem Akz{ks:List Kv}{k:Az}(h:Jm ks k=[]):newK ks k=Aj:=by unfold newK;rw[h];rfl
theorem Ags{p:Spc}(hp:KSo p.keys)(hv:∀h∈p.keys,h.vs≠[]∧∀u∈h.vs,u.rev≤p.rev):∀{cs:List Chg} {nx:Spc},KSo nx.keys→(∀x∈nx.keys,x.vs≠[])→
 KSo (rwGo p cs nx).keys∧(∀x∈(rwGo p cs nx).keys,x.vs≠[])∧(rwGo p cs nx).name=nx.name∧(rwGo p cs nx).floor=nx.floor∧
 (∀k,Jm (rwGo p cs nx).keys k=Jm nx.keys k++Z6 p (newK p.keys k) (Hq cs k))∧
 ((rwGo p cs nx).rev=nx.rev∧(∀k,Z6 p (newK p.keys k) (Hq cs k)=[])∨(rwGo p cs nx).rev=p.rev+1∧∃k,Z6 p (newK p.keys k) (Hq cs k)≠[])
 | [],nx,h1,h2=>⟨h1,h2,rfl,rfl,fun k=>by simp[rwGo,Hq,Z6],.inl ⟨rfl,fun k=>rfl⟩⟩
 |c::r,nx,h1,h2=>by
  have hw:Z9 c.key p.rev p.keys Aj=newK p.keys c.key:=by
   rw[Agx hp hv];split
   ·rename_i e;rw[Akz e]
   ·rfl
  have hl:=Ahb (k:=c.key) (r:=r) (b:=true);rw[Bool.true_and]at hl;have hLC:∀k,Hq (c::r) k=match Hq r k with|some d=>some d|none=>if c.key=k then some c else none:=fun k=>rfl
  by_cases hskip:Aba c.key r true=false∨(c.gone=true∧(Z9 c.key p.rev p.keys Aj).gone=true)
  ·have hst:Xd p c r nx=nx:=by unfold Xd;rw[if_pos hskip]
   obtain⟨i1,i2,i3,i4,i5,i6⟩:=Ags hp hv (cs:=r) (nx:=nx) h1 h2;have heq:∀k,Z6 p (newK p.keys k) (Hq (c::r) k)=Z6 p (newK p.keys k) (Hq r k):=fun k=>by
    rw[hLC];cases hr:Hq r k with
    |some d=>rfl
    |none=>
     dsimp only;by_cases e:c.key=k
     ·subst e;rw[if_pos rfl];rcases hskip with hk|⟨g1,g2⟩
      ·rw[hl,hr]at hk;cases hk
      ·rw[hw]at g2;unfold Z6 Abb;dsimp only;rw[if_pos ⟨g1,g2⟩]
     ·rw[if_neg e]
   unfold rwGo;rw[hst];simp only[heq];exact⟨i1,i2,i3,i4,i5,i6⟩
  ·have hnl:Hq r c.key=none:=by
    cases hr:Hq r c.key with
    |none=>rfl
    |some d=>exact absurd (.inl (by rw[hl,hr];rfl)) hskip
   have hng:¬(c.gone=true∧(newK p.keys c.key).gone=true):=fun g=>hskip (.inr (by rw[hw];exact g))
   have hst:Xd p c r nx=⟨nx.name,p.rev+1,nx.floor,insK c.key (Acm p c (newK p.keys c.key)) nx.keys⟩:=by
    unfold Xd;rw[if_neg hskip,hw,Ais h1];rfl
   have hpl:Z6 p (newK p.keys c.key) (Hq (c::r) c.key)=[Acm p c (newK p.keys c.key)]:=by
    rw[hLC,hnl];dsimp only;rw[if_pos rfl];unfold Z6 Abb;dsimp only;rw[if_neg hng]
   obtain⟨i1,i2,i3,i4,i5,i6⟩:=Ags hp hv (cs:=r) (nx:=Xd p c r nx) (by rw[hst];exact Aky h1) (by rw[hst];exact Akx h2)
   refine⟨i1,i2,by rw[show rwGo p (c::r) nx=rwGo p r (Xd p c r nx)from rfl,i3,hst],by rw[show rwGo p (c::r) nx=rwGo p r (Xd p c r nx)from rfl,i4,hst],fun k=>?_,.inr ⟨?_,c.key,by rw[hpl];simp⟩⟩
   ·rw[show rwGo p (c::r) nx=rwGo p r (Xd p c r nx)from rfl,i5,hst];dsimp only;rw[Af7 k h1];by_cases e:k=c.key
    ·subst e;rw[if_pos rfl,hpl,hnl];simp[Z6]
    ·rw[if_neg e,hLC];cases Hq r k with
     |some d=>rfl
     |none=>
      dsimp only;rw[if_neg (fun q=>e q.symm)]
   ·rw[show rwGo p (c::r) nx=rwGo p r (Xd p c r nx)from rfl];rcases i6 with⟨q,_⟩|⟨q,_⟩
    ·rw[q,hst]
    ·exact q
theorem Akd{F:List Chg}{c:Chg}(k:Az):(Bm F c).find? (fun x=>decide (x.key=k))=if c.key=k then some c else F.find? (fun x=>decide (x.key=k)):=by
 unfold Bm;cases hq:F.findIdx? (fun x=>decide (x.key=c.key))with
 |none=>
  dsimp only;rw[List.findIdx?_eq_none_iff]at hq;rw[List.find?_append];by_cases e:c.key=k
  ·rw[if_pos e,List.find?_eq_none.2 (fun x hx=>by have:=hq x hx;simp at this ⊢;rw[←e];exact this)]
   simp[e]
  ·rw[if_neg e];simp[e]
 |some i=>
  dsimp only;have:∀{F:List Chg} {i:Nat},F.findIdx? (fun x=>decide (x.key=c.key))=some i→(F.set i c).find? (fun x=>decide (x.key=k))=if c.key=k then some c else F.find? (fun x=>decide (x.key=k)):=by
   intro F;induction F with
   |nil=>intro i h;simp at h
   |cons x F ih=>
    intro i h;rw[List.findIdx?_cons]at h;by_cases hx:x.key=c.key
    ·simp only[hx,decide_true,if_true,Option.some.injEq]at h;subst h;rw[List.set_cons_zero,List.find?_cons,List.find?_cons];by_cases e:c.key=k
     ·simp[e]
     ·simp[e,hx]
    ·simp only[hx,decide_false,Bool.false_eq_true,if_false,Option.map_eq_some_iff]at h;obtain⟨j,hj,rfl⟩:=h;rw[List.set_cons_succ,List.find?_cons,List.find?_cons,ih hj];by_cases e:x.key=k
     ·have:¬c.key=k:=fun q=>hx (e.trans q.symm)
      simp[e,this]
     ·simp[e]
  exact this hq
theorem Ahy:∀{cs F FF:List Chg},K6 cs F=some FF→∀k,FF.find? (fun x=>decide (x.key=k))=(Hq cs k).or (F.find? fun x=>decide (x.key=k))
 | [],F,FF,h,k=>by
   have h:some F=some FF:=h;cases h;rfl
 |c::r,F,FF,h,k=>by
  unfold K6 at h;split at h
  ·rw[Ahy h k,Akd,show Hq (c::r) k=match Hq r k with|some d=>some d|none=>if c.key=k then some c else none from rfl]
   cases Hq r k with
   |some d=>rfl
   |none=>
    dsimp only;by_cases e:c.key=k<;>simp[e]
  ·cases h

theorem Ant{l:List Hld}{n k:Az}{e:Hld}(hn:n.length<256)(hl:LSo l)(hv:∀h∈l,Lies h.at_)(he:e∈l)(ha:e.at_=B7 n k):Jm (keysOf n l) k=e.vs:=by
 have hs:=Ws (n:=n) hl hv;have hm:(⟨k,e.vs⟩:Kv)∈keysOf n l:=List.mem_filterMap.2 ⟨e,he,by unfold G3;rw[ha,Mt hn];simp⟩
 have:∀{ks:List Kv},KSo ks→(⟨k,e.vs⟩:Kv)∈ks→Jm ks k=e.vs:=by
  intro ks;induction ks with
  |nil=>intro _ h;cases h
  |cons x r ih=>
   intro hs hm;obtain⟨s1,s2⟩:=List.pairwise_cons.1 hs;rw[Dv];rcases List.mem_cons.1 hm with rfl|hm
   ·rw[if_pos rfl]
   ·have:=s1 _ hm;dsimp only at this;rw[if_neg (fun q=>by rw[q]at this;exact absurd this (List.lt_irrefl _)),ih s2 hm]
 exact this hs hm
theorem Am5{l:List Hld}{n k:Az}(hv:∀h∈l,Lies h.at_)(h:∀e∈l,e.at_≠B7 n k):Jm (keysOf n l) k=[]:=by
 unfold Jm;rw[List.find?_eq_none.2]
 ·rfl
 ·intro x hx q;simp only[decide_eq_true_eq]at q;obtain⟨e,he,h2,_⟩:=Qq hv hx;rw[q]at h2;exact h e he h2
theorem Am3{l:List Hld}{n k:Az}(hn:n.length<256)(hl:LSo l)(hv:∀h∈l,Lies h.at_):Q1 l (B7 n k)=newK (keysOf n l) k:=by
 cases hf:bsF (Kh (B7 n k)) (eqH (B7 n k)) l with
 |true=>
  obtain⟨e,h2,h3⟩:=Afp hf;rw[Ai4 hf h2];unfold newK A1;rw[Ant hn hl hv (List.mem_of_getElem? h2) (by simpa[eqH]using h3)]
 |false=>
  rw[show Q1 l (B7 n k)=Aj from Sto.lastM_no (s:=⟨[],l⟩) hf,Akz];refine Am5 hv fun e he q=>?_
  have hsplit:e∈l.take (Km (Kh (B7 n k)) l)∨e∈l.drop (Km (Kh (B7 n k)) l):=by
   rw[←List.mem_append,List.take_append_drop];exact he
  rcases hsplit with h|h
  ·have:=Amk hl e h;rw[q]at this;exact absurd this (List.lt_irrefl _)
  ·have:=Amh hl hf e h;rw[q]at this;exact absurd this (List.lt_irrefl _)
theorem Aga{n k:Az}{c:Chg}{x:WSt}{p:Spc}(hr:p.rev=x.t.rev):
 (Abb p (Q1 x.l (B7 n k)) c=[]∧(Dw n k c x).l=x.l∧(Dw n k c x).w=x.w)∨∃v,Abb p (Q1 x.l (B7 n k)) c=[v]∧(Dw n k c x).l=putA x.l (B7 n k) v∧(Dw n k c x).w=true:=by
 unfold Dw Abb Acm;dsimp only;rw[hr];by_cases h:c.gone=true∧(Q1 x.l (B7 n k)).gone=true
 ·rw[if_pos h,if_pos h];exact .inl ⟨rfl,rfl,rfl⟩
 ·rw[if_neg h,if_neg h];right;by_cases hc:c.gone=true
  ·rw[if_pos hc,if_pos hc];exact⟨_,rfl,rfl,rfl⟩
  ·rw[if_neg hc,if_neg hc];by_cases hw:(Q1 x.l (B7 n k)).gone=true
   ·rw[if_pos hw,if_pos hw];exact⟨_,rfl,rfl,rfl⟩
   ·rw[if_neg hw,if_neg hw];exact⟨_,rfl,rfl,rfl⟩
theorem Ag1{n:Az}{F:List Chg}{R:Az→Int}{p:Spc}{W:Az→Ver}(hn:n.length<256)(hp:0≤p.rev):∀{KK:List Az} {x:WSt},KK.Nodup→p.rev=x.t.rev→WInv (bndW n p.rev R KK) x.l→(∀k∈KK,newK (keysOf n x.l) k=W k)→
 (∀k,Jm (keysOf n (Ge n F KK x).l) k=Jm (keysOf n x.l) k++(if k∈KK then Abb p (W k) (Bv F k)else[]))∧
 ((Ge n F KK x).w=x.w∧(∀k∈KK,Abb p (W k) (Bv F k)=[])∨(Ge n F KK x).w=true∧∃k∈KK,Abb p (W k) (Bv F k)≠[])
 | [],x,_,_,_,_=>⟨fun k=>by simp[Ge],.inl ⟨rfl,fun k hk=>by cases hk⟩⟩
 |k0::KK,x,hd,hr,hw,hW=>by
  obtain⟨d1,d2⟩:=List.nodup_cons.1 hd;have hv:∀h∈x.l,Lies h.at_:=fun h hh=>(hw.2 h hh).1
  have g1:=Ag6 (x:=x) (R:=R) (c:=Bv F k0) hn d1 (by omega) (by rw[←hr];exact hw)
  rw[←hr]at g1;have hlast:Q1 x.l (B7 n k0)=W k0:=by rw[Am3 hn hw.1 hv];exact hW k0 (List.mem_cons_self ..)
  have hlook:∀k,Jm (keysOf n (Dw n k0 (Bv F k0) x).l) k=Jm (keysOf n x.l) k++(if k=k0 then Abb p (W k0) (Bv F k0)else[]):=by
   intro k;rcases Aga (n:=n) (k:=k0) (c:=Bv F k0) (x:=x) hr with⟨e1,e2,_⟩|⟨v,e1,e2,_⟩
   ·rw[hlast]at e1;rw[e2,e1];simp
   ·rw[hlast]at e1;rw[e2,e1,Anb hn hw.1 hv,Af7 k (Ws hw.1 hv)];by_cases e:k=k0
    ·subst e;rw[if_pos rfl,if_pos rfl]
    ·rw[if_neg e,if_neg e];simp
  obtain⟨i1,i2⟩:=Ag1 (F:=F) (R:=R) (p:=p) (W:=W) hn hp (KK:=KK) (x:=Dw n k0 (Bv F k0) x) d2 (hr.trans (Agt _ _ _ _).1.symm) g1 (fun k hk=>by
   unfold newK;rw[hlook,if_neg (fun e=>d1 (by rw[←e];exact hk)),List.append_nil]
   exact hW k (List.mem_cons_of_mem _ hk))
  refine⟨fun k=>?_,?_⟩
  ·rw[show Ge n F (k0::KK) x=Ge n F KK (Dw n k0 (Bv F k0) x)from rfl,i1,hlook];by_cases e:k=k0
   ·subst e;rw[if_pos rfl,if_neg d1,if_pos (List.mem_cons_self ..)];simp
   ·rw[if_neg e,List.append_nil];simp only[List.mem_cons,e,false_or]
  ·rw[show Ge n F (k0::KK) x=Ge n F KK (Dw n k0 (Bv F k0) x)from rfl];rcases Aga (n:=n) (k:=k0) (c:=Bv F k0) (x:=x) hr with⟨e1,e2,e3⟩|⟨v,e1,e2,e3⟩
   ·rw[hlast]at e1;rcases i2 with⟨j1,j2⟩|⟨j1,k,hk,j2⟩
    ·refine .inl ⟨j1.trans e3,fun k hk=>?_⟩
     rcases List.mem_cons.1 hk with rfl|hk
     ·exact e1
     ·exact j2 k hk
    ·exact .inr ⟨j1,k,List.mem_cons_of_mem _ hk,j2⟩
   ·rw[hlast]at e1;refine .inr ⟨?_,k0,List.mem_cons_self ..,by rw[e1];simp⟩
    rcases i2 with⟨j1,_⟩|⟨j1,_⟩
    ·rw[j1,e3]
    ·exact j1
theorem Aic:∀{cs F:List Chg},Acj cs=(K6 cs F).isSome
 | [],F=>rfl
 |c::r,F=>by
  unfold Acj K6;by_cases h:c.ok
  ·rw[if_pos h,if_pos h];exact Aic
  ·rw[if_neg h,if_neg h];rfl
theorem Amj{m:Nat}{s:Sto}(h:SInv m s){n:Az}{cs FF:List Chg}{i:Nat}(hi:s.fi n=some i)(hF:K6 cs []=some FF){q:Nat}(hq:s.names[q]?=some n):
 (s.writeM n cs).1.ref=s.ref.set q (rwGo (s.spcS n) cs (s.spcS n))∧(s.writeM n cs).2.1=(rwGo (s.spcS n) cs (s.spcS n)).rev∧(s.writeM n cs).2.2=0:=by
 have hn:=h.name hi;obtain⟨f1,f2,_⟩:=Agz hF (by simp) (by simp)
 have hrv:=h.rv n;have hv0:∀y∈s.l,Lies y.at_:=fun y hy=>(h.wi.2 y hy).1
 have hks:=Ws (n:=n) h.wi.1 hv0;have hne:∀x∈keysOf n s.l,x.vs≠[]∧∀u∈x.vs,u.rev≤(s.tal n).rev:=fun x hx=>by
  obtain⟨y,hy,e1,e2⟩:=Qq hv0 hx;rw[←e2];refine⟨(h.lb.held y hy).2.1,fun u hu=>?_⟩
  have:=((h.wi.2 y hy).2.2 u hu).2;dsimp only at this;rw[e1,Mt hn]at this;exact this
 obtain⟨r1,r2,r3,r4,r5,r6⟩:=Ags (p:=s.spcS n) hks hne (cs:=cs) (nx:=s.spcS n) hks fun x hx=>(hne x hx).1
 have hstart:=h.start n (Dc (FF.map Chg.key));obtain⟨w1,w2⟩:=Ag1 (F:=FF) (R:=fun n=>(s.tal n).rev) (p:=s.spcS n) (W:=newK (keysOf n s.l)) hn (show 0≤(s.tal n).rev by omega) (KK:=Dc (FF.map Chg.key)) (x:=⟨s.tal n,s.l,false⟩) (Ahj f1) rfl hstart fun k _=>rfl
 obtain⟨g1,g2,g3⟩:=Ahn (F:=FF) (x:=⟨s.tal n,s.l,false⟩) hn (Ahj f1) (show 0≤(s.tal n).rev by omega) hstart
 obtain⟨b1,_⟩:=Ah0 (n:=n) (F:=FF) (x:=⟨s.tal n,s.l,false⟩) (KK:=Dc (FF.map Chg.key)) (by omega) h.lb (h.tb n) fun k hk=>Ajq f2 hk
 have hplan:∀k,(if k∈Dc (FF.map Chg.key)then Abb (s.spcS n) (newK (keysOf n s.l) k) (Bv FF k)else[])=Z6 (s.spcS n) (newK (keysOf n s.l) k) (Hq cs k):=fun k=>by
  have hfd:=Ahy hF k;rw[show([]:List Chg).find? (fun x=>decide (x.key=k))=none from rfl,Option.or_none]at hfd
  by_cases hk:k∈FF.map Chg.key
  ·rw[if_pos (Aje.2 hk)];unfold Bv;cases hl:FF.find? (fun x=>decide (x.key=k))with
   |some c=>rw[←hfd,hl];rfl
   |none=>
    rw[List.find?_eq_none]at hl;obtain⟨c,hc,e⟩:=List.mem_map.1 hk;exact absurd (by simpa using e) (hl c hc)
  ·rw[if_neg (fun c=>hk (Aje.1 c)), ←hfd,List.find?_eq_none.2]
   ·rfl
   ·intro c hc e;simp only[decide_eq_true_eq]at e;exact hk (List.mem_map.2 ⟨c,hc,e⟩)
 have hwk:=Ahh (g:=fun _:Hld=>(none:Option Unit)) h n cs (fun _ _ _ _=>rfl) (fun _ _ _ _ _ _ _=>rfl)
 have hWM:s.writeM n cs=(⟨s.sp.set i (n,(Ge n FF (Dc (FF.map Chg.key)) ⟨s.tal n,s.l,false⟩).fin),(Ge n FF (Dc (FF.map Chg.key)) ⟨s.tal n,s.l,false⟩).l⟩,(Ge n FF (Dc (FF.map Chg.key)) ⟨s.tal n,s.l,false⟩).fin.rev,0):=by
  unfold Sto.writeM;rw[hi];dsimp only;rw[hF]
 have hkeep:∀k,k≠n→keysOf k (s.writeM n cs).1.l=keysOf k s.l:=fun k hk=>Ahh h n cs (fun k' v hn' _=>Nv (by dsimp only;rw[Mt hn'];exact fun e=>hk e.symm)) (fun y k' v hn' e _ _=>by
  have:(C1 y.at_).1≠k:=by rw[e,Mt hn'];exact fun e=>hk e.symm
  rw[Nv this];exact Nv this)
 rw[hWM]at hkeep ⊢;generalize Ge n FF (Dc (FF.map Chg.key)) ⟨s.tal n,s.l,false⟩=Z at*;dsimp only at w1 w2 g1 g2 g3 b1 hkeep ⊢;have hvZ:∀y∈Z.l,Lies y.at_:=fun y hy=>(g1.2 y hy).1
 have hkeys:keysOf n Z.l=(rwGo (s.spcS n) cs (s.spcS n)).keys:=by
  refine KSo.ext (Ws g1.1 hvZ) r1 (fun x hx=>?_) r2 fun k=>?_
  ·obtain⟨y,hy,_,e2⟩:=Qq hvZ hx;rw[←e2];exact(b1.held y hy).2.1
  ·rw[w1,r5,hplan];rfl
 have hrev:Z.fin.rev=(rwGo (s.spcS n) cs (s.spcS n)).rev:=by
  unfold WSt.fin;rcases w2 with⟨j1,j2⟩|⟨j1,k,hk,j2⟩
  ·rw[j1,if_neg (by simp),g2]
   rcases r6 with⟨q1,_⟩|⟨_,k,q2⟩
   ·rw[q1];rfl
   ·exfalso;have q3:Z6 (s.spcS n) (newK (keysOf n s.l) k) (Hq cs k)≠[]:=q2;rw[←hplan k]at q3;by_cases hk:k∈Dc (FF.map Chg.key)
    ·rw[if_pos hk]at q3;exact q3 (j2 k hk)
    ·rw[if_neg hk]at q3;exact q3 rfl
  ·rw[j1,if_pos rfl];dsimp only;rw[g2];rcases r6 with⟨_,q2⟩|⟨q1,_⟩
   ·exfalso;have q3:Z6 (s.spcS n) (newK (keysOf n s.l) k) (Hq cs k)=[]:=q2 k;rw[←hplan k,if_pos hk]at q3;exact j2 q3
   ·rw[q1];rfl
 refine⟨?_,hrev,rfl⟩;have hself:(Sto.mk (s.sp.set i (n,Z.fin)) Z.l).spcS n=rwGo (s.spcS n) cs (s.spcS n):=by
  unfold Sto.spcS at hkeys hrev r3 r4 ⊢;rw[Mi hi,if_pos rfl];dsimp only at r3 r4 ⊢;generalize rwGo ⟨n,(s.tal n).rev,(s.tal n).floor,keysOf n s.l⟩ cs ⟨n,(s.tal n).rev,(s.tal n).floor,keysOf n s.l⟩=Y at*;obtain⟨yn,yr,yf,yk⟩:=Y;dsimp only at hkeys hrev r3 r4;have hfl:Z.fin.floor=Z.t.floor:=by unfold WSt.fin;split<;>rfl
  rw[hkeys,hrev,hfl,g3,r3,r4]
 unfold Sto.ref;rw[show(Sto.mk (s.sp.set i (n,Z.fin)) Z.l).names=s.names by unfold Sto.names;rw[Agj hi], ←hself]
 refine(Akh (Aki h) hq fun k hk hne'=>?_).symm
 unfold Sto.spcS;rw[Mi hi,if_neg hne',hkeep k hne']

def insN(n:Az):List Az→List Az
 | []=>[n]
 |p::r=>if n<p then n::p::r else p::insN n r
theorem Ah3{n:Az}:∀{r out:List Spc},Z5 n r out true=out++r
 | [],out=>by unfold Z5;rw[if_pos rfl,List.append_nil]
 |p::r,out=>by
  unfold Z5;rw[if_neg (fun c=>by cases c.1),if_neg (fun c=>by cases c.1),Ah3,List.append_assoc];rfl
theorem Aip{f:Az→Spc}(hf:∀m,(f m).name=m){n:Az}(hn:f n=⟨n,0,0,[]⟩):∀{NM:List Az} {out:List Spc},Z5 n (NM.map f) out false=out++(insN n NM).map f
 | [],out=>by
   show Z5 n [] out false=_;unfold Z5;rw[if_neg (by simp), ←hn];rfl
 |p::r,out=>by
  show Z5 n (f p::r.map f) out false=_;unfold Z5 insN;rw[hf p];by_cases c:n<p
  ·rw[if_pos ⟨rfl,c⟩,if_pos ⟨rfl,c⟩,if_pos c,Ah3, ←hn];simp
  ·rw[if_neg (fun q=>c q.2),if_neg (fun q=>c q.2),if_neg c,Aip hf hn]
   simp
theorem Ago{n:Az}:∀{l:List Az},(insN n l).Perm (n::l)
 | []=>List.Perm.refl _
 |p::r=>by
  unfold insN;split
  ·exact List.Perm.refl _
  ·exact(List.Perm.cons p Ago).trans (List.Perm.swap ..)
theorem Ag9{n:Az}:∀{l:List Az},l.Pairwise (· ≤ ·)→(insN n l).Pairwise (· ≤ ·)
 | [],_=>by unfold insN;simp
 |p::r,h=>by
  obtain⟨h1,h2⟩:=List.pairwise_cons.1 h;unfold insN;split
  ·rename_i c;refine List.pairwise_cons.2 ⟨fun x hx=>?_,h⟩
   rcases List.mem_cons.1 hx with rfl|hx
   ·exact List.le_of_lt c
   ·exact List.le_trans (List.le_of_lt c) (h1 x hx)
  ·rename_i c;refine List.pairwise_cons.2 ⟨fun x hx=>?_,Ag9 h2⟩
   rcases List.mem_cons.1 (Ago.mem_iff.1 hx)with rfl|hx
   ·exact List.not_lt.1 c
   ·exact h1 x hx
theorem Agu(l:List Az):(Dc l).Pairwise (· ≤ ·):=by
 have:=List.pairwise_mergeSort (le:=fun x y:Az=>decide (x≤y)) (fun a b c h1 h2=>by
  simp only[decide_eq_true_eq]at*;exact List.le_trans h1 h2) (fun a b=>by
  simp only[Bool.or_eq_true,decide_eq_true_eq];exact List.le_total a b) l
 exact this.imp fun h=>by simpa using h
theorem Ah6:∀{a b:List Az},a.Pairwise (· ≤ ·)→b.Pairwise (· ≤ ·)→a.Perm b→a=b
 | [],b,_,_,h=>(List.nil_perm.1 h).symm
 |x::a,[],_,_,h=>absurd h.length_eq (by simp)
 |x::a,y::b,h1,h2,h=>by
  obtain⟨a1,a2⟩:=List.pairwise_cons.1 h1;obtain⟨b1,b2⟩:=List.pairwise_cons.1 h2;have e:x=y:=by
   have m1:x∈y::b:=h.mem_iff.1 (List.mem_cons_self ..);have m2:y∈x::a:=h.mem_iff.2 (List.mem_cons_self ..);rcases List.mem_cons.1 m1 with e|m1
   ·exact e
   ·rcases List.mem_cons.1 m2 with e|m2
    ·exact e.symm
    ·exact List.le_antisymm (a1 y m2) (b1 x m1)
  subst e;rw[Ah6 a2 b2 (List.perm_cons x |>.1 h)]
theorem Ak3(l:List Az)(n:Az):Dc (l++[n])=insN n (Dc l):=by
 refine Ah6 (Agu _) (Ag9 (Agu _)) ?_;refine(List.mergeSort_perm ..).trans (List.Perm.trans ?_ Ago.symm);exact(List.perm_append_comm (l₁ :=l) (l₂ :=[n])).trans (List.Perm.cons n (List.mergeSort_perm ..).symm)
theorem Ame{m:Nat}{s:Sto}(h:SInv m s){n:Az}(hf:s.fi n=none):keysOf n s.l=[]:=by
 cases hk:keysOf n s.l with
 |nil=>rfl
 |cons x r=>
  exfalso;have hx:x∈keysOf n s.l:=by rw[hk];exact List.mem_cons_self ..
  obtain⟨y,hy,e⟩:=List.mem_filterMap.1 hx;unfold G3 at e;split at e
  ·rename_i ew;have h3:=(h.wi.2 y hy).2.2;have h4:=(h.lb.held y hy).2.1;cases hv:y.vs with
   |nil=>exact h4 hv
   |cons v t=>
    have:=h3 v (by rw[hv];exact List.mem_cons_self ..)
    dsimp only at this;rw[ew,(Sto.fi_none hf).2]at this;unfold tal0 at this;dsimp only at this;omega
  ·cases e
theorem Amz{m:Nat}{s:Sto}(h:SInv m s){n:Az}(hf:s.fi n=none):s.spcS n=⟨n,0,0,[]⟩:=by
 unfold Sto.spcS;rw[Ame h hf,(Sto.fi_none hf).2];rfl
theorem Amx{m:Nat}{s:Sto}(h:SInv m s)(n:Az):Adw s.ref n=((s.openM (D9 n) n).1.ref,(s.openM (D9 n) n).2):=by
 cases hnm:D9 n with
 |false=>
  have e1:Adw s.ref n=(s.ref,5):=by unfold Adw;rw[if_pos hnm]
  have e2:s.openM false n=(s,5):=by unfold Sto.openM;rw[if_pos rfl]
  rw[e1,e2]
 |true=>
  have e1:Adw s.ref n=if 0≤Ev n s.ref 0 then(s.ref,15)else if 8≤s.ref.length then(s.ref,17)else(Z5 n s.ref [] false,0):=by unfold Adw;rw[if_neg (by rw[hnm];simp)]
  have e2:s.openM true n=if(s.fi n).isSome=true then(s,15)else if 8≤s.sp.length then(s,17)else({s with sp:=s.sp++[(n,tal0)]},0):=by unfold Sto.openM;rw[if_neg (by simp)]
  rw[e1,e2];cases hf:s.fi n with
  |some i=>
   obtain⟨q,hq,_⟩:=Aii (s:=s) (n:=n) (by rw[hf];rfl)
   rw[if_pos (show 0≤Ev n s.ref 0 by rw[hq];omega),if_pos (show(some i).isSome=true from rfl)]
  |none=>
   rw[if_neg (show ¬0≤Ev n s.ref 0 by rw[Aju hf];omega),if_neg (show ¬(none:Option Nat).isSome=true by simp)]
   have hl:s.ref.length=s.sp.length:=by unfold Sto.ref Sto.names;rw[List.length_map,Ajd,List.length_map]
   rw[hl];by_cases h8:8≤s.sp.length
   ·rw[if_pos h8,if_pos h8]
   ·rw[if_neg h8,if_neg h8];refine Prod.ext ?_ rfl;dsimp only;unfold Sto.ref Sto.names;dsimp only;rw[List.map_append,show([(n,tal0)]:List (Az × Tal)).map (·.1)=[n]from rfl,Ak3,Aip (f:=s.spcS) (fun _=>rfl) (Amz h hf),List.nil_append]
    refine List.map_congr_left fun k _=>?_
    unfold Sto.spcS;rw[Aij hf]

def sumV(n:Az):List Hld→Int
 | []=>0
 |h::r=>(if(C1 h.at_).1=n then(h.vs.length:Int)else 0)+sumV n r
theorem Ai6(n:Az):∀a b:List Hld,sumV n (a++b)=sumV n a+sumV n b
 | [],b=>by simp[sumV]
 |h::r,b=>by simp only[List.cons_append,sumV,Ai6 n r b];omega
theorem Ak6{n:Az}{h:Hld}:∀{l:List Hld} {p:Nat} {e:Hld},l[p]?=some e→sumV n (l.set p h)=sumV n l - (if(C1 e.at_).1=n then(e.vs.length:Int)else 0)+(if(C1 h.at_).1=n then(h.vs.length:Int)else 0)
 | [],p,e,he=>by simp at he
 |x::r,0,e,he=>by
  simp only[List.getElem?_cons_zero,Option.some.injEq]at he;subst he;simp only[List.set_cons_zero,sumV];omega
 |x::r,p+1,e,he=>by
  simp only[List.getElem?_cons_succ]at he;simp only[List.set_cons_succ,sumV,Ak6 he];omega
theorem Aen{n:Az}{l:List Hld}{a:Az}{v:Ver}:sumV n (putA l a v)=sumV n l+if(C1 a).1=n then 1 else 0:=by
 unfold putA putL;split
 ·rename_i hf;obtain⟨e,h2,h3⟩:=Afp hf;have h4:e.at_=a:=by simpa[eqH]using h3
  rw[Zv h2,Ak6 h2];dsimp only;rw[h4];split
  ·simp only[List.length_append,List.length_singleton];omega
  ·omega
 ·rename_i hf;rw[Ai6]
  conv=>rhs;rw[←List.take_append_drop (Km (Kh a) l) l,Ai6]
  simp only[sumV,List.length_singleton];split<;>omega
theorem Akj{n k:Az}{c:Chg}{x:WSt}(hn:n.length<256)(h:x.t.vers=sumV n x.l):(Dw n k c x).t.vers=sumV n (Dw n k c x).l:=by
 have hw:(C1 (B7 n k)).1=n:=by rw[Mt hn]
 unfold Dw;dsimp only;split
 ·exact h
 ·split
  ·dsimp only;rw[Aen,if_pos hw,h]
  ·split
   ·dsimp only;rw[Aen,if_pos hw,h]
   ·dsimp only;rw[Aen,if_pos hw,h]
theorem Akk{n k n':Az}{c:Chg}{x:WSt}(hn:n.length<256)(h:n'≠n):sumV n' (Dw n k c x).l=sumV n' x.l:=by
 rcases Q7 n k c x with e|⟨v,_,e,_⟩
 ·rw[e]
 ·rw[e,Aen,Mt hn,if_neg (fun q=>h q.symm)];omega
theorem Aib{n:Az}{F:List Chg}(hn:n.length<256):∀{KK:List Az} {x:WSt},x.t.vers=sumV n x.l→(Ge n F KK x).t.vers=sumV n (Ge n F KK x).l∧∀n',n'≠n→sumV n' (Ge n F KK x).l=sumV n' x.l
 | [],x,h=>⟨h,fun _ _=>rfl⟩
 |k::KK,x,h=>by
  obtain⟨a,b⟩:=Aib (F:=F) hn (KK:=KK) (Akj (k:=k) (c:=Bv F k) hn h);exact⟨a,fun n' hn'=>(b n' hn').trans (Akk hn hn')⟩
def VInv(s:Sto):Prop:=∀n,(s.tal n).vers=sumV n s.l
theorem VInv.write{m:Nat}{s:Sto}(h:SInv m s)(hc:VInv s)(n:Az)(cs:List Chg):VInv (s.writeM n cs).1:=by
 unfold Sto.writeM;split
 ·exact hc
 ·rename_i i hi;split
  ·exact hc
  ·rename_i F hF;have hn:n.length<256:=by
    obtain⟨_,_,h3⟩:=Sto.fi_some hi;exact h.nm _ (List.mem_of_getElem? h3)
   obtain⟨a,b⟩:=Aib (F:=F) hn (KK:=Dc (F.map Chg.key)) (x:=⟨s.tal n,s.l,false⟩) (hc n);generalize Ge n F (Dc (F.map Chg.key)) ⟨s.tal n,s.l,false⟩=Z at*;intro n';rw[Mi hi];dsimp only at b ⊢;by_cases e:n'=n
   ·subst e;rw[if_pos rfl, ←a];unfold WSt.fin;split<;>rfl
   ·rw[if_neg e,b n' e];exact hc n'
theorem Aku{n:Az}{rev:Int}:∀{l:List Hld} {x:CSt},(Mz n rev l x).c=x.c+sumV n (l.filterMap (Pf n rev))
 | [],x=>by show x.c=x.c+0;omega
 |h::r,x=>by
  unfold Mz;rw[Aku,List.filterMap_cons];unfold Uy Pf;by_cases e:(C1 h.at_).1=n
  ·rw[if_pos e,if_pos e];by_cases g:h.vs.length≤Lm rev h.vs
   ·rw[if_pos g,if_pos g]
   ·rw[if_neg g,if_neg g];dsimp only;simp only[sumV];rw[if_pos e,List.length_drop];omega
  ·rw[if_neg e,if_neg e];dsimp only;simp only[sumV];rw[if_neg e];omega
theorem Ak5{n n':Az}{rev:Int}(hn:n'≠n):∀{l:List Hld},sumV n' (l.filterMap (Pf n rev))=sumV n' l
 | []=>rfl
 |h::r=>by
  rw[List.filterMap_cons];have ih:=Ak5 (rev:=rev) hn (l:=r);by_cases e:(C1 h.at_).1=n
  ·have e2:¬(C1 h.at_).1=n':=fun q=>hn (q.symm.trans e)
   cases hc:Pf n rev h with
   |none=>
    dsimp only;rw[ih];simp only[sumV];rw[if_neg e2,Int.zero_add]
   |some y=>
    obtain⟨a1,k,a2,_⟩:=Agy hc;dsimp only;simp only[sumV];rw[a1,if_neg e2,if_neg e2,Int.zero_add,Int.zero_add,ih]
  ·rw[show Pf n rev h=some h by unfold Pf;rw[if_neg e]]
   dsimp only;simp only[sumV];rw[ih]
theorem VInv.comp{s:Sto}(hc:VInv s)(n:Az)(rev:Int):VInv (s.compM n rev).1:=by
 unfold Sto.compM;split
 ·exact hc
 ·rename_i i hi;split
  ·obtain⟨c1,_⟩:=Ahp (n:=n) (rev:=rev) (l:=s.l) (x:=⟨[],0⟩);have c2:=Aku (n:=n) (rev:=rev) (l:=s.l) (x:=⟨[],0⟩);rw[List.nil_append]at c1;generalize Mz n rev s.l ⟨[],0⟩=Z at*;dsimp only at c2;intro n';rw[Mi hi];dsimp only;rw[c1];by_cases e:n'=n
   ·subst e;rw[if_pos rfl];dsimp only;rw[c2];omega
   ·rw[if_neg e,Ak5 e];exact hc n'
  ·exact hc
theorem VInv.open{s:Sto}(hc:VInv s)(nm:Bool)(n:Az):VInv (s.openM nm n).1:=by
 have h2:=(Ah4 (s:=s) (nm:=nm) (n:=n) (n':=[])).2;intro n';rw[h2,Ah4.1];exact hc n'
set_option maxRecDepth 100000
set_option maxHeartbeats 40000000

open Go.Proofs
theorem Af9(s:Sto):s.ref.length=s.sp.length:=by unfold Sto.ref Sto.names;rw[List.length_map,Ajd,List.length_map]
theorem Amu(n:Az)(l:List Hld):(keysOf n l).length≤l.length:=List.length_filterMap_le _ _
theorem Aiq{n:Az}{l:List Hld}{x:Kv}(hx:x∈keysOf n l):∃y∈l,x.key=(C1 y.at_).2.1∧x.vs=y.vs:=by
 obtain⟨y,hy,e⟩:=List.mem_filterMap.1 hx;unfold G3 at e;split at e
 ·simp only[Option.some.injEq]at e;subst e;exact⟨y,hy,rfl,rfl⟩
 ·cases e
theorem Aie{m:Nat}{s:Sto}(h:SInv m s)(hm:m≤80000)(hc:CInv s)(n:Az):KvBd (keysOf n s.l)∧KL 80000 (keysOf n s.l):=by
 have hl:=Amu n s.l;have hlen:=h.lb.len;refine⟨⟨by omega,fun x hx=>?_⟩,⟨by omega,fun x hx=>?_⟩⟩
 ·obtain⟨y,hy,e1,e2⟩:=Aiq hx;obtain⟨_,_,b3,b4⟩:=h.lb.held y hy;have:=(hc.vk y hy).1;rw[e1,e2];exact⟨by omega,by omega,b4⟩
 ·obtain⟨y,hy,e1,e2⟩:=Aiq hx;obtain⟨_,_,b3,b4⟩:=h.lb.held y hy;rw[e2];omega
theorem Ajn:∀{V:List (Az × Ver)} {a:Int},prsB (V.map prOf) a=a+Ah9 V
 | [],a=>by show a=a+0;omega
 |p::r,a=>by
  show prsB (r.map prOf) (a+(p.1.length:Int)+(p.2.val.length:Int))=_;rw[Ajn];simp only[Ah9];omega

open Go.Proofs
theorem Am8{m:Nat}{s:Sto}(h:SInv m s)(hm:m≤80000)(hl:s.sp.length≤8)(hc:CInv s)(n:Az)(cs:List Chg)(hcs:cs.length≤1000):
 Fn Tryd.prog Du [rT s.ref,.v (.str n),.v (.list (cs.map Chg.toI))] (Is (.tup [.i (ti (s.writeM n cs).2.1),.i (ti (s.writeM n cs).2.2)]) [rT (s.writeM n cs).1.ref,.no,.no]):=by
 have hl2:=Af9 s;cases hf:s.fi n with
 |none=>
  rw[show s.writeM n cs=(s,0,16)by unfold Sto.writeM;rw[hf]]
  exact Akm s.ref n _ (by omega) (Aju hf)
 |some j=>
  obtain⟨i,h1,h2,h3⟩:=Aii (s:=s) (n:=n) (by rw[hf];rfl)
  cases hF:K6 cs []with
  |none=>
   rw[show s.writeM n cs=(s,0,1)by unfold Sto.writeM;rw[hf];dsimp only;rw[hF]]
   exact Ak2 s.ref n cs (by omega) hcs i (s.spcS n) h1 h2 false rfl (by rw[Aic (F:=[]),hF];rfl)
  |some FF=>
   obtain⟨e1,e2,e3⟩:=Amj h hf hF h3;rw[e1,e2,e3];have hk:=(Aie h hm hc n).2;have hr:=h.rv n;exact Amn s.ref n cs (by omega) hcs i (s.spcS n) h1 h2 ⟨Nat.le_trans hk.1 (by omega),fun x hx=>Nat.le_trans (hk.2 x hx) (by omega)⟩ ⟨by show 0≤(s.tal n).rev;omega,by show(s.tal n).rev≤_;omega⟩ true rfl (by rw[Aic (F:=[]),hF];rfl) _ rfl
theorem Ani{m:Nat}{s:Sto}(h:SInv m s)(hl:s.sp.length≤8)(n:Az):
 Fn Tryd.prog Mg [rT s.ref,.v (.str n)] (Is (.v (ti (s.openM (D9 n) n).2)) [rT (s.openM (D9 n) n).1.ref,.no]):=by
 have hl2:=Af9 s;have:=Aks s.ref n (by omega)
 rw[Amx h n]at this;exact this
theorem VInv.step{m:Nat}{s:Sto}(h:SInv m s)(hc:VInv s)(o:Opn):VInv (s.stepM o):=by
 unfold Sto.stepM;split
 ·exact hc.write h _ _
 ·split
  ·exact hc.comp _ _
  ·split
   ·exact hc.open _ _
   ·exact hc
end Go.Ab
