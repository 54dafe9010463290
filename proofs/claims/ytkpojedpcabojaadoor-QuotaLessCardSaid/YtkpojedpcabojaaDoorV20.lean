/- Lemmas -/
import Derived.Test.YtkpojedpcabojaaDoorV11
set_option linter.unusedVariables false
set_option linter.unusedSimpArgs false
namespace Go.Ab
def Jm(ks:List Kv)(k:Az):List Ver:=((ks.find? fun h=>decide (h.key=k)).map (·.vs)).getD []
abbrev KSo(ks:List Kv):Prop:=ks.Pairwise fun a b=>a.key<b.key
theorem Dv(h:Kv)(r:List Kv)(k:Az):Jm (h::r) k=if h.key=k then h.vs else Jm r k:=by
 unfold Jm;rw[List.find?_cons];by_cases e:h.key=k
 ·simp[e]
 ·simp[e]
theorem R6{ks:List Kv}{k:Az}(h:∀x∈ks,k<x.key):Jm ks k=[]:=by
 unfold Jm;rw[List.find?_eq_none.2]
 ·rfl
 ·intro x hx e;simp only[decide_eq_true_eq]at e;have:=h x hx;rw[e]at this;exact absurd this (List.lt_irrefl k)
theorem KSo.ext:∀{a b:List Kv},KSo a→KSo b→(∀x∈a,x.vs≠[])→(∀x∈b,x.vs≠[])→(∀k,Jm a k=Jm b k)→a=b
 | [],[],_,_,_,_,_=>rfl
 | [],y::b,_,_,_,hb,h=>by
   have:=h y.key;rw[Dv,if_pos rfl]at this;exact absurd this.symm (hb y (List.mem_cons_self ..))
 |x::a,[],_,_,ha,_,h=>by
  have:=h x.key;rw[Dv,if_pos rfl]at this;exact absurd this (ha x (List.mem_cons_self ..))
 |x::a,y::b,h1,h2,ha,hb,h=>by
  obtain⟨a1,a2⟩:=List.pairwise_cons.1 h1;obtain⟨b1,b2⟩:=List.pairwise_cons.1 h2;have hxy:x.key=y.key:=by
   by_cases e:x.key=y.key
   ·exact e
   exfalso;by_cases c:x.key<y.key
   ·have:=h x.key;rw[Dv,if_pos rfl,R6 (ks:=y::b) (fun z hz=>by
     rcases List.mem_cons.1 hz with rfl|hz
     ·exact c
     ·exact List.lt_trans c (b1 z hz))]at this
    exact ha x (List.mem_cons_self ..) this
   ·have c2:y.key<x.key:=Std.lt_of_le_of_ne (List.not_lt.1 c) fun q=>e q.symm
    have:=h y.key;rw[Dv (h:=y),if_pos rfl,R6 (ks:=x::a) (fun z hz=>by
     rcases List.mem_cons.1 hz with rfl|hz
     ·exact c2
     ·exact List.lt_trans c2 (a1 z hz))]at this
    exact hb y (List.mem_cons_self ..) this.symm
  have hv:x.vs=y.vs:=by
   have:=h x.key;rw[Dv,if_pos rfl,Dv,if_pos hxy.symm]at this;exact this
  have htl:∀k,Jm a k=Jm b k:=fun k=>by
   by_cases e:x.key=k
   ·rw[R6 (ks:=a) (fun z hz=>by rw[←e];exact a1 z hz),R6 (ks:=b) (fun z hz=>by rw[←e,hxy];exact b1 z hz)]
   ·have:=h k;rw[Dv,if_neg e,Dv,if_neg (by rw[←hxy];exact e)]at this
    exact this
  rw[KSo.ext a2 b2 (fun z hz=>ha z (List.mem_cons_of_mem _ hz)) (fun z hz=>hb z (List.mem_cons_of_mem _ hz)) htl]
  obtain⟨xk,xv⟩:=x;obtain⟨yk,yv⟩:=y;dsimp only at hxy hv;rw[hxy,hv]
def insK(key:Az)(v:Ver):List Kv→List Kv
 | []=>[⟨key,[v]⟩]
 |h::r=>if h.key=key then⟨h.key,h.vs++[v]⟩::r else if key<h.key then⟨key,[v]⟩::h::r else h::insK key v r
theorem Af7{key:Az}{v:Ver}:∀{r:List Kv} (k:Az),KSo r→Jm (insK key v r) k=if k=key then Jm r key++[v]else Jm r k
 | [],k,_=>by
   unfold insK;rw[Dv];by_cases e:k=key
   ·subst e;simp[Jm]
   ·rw[if_neg (fun c=>e c.symm),if_neg e]
 |h::r,k,hs=>by
  obtain⟨s1,s2⟩:=List.pairwise_cons.1 hs;unfold insK;by_cases e:h.key=key
  ·rw[if_pos e,Dv,Dv,Dv,if_pos e];by_cases c:k=key
   ·subst c;rw[if_pos e,if_pos rfl]
   ·rw[if_neg (by rw[e];exact fun q=>c q.symm),if_neg c,if_neg (by rw[e];exact fun q=>c q.symm)]
  ·rw[if_neg e];by_cases c:key<h.key
   ·rw[if_pos c,Dv];by_cases d:k=key
    ·subst d;rw[if_pos rfl,if_pos rfl,R6 (ks:=h::r) fun x hx=>by
      rcases List.mem_cons.1 hx with rfl|hx
      ·exact c
      ·exact List.lt_trans c (s1 x hx)]
     rfl
    ·rw[if_neg (fun q=>d q.symm),if_neg d]
   ·rw[if_neg c,Dv,Af7 k s2,Dv,Dv];by_cases d:k=key
    ·subst d;rw[if_neg e,if_pos rfl,if_pos rfl,if_neg e]
    ·rw[if_neg d,if_neg d]

theorem Amk{l:List Hld}{a:Az}(hl:LSo l):∀x∈l.take (Km (Kh a) l),x.at_<a:=by
 rw[LSo,List.pairwise_map]at hl;intro x hx;have:=(Aho (lt:=Kh a) (l:=l) (hl.imp fun {x y} hab hb=>by simp only[Kh,decide_eq_true_eq]at*;exact List.lt_trans hab hb)).1 x hx
 simpa[Kh]using this
theorem Amg{l:List Hld}{a:Az}(hl:LSo l):∀x∈l.drop (Km (Kh a) l),¬x.at_<a:=by
 rw[LSo,List.pairwise_map]at hl;intro x hx;have:=(Aho (lt:=Kh a) (l:=l) (hl.imp fun {x y} hab hb=>by simp only[Kh,decide_eq_true_eq]at*;exact List.lt_trans hab hb)).2 x hx
 simpa[Kh]using this
theorem Amh{l:List Hld}{a:Az}(hl:LSo l)(hf:bsF (Kh a) (eqH a) l=false):∀x∈l.drop (Km (Kh a) l),a<x.at_:=by
 intro x hx;have h3:=Amg hl x hx;have hl':=hl;rw[LSo,List.pairwise_map]at hl';obtain⟨j,hj,rfl⟩:=List.mem_iff_getElem.1 hx;rw[List.length_drop]at hj;rw[List.getElem_drop]at h3 ⊢;have hne:l[Km (Kh a) l+j].at_≠a:=by
  intro e;cases j with
  |zero=>
   unfold bsF at hf;rw[List.getElem?_eq_getElem (show Km (Kh a) l<l.length by omega)]at hf
   simp only[Option.any_some,eqH,decide_eq_false_iff_not]at hf;exact hf e
  |succ j=>
   have h4:=List.pairwise_iff_getElem.1 hl' (Km (Kh a) l) (Km (Kh a) l+(j+1)) (by omega) (by omega) (by omega)
   rw[e]at h4;exact Amg hl (l[Km (Kh a) l]'(by omega)) (by rw[List.drop_eq_getElem_cons (by omega)];exact List.mem_cons_self ..) h4
 exact Std.lt_of_le_of_ne (List.not_lt.1 h3) (Ne.symm hne)
theorem Ajo{n a b:Az}:B7 n a<B7 n b↔a<b:=by rw[Ahd n a,Ahd n b,Aj7]
theorem Qq{n:Az}{l:List Hld}{x:Kv}(hv:∀h∈l,Lies h.at_)(hx:x∈keysOf n l):∃h∈l,h.at_=B7 n x.key∧h.vs=x.vs:=by
 obtain⟨h,hh,e⟩:=List.mem_filterMap.1 hx;unfold G3 at e;split at e
 ·rename_i hn;cases e;exact⟨h,hh,by rw[←hn];exact(hv h hh).whose.1,rfl⟩
 ·cases e
theorem Akv{key:Az}{v:Ver}:∀{a b:List Kv},(∀x∈a,x.key<key)→insK key v (a++b)=a++insK key v b
 | [],b,_=>rfl
 |h::a,b,hl=>by
  have h1:=hl h (List.mem_cons_self ..);rw[List.cons_append]
  conv=>lhs;unfold insK
  rw[if_neg (fun e=>by rw[e]at h1;exact absurd h1 (List.lt_irrefl _)),if_neg (fun c=>absurd (List.lt_trans c h1) (List.lt_irrefl _)),Akv fun x hx=>hl x (List.mem_cons_of_mem _ hx)]
  rfl
theorem Amp{key:Az}{v:Ver}:∀{b:List Kv},(∀x∈b,key<x.key)→insK key v b=⟨key,[v]⟩::b
 | [],_=>rfl
 |h::b,hl=>by
  have h1:=hl h (List.mem_cons_self ..);unfold insK;rw[if_neg (fun e=>by rw[e]at h1;exact absurd h1 (List.lt_irrefl _)),if_pos h1]
theorem Anb{l:List Hld}{n k:Az}{v:Ver}(hn:n.length<256)(hl:LSo l)(hv:∀h∈l,Lies h.at_):keysOf n (putA l (B7 n k) v)=insK k v (keysOf n l):=by
 have hsp:keysOf n l=keysOf n (l.take (Km (Kh (B7 n k)) l))++keysOf n (l.drop (Km (Kh (B7 n k)) l)):=by
  unfold keysOf;rw[←List.filterMap_append,List.take_append_drop]
 have hA:∀x∈keysOf n (l.take (Km (Kh (B7 n k)) l)),x.key<k:=fun x hx=>by
  obtain⟨h,hh,e,_⟩:=Qq (fun h hh=>hv h (List.mem_of_mem_take hh)) hx
  have:=Amk hl h hh;rw[e,Ajo]at this;exact this
 rw[hsp,Akv hA];unfold putA putL;cases hf:bsF (Kh (B7 n k)) (eqH (B7 n k)) l with
 |true=>
  rw[if_pos rfl];obtain⟨e,h2,h3⟩:=Afp hf;have h4:e.at_=B7 n k:=by simpa[eqH]using h3
  have hi:=(List.getElem?_eq_some_iff.1 h2).1;rw[Zv h2,List.set_eq_take_append_cons_drop,if_pos hi];have hd:l.drop (Km (Kh (B7 n k)) l)=e::l.drop (Km (Kh (B7 n k)) l+1):=by
   rw[List.drop_eq_getElem_cons hi];rw[List.getElem?_eq_getElem hi]at h2;rw[Option.some.inj h2]
  rw[hd];unfold keysOf;rw[List.filterMap_append,List.filterMap_cons,List.filterMap_cons];have e1:∀vs,G3 n ⟨e.at_,vs⟩=some ⟨k,vs⟩:=fun vs=>by unfold G3;rw[h4,Mt hn];simp
  rw[e1,show G3 n e=some ⟨k,e.vs⟩from e1 e.vs];dsimp only;unfold insK;rw[if_pos rfl]
 |false=>
  rw[if_neg (by simp)]
  have hB:∀x∈keysOf n (l.drop (Km (Kh (B7 n k)) l)),k<x.key:=fun x hx=>by
   obtain⟨h,hh,e,_⟩:=Qq (fun h hh=>hv h (List.mem_of_mem_drop hh)) hx
   have:=Amh hl hf h hh;rw[e,Ajo]at this;exact this
  rw[Amp hB];unfold keysOf;rw[List.filterMap_append,List.filterMap_cons,show G3 n ⟨B7 n k,[v]⟩=some ⟨k,[v]⟩by unfold G3;rw[Mt hn];simp]
theorem Ws{n:Az}:∀{l:List Hld},LSo l→(∀h∈l,Lies h.at_)→KSo (keysOf n l)
 | [],_,_=>List.Pairwise.nil
 |h::r,hs,hv=>by
  rw[LSo,List.map_cons,List.pairwise_cons]at hs;have hv':=fun x hx=>hv x (List.mem_cons_of_mem h hx)
  have ih:=Ws (n:=n) hs.2 hv';unfold keysOf at ih ⊢;rw[List.filterMap_cons];by_cases hn:(C1 h.at_).1=n
  ·rw[show G3 n h=some ⟨(C1 h.at_).2.1,h.vs⟩by unfold G3;rw[if_pos hn]]
   dsimp only;refine List.pairwise_cons.2 ⟨fun x hx=>?_,ih⟩
   obtain⟨y,hy,e,_⟩:=Qq hv' hx;have h5:=hs.1 y.at_ (List.mem_map_of_mem hy);have hat:h.at_=B7 n (C1 h.at_).2.1:=by rw[←hn];exact(hv h (List.mem_cons_self ..)).whose.1
   rw[hat,e,Ajo]at h5;dsimp only;exact h5
  ·rw[Nv hn];exact ih

def newK(ks:List Kv)(k:Az):Ver:=(Jm ks k).getLast?.getD ver0
theorem Akz{ks:List Kv}{k:Az}(h:Jm ks k=[]):newK ks k=ver0:=by unfold newK;rw[h];rfl

theorem Ant{l:List Hld}{n k:Az}{e:Hld}(hn:n.length<256)(hl:LSo l)(hv:∀h∈l,Lies h.at_)(he:e∈l)(ha:e.at_=B7 n k):Jm (keysOf n l) k=e.vs:=by
 have hs:=Ws (n:=n) hl hv;have hm:(⟨k,e.vs⟩:Kv)∈keysOf n l:=List.mem_filterMap.2 ⟨e,he,by unfold G3;rw[ha,Mt hn];simp⟩
 have:∀{ks:List Kv},KSo ks→(⟨k,e.vs⟩:Kv)∈ks→Jm ks k=e.vs:=by
  intro ks;induction ks with
  |nil=>intro _ h;cases h
  |cons x r ih=>
   intro hs hm;obtain⟨s1,s2⟩:=List.pairwise_cons.1 hs;rw[Dv];rcases List.mem_cons.1 hm with rfl|hm
   ·rw[if_pos rfl]
   ·have:=s1 _ hm;dsimp only at this;rw[if_neg (fun q=>by rw[q]at this;exact absurd this (List.lt_irrefl _)),ih s2 hm]
 exact this hs hm
theorem Am5{l:List Hld}{n k:Az}(hv:∀h∈l,Lies h.at_)(h:∀e∈l,e.at_≠B7 n k):Jm (keysOf n l) k=[]:=by
 unfold Jm;rw[List.find?_eq_none.2]
 ·rfl
 ·intro x hx q;simp only[decide_eq_true_eq]at q;obtain⟨e,he,h2,_⟩:=Qq hv hx;rw[q]at h2;exact h e he h2
theorem Am3{l:List Hld}{n k:Az}(hn:n.length<256)(hl:LSo l)(hv:∀h∈l,Lies h.at_):Q1 l (B7 n k)=newK (keysOf n l) k:=by
 cases hf:bsF (Kh (B7 n k)) (eqH (B7 n k)) l with
 |true=>
  obtain⟨e,h2,h3⟩:=Afp hf;rw[Ai4 hf h2];unfold newK A1;rw[Ant hn hl hv (List.mem_of_getElem? h2) (by simpa[eqH]using h3)]
 |false=>
  rw[show Q1 l (B7 n k)=ver0 from Sto.lastM_no (s:=⟨[],l⟩) hf,Akz];refine Am5 hv fun e he q=>?_
  have hsplit:e∈l.take (Km (Kh (B7 n k)) l)∨e∈l.drop (Km (Kh (B7 n k)) l):=by
   rw[←List.mem_append,List.take_append_drop];exact he
  rcases hsplit with h|h
  ·have:=Amk hl e h;rw[q]at this;exact absurd this (List.lt_irrefl _)
  ·have:=Amh hl hf e h;rw[q]at this;exact absurd this (List.lt_irrefl _)

def sumV(n:Az):List Hld→Int
 | []=>0
 |h::r=>(if(C1 h.at_).1=n then(h.vs.length:Int)else 0)+sumV n r
theorem Ai6(n:Az):∀a b:List Hld,sumV n (a++b)=sumV n a+sumV n b
 | [],b=>by simp[sumV]
 |h::r,b=>by simp only[List.cons_append,sumV,Ai6 n r b];omega
theorem Ak6{n:Az}{h:Hld}:∀{l:List Hld} {p:Nat} {e:Hld},l[p]?=some e→sumV n (l.set p h)=sumV n l - (if(C1 e.at_).1=n then(e.vs.length:Int)else 0)+(if(C1 h.at_).1=n then(h.vs.length:Int)else 0)
 | [],p,e,he=>by simp at he
 |x::r,0,e,he=>by
  simp only[List.getElem?_cons_zero,Option.some.injEq]at he;subst he;simp only[List.set_cons_zero,sumV];omega
 |x::r,p+1,e,he=>by
  simp only[List.getElem?_cons_succ]at he;simp only[List.set_cons_succ,sumV,Ak6 he];omega
theorem Aen{n:Az}{l:List Hld}{a:Az}{v:Ver}:sumV n (putA l a v)=sumV n l+if(C1 a).1=n then 1 else 0:=by
 unfold putA putL;split
 ·rename_i hf;obtain⟨e,h2,h3⟩:=Afp hf;have h4:e.at_=a:=by simpa[eqH]using h3
  rw[Zv h2,Ak6 h2];dsimp only;rw[h4];split
  ·simp only[List.length_append,List.length_singleton];omega
  ·omega
 ·rename_i hf;rw[Ai6]
  conv=>rhs;rw[←List.take_append_drop (Km (Kh a) l) l,Ai6]
  simp only[sumV,List.length_singleton];split<;>omega
theorem Akj{n k:Az}{c:Chg}{x:WSt}(hn:n.length<256)(h:x.t.vers=sumV n x.l):(Dw n k c x).t.vers=sumV n (Dw n k c x).l:=by
 have hw:(C1 (B7 n k)).1=n:=by rw[Mt hn]
 unfold Dw;dsimp only;split
 ·exact h
 ·split
  ·dsimp only;rw[Aen,if_pos hw,h]
  ·split
   ·dsimp only;rw[Aen,if_pos hw,h]
   ·dsimp only;rw[Aen,if_pos hw,h]
theorem Akk{n k n':Az}{c:Chg}{x:WSt}(hn:n.length<256)(h:n'≠n):sumV n' (Dw n k c x).l=sumV n' x.l:=by
 rcases Q7 n k c x with e|⟨v,_,e,_⟩
 ·rw[e]
 ·rw[e,Aen,Mt hn,if_neg (fun q=>h q.symm)];omega
theorem Aib{n:Az}{F:List Chg}(hn:n.length<256):∀{KK:List Az} {x:WSt},x.t.vers=sumV n x.l→(Ge n F KK x).t.vers=sumV n (Ge n F KK x).l∧∀n',n'≠n→sumV n' (Ge n F KK x).l=sumV n' x.l
 | [],x,h=>⟨h,fun _ _=>rfl⟩
 |k::KK,x,h=>by
  obtain⟨a,b⟩:=Aib (F:=F) hn (KK:=KK) (Akj (k:=k) (c:=getF F k) hn h);exact⟨a,fun n' hn'=>(b n' hn').trans (Akk hn hn')⟩
def VInv(s:Sto):Prop:=∀n,(s.tal n).vers=sumV n s.l
theorem VInv.write{m:Nat}{s:Sto}(h:SInv m s)(hc:VInv s)(n:Az)(cs:List Chg):VInv (s.writeM n cs).1:=by
 unfold Sto.writeM;split
 ·exact hc
 ·rename_i i hi;split
  ·exact hc
  ·rename_i F hF;have hn:n.length<256:=by
    obtain⟨_,_,h3⟩:=Sto.fi_some hi;exact h.nm _ (List.mem_of_getElem? h3)
   obtain⟨a,b⟩:=Aib (F:=F) hn (KK:=Dc (F.map Chg.key)) (x:=⟨s.tal n,s.l,false⟩) (hc n);generalize Ge n F (Dc (F.map Chg.key)) ⟨s.tal n,s.l,false⟩=Z at*;intro n';rw[Mi hi];dsimp only at b ⊢;by_cases e:n'=n
   ·subst e;rw[if_pos rfl, ←a];unfold WSt.fin;split<;>rfl
   ·rw[if_neg e,b n' e];exact hc n'
theorem Aku{n:Az}{rev:Int}:∀{l:List Hld} {x:CSt},(Mz n rev l x).c=x.c+sumV n (l.filterMap (Pf n rev))
 | [],x=>by show x.c=x.c+0;omega
 |h::r,x=>by
  unfold Mz;rw[Aku,List.filterMap_cons];unfold Uy Pf;by_cases e:(C1 h.at_).1=n
  ·rw[if_pos e,if_pos e];by_cases g:h.vs.length≤Lm rev h.vs
   ·rw[if_pos g,if_pos g]
   ·rw[if_neg g,if_neg g];dsimp only;simp only[sumV];rw[if_pos e,List.length_drop];omega
  ·rw[if_neg e,if_neg e];dsimp only;simp only[sumV];rw[if_neg e];omega
theorem Ak5{n n':Az}{rev:Int}(hn:n'≠n):∀{l:List Hld},sumV n' (l.filterMap (Pf n rev))=sumV n' l
 | []=>rfl
 |h::r=>by
  rw[List.filterMap_cons];have ih:=Ak5 (rev:=rev) hn (l:=r);by_cases e:(C1 h.at_).1=n
  ·have e2:¬(C1 h.at_).1=n':=fun q=>hn (q.symm.trans e)
   cases hc:Pf n rev h with
   |none=>
    dsimp only;rw[ih];simp only[sumV];rw[if_neg e2,Int.zero_add]
   |some y=>
    obtain⟨a1,k,a2,_⟩:=Agy hc;dsimp only;simp only[sumV];rw[a1,if_neg e2,if_neg e2,Int.zero_add,Int.zero_add,ih]
  ·rw[show Pf n rev h=some h by unfold Pf;rw[if_neg e]]
   dsimp only;simp only[sumV];rw[ih]
theorem VInv.comp{s:Sto}(hc:VInv s)(n:Az)(rev:Int):VInv (s.compM n rev).1:=by
 unfold Sto.compM;split
 ·exact hc
 ·rename_i i hi;split
  ·obtain⟨c1,_⟩:=Ahp (n:=n) (rev:=rev) (l:=s.l) (x:=⟨[],0⟩);have c2:=Aku (n:=n) (rev:=rev) (l:=s.l) (x:=⟨[],0⟩);rw[List.nil_append]at c1;generalize Mz n rev s.l ⟨[],0⟩=Z at*;dsimp only at c2;intro n';rw[Mi hi];dsimp only;rw[c1];by_cases e:n'=n
   ·subst e;rw[if_pos rfl];dsimp only;rw[c2];omega
   ·rw[if_neg e,Ak5 e];exact hc n'
  ·exact hc
theorem VInv.open{s:Sto}(hc:VInv s)(nm:Bool)(n:Az):VInv (s.openM nm n).1:=by
 have h2:=(Ah4 (s:=s) (nm:=nm) (n:=n) (n':=[])).2;intro n';rw[h2,Ah4.1];exact hc n'
set_option maxRecDepth 100000
set_option maxHeartbeats 40000000

def qB(was:Ver)(c:Chg):Int:=(if c.gone=true then 0 else(c.key.length:Int)+(c.val.length:Int)) - (if was.gone=true then 0 else(c.key.length:Int)+(was.val.length:Int))
def qK(was:Ver)(c:Chg):Int:=(if c.gone=true then 0 else 1) - (if was.gone=true then 0 else 1)
def sumI:List Int→Int
 | []=>0
 |x::r=>x+sumI r
theorem Qy{a b:List Int}(h:a.Perm b):sumI a=sumI b:=by
 induction h with
 |nil=>rfl
 |cons x _ ih=>simp only[sumI,ih]
 |swap x y l=>simp only[sumI];omega
 |trans _ _ h1 h2=>rw[h1,h2]
theorem Xc{l:List Hld}{n k k':Az}{v:Ver}(hn:n.length<256)(hl:LSo l)(hv:∀h∈l,Lies h.at_)(hk:k'≠k):Q1 (putA l (B7 n k) v) (B7 n k')=Q1 l (B7 n k'):=by
 have hv2:∀h∈putA l (B7 n k) v,Lies h.at_:=fun h hh=>by
  rcases Ajm hh with h1|rfl|⟨e,_,_,rfl⟩
  ·exact hv h h1
  ·exact⟨n,k,rfl,hn⟩
  ·exact⟨n,k,rfl,hn⟩
 rw[Am3 hn (Ajt hl) hv2,Am3 hn hl hv,Anb hn hl hv];unfold newK;rw[Af7 k' (Ws hl hv),if_neg hk]
theorem Ta(n:Az)(c:Chg)(x:WSt):(Dw n c.key c x).t.bytes=x.t.bytes+qB (Q1 x.l (B7 n c.key)) c∧(Dw n c.key c x).t.keys=x.t.keys+qK (Q1 x.l (B7 n c.key)) c:=by
 unfold Dw qB qK;dsimp only;generalize Q1 x.l (B7 n c.key)=was;cases hc:c.gone<;>cases hw:was.gone<;>simp<;>omega
theorem Qk{n k k':Az}{c:Chg}{x:WSt}(hn:n.length<256)(hl:LSo x.l)(hv:∀h∈x.l,Lies h.at_):
 (LSo (Dw n k c x).l∧∀h∈(Dw n k c x).l,Lies h.at_)∧(k'≠k→Q1 (Dw n k c x).l (B7 n k')=Q1 x.l (B7 n k')):=by
 rcases Q7 n k c x with e|⟨v,_,e,_⟩
 ·rw[e];exact⟨⟨hl,hv⟩,fun _=>rfl⟩
 ·rw[e];refine⟨⟨Ajt hl,fun h hh=>?_⟩,fun hk=>Xc hn hl hv hk⟩
  rcases Ajm hh with h1|rfl|⟨e,_,_,rfl⟩
  ·exact hv h h1
  ·exact⟨n,k,rfl,hn⟩
  ·exact⟨n,k,rfl,hn⟩
theorem Mo{n:Az}{F:List Chg}{W:Az→Ver}(hn:n.length<256):∀{KK:List Az} {x:WSt},KK.Nodup→LSo x.l→(∀h∈x.l,Lies h.at_)→(∀k∈KK,Q1 x.l (B7 n k)=W k∧(getF F k).key=k)→
 (Ge n F KK x).t.bytes=x.t.bytes+sumI (KK.map fun k=>qB (W k) (getF F k))∧(Ge n F KK x).t.keys=x.t.keys+sumI (KK.map fun k=>qK (W k) (getF F k))
 | [],x,_,_,_,_=>by simp[Ge,sumI]
 |k::KK,x,hd,hl,hv,hW=>by
  obtain⟨d1,d2⟩:=List.nodup_cons.1 hd;obtain⟨w1,w2⟩:=hW k (List.mem_cons_self ..);obtain⟨s1,s2⟩:=Ta n (getF F k) x;rw[w2,w1]at s1 s2;have hs:=fun k'=>Qk (k:=k) (k':=k') (c:=getF F k) (x:=x) hn hl hv
  obtain⟨i1,i2⟩:=Mo (F:=F) (W:=W) hn (KK:=KK) (x:=Dw n k (getF F k) x) d2 (hs k).1.1 (hs k).1.2 fun k' hk'=>by
   have hne:k'≠k:=fun e=>d1 (e ▸ hk')
   rw[(hs k').2 hne];exact hW k' (List.mem_cons_of_mem _ hk')
  unfold Ge;rw[i1,i2,s1,s2];simp only[List.map_cons,sumI];constructor<;>omega
theorem Wn{F:List Chg}(hd:(F.map Chg.key).Nodup){c:Chg}(hc:c∈F):getF F c.key=c:=by
 obtain⟨q,h1,h2,h3⟩:=Adz (F:=F) (k:=c.key) (List.mem_map.2 ⟨c,hc,rfl⟩);obtain⟨i,hi⟩:=List.getElem?_of_mem hc;have e1:(F.map Chg.key)[q]?=some c.key:=by rw[List.getElem?_map,h2,Option.map_some,h3]
 have e2:(F.map Chg.key)[i]?=some c.key:=by rw[List.getElem?_map,hi];rfl
 have:q=i:=by
  obtain⟨l1,l2⟩:=List.getElem?_eq_some_iff.1 e1;obtain⟨l3,l4⟩:=List.getElem?_eq_some_iff.1 e2;exact(List.getElem_inj hd).1 (l2.trans l4.symm)
 subst this;rw[hi]at h2;exact(Option.some.inj h2).symm
theorem Mb{m:Nat}{s:Sto}(h:SInv m s){n:Az}{cs F:List Chg}{i:Nat}(hi:s.fi n=some i)(hF:K6 cs []=some F):
 ((s.writeM n cs).1.tal n).bytes=(s.tal n).bytes+sumI (F.map fun c=>qB (Q1 s.l (B7 n c.key)) c)∧((s.writeM n cs).1.tal n).keys=(s.tal n).keys+sumI (F.map fun c=>qK (Q1 s.l (B7 n c.key)) c):=by
 have hn:=h.name hi;obtain⟨f1,f2,_⟩:=Agz hF (by simp) (by simp)
 obtain⟨g1,g2⟩:=Mo (F:=F) (W:=fun k=>Q1 s.l (B7 n k)) (x:=⟨s.tal n,s.l,false⟩) hn (Ahj f1) h.wi.1 (fun x hx=>(h.wi.2 x hx).1) (fun k hk=>by
  obtain⟨_,_,_,h3⟩:=Adz (Aje.1 hk);exact⟨rfl,h3⟩)
 have e:(s.writeM n cs).1.tal n=(Ge n F (Dc (F.map Chg.key)) ⟨s.tal n,s.l,false⟩).fin:=by
  unfold Sto.writeM;simp only[hi,hF];rw[Mi hi,if_pos rfl]
 have hfin:∀x:WSt,x.fin.bytes=x.t.bytes∧x.fin.keys=x.t.keys:=fun x=>by unfold WSt.fin;split<;>exact⟨rfl,rfl⟩
 have hp:∀f:Ver→Chg→Int,sumI ((Dc (F.map Chg.key)).map fun k=>f (Q1 s.l (B7 n k)) (getF F k))=sumI (F.map fun c=>f (Q1 s.l (B7 n c.key)) c):=fun f=>by
  have hpm:(Dc (F.map Chg.key)).Perm (F.map Chg.key):=List.mergeSort_perm ..;rw[Qy (hpm.map _),List.map_map]
  congr 1
  refine List.map_congr_left fun c hc=>?_
  simp only[Function.comp,Wn f1 hc]
 rw[e,(hfin _).1,(hfin _).2,g1,g2];exact⟨by rw[hp qB],by rw[hp qK]⟩
theorem Lr{s:Sto}{n:Az}{cs:List Chg}(h:s.fi n=none∨K6 cs []=none):(s.writeM n cs).1=s:=by
 unfold Sto.writeM;rcases h with h|h
 ·rw[h]
 ·rw[h];cases s.fi n<;>rfl
def spK1(k:Az):Sp:=⟨k,k++[0]⟩
theorem Ms{k x:Az}:SpH (spK1 k) x↔x=k:=by
 unfold SpH spK1;dsimp only;rw[←Nz (p:=k) (k:=x)];simp
theorem V8{k:Az}(hk:k.length≤64):SpR (spK1 k):=
 ⟨by simp[spK1];omega,by simp[spK1];omega,.inr ((Nz (p:=k) (k:=k)).2 rfl).2⟩
theorem U1{k:Az}{rev:Int}:∀{ks:List Kv},KSo ks→ks.filterMap (selR (spK1 k) rev)=if(atGo rev (Jm ks k) ver0).gone=true then[]else[⟨k,(atGo rev (Jm ks k) ver0).val,(atGo rev (Jm ks k) ver0).made,(atGo rev (Jm ks k) ver0).rev⟩]
 | [],_=>by
   rw[if_pos (by rfl)];rfl
 |h::r,hs=>by
  obtain⟨s1,s2⟩:=List.pairwise_cons.1 hs;have ih:=U1 (k:=k) (rev:=rev) s2;rw[List.filterMap_cons,Dv];by_cases e:h.key=k
  ·rw[if_pos e];have hno:r.filterMap (selR (spK1 k) rev)=[]:=by
    rw[List.filterMap_eq_nil_iff];intro x hx;unfold selR;rw[if_neg];rintro⟨_,h2⟩;have h3:x.key=k:=Ms.1 h2;have h4:=s1 x hx;rw[h3, ←e]at h4;exact absurd h4 (List.lt_irrefl _)
   have hin:SpH (spK1 k) h.key:=by rw[e];exact Ms.2 rfl
   unfold selR;cases hg:(atGo rev h.vs ver0).gone with
   |true=>
    rw[if_neg (fun c=>by cases c.1)]
    simp only[if_true];exact hno
   |false=>
    rw[if_pos ⟨rfl,hin⟩];simp only[Bool.false_eq_true,if_false];rw[show r.filterMap (fun h=>if(atGo rev h.vs ver0).gone=false∧SpH (spK1 k) h.key then some (⟨h.key,(atGo rev h.vs ver0).val,(atGo rev h.vs ver0).made,(atGo rev h.vs ver0).rev⟩:Pr)else none)=[]from hno,e]
  ·rw[if_neg e, ←ih];have:selR (spK1 k) rev h=none:=by
    unfold selR;rw[if_neg];rintro⟨_,h2⟩;exact e (Ms.1 h2)
   rw[this]
def Vw(was:Ver)(k:Az):List Pr:=if was.gone=true then[]else[⟨k,was.val,was.made,was.rev⟩]
theorem Xn{m:Nat}{s:Sto}(h:SInv m s){n k:Az}{i:Nat}(hi:s.fi n=some i)(hk:k.length≤64):s.rangeM n (spK1 k) 0 1=(Vw (Q1 s.l (B7 n k)) k,false,0):=by
 have hn:=h.name hi;have hl:=h.wi.1;have hv:∀h∈s.l,Lies h.at_:=fun x hx=>(h.wi.2 x hx).1
 have hr:=h.rv n;have hR:=V8 hk;have hks:=Ws (n:=n) hl hv;have hat:atGo (s.tal n).rev (Jm (keysOf n s.l) k) ver0=Q1 s.l (B7 n k):=by
  rw[Am3 hn hl hv,V1];unfold newK;rw[List.filter_eq_self.2];intro v hv2;have:∃e∈s.l,e.at_=B7 n k∧v∈e.vs:=by
   unfold Jm at hv2;cases hf:(keysOf n s.l).find? (fun h=>decide (h.key=k))with
   |none=>rw[hf]at hv2;cases hv2
   |some x=>
    rw[hf]at hv2;obtain⟨e,he,h1,h2⟩:=Qq hv (List.mem_of_find?_eq_some hf);have h3:x.key=k:=by simpa using List.find?_some hf
    rw[h3]at h1;exact⟨e,he,h1,by rw[h2];exact hv2⟩
  obtain⟨e,he,h1,h2⟩:=this;have h3:=((h.wi.2 e he).2.2 v h2).2;dsimp only at h3;rw[h1,Mt hn]at h3;simpa using h3
 unfold Sto.rangeM;rw[hi];rw[if_neg (by simp),if_neg (Classical.not_not.2 ⟨hR,by omega,by omega,by omega⟩),if_neg (by omega),if_neg (by omega),if_pos rfl,Ai2 hn hl hv]
 have:=Aiz (x:=spK1 k) (m:=1) (V:=Lh n (s.tal n).rev s.l) (out:=[]) (by simp)
 rw[show((1:Nat):Int)=(1:Int)from rfl]at this;rw[this];have hvs:=Ajh (n:=n) (x:=spK1 k) (rev:=(s.tal n).rev) (l:=s.l) fun x hx=>(h.wi.2 x hx).2.1
 have hlen:((Lh n (s.tal n).rev s.l).filter fun p=>decide (SpH (spK1 k) p.1)).length=((keysOf n s.l).filterMap (selR (spK1 k) (s.tal n).rev)).length:=by rw[←hvs,List.length_map]
 rw[hlen,hvs,U1 hks,hat];unfold Vw;split<;>simp
end Go.Ab
