/- Lemmas -/
import Derived.Test.YtkpojedpcabojaaGreatDoorY10
set_option linter.unusedVariables false
set_option linter.unusedSimpArgs false
namespace Go.Ab
def Cn.Ann(s:Cn)(n:Az):Spc:=⟨n,(s.Zp n).rev,(s.Zp n).floor,keysOf n s.l⟩
def Cn.ref(s:Cn):List Spc:=s.names.map s.Ann
theorem Agp{s:Cn}{n:Az}:n∈s.names↔(s.fi n).isSome=true:=by
 unfold Cn.names;rw[Aje,Aiv]
theorem A8u{f:Az→Spc}(hf:∀n,(f n).name=n){n:Az}:∀{NM:List Az} {k:Nat},n ∉ NM→Aqo n (NM.map f) k= -1
 | [],k,_=>rfl
 |m::NM,k,h=>by
  rw[Cy];unfold Aqo;rw[if_neg (by rw[hf];intro e;exact h (by rw[e];exact B2 ..))]
  exact A8u hf fun c=>h (B4 _ c)
theorem A6y{f:Az→Spc}(hf:∀n,(f n).name=n){n:Az}:∀{NM:List Az} {k:Nat},n∈NM→∃i,Aqo n (NM.map f) k=((k+i:Nat):Int)∧NM[i]?=some n
 | [],k,h=>by cases h
 |m::NM,k,h=>by
  rw[Cy];unfold Aqo;by_cases e:m=n
  ·rw[if_pos (by rw[hf];exact e)]
   exact⟨0,by simp,by simp[e]⟩
  ·rw[if_neg (by rw[hf];exact e)]
   obtain⟨i,h1,h2⟩:=A6y hf (n:=n) (NM:=NM) (k:=k+1) ((Bg.1 h).resolve_left fun c=>e c.symm)
   exact⟨i+1,by rw[h1];congr 1;omega,by simpa using h2⟩
theorem Bb7{s:Cn}{n:Az}(h:s.fi n=none):Aqo n s.ref 0= -1:=A8u (fun _=>rfl) fun c=>by rw[Agp,h]at c;cases c
theorem A2q{s:Cn}{n:Az}(h:(s.fi n).isSome=true):∃i:Nat,Aqo n s.ref 0=(i:Int)∧s.ref[i]?=some (s.Ann n)∧s.names[i]?=some n:=by
 obtain⟨i,h1,h2⟩:=A6y (f:=s.Ann) (fun _=>rfl) (k:=0) (Agp.2 h)
 exact⟨i,by rw[E3]at h1;exact h1,by unfold Cn.ref;rw[Ev,h2];rfl,h2⟩
theorem A53{α:Type}{f g:Az→α}{NM:List Az}(hd:NM.Nodup){i:Nat}{n:Az}(hi:NM[i]?=some n)(h:∀m∈NM,m≠n→g m=f m):(NM.map f).set i (g n)=NM.map g:=by
 apply List.ext_getElem?;intro j;rw[List.getElem?_set,Ev,Ev,Bh];obtain⟨hil,e⟩:=A7.1 hi;by_cases hij:i=j
 ·subst hij;rw[if_pos rfl,if_pos hil,hi];rfl
 ·rw[if_neg hij];cases hj:NM[j]? with
  |none=>rfl
  |some m=>
   obtain⟨hjl,e2⟩:=A7.1 hj;have Cf:m≠n:=by
    rintro rfl;have hp:=Ak2.1 hd;rcases Nat.lt_or_gt_of_ne hij with c|c
    ·exact hp i j hil hjl c (e.trans e2.symm)
    ·exact hp j i hjl hil c (e2.trans e.symm)
   simp only[Fq];rw[h m (Cb hj) Cf]
theorem Nv{n:Az}{h:Zk}(e:(C1 h.at_).1≠n):G3 n h=none:=by unfold G3;rw[if_neg e]
theorem Bb6{rev:Int}:∀{ks out:List Kv},A00 rev ks out=out++ks.filterMap fun h=>if A01 rev h.vs=[]then none else some ⟨h.key,A01 rev h.vs⟩
 | [],out=>by simp[A00]
 |h::r,out=>by
  unfold A00;rw[Bb6,Fp];by_cases e:A01 rev h.vs=[]
  ·rw[if_pos e,if_pos e]
  ·rw[if_neg e,if_neg e];simp
theorem A8r{n:Az}{rev:Int}:∀{l:List Zk},(∀h∈l,VSo h.vs∧h.vs≠[])→keysOf n (l.filterMap (Pf n rev))=A00 rev (keysOf n l) []
 | [],_=>rfl
 |h::r,hv=>by
  obtain⟨v1,v2⟩:=hv h (B2 ..);have ih:=A8r (n:=n) (rev:=rev) (l:=r) fun y hy=>hv y (B4 _ hy)
  rw[Bb6,H4]at ih ⊢;have hk:=Bby (rev:=rev) v1 v2;unfold keysOf at ih ⊢;rw[Fp,Fp];by_cases hn:(C1 h.at_).1=n
  ·rw[show G3 n h=some ⟨(C1 h.at_).2.1,h.vs⟩by unfold G3;rw[if_pos hn]]
   dsimp only;rw[Fp];by_cases hl:h.vs.length≤Lm rev h.vs
   ·rw[show Pf n rev h=none by unfold Pf;rw[if_pos hn,if_pos hl]]
    rw[Db hl]at hk;dsimp only;rw[if_pos hk.symm];exact ih
   ·rw[show Pf n rev h=some ⟨h.at_,h.vs.drop (Lm rev h.vs)⟩by unfold Pf;rw[if_pos hn,if_neg hl]]
    have Cf:A01 rev h.vs≠[]:=by rw[←hk];intro c;rw[List.drop_eq_nil_iff]at c;omega
    dsimp only;rw[Fp,show G3 n ⟨h.at_,h.vs.drop (Lm rev h.vs)⟩=some ⟨(C1 h.at_).2.1,h.vs.drop (Lm rev h.vs)⟩by unfold G3;rw[if_pos hn]]
    rw[if_neg Cf,hk];dsimp only;rw[ih]
  ·rw[show Pf n rev h=some h by unfold Pf;rw[if_neg hn],Nv hn]
   dsimp only;rw[Fp,Nv hn];exact ih
theorem A55{m:Nat}{s:Cn}(h:Akb m s):s.names.Nodup:=Ahj h.nd
theorem Bjb{m:Nat}{s:Cn}(h:Akb m s){n:Az}{rev:Int}{i:Nat}(hi:s.fi n=some i)(he:s.Aw1 n rev=0){q:Nat}(hq:s.names[q]?=some n):
 (s.Anu n rev).1.ref=s.ref.set q ⟨n,(s.Zp n).rev,rev,A00 rev (keysOf n s.l) []⟩:=by
 have hnm:(s.Anu n rev).1.names=s.names:=by
  unfold Cn.Anu Cn.names;rw[hi];dsimp only;rw[if_pos he];dsimp only;have:=Agj (t:={s.Zp n with floor:=rev,Aq7:=(Mz n rev s.l ⟨[],0⟩).c}) (l:=(Mz n rev s.l ⟨[],0⟩).l) hi
  dsimp only at this;rw[this]
 obtain⟨c1,_⟩:=Ahp (n:=n) (rev:=rev) (l:=s.l) (x:=⟨[],0⟩);rw[H4]at c1;have A1d:(s.Anu n rev).1.Ann n=⟨n,(s.Zp n).rev,rev,A00 rev (keysOf n s.l) []⟩:=by
  unfold Cn.Ann Cn.Anu;rw[hi];dsimp only;rw[if_pos he];dsimp only;rw[Mi hi,if_pos rfl,c1,A8r fun y hy=>⟨(h.wi.2 y hy).2.1,(h.lb.held y hy).2.1⟩]
 unfold Cn.ref;rw[hnm, ←A1d];refine(A53 (A55 h) hq fun k hk Cf=>?_).symm
 unfold Cn.Ann;have hke:keysOf k (s.Anu n rev).1.l=keysOf k s.l:=by
  unfold keysOf;refine A6u _ _ fun _ _ y hy=>?_
  unfold Pf;split
  ·rename_i e;have:(C1 y.at_).1≠k:=by rw[e];exact fun c=>Cf c.symm
   rw[Nv this];split
   ·rfl
   ·simp only[Option.bind_some];exact Nv this
  ·rfl
 rw[hke];unfold Cn.Anu;rw[hi];dsimp only;rw[if_pos he];dsimp only;rw[Mi hi,if_neg Cf]
theorem Bcm{m:Nat}{s:Cn}(h:Akb m s){n:Az}(hf:(s.fi n).isSome=true)(x:Sp)(rev most:Int):s.An4 n x rev most=rrP (s.Ann n) x rev most:=by
 obtain⟨i,hi⟩:=Asz.1 hf;unfold Cn.An4 rrP Cn.Ann;dsimp only;rw[if_neg (by rw[hi];simp)]
 by_cases hb:SpR x∧0≤rev∧1≤most∧most≤16
 case neg=>simp only[hb,not_false_eq_true,if_true]
 by_cases h1:(s.Zp n).rev<rev
 case pos=>simp only[hb,h1,not_true_eq_false,if_false,if_true,and_self]
 by_cases h2:0<rev∧rev<(s.Zp n).floor
 case pos=>simp only[hb,h1,h2,not_true_eq_false,if_false,if_true,and_self]
 simp only[hb,h1,h2,not_true_eq_false,if_false,and_self];rw[Am9 (h.name hi) h.wi.1 fun y hy=>(h.wi.2 y hy).1]
 obtain⟨mm,rfl⟩:∃mm:Nat,most=(mm:Int):=⟨most.toNat,by omega⟩
 have hv:=Ape (n:=n) (x:=x) (rev:=if rev=0 then(s.Zp n).rev else rev) (l:=s.l) fun y hy=>(h.wi.2 y hy).2.1
 rw[Ajx (Cr _),hv,A09];have hlen:((Lh n (if rev=0 then(s.Zp n).rev else rev) s.l).filter fun p=>decide (Bw x p.1)).length=((keysOf n s.l).filterMap (Ax1 x (if rev=0 then(s.Zp n).rev else rev))).length:=by rw[←hv,Bh]
 rw[hlen];simp only[H4,Ak7,Nat.sub_zero,Anj];by_cases hm:(mm:Int)<(((keysOf n s.l).filterMap (Ax1 x (if rev=0 then(s.Zp n).rev else rev))).length:Int)
 ·rw[if_pos hm,decide_eq_true (by omega)]
 ·rw[if_neg hm,decide_eq_false (by omega),Am2 (by omega)]

def Jm(ks:List Kv)(k:Az):List Fk:=((ks.find? fun h=>decide (h.key=k)).map (·.vs)).getD []
abbrev KSo(ks:List Kv):Prop:=ks.Pairwise fun a b=>a.key<b.key
theorem Dv(h:Kv)(r:List Kv)(k:Az):Jm (h::r) k=if h.key=k then h.vs else Jm r k:=by
 unfold Jm;rw[Amy];by_cases e:h.key=k
 ·simp[e]
 ·simp[e]
theorem R6{ks:List Kv}{k:Az}(h:∀x∈ks,k<x.key):Jm ks k=[]:=by
 unfold Jm;rw[List.find?_eq_none.2]
 ·rfl
 ·intro x hx e;simp only[decide_eq_true_eq]at e;have:=h x hx;rw[e]at this;exact absurd this (Af9 k)
theorem KSo.ext:∀{a b:List Kv},KSo a→KSo b→(∀x∈a,x.vs≠[])→(∀x∈b,x.vs≠[])→(∀k,Jm a k=Jm b k)→a=b
 | [],[],_,_,_,_,_=>rfl
 | [],y::b,_,_,_,hb,h=>by
   have:=h y.key;rw[Dv,if_pos rfl]at this;exact absurd this.symm (hb y (B2 ..))
 |x::a,[],_,_,ha,_,h=>by
  have:=h x.key;rw[Dv,if_pos rfl]at this;exact absurd this (ha x (B2 ..))
 |x::a,y::b,h1,h2,ha,hb,h=>by
  obtain⟨a1,a2⟩:=Gr.1 h1;obtain⟨b1,b2⟩:=Gr.1 h2;have hxy:x.key=y.key:=by
   by_cases e:x.key=y.key
   ·exact e
   exfalso;by_cases c:x.key<y.key
   ·have:=h x.key;rw[Dv,if_pos rfl,R6 (ks:=y::b) (fun z hz=>by
     rcases Bg.1 hz with rfl|hz
     ·exact c
     ·exact Amg c (b1 z hz))]at this
    exact ha x (B2 ..) this
   ·have c2:y.key<x.key:=Std.lt_of_le_of_ne (List.not_lt.1 c) fun q=>e q.symm
    have:=h y.key;rw[Dv (h:=y),if_pos rfl,R6 (ks:=x::a) (fun z hz=>by
     rcases Bg.1 hz with rfl|hz
     ·exact c2
     ·exact Amg c2 (a1 z hz))]at this
    exact hb y (B2 ..) this.symm
  have hv:x.vs=y.vs:=by
   have:=h x.key;rw[Dv,if_pos rfl,Dv,if_pos hxy.symm]at this;exact this
  have htl:∀k,Jm a k=Jm b k:=fun k=>by
   by_cases e:x.key=k
   ·rw[R6 (ks:=a) (fun z hz=>by rw[←e];exact a1 z hz),R6 (ks:=b) (fun z hz=>by rw[←e,hxy];exact b1 z hz)]
   ·have:=h k;rw[Dv,if_neg e,Dv,if_neg (by rw[←hxy];exact e)]at this
    exact this
  rw[KSo.ext a2 b2 (fun z hz=>ha z (B4 _ hz)) (fun z hz=>hb z (B4 _ hz)) htl]
  obtain⟨xk,xv⟩:=x;obtain⟨yk,yv⟩:=y;dsimp only at hxy hv;rw[hxy,hv]
def Ato(key:Az)(v:Fk):List Kv→List Kv
 | []=>[⟨key,[v]⟩]
 |h::r=>if h.key=key then⟨h.key,h.vs++[v]⟩::r else if key<h.key then⟨key,[v]⟩::h::r else h::Ato key v r
theorem A3h{key:Az}{v:Fk}:∀{r out:List Kv},(∀x∈r,key<x.key)→Ate key v r out true=out++r
 | [],out,_=>by simp[Ate]
 |h::r,out,hl=>by
  have h1:=hl h (B2 ..);unfold Ate;rw[if_neg (fun e=>by rw[e]at h1;exact absurd h1 (Af9 _)),if_neg (fun c=>by cases c.1),if_neg (fun c=>by cases c.1),A3h fun x hx=>hl x (B4 _ hx)]
  simp
theorem A9e{key:Az}{v:Fk}:∀{r out:List Kv},KSo r→Ate key v r out false=out++Ato key v r
 | [],out,_=>by simp[Ate,Ato]
 |h::r,out,hs=>by
  obtain⟨s1,s2⟩:=Gr.1 hs;unfold Ate Ato;by_cases e:h.key=key
  ·rw[if_pos e,if_pos e,if_neg (fun c=>by rw[e]at c;exact absurd c.2 (Af9 _)),A3h fun x hx=>by rw[←e];exact s1 x hx]
   simp
  ·rw[if_neg e,if_neg e];by_cases c:key<h.key
   ·rw[if_pos ⟨rfl,c⟩,if_pos ⟨rfl,c⟩,if_pos c,A3h fun x hx=>Amg c (s1 x hx)]
    simp
   ·rw[if_neg (fun q=>c q.2),if_neg (fun q=>c q.2),if_neg c,A9e s2]
    simp
theorem Bbw{key:Az}{v:Fk}:∀{r:List Kv} {x:Kv},x∈Ato key v r→x∈r∨x.key=key
 | [],x,h=>by
   unfold Ato at h;simp only[Jd]at h;exact .inr (by rw[h])
 |h::r,x,hx=>by
  unfold Ato at hx;split at hx
  ·rename_i e;rcases Bg.1 hx with rfl|hx
   ·exact .inr e
   ·exact .inl (B4 _ hx)
  ·split at hx
   ·rcases Bg.1 hx with rfl|hx
    ·exact .inr rfl
    ·exact .inl hx
   ·rcases Bg.1 hx with rfl|hx
    ·exact .inl (B2 ..)
    ·rcases Bbw hx with h'|h'
     ·exact .inl (B4 _ h')
     ·exact .inr h'
theorem Bdk{key:Az}{v:Fk}:∀{r:List Kv},KSo r→KSo (Ato key v r)
 | [],_=>by simp[Ato,KSo]
 |h::r,hs=>by
  obtain⟨s1,s2⟩:=Gr.1 hs;unfold Ato;split
  ·exact Gr.2 ⟨s1,s2⟩
  ·rename_i e;split
   ·rename_i c;refine Gr.2 ⟨fun x hx=>?_,hs⟩
    rcases Bg.1 hx with rfl|hx
    ·exact c
    ·exact Amg c (s1 x hx)
   ·rename_i c;refine Gr.2 ⟨fun x hx=>?_,Bdk s2⟩
    rcases Bbw hx with hx|hx
    ·exact s1 x hx
    ·rw[hx];exact Std.lt_of_le_of_ne (List.not_lt.1 c) e
theorem Bdj{key:Az}{v:Fk}:∀{r:List Kv},(∀x∈r,x.vs≠[])→∀x∈Ato key v r,x.vs≠[]
 | [],_,x,hx=>by
   unfold Ato at hx;simp only[Jd]at hx;rw[hx];simp
 |h::r,hn,x,hx=>by
  unfold Ato at hx;split at hx
  ·rcases Bg.1 hx with rfl|hx
   ·simp
   ·exact hn x (B4 _ hx)
  ·split at hx
   ·rcases Bg.1 hx with rfl|hx
    ·simp
    ·exact hn x hx
   ·rcases Bg.1 hx with rfl|hx
    ·exact hn x (B2 ..)
    ·exact Bdj (fun y hy=>hn y (B4 _ hy)) x hx
theorem A42{key:Az}{v:Fk}:∀{r:List Kv} (k:Az),KSo r→Jm (Ato key v r) k=if k=key then Jm r key++[v]else Jm r k
 | [],k,_=>by
   unfold Ato;rw[Dv];by_cases e:k=key
   ·subst e;simp[Jm]
   ·rw[if_neg (fun c=>e c.symm),if_neg e]
 |h::r,k,hs=>by
  obtain⟨s1,s2⟩:=Gr.1 hs;unfold Ato;by_cases e:h.key=key
  ·rw[if_pos e,Dv,Dv,Dv,if_pos e];by_cases c:k=key
   ·subst c;rw[if_pos e,if_pos rfl]
   ·rw[if_neg (by rw[e];exact fun q=>c q.symm),if_neg c,if_neg (by rw[e];exact fun q=>c q.symm)]
  ·rw[if_neg e];by_cases c:key<h.key
   ·rw[if_pos c,Dv];by_cases d:k=key
    ·subst d;rw[if_pos rfl,if_pos rfl,R6 (ks:=h::r) fun x hx=>by
      rcases Bg.1 hx with rfl|hx
      ·exact c
      ·exact Amg c (s1 x hx)]
     rfl
    ·rw[if_neg (fun q=>d q.symm),if_neg d]
   ·rw[if_neg c,Dv,A42 k s2,Dv,Dv];by_cases d:k=key
    ·subst d;rw[if_neg e,if_pos rfl,if_pos rfl,if_neg e]
    ·rw[if_neg d,if_neg d]

theorem Aqf{l:List Zk}{a:Az}(hl:LSo l):∀x∈l.take (Km (Kh a) l),x.at_<a:=by
 rw[LSo,List.pairwise_map]at hl;intro x hx;have:=(Aho (lt:=Kh a) (l:=l) (hl.imp fun {x y} hab hb=>by simp only[Kh,decide_eq_true_eq]at*;exact Amg hab hb)).1 x hx
 simpa[Kh]using this
theorem Ap6{l:List Zk}{a:Az}(hl:LSo l):∀x∈l.drop (Km (Kh a) l),¬x.at_<a:=by
 rw[LSo,List.pairwise_map]at hl;intro x hx;have:=(Aho (lt:=Kh a) (l:=l) (hl.imp fun {x y} hab hb=>by simp only[Kh,decide_eq_true_eq]at*;exact Amg hab hb)).2 x hx
 simpa[Kh]using this
theorem Ap7{l:List Zk}{a:Az}(hl:LSo l)(hf:bsF (Kh a) (eqH a) l=false):∀x∈l.drop (Km (Kh a) l),a<x.at_:=by
 intro x hx;have h3:=Ap6 hl x hx;have hl':=hl;rw[LSo,List.pairwise_map]at hl';obtain⟨j,hj,rfl⟩:=Akp.1 hx;rw[Ei]at hj;rw[List.getElem_drop]at h3 ⊢;have Cf:l[Km (Kh a) l+j].at_≠a:=by
  intro e;cases j with
  |zero=>
   unfold bsF at hf;rw[Ae (show Km (Kh a) l<l.length by omega)]at hf
   simp only[Option.any_some,eqH,decide_eq_false_iff_not]at hf;exact hf e
  |succ j=>
   have h4:=Ak2.1 hl' (Km (Kh a) l) (Km (Kh a) l+(j+1)) (by omega) (by omega) (by omega)
   rw[e]at h4;exact Ap6 hl (l[Km (Kh a) l]'(by omega)) (by rw[Cc (by omega)];exact B2 ..) h4
 exact Std.lt_of_le_of_ne (List.not_lt.1 h3) (Ne.symm Cf)
theorem Amz{n a b:Az}:B7 n a<B7 n b↔a<b:=by rw[Ahd n a,Ahd n b,Aok]
theorem Ch{n:Az}{l:List Zk}{x:Kv}(hv:∀h∈l,Avh h.at_)(hx:x∈keysOf n l):∃h∈l,h.at_=B7 n x.key∧h.vs=x.vs:=by
 obtain⟨h,hh,e⟩:=Ajj.1 hx;unfold G3 at e;split at e
 ·rename_i hn;cases e;exact⟨h,hh,by rw[←hn];exact(hv h hh).A4t.1,rfl⟩
 ·cases e
theorem Bbv{key:Az}{v:Fk}:∀{a b:List Kv},(∀x∈a,x.key<key)→Ato key v (a++b)=a++Ato key v b
 | [],b,_=>rfl
 |h::a,b,hl=>by
  have h1:=hl h (B2 ..);rw[H3]
  conv=>lhs;unfold Ato
  rw[if_neg (fun e=>by rw[e]at h1;exact absurd h1 (Af9 _)),if_neg (fun c=>absurd (Amg c h1) (Af9 _)),Bbv fun x hx=>hl x (B4 _ hx)]
  rfl
theorem Bex{key:Az}{v:Fk}:∀{b:List Kv},(∀x∈b,key<x.key)→Ato key v b=⟨key,[v]⟩::b
 | [],_=>rfl
 |h::b,hl=>by
  have h1:=hl h (B2 ..);unfold Ato;rw[if_neg (fun e=>by rw[e]at h1;exact absurd h1 (Af9 _)),if_pos h1]
theorem Bi0{l:List Zk}{n k:Az}{v:Fk}(hn:n.length<256)(hl:LSo l)(hv:∀h∈l,Avh h.at_):keysOf n (Ath l (B7 n k) v)=Ato k v (keysOf n l):=by
 have hsp:keysOf n l=keysOf n (l.take (Km (Kh (B7 n k)) l))++keysOf n (l.drop (Km (Kh (B7 n k)) l)):=by
  unfold keysOf;rw[←Ama,Fj]
 have hA:∀x∈keysOf n (l.take (Km (Kh (B7 n k)) l)),x.key<k:=fun x hx=>by
  obtain⟨h,hh,e,_⟩:=Ch (fun h hh=>hv h (P2 hh)) hx
  have:=Aqf hl h hh;rw[e,Amz]at this;exact this
 rw[hsp,Bbv hA];unfold Ath A1y;cases hf:bsF (Kh (B7 n k)) (eqH (B7 n k)) l with
 |true=>
  rw[if_pos rfl];obtain⟨e,h2,h3⟩:=Afp hf;have h4:e.at_=B7 n k:=by simpa[eqH]using h3
  have hi:=(A7.1 h2).1;rw[Zv h2,List.set_eq_take_append_cons_drop,if_pos hi];have hd:l.drop (Km (Kh (B7 n k)) l)=e::l.drop (Km (Kh (B7 n k)) l+1):=by
   rw[Cc hi];rw[Ae hi]at h2;rw[Aag h2]
  rw[hd];unfold keysOf;rw[Ama,Fp,Fp];have e1:∀vs,G3 n ⟨e.at_,vs⟩=some ⟨k,vs⟩:=fun vs=>by unfold G3;rw[h4,Mt hn];simp
  rw[e1,show G3 n e=some ⟨k,e.vs⟩from e1 e.vs];dsimp only;unfold Ato;rw[if_pos rfl]
 |false=>
  rw[if_neg (by simp)]
  have hB:∀x∈keysOf n (l.drop (Km (Kh (B7 n k)) l)),k<x.key:=fun x hx=>by
   obtain⟨h,hh,e,_⟩:=Ch (fun h hh=>hv h (Agw hh)) hx
   have:=Ap7 hl hf h hh;rw[e,Amz]at this;exact this
  rw[Bex hB];unfold keysOf;rw[Ama,Fp,show G3 n ⟨B7 n k,[v]⟩=some ⟨k,[v]⟩by unfold G3;rw[Mt hn];simp]
theorem Di{n:Az}:∀{l:List Zk},LSo l→(∀h∈l,Avh h.at_)→KSo (keysOf n l)
 | [],_,_=>List.Pairwise.nil
 |h::r,hs,hv=>by
  rw[LSo,Cy,Gr]at hs;have hv':=fun x hx=>hv x (B4 h hx)
  have ih:=Di (n:=n) hs.2 hv';unfold keysOf at ih ⊢;rw[Fp];by_cases hn:(C1 h.at_).1=n
  ·rw[show G3 n h=some ⟨(C1 h.at_).2.1,h.vs⟩by unfold G3;rw[if_pos hn]]
   dsimp only;refine Gr.2 ⟨fun x hx=>?_,ih⟩
   obtain⟨y,hy,e,_⟩:=Ch hv' hx;have h5:=hs.1 y.at_ (List.mem_map_of_mem hy);have C3:h.at_=B7 n (C1 h.at_).2.1:=by rw[←hn];exact(hv h (B2 ..)).A4t.1
   rw[C3,e,Amz]at h5;dsimp only;exact h5
  ·rw[Nv hn];exact ih

def Axy(p:Spc)(was:Fk)(c:Ef):List Fk:=if c.gone=true∧was.gone=true then[]else[Az6 p c was]
def Aoz:List Ef→Az→Option Ef
 | [],_=>none
 |c::r,k=>match Aoz r k with
  |some d=>some d
  |none=>if c.key=k then some c else none
def Aui(p:Spc)(was:Fk):Option Ef→List Fk
 |none=>[]
 |some c=>Axy p was c
theorem A52{k:Az}:∀{r:List Ef} {b:Bool},Axw k r b=(b&&(Aoz r k).isNone)
 | [],b=>by simp[Axw,Aoz]
 |c::r,b=>by
  unfold Axw Aoz;rw[A52];cases Aoz r k with
  |some d=>simp
  |none=>
   by_cases e:c.key=k<;>simp[e]
def Asr(ks:List Kv)(k:Az):Fk:=(Jm ks k).getLast?.getD Akw
theorem A5f{k:Az}{rev:Int}:∀{ks:List Kv} {v:Fk},KSo ks→(∀h∈ks,h.vs≠[]∧∀u∈h.vs,u.rev≤rev)→Aw3 k rev ks v=if Jm ks k=[]then v else Asr ks k
 | [],v,_,_=>by simp[Aw3,Jm]
 |h::r,v,hs,hv=>by
  obtain⟨s1,s2⟩:=Gr.1 hs;obtain⟨v1,v2⟩:=hv h (B2 ..);have hv':=fun x hx=>hv x (B4 h hx)
  unfold Aw3;by_cases e:h.key=k
  ·have Bt2:Jm r k=[]:=R6 fun x hx=>by rw[←e];exact s1 x hx
   have hlk:Jm (h::r) k=h.vs:=by rw[Dv,if_pos e]
   rw[if_pos e,A5f s2 hv',if_pos Bt2,hlk,if_neg v1];unfold Asr;rw[hlk,D7,List.filter_eq_self.2 fun u hu=>by simpa using v2 u hu]
  ·have hlk:Jm (h::r) k=Jm r k:=by rw[Dv,if_neg e]
   rw[if_neg e,A5f s2 hv',hlk];unfold Asr;rw[hlk]
theorem Ao1{ks:List Kv}{k:Az}(h:Jm ks k=[]):Asr ks k=Akw:=by unfold Asr;rw[h];rfl
theorem A1m{p:Spc}(hp:KSo p.keys)(hv:∀h∈p.keys,h.vs≠[]∧∀u∈h.vs,u.rev≤p.rev):∀{cs:List Ef} {nx:Spc},KSo nx.keys→(∀x∈nx.keys,x.vs≠[])→
 KSo (Asi p cs nx).keys∧(∀x∈(Asi p cs nx).keys,x.vs≠[])∧(Asi p cs nx).name=nx.name∧(Asi p cs nx).floor=nx.floor∧
 (∀k,Jm (Asi p cs nx).keys k=Jm nx.keys k++Aui p (Asr p.keys k) (Aoz cs k))∧
 ((Asi p cs nx).rev=nx.rev∧(∀k,Aui p (Asr p.keys k) (Aoz cs k)=[])∨(Asi p cs nx).rev=p.rev+1∧∃k,Aui p (Asr p.keys k) (Aoz cs k)≠[])
 | [],nx,h1,h2=>⟨h1,h2,rfl,rfl,fun k=>by simp[Asi,Aoz,Aui],.inl ⟨rfl,fun k=>rfl⟩⟩
 |c::r,nx,h1,h2=>by
  have hw:Aw3 c.key p.rev p.keys Akw=Asr p.keys c.key:=by
   rw[A5f hp hv];split
   ·rename_i e;rw[Ao1 e]
   ·rfl
  have hl:=A52 (k:=c.key) (r:=r) (b:=true);rw[Bool.true_and]at hl;have hLC:∀k,Aoz (c::r) k=match Aoz r k with|some d=>some d|none=>if c.key=k then some c else none:=fun k=>rfl
  by_cases A7m:Axw c.key r true=false∨(c.gone=true∧(Aw3 c.key p.rev p.keys Akw).gone=true)
  ·have hst:At0 p c r nx=nx:=by unfold At0;rw[if_pos A7m]
   obtain⟨i1,i2,i3,i4,i5,i6⟩:=A1m hp hv (cs:=r) (nx:=nx) h1 h2;have heq:∀k,Aui p (Asr p.keys k) (Aoz (c::r) k)=Aui p (Asr p.keys k) (Aoz r k):=fun k=>by
    rw[hLC];cases hr:Aoz r k with
    |some d=>rfl
    |none=>
     dsimp only;by_cases e:c.key=k
     ·subst e;rw[if_pos rfl];rcases A7m with hk|⟨g1,g2⟩
      ·rw[hl,hr]at hk;cases hk
      ·rw[hw]at g2;unfold Aui Axy;dsimp only;rw[if_pos ⟨g1,g2⟩]
     ·rw[if_neg e]
   unfold Asi;rw[hst];simp only[heq];exact⟨i1,i2,i3,i4,i5,i6⟩
  ·have hnl:Aoz r c.key=none:=by
    cases hr:Aoz r c.key with
    |none=>rfl
    |some d=>exact absurd (.inl (by rw[hl,hr];rfl)) A7m
   have hng:¬(c.gone=true∧(Asr p.keys c.key).gone=true):=fun g=>A7m (.inr (by rw[hw];exact g))
   have hst:At0 p c r nx=⟨nx.name,p.rev+1,nx.floor,Ato c.key (Az6 p c (Asr p.keys c.key)) nx.keys⟩:=by
    unfold At0;rw[if_neg A7m,hw,A9e h1];rfl
   have hpl:Aui p (Asr p.keys c.key) (Aoz (c::r) c.key)=[Az6 p c (Asr p.keys c.key)]:=by
    rw[hLC,hnl];dsimp only;rw[if_pos rfl];unfold Aui Axy;dsimp only;rw[if_neg hng]
   obtain⟨i1,i2,i3,i4,i5,i6⟩:=A1m hp hv (cs:=r) (nx:=At0 p c r nx) (by rw[hst];exact Bdk h1) (by rw[hst];exact Bdj h2)
   refine⟨i1,i2,by rw[show Asi p (c::r) nx=Asi p r (At0 p c r nx)from rfl,i3,hst],by rw[show Asi p (c::r) nx=Asi p r (At0 p c r nx)from rfl,i4,hst],fun k=>?_,.inr ⟨?_,c.key,by rw[hpl];simp⟩⟩
   ·rw[show Asi p (c::r) nx=Asi p r (At0 p c r nx)from rfl,i5,hst];dsimp only;rw[A42 k h1];by_cases e:k=c.key
    ·subst e;rw[if_pos rfl,hpl,hnl];simp[Aui]
    ·rw[if_neg e,hLC];cases Aoz r k with
     |some d=>rfl
     |none=>
      dsimp only;rw[if_neg (fun q=>e q.symm)]
   ·rw[show Asi p (c::r) nx=Asi p r (At0 p c r nx)from rfl];rcases i6 with⟨q,_⟩|⟨q,_⟩
    ·rw[q,hst]
    ·exact q
theorem Bct{F:List Ef}{c:Ef}(k:Az):(Bm F c).find? (fun x=>decide (x.key=k))=if c.key=k then some c else F.find? (fun x=>decide (x.key=k)):=by
 unfold Bm;cases hq:F.findIdx? (fun x=>decide (x.key=c.key))with
 |none=>
  dsimp only;rw[List.findIdx?_eq_none_iff]at hq;rw[List.find?_append];by_cases e:c.key=k
  ·rw[if_pos e,List.find?_eq_none.2 (fun x hx=>by have:=hq x hx;simp at this ⊢;rw[←e];exact this)]
   simp[e]
  ·rw[if_neg e];simp[e]
 |some i=>
  dsimp only;have:∀{F:List Ef} {i:Nat},F.findIdx? (fun x=>decide (x.key=c.key))=some i→(F.set i c).find? (fun x=>decide (x.key=k))=if c.key=k then some c else F.find? (fun x=>decide (x.key=k)):=by
   intro F;induction F with
   |nil=>intro i h;simp at h
   |cons x F ih=>
    intro i h;rw[List.findIdx?_cons]at h;by_cases hx:x.key=c.key
    ·simp only[hx,decide_true,if_true,A0]at h;subst h;rw[Akm,Amy,Amy];by_cases e:c.key=k
     ·simp[e]
     ·simp[e,hx]
    ·simp only[hx,decide_false,Ado,if_false,Ad7]at h;obtain⟨j,hj,rfl⟩:=h;rw[Ais,Amy,Amy,ih hj];by_cases e:x.key=k
     ·have:¬c.key=k:=fun q=>hx (e.trans q.symm)
      simp[e,this]
     ·simp[e]
  exact this hq
theorem A6x:∀{cs F FF:List Ef},K6 cs F=some FF→∀k,FF.find? (fun x=>decide (x.key=k))=(Aoz cs k).or (F.find? fun x=>decide (x.key=k))
 | [],F,FF,h,k=>by
   have h:some F=some FF:=h;cases h;rfl
 |c::r,F,FF,h,k=>by
  unfold K6 at h;split at h
  ·rw[A6x h k,Bct,show Aoz (c::r) k=match Aoz r k with|some d=>some d|none=>if c.key=k then some c else none from rfl]
   cases Aoz r k with
   |some d=>rfl
   |none=>
    dsimp only;by_cases e:c.key=k<;>simp[e]
  ·cases h

theorem Aqb{l:List Zk}{n k:Az}{e:Zk}(hn:n.length<256)(hl:LSo l)(hv:∀h∈l,Avh h.at_)(he:e∈l)(ha:e.at_=B7 n k):Jm (keysOf n l) k=e.vs:=by
 have hs:=Di (n:=n) hl hv;have hm:(⟨k,e.vs⟩:Kv)∈keysOf n l:=Ajj.2 ⟨e,he,by unfold G3;rw[ha,Mt hn];simp⟩
 have:∀{ks:List Kv},KSo ks→(⟨k,e.vs⟩:Kv)∈ks→Jm ks k=e.vs:=by
  intro ks;induction ks with
  |nil=>intro _ h;cases h
  |cons x r ih=>
   intro hs hm;obtain⟨s1,s2⟩:=Gr.1 hs;rw[Dv];rcases Bg.1 hm with rfl|hm
   ·rw[if_pos rfl]
   ·have:=s1 _ hm;dsimp only at this;rw[if_neg (fun q=>by rw[q]at this;exact absurd this (Af9 _)),ih s2 hm]
 exact this hs hm
theorem Ard{l:List Zk}{n k:Az}(hv:∀h∈l,Avh h.at_)(h:∀e∈l,e.at_≠B7 n k):Jm (keysOf n l) k=[]:=by
 unfold Jm;rw[List.find?_eq_none.2]
 ·rfl
 ·intro x hx q;simp only[decide_eq_true_eq]at q;obtain⟨e,he,h2,_⟩:=Ch hv hx;rw[q]at h2;exact h e he h2
theorem Akn{l:List Zk}{n k:Az}(hn:n.length<256)(hl:LSo l)(hv:∀h∈l,Avh h.at_):Q1 l (B7 n k)=Asr (keysOf n l) k:=by
 cases hf:bsF (Kh (B7 n k)) (eqH (B7 n k)) l with
 |true=>
  obtain⟨e,h2,h3⟩:=Afp hf;rw[Ai4 hf h2];unfold Asr A1;rw[Aqb hn hl hv (Cb h2) (by simpa[eqH]using h3)]
 |false=>
  rw[show Q1 l (B7 n k)=Akw from Cn.A3a (s:=⟨[],l⟩) hf,Ao1];refine Ard hv fun e he q=>?_
  have Boy:e∈l.take (Km (Kh (B7 n k)) l)∨e∈l.drop (Km (Kh (B7 n k)) l):=by
   rw[←Bv,Fj];exact he
  rcases Boy with h|h
  ·have:=Aqf hl e h;rw[q]at this;exact absurd this (Af9 _)
  ·have:=Ap7 hl hf e h;rw[q]at this;exact absurd this (Af9 _)
theorem A2u{n k:Az}{c:Ef}{x:WSt}{p:Spc}(hr:p.rev=x.t.rev):
 (Axy p (Q1 x.l (B7 n k)) c=[]∧(Dw n k c x).l=x.l∧(Dw n k c x).w=x.w)∨∃v,Axy p (Q1 x.l (B7 n k)) c=[v]∧(Dw n k c x).l=Ath x.l (B7 n k) v∧(Dw n k c x).w=true:=by
 unfold Dw Axy Az6;dsimp only;rw[hr];by_cases h:c.gone=true∧(Q1 x.l (B7 n k)).gone=true
 ·rw[if_pos h,if_pos h];exact .inl ⟨rfl,rfl,rfl⟩
 ·rw[if_neg h,if_neg h];right;by_cases hc:c.gone=true
  ·rw[if_pos hc,if_pos hc];exact⟨_,rfl,rfl,rfl⟩
  ·rw[if_neg hc,if_neg hc];by_cases hw:(Q1 x.l (B7 n k)).gone=true
   ·rw[if_pos hw,if_pos hw];exact⟨_,rfl,rfl,rfl⟩
   ·rw[if_neg hw,if_neg hw];exact⟨_,rfl,rfl,rfl⟩
theorem A5g{n:Az}{F:List Ef}{R:Az→Int}{p:Spc}{W:Az→Fk}(hn:n.length<256)(hp:0≤p.rev):∀{KK:List Az} {x:WSt},KK.Nodup→p.rev=x.t.rev→Ayn (Avw n p.rev R KK) x.l→(∀k∈KK,Asr (keysOf n x.l) k=W k)→
 (∀k,Jm (keysOf n (Ge n F KK x).l) k=Jm (keysOf n x.l) k++(if k∈KK then Axy p (W k) (Anv F k)else[]))∧
 ((Ge n F KK x).w=x.w∧(∀k∈KK,Axy p (W k) (Anv F k)=[])∨(Ge n F KK x).w=true∧∃k∈KK,Axy p (W k) (Anv F k)≠[])
 | [],x,_,_,_,_=>⟨fun k=>by simp[Ge],.inl ⟨rfl,fun k hk=>by cases hk⟩⟩
 |k0::KK,x,hd,hr,hw,hW=>by
  obtain⟨d1,d2⟩:=Hw.1 hd;have hv:∀h∈x.l,Avh h.at_:=fun h hh=>(hw.2 h hh).1
  have g1:=Ag6 (x:=x) (R:=R) (c:=Anv F k0) hn d1 (by omega) (by rw[←hr];exact hw)
  rw[←hr]at g1;have A23:Q1 x.l (B7 n k0)=W k0:=by rw[Akn hn hw.1 hv];exact hW k0 (B2 ..)
  have Bkj:∀k,Jm (keysOf n (Dw n k0 (Anv F k0) x).l) k=Jm (keysOf n x.l) k++(if k=k0 then Axy p (W k0) (Anv F k0)else[]):=by
   intro k;rcases A2u (n:=n) (k:=k0) (c:=Anv F k0) (x:=x) hr with⟨e1,e2,_⟩|⟨v,e1,e2,_⟩
   ·rw[A23]at e1;rw[e2,e1];simp
   ·rw[A23]at e1;rw[e2,e1,Bi0 hn hw.1 hv,A42 k (Di hw.1 hv)];by_cases e:k=k0
    ·subst e;rw[if_pos rfl,if_pos rfl]
    ·rw[if_neg e,if_neg e];simp
  obtain⟨i1,i2⟩:=A5g (F:=F) (R:=R) (p:=p) (W:=W) hn hp (KK:=KK) (x:=Dw n k0 (Anv F k0) x) d2 (hr.trans (Agt _ _ _ _).1.symm) g1 (fun k hk=>by
   unfold Asr;rw[Bkj,if_neg (fun e=>d1 (by rw[←e];exact hk)),R2]
   exact hW k (B4 _ hk))
  refine⟨fun k=>?_,?_⟩
  ·rw[show Ge n F (k0::KK) x=Ge n F KK (Dw n k0 (Anv F k0) x)from rfl,i1,Bkj];by_cases e:k=k0
   ·subst e;rw[if_pos rfl,if_neg d1,if_pos (B2 ..)];simp
   ·rw[if_neg e,R2];simp only[Bg,e,false_or]
  ·rw[show Ge n F (k0::KK) x=Ge n F KK (Dw n k0 (Anv F k0) x)from rfl];rcases A2u (n:=n) (k:=k0) (c:=Anv F k0) (x:=x) hr with⟨e1,e2,e3⟩|⟨v,e1,e2,e3⟩
   ·rw[A23]at e1;rcases i2 with⟨j1,j2⟩|⟨j1,k,hk,j2⟩
    ·refine .inl ⟨j1.trans e3,fun k hk=>?_⟩
     rcases Bg.1 hk with rfl|hk
     ·exact e1
     ·exact j2 k hk
    ·exact .inr ⟨j1,k,B4 _ hk,j2⟩
   ·rw[A23]at e1;refine .inr ⟨?_,k0,B2 ..,by rw[e1];simp⟩
    rcases i2 with⟨j1,_⟩|⟨j1,_⟩
    ·rw[j1,e3]
    ·exact j1
theorem A76:∀{cs F:List Ef},Az1 cs=(K6 cs F).isSome
 | [],F=>rfl
 |c::r,F=>by
  unfold Az1 K6;by_cases h:c.ok
  ·rw[if_pos h,if_pos h];exact A76
  ·rw[if_neg h,if_neg h];rfl
theorem A9f{m:Nat}{s:Cn}(h:Akb m s){n:Az}{cs FF:List Ef}{i:Nat}(hi:s.fi n=some i)(hF:K6 cs []=some FF){q:Nat}(hq:s.names[q]?=some n):
 (s.Acg n cs).1.ref=s.ref.set q (Asi (s.Ann n) cs (s.Ann n))∧(s.Acg n cs).2.1=(Asi (s.Ann n) cs (s.Ann n)).rev∧(s.Acg n cs).2.2=0:=by
 have hn:=h.name hi;obtain⟨f1,f2,_⟩:=Agz hF (by simp) (by simp)
 have hrv:=h.rv n;have hv0:∀y∈s.l,Avh y.at_:=fun y hy=>(h.wi.2 y hy).1
 have hks:=Di (n:=n) h.wi.1 hv0;have Cf:∀x∈keysOf n s.l,x.vs≠[]∧∀u∈x.vs,u.rev≤(s.Zp n).rev:=fun x hx=>by
  obtain⟨y,hy,e1,e2⟩:=Ch hv0 hx;rw[←e2];refine⟨(h.lb.held y hy).2.1,fun u hu=>?_⟩
  have:=((h.wi.2 y hy).2.2 u hu).2;dsimp only at this;rw[e1,Mt hn]at this;exact this
 obtain⟨r1,r2,r3,r4,r5,r6⟩:=A1m (p:=s.Ann n) hks Cf (cs:=cs) (nx:=s.Ann n) hks fun x hx=>(Cf x hx).1
 have Bgx:=h.start n (Dc (FF.map Ef.key));obtain⟨w1,w2⟩:=A5g (F:=FF) (R:=fun n=>(s.Zp n).rev) (p:=s.Ann n) (W:=Asr (keysOf n s.l)) hn (show 0≤(s.Zp n).rev by omega) (KK:=Dc (FF.map Ef.key)) (x:=⟨s.Zp n,s.l,false⟩) (Ahj f1) rfl Bgx fun k _=>rfl
 obtain⟨g1,g2,g3⟩:=Ahn (F:=FF) (x:=⟨s.Zp n,s.l,false⟩) hn (Ahj f1) (show 0≤(s.Zp n).rev by omega) Bgx
 obtain⟨b1,_⟩:=Ah0 (n:=n) (F:=FF) (x:=⟨s.Zp n,s.l,false⟩) (KK:=Dc (FF.map Ef.key)) (by omega) h.lb (h.tb n) fun k hk=>Ajq f2 hk
 have Bep:∀k,(if k∈Dc (FF.map Ef.key)then Axy (s.Ann n) (Asr (keysOf n s.l) k) (Anv FF k)else[])=Aui (s.Ann n) (Asr (keysOf n s.l) k) (Aoz cs k):=fun k=>by
  have hfd:=A6x hF k;rw[show([]:List Ef).find? (fun x=>decide (x.key=k))=none from rfl,Option.or_none]at hfd
  by_cases hk:k∈FF.map Ef.key
  ·rw[if_pos (Aje.2 hk)];unfold Anv;cases hl:FF.find? (fun x=>decide (x.key=k))with
   |some c=>rw[←hfd,hl];rfl
   |none=>
    rw[List.find?_eq_none]at hl;obtain⟨c,hc,e⟩:=X4.1 hk;exact absurd (by simpa using e) (hl c hc)
  ·rw[if_neg (fun c=>hk (Aje.1 c)), ←hfd,List.find?_eq_none.2]
   ·rfl
   ·intro c hc e;simp only[decide_eq_true_eq]at e;exact hk (X4.2 ⟨c,hc,e⟩)
 have hwk:=A12 (g:=fun _:Zk=>(none:Option Unit)) h n cs (fun _ _ _ _=>rfl) (fun _ _ _ _ _ _ _=>rfl)
 have hWM:s.Acg n cs=(⟨s.sp.set i (n,(Ge n FF (Dc (FF.map Ef.key)) ⟨s.Zp n,s.l,false⟩).fin),(Ge n FF (Dc (FF.map Ef.key)) ⟨s.Zp n,s.l,false⟩).l⟩,(Ge n FF (Dc (FF.map Ef.key)) ⟨s.Zp n,s.l,false⟩).fin.rev,0):=by
  unfold Cn.Acg;rw[hi];dsimp only;rw[hF]
 have Bei:∀k,k≠n→keysOf k (s.Acg n cs).1.l=keysOf k s.l:=fun k hk=>A12 h n cs (fun k' v hn' _=>Nv (by dsimp only;rw[Mt hn'];exact fun e=>hk e.symm)) (fun y k' v hn' e _ _=>by
  have:(C1 y.at_).1≠k:=by rw[e,Mt hn'];exact fun e=>hk e.symm
  rw[Nv this];exact Nv this)
 rw[hWM]at Bei ⊢;generalize Ge n FF (Dc (FF.map Ef.key)) ⟨s.Zp n,s.l,false⟩=Z at*;dsimp only at w1 w2 g1 g2 g3 b1 Bei ⊢;have hvZ:∀y∈Z.l,Avh y.at_:=fun y hy=>(g1.2 y hy).1
 have Bek:keysOf n Z.l=(Asi (s.Ann n) cs (s.Ann n)).keys:=by
  refine KSo.ext (Di g1.1 hvZ) r1 (fun x hx=>?_) r2 fun k=>?_
  ·obtain⟨y,hy,_,e2⟩:=Ch hvZ hx;rw[←e2];exact(b1.held y hy).2.1
  ·rw[w1,r5,Bep];rfl
 have A26:Z.fin.rev=(Asi (s.Ann n) cs (s.Ann n)).rev:=by
  unfold WSt.fin;rcases w2 with⟨j1,j2⟩|⟨j1,k,hk,j2⟩
  ·rw[j1,if_neg (by simp),g2]
   rcases r6 with⟨q1,_⟩|⟨_,k,q2⟩
   ·rw[q1];rfl
   ·exfalso;have q3:Aui (s.Ann n) (Asr (keysOf n s.l) k) (Aoz cs k)≠[]:=q2;rw[←Bep k]at q3;by_cases hk:k∈Dc (FF.map Ef.key)
    ·rw[if_pos hk]at q3;exact q3 (j2 k hk)
    ·rw[if_neg hk]at q3;exact q3 rfl
  ·rw[j1,if_pos rfl];dsimp only;rw[g2];rcases r6 with⟨_,q2⟩|⟨q1,_⟩
   ·exfalso;have q3:Aui (s.Ann n) (Asr (keysOf n s.l) k) (Aoz cs k)=[]:=q2 k;rw[←Bep k,if_pos hk]at q3;exact j2 q3
   ·rw[q1];rfl
 refine⟨?_,A26,rfl⟩;have A1d:(Cn.mk (s.sp.set i (n,Z.fin)) Z.l).Ann n=Asi (s.Ann n) cs (s.Ann n):=by
  unfold Cn.Ann at Bek A26 r3 r4 ⊢;rw[Mi hi,if_pos rfl];dsimp only at r3 r4 ⊢;generalize Asi ⟨n,(s.Zp n).rev,(s.Zp n).floor,keysOf n s.l⟩ cs ⟨n,(s.Zp n).rev,(s.Zp n).floor,keysOf n s.l⟩=Y at*;obtain⟨yn,yr,yf,yk⟩:=Y;dsimp only at Bek A26 r3 r4;have hfl:Z.fin.floor=Z.t.floor:=by unfold WSt.fin;split<;>rfl
  rw[Bek,A26,hfl,g3,r3,r4]
 unfold Cn.ref;rw[show(Cn.mk (s.sp.set i (n,Z.fin)) Z.l).names=s.names by unfold Cn.names;rw[Agj hi], ←A1d]
 refine(A53 (A55 h) hq fun k hk Bof=>?_).symm
 unfold Cn.Ann;rw[Mi hi,if_neg Bof,Bei k Bof]

def A27(n:Az):List Az→List Az
 | []=>[n]
 |p::r=>if n<p then n::p::r else p::A27 n r
theorem A7r{n:Az}:∀{r out:List Spc},Avr n r out true=out++r
 | [],out=>by unfold Avr;rw[if_pos rfl,R2]
 |p::r,out=>by
  unfold Avr;rw[if_neg (fun c=>by cases c.1),if_neg (fun c=>by cases c.1),A7r,Df];rfl
theorem A9b{f:Az→Spc}(hf:∀m,(f m).name=m){n:Az}(hn:f n=⟨n,0,0,[]⟩):∀{NM:List Az} {out:List Spc},Avr n (NM.map f) out false=out++(A27 n NM).map f
 | [],out=>by
   show Avr n [] out false=_;unfold Avr;rw[if_neg (by simp), ←hn];rfl
 |p::r,out=>by
  show Avr n (f p::r.map f) out false=_;unfold Avr A27;rw[hf p];by_cases c:n<p
  ·rw[if_pos ⟨rfl,c⟩,if_pos ⟨rfl,c⟩,if_pos c,A7r, ←hn];simp
  ·rw[if_neg (fun q=>c q.2),if_neg (fun q=>c q.2),if_neg c,A9b hf hn]
   simp
theorem A43{n:Az}:∀{l:List Az},(A27 n l).Perm (n::l)
 | []=>List.Perm.refl _
 |p::r=>by
  unfold A27;split
  ·exact List.Perm.refl _
  ·exact(List.Perm.cons p A43).trans (List.Perm.swap ..)
theorem A51{n:Az}:∀{l:List Az},l.Pairwise (· ≤ ·)→(A27 n l).Pairwise (· ≤ ·)
 | [],_=>by unfold A27;simp
 |p::r,h=>by
  obtain⟨h1,h2⟩:=Gr.1 h;unfold A27;split
  ·rename_i c;refine Gr.2 ⟨fun x hx=>?_,h⟩
   rcases Bg.1 hx with rfl|hx
   ·exact List.le_of_lt c
   ·exact List.le_trans (List.le_of_lt c) (h1 x hx)
  ·rename_i c;refine Gr.2 ⟨fun x hx=>?_,A51 h2⟩
   rcases Bg.1 (A43.mem_iff.1 hx)with rfl|hx
   ·exact List.not_lt.1 c
   ·exact h1 x hx
theorem A5b(l:List Az):(Dc l).Pairwise (· ≤ ·):=by
 have:=List.pairwise_mergeSort (le:=fun x y:Az=>decide (x≤y)) (fun a b c h1 h2=>by
  simp only[decide_eq_true_eq]at*;exact List.le_trans h1 h2) (fun a b=>by
  simp only[Q3,decide_eq_true_eq];exact List.le_total a b) l
 exact this.imp fun h=>by simpa using h
theorem A7w:∀{a b:List Az},a.Pairwise (· ≤ ·)→b.Pairwise (· ≤ ·)→a.Perm b→a=b
 | [],b,_,_,h=>(List.nil_perm.1 h).symm
 |x::a,[],_,_,h=>absurd h.length_eq (by simp)
 |x::a,y::b,h1,h2,h=>by
  obtain⟨a1,a2⟩:=Gr.1 h1;obtain⟨b1,b2⟩:=Gr.1 h2;have e:x=y:=by
   have m1:x∈y::b:=h.mem_iff.1 (B2 ..);have m2:y∈x::a:=h.mem_iff.2 (B2 ..);rcases Bg.1 m1 with e|m1
   ·exact e
   ·rcases Bg.1 m2 with e|m2
    ·exact e.symm
    ·exact List.le_antisymm (a1 y m2) (b1 x m1)
  subst e;rw[A7w a2 b2 (List.perm_cons x |>.1 h)]
theorem Bfg(l:List Az)(n:Az):Dc (l++[n])=A27 n (Dc l):=by
 refine A7w (A5b _) (A51 (A5b _)) ?_;refine(Aor ..).trans (List.Perm.trans ?_ A43.symm);exact(List.perm_append_comm (l₁ :=l) (l₂ :=[n])).trans (List.Perm.cons n (Aor ..).symm)
theorem Bha{m:Nat}{s:Cn}(h:Akb m s){n:Az}(hf:s.fi n=none):keysOf n s.l=[]:=by
 cases hk:keysOf n s.l with
 |nil=>rfl
 |cons x r=>
  exfalso;have hx:x∈keysOf n s.l:=by rw[hk];exact B2 ..
  obtain⟨y,hy,e⟩:=Ajj.1 hx;unfold G3 at e;split at e
  ·rename_i ew;have h3:=(h.wi.2 y hy).2.2;have h4:=(h.lb.held y hy).2.1;cases hv:y.vs with
   |nil=>exact h4 hv
   |cons v t=>
    have:=h3 v (by rw[hv];exact B2 ..)
    dsimp only at this;rw[ew,(Cn.Ayr hf).2]at this;unfold Ax5 at this;dsimp only at this;omega
  ·cases e
theorem Bjg{m:Nat}{s:Cn}(h:Akb m s){n:Az}(hf:s.fi n=none):s.Ann n=⟨n,0,0,[]⟩:=by
 unfold Cn.Ann;rw[Bha h hf,(Cn.Ayr hf).2];rfl
theorem Bjc{m:Nat}{s:Cn}(h:Akb m s)(n:Az):A1k s.ref n=((s.Aqk (D9 n) n).1.ref,(s.Aqk (D9 n) n).2):=by
 cases hnm:D9 n with
 |false=>
  have e1:A1k s.ref n=(s.ref,5):=by unfold A1k;rw[if_pos hnm]
  have e2:s.Aqk false n=(s,5):=by unfold Cn.Aqk;rw[if_pos rfl]
  rw[e1,e2]
 |true=>
  have e1:A1k s.ref n=if 0≤Aqo n s.ref 0 then(s.ref,15)else if 8≤s.ref.length then(s.ref,17)else(Avr n s.ref [] false,0):=by unfold A1k;rw[if_neg (by rw[hnm];simp)]
  have e2:s.Aqk true n=if(s.fi n).isSome=true then(s,15)else if 8≤s.sp.length then(s,17)else({s with sp:=s.sp++[(n,Ax5)]},0):=by unfold Cn.Aqk;rw[if_neg (by simp)]
  rw[e1,e2];cases hf:s.fi n with
  |some i=>
   obtain⟨q,hq,_⟩:=A2q (s:=s) (n:=n) (by rw[hf];rfl)
   rw[if_pos (show 0≤Aqo n s.ref 0 by rw[hq];omega),if_pos (show(some i).isSome=true from rfl)]
  |none=>
   rw[if_neg (show ¬0≤Aqo n s.ref 0 by rw[Bb7 hf];omega),if_neg (show ¬(none:Option Nat).isSome=true by simp)]
   have hl:s.ref.length=s.sp.length:=by unfold Cn.ref Cn.names;rw[Bh,Ajd,Bh]
   rw[hl];by_cases h8:8≤s.sp.length
   ·rw[if_pos h8,if_pos h8]
   ·rw[if_neg h8,if_neg h8];refine Prod.ext ?_ rfl;dsimp only;unfold Cn.ref Cn.names;dsimp only;rw[F5,show([(n,Ax5)]:List (Az × Tal)).map (·.1)=[n]from rfl,Bfg,A9b (f:=s.Ann) (fun _=>rfl) (Bjg h hf),H4]
    refine List.map_congr_left fun k _=>?_
    unfold Cn.Ann;rw[Aij hf]

def Arx(n:Az):List Zk→Int
 | []=>0
 |h::r=>(if(C1 h.at_).1=n then(h.vs.length:Int)else 0)+Arx n r
theorem Ai6(n:Az):∀a b:List Zk,Arx n (a++b)=Arx n a+Arx n b
 | [],b=>by simp[Arx]
 |h::r,b=>by simp only[H3,Arx,Ai6 n r b];omega
theorem Ak6{n:Az}{h:Zk}:∀{l:List Zk} {p:Nat} {e:Zk},l[p]?=some e→Arx n (l.set p h)=Arx n l - (if(C1 e.at_).1=n then(e.vs.length:Int)else 0)+(if(C1 h.at_).1=n then(h.vs.length:Int)else 0)
 | [],p,e,he=>by simp at he
 |x::r,0,e,he=>by
  simp only[Fa,A0]at he;subst he;simp only[Akm,Arx];omega
 |x::r,p+1,e,he=>by
  simp only[Du]at he;simp only[Ais,Arx,Ak6 he];omega
theorem Aen{n:Az}{l:List Zk}{a:Az}{v:Fk}:Arx n (Ath l a v)=Arx n l+if(C1 a).1=n then 1 else 0:=by
 unfold Ath A1y;split
 ·rename_i hf;obtain⟨e,h2,h3⟩:=Afp hf;have h4:e.at_=a:=by simpa[eqH]using h3
  rw[Zv h2,Ak6 h2];dsimp only;rw[h4];split
  ·simp only[Hq,List.length_singleton];omega
  ·omega
 ·rename_i hf;rw[Ai6]
  conv=>rhs;rw[←Fj (Km (Kh a) l) l,Ai6]
  simp only[Arx,List.length_singleton];split<;>omega
theorem Akj{n k:Az}{c:Ef}{x:WSt}(hn:n.length<256)(h:x.t.Aq7=Arx n x.l):(Dw n k c x).t.Aq7=Arx n (Dw n k c x).l:=by
 have hw:(C1 (B7 n k)).1=n:=by rw[Mt hn]
 unfold Dw;dsimp only;split
 ·exact h
 ·split
  ·dsimp only;rw[Aen,if_pos hw,h]
  ·split
   ·dsimp only;rw[Aen,if_pos hw,h]
   ·dsimp only;rw[Aen,if_pos hw,h]
theorem Akk{n k n':Az}{c:Ef}{x:WSt}(hn:n.length<256)(h:n'≠n):Arx n' (Dw n k c x).l=Arx n' x.l:=by
 rcases Q7 n k c x with e|⟨v,_,e,_⟩
 ·rw[e]
 ·rw[e,Aen,Mt hn,if_neg (fun q=>h q.symm)];omega
theorem Aib{n:Az}{F:List Ef}(hn:n.length<256):∀{KK:List Az} {x:WSt},x.t.Aq7=Arx n x.l→(Ge n F KK x).t.Aq7=Arx n (Ge n F KK x).l∧∀n',n'≠n→Arx n' (Ge n F KK x).l=Arx n' x.l
 | [],x,h=>⟨h,fun _ _=>rfl⟩
 |k::KK,x,h=>by
  obtain⟨a,b⟩:=Aib (F:=F) hn (KK:=KK) (Akj (k:=k) (c:=Anv F k) hn h);exact⟨a,fun n' hn'=>(b n' hn').trans (Akk hn hn')⟩
def Axi(s:Cn):Prop:=∀n,(s.Zp n).Aq7=Arx n s.l
theorem Axi.write{m:Nat}{s:Cn}(h:Akb m s)(hc:Axi s)(n:Az)(cs:List Ef):Axi (s.Acg n cs).1:=by
 unfold Cn.Acg;split
 ·exact hc
 ·rename_i i hi;split
  ·exact hc
  ·rename_i F hF;have hn:n.length<256:=by
    obtain⟨_,_,h3⟩:=Cn.Ari hi;exact h.nm _ (Cb h3)
   obtain⟨a,b⟩:=Aib (F:=F) hn (KK:=Dc (F.map Ef.key)) (x:=⟨s.Zp n,s.l,false⟩) (hc n);generalize Ge n F (Dc (F.map Ef.key)) ⟨s.Zp n,s.l,false⟩=Z at*;intro n';rw[Mi hi];dsimp only at b ⊢;by_cases e:n'=n
   ·subst e;rw[if_pos rfl, ←a];unfold WSt.fin;split<;>rfl
   ·rw[if_neg e,b n' e];exact hc n'
theorem Aku{n:Az}{rev:Int}:∀{l:List Zk} {x:CSt},(Mz n rev l x).c=x.c+Arx n (l.filterMap (Pf n rev))
 | [],x=>by show x.c=x.c+0;omega
 |h::r,x=>by
  unfold Mz;rw[Aku,Fp];unfold Uy Pf;by_cases e:(C1 h.at_).1=n
  ·rw[if_pos e,if_pos e];by_cases g:h.vs.length≤Lm rev h.vs
   ·rw[if_pos g,if_pos g]
   ·rw[if_neg g,if_neg g];dsimp only;simp only[Arx];rw[if_pos e,Ei];omega
  ·rw[if_neg e,if_neg e];dsimp only;simp only[Arx];rw[if_neg e];omega
theorem Ak5{n n':Az}{rev:Int}(hn:n'≠n):∀{l:List Zk},Arx n' (l.filterMap (Pf n rev))=Arx n' l
 | []=>rfl
 |h::r=>by
  rw[Fp];have ih:=Ak5 (rev:=rev) hn (l:=r);by_cases e:(C1 h.at_).1=n
  ·have e2:¬(C1 h.at_).1=n':=fun q=>hn (q.symm.trans e)
   cases hc:Pf n rev h with
   |none=>
    dsimp only;rw[ih];simp only[Arx];rw[if_neg e2,Int.zero_add]
   |some y=>
    obtain⟨a1,k,a2,_⟩:=Agy hc;dsimp only;simp only[Arx];rw[a1,if_neg e2,if_neg e2,Int.zero_add,Int.zero_add,ih]
  ·rw[show Pf n rev h=some h by unfold Pf;rw[if_neg e]]
   dsimp only;simp only[Arx];rw[ih]
theorem Axi.comp{s:Cn}(hc:Axi s)(n:Az)(rev:Int):Axi (s.Anu n rev).1:=by
 unfold Cn.Anu;split
 ·exact hc
 ·rename_i i hi;split
  ·obtain⟨c1,_⟩:=Ahp (n:=n) (rev:=rev) (l:=s.l) (x:=⟨[],0⟩);have c2:=Aku (n:=n) (rev:=rev) (l:=s.l) (x:=⟨[],0⟩);rw[H4]at c1;generalize Mz n rev s.l ⟨[],0⟩=Z at*;dsimp only at c2;intro n';rw[Mi hi];dsimp only;rw[c1];by_cases e:n'=n
   ·subst e;rw[if_pos rfl];dsimp only;rw[c2];omega
   ·rw[if_neg e,Ak5 e];exact hc n'
  ·exact hc
theorem Axi.open{s:Cn}(hc:Axi s)(nm:Bool)(n:Az):Axi (s.Aqk nm n).1:=by
 have h2:=(Ah4 (s:=s) (nm:=nm) (n:=n) (n':=[])).2;intro n';rw[h2,Ah4.1];exact hc n'
set_option maxRecDepth 100000
set_option maxHeartbeats 40000000

open Go.Proofs
theorem A8j(s:Cn):s.ref.length=s.sp.length:=by unfold Cn.ref Cn.names;rw[Bh,Ajd,Bh]
theorem Biz(n:Az)(l:List Zk):(keysOf n l).length≤l.length:=Anb _ _
theorem A9c{n:Az}{l:List Zk}{x:Kv}(hx:x∈keysOf n l):∃y∈l,x.key=(C1 y.at_).2.1∧x.vs=y.vs:=by
 obtain⟨y,hy,e⟩:=Ajj.1 hx;unfold G3 at e;split at e
 ·simp only[A0]at e;subst e;exact⟨y,hy,rfl,rfl⟩
 ·cases e
theorem Bdm{m:Nat}{s:Cn}(h:Akb m s)(hm:m≤80000)(hc:Atm s)(n:Az):Bst (keysOf n s.l)∧KL 80000 (keysOf n s.l):=by
 have hl:=Biz n s.l;have hlen:=h.lb.len;refine⟨⟨by omega,fun x hx=>?_⟩,⟨by omega,fun x hx=>?_⟩⟩
 ·obtain⟨y,hy,e1,e2⟩:=A9c hx;obtain⟨_,_,b3,b4⟩:=h.lb.held y hy;have:=(hc.vk y hy).1;rw[e1,e2];exact⟨by omega,by omega,b4⟩
 ·obtain⟨y,hy,e1,e2⟩:=A9c hx;obtain⟨_,_,b3,b4⟩:=h.lb.held y hy;rw[e2];omega
end Go.Ab

