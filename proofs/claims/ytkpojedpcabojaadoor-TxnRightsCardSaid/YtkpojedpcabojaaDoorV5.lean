/- Lemmas -/
import Derived.Test.YtkpojedpcabojaaDoorW9
import Derived.Test.YtkpojedpcabojaaDoorWD
set_option linter.unusedVariables false
set_option linter.unusedSimpArgs false
namespace Go.Ab
theorem Ag8{lt:Nat→Bool}(hm:∀a b,a≤b→lt b=true→lt a=true):∀f i j,i≤j→j - i≤f→
 (∀q,i≤q→q<bsGo lt f i j→lt q=true)∧(∀q,bsGo lt f i j≤q→q<j→lt q=false)
 |0,i,j,h1,h2=>by
  unfold bsGo;exact⟨fun q a b=>by omega,fun q a b=>by omega⟩
 |f+1,i,j,h1,h2=>by
  unfold bsGo;by_cases hij:i<j
  ·rw[if_pos hij];by_cases hl:lt ((i+j) / 2)=true
   ·rw[if_pos hl];obtain⟨a,b⟩:=Ag8 hm f ((i+j) / 2+1) j (by omega) (by omega)
    refine⟨fun q c d=>?_,b⟩
    by_cases hq:(i+j) / 2+1≤q
    ·exact a q hq d
    ·exact hm q _ (by omega) hl
   ·rw[if_neg hl];obtain⟨a,b⟩:=Ag8 hm f i ((i+j) / 2) (by omega) (by omega)
    refine⟨a,fun q c d=>?_⟩
    by_cases hq:q<(i+j) / 2
    ·exact b q c hq
    ·cases hlq:lt q with
     |false=>rfl
     |true=>exact absurd (hm _ q (by omega) hlq) hl
  ·rw[if_neg hij];exact⟨fun q a b=>by omega,fun q a b=>by omega⟩
theorem Aho{α:Type}{lt:α→Bool}{l:List α}(hs:l.Pairwise fun x y=>lt y=true→lt x=true):
 (∀x∈l.take (Km lt l),lt x=true)∧(∀x∈l.drop (Km lt l),lt x=false):=by
 have hm:∀a b:Nat,a≤b→(l[b]?).any lt=true→(l[a]?).any lt=true:=by
  intro a b hab hb;cases hlb:l[b]? with
  |none=>rw[hlb]at hb;cases hb
  |some y=>
   rw[hlb]at hb;obtain⟨hbl,e⟩:=List.getElem?_eq_some_iff.1 hlb;rcases Nat.lt_or_eq_of_le hab with h|h
   ·have:=List.pairwise_iff_getElem.1 hs a b (by omega) hbl h
    rw[List.getElem?_eq_getElem (by omega)]
    exact this (by rw[e];exact hb)
   ·subst h;rw[hlb];exact hb
 obtain⟨h1,h2⟩:=Ag8 hm l.length 0 l.length (Nat.zero_le _) (by omega)
 constructor
 ·intro x hx;obtain⟨i,hi,rfl⟩:=List.mem_iff_getElem.1 hx;rw[List.length_take]at hi;have:=h1 i (Nat.zero_le _) (show i<Km lt l by omega)
  rw[List.getElem?_eq_getElem (by omega)]at this
  rw[List.getElem_take];exact this
 ·intro x hx;obtain⟨i,hi,rfl⟩:=List.mem_iff_getElem.1 hx;rw[List.length_drop]at hi;have:=h2 (Km lt l+i) (show Km lt l≤_ by omega) (by omega)
  rw[List.getElem?_eq_getElem (by omega)]at this
  rw[List.getElem_drop];exact this
abbrev VSo(vs:List Ver):Prop:=vs.Pairwise fun a b=>a.rev<b.rev
def Ar1:Option Ver→Ver × Bool
 |some v=>if v.gone=true then(verN,false)else(v,true)
 |none=>(verN,false)
theorem Aix{vs:List Ver}(h:VSo vs)(rev:Int):D1 vs rev=Ar1 (vs.filter fun v=>decide (v.rev≤rev)).getLast? :=by
 have hp:=Aho (lt:=ltV (rev+1)) (l:=vs) (h.imp fun {a b} hab hb=>by simp only[ltV,decide_eq_true_eq]at*;omega)
 have hf:vs.filter (fun v=>decide (v.rev≤rev))=vs.take (Km (ltV (rev+1)) vs):=by
  conv=>lhs;rw[←List.take_append_drop (Km (ltV (rev+1)) vs) vs]
  rw[List.filter_append,List.filter_eq_self.2,List.filter_eq_nil_iff.2,List.append_nil]
  ·intro v hv;have:=hp.2 v hv;simp only[ltV,decide_eq_false_iff_not,decide_eq_true_eq]at*;omega
  ·intro v hv;have:=hp.1 v hv;simp only[ltV,decide_eq_true_eq]at*;omega
 rw[hf];unfold D1;have hle:=Hp (ltV (rev+1)) vs;generalize Km (ltV (rev+1)) vs=p at hle;cases p with
 |zero=>rfl
 |succ i=>
  obtain⟨v,hv⟩:∃v,vs[i]?=some v:=⟨_,List.getElem?_eq_getElem (by omega)⟩
  rw[List.take_add_one,hv];simp only[Un,hv,Option.toList,List.getLast?_append,List.getLast?_singleton,Option.some_or,Ar1]
theorem VSo.drop{vs:List Ver}(h:VSo vs)(k:Nat):VSo (vs.drop k):=List.Pairwise.sublist (List.drop_sublist k vs) h
def gV(n:Az)(rev:Int)(h:Hld):Option (Az × Ver):=if(C1 h.at_).1=n∧(D1 h.vs rev).2=true then some ((C1 h.at_).2.1,(D1 h.vs rev).1)else none
def Lh(n:Az)(rev:Int)(l:List Hld):List (Az × Ver):=l.filterMap (gV n rev)
def prOf(x:Az × Ver):Pr:=⟨x.1,x.2.val,x.2.made,x.2.rev⟩
def Ee(x:Sp)(most:Int):List (Az × Ver)→List Pr→List Pr × Bool
 | [],out=>(out,false)
 |p::r,out=>if ¬Bw x p.1 then Ee x most r out else if(out.length:Int)=most then(out,true)else Ee x most r (out++[prOf p])
abbrev LSo(l:List Hld):Prop:=(l.map Hld.at_).Pairwise (· < ·)
theorem Am8{n:Az}{x:Sp}{rev most:Int}:∀{d:List Hld} {out:List Pr},(d.Pairwise fun a b=>(C1 b.at_).1=n→(C1 a.at_).1=n)→Ep n x rev most d out=Ee x most (Lh n rev d) out
 | [],out,_=>rfl
 |h::r,out,hp=>by
  obtain⟨h1,h2⟩:=List.pairwise_cons.1 hp;have ih:=fun out=>Am8 (x:=x) (rev:=rev) (most:=most) (out:=out) h2
  unfold Ep;by_cases hn:(C1 h.at_).1=n
  ·rw[if_neg (by simpa using hn),ih,ih]
   unfold Lh;rw[List.filterMap_cons];by_cases hv:(D1 h.vs rev).2=true
   ·rw[show gV n rev h=some ((C1 h.at_).2.1,(D1 h.vs rev).1)by unfold gV;rw[if_pos ⟨hn,hv⟩]]
    simp only[Ee,hv,prOf,Bool.true_eq_false,if_false]
   ·rw[show gV n rev h=none by unfold gV;rw[if_neg (fun c=>hv c.2)]]
    simp only[Bool.not_eq_true]at hv;simp only[hv,if_true,ite_self]
  ·rw[if_pos hn];have:Lh n rev (h::r)=[]:=by
    unfold Lh;rw[List.filterMap_eq_nil_iff];intro a ha;have:(C1 a.at_).1≠n:=by
     rcases List.mem_cons.1 ha with rfl|ha
     ·exact hn
     ·exact fun e=>hn (h1 a ha e)
    unfold gV;rw[if_neg (fun c=>this c.1)]
   rw[this];rfl
theorem Ahi:∀{p a k:Az},¬a<p→a<p++k→p<+:a
 | [],a,k,_,_=>List.nil_prefix
 |c::p,[],k,h,_=>absurd (List.nil_lt_cons c p) h
 |c::p,x::a,k,h1,h2=>by
  simp only[List.cons_append]at h2;rw[List.cons_lt_cons_iff]at h1 h2;have hxc:x=c:=by
   rcases h2 with h2|h2
   ·exact absurd (.inl h2) h1
   ·exact h2.1
  subst hxc;rw[List.cons_prefix_cons];refine⟨rfl,Ahi (k:=k) (fun h=>h1 (.inr ⟨rfl,h⟩)) ?_⟩
  rcases h2 with h2|h2
  ·exact absurd h2 (UInt8.lt_irrefl _)
  ·exact h2.2
def Lies(a:Az):Prop:=∃n k,a=B7 n k∧n.length<256
theorem Lies.whose{a:Az}(h:Lies a):a=B7 (C1 a).1 (C1 a).2.1∧(C1 a).1.length<256:=by
 obtain⟨n,k,rfl,hn⟩:=h;rw[Mt hn];exact⟨rfl,hn⟩
theorem Ahd(n k:Az):B7 n k=B7 n []++k:=by simp[B7]
theorem Aio{l:List Hld}{n:Az}{rev:Int}(hn:n.length<256)(hl:LSo l)(hv:∀h∈l,Lies h.at_):
 Lh n rev (l.take (Km (Kh (B7 n [])) l))=[]∧(l.drop (Km (Kh (B7 n [])) l)).Pairwise fun a b=>(C1 b.at_).1=n→(C1 a.at_).1=n:=by
 rw[LSo,List.pairwise_map]at hl;obtain⟨h1,h2⟩:=Aho (lt:=Kh (B7 n [])) (l:=l) (hl.imp fun {a b} hab hb=>by simp only[Kh,decide_eq_true_eq]at*;exact List.lt_trans hab hb)
 constructor
 ·unfold Lh;rw[List.filterMap_eq_nil_iff];intro a ha;unfold gV;rw[if_neg];rintro⟨e,_⟩;have h3:=(hv a (List.mem_of_mem_take ha)).whose.1;have h4:=h1 a ha;simp only[Kh,decide_eq_true_eq]at h4;rw[e]at h3;rw[h3,Ahd]at h4;exact absurd h4 (List.not_lt.2 (by
   have:=List.prefix_append (B7 n []) (C1 a.at_).2.1;exact List.IsPrefix.le this))
 ·refine(List.Pairwise.sublist (List.drop_sublist _ _) hl).imp_of_mem fun {a b} ha hb hab e=>?_
  have h3:=(hv b (List.mem_of_mem_drop hb)).whose.1;rw[e,Ahd]at h3;have h4:=h2 a ha;simp only[Kh,decide_eq_false_iff_not]at h4;rw[h3]at hab;obtain⟨k,hk⟩:=Ahi h4 hab;rw[←hk, ←Ahd,Mt hn]
theorem Am9{l:List Hld}{n:Az}{x:Sp}{rev most:Int}(hn:n.length<256)(hl:LSo l)(hv:∀h∈l,Lies h.at_):
 Ep n x rev most (l.drop (Km (Kh (B7 n [])) l)) []=Ee x most (Lh n rev l) []:=by
 obtain⟨h1,h2⟩:=Aio (rev:=rev) hn hl hv;rw[Am8 h2]
 congr 1
 conv=>rhs;rw[←List.take_append_drop (Km (Kh (B7 n [])) l) l]
 unfold Lh at h1 ⊢;rw[List.filterMap_append,h1,List.nil_append]
set_option maxRecDepth 100000
set_option maxHeartbeats 40000000

open Go.Proofs
def Sto.openM(s:Sto)(nm:Bool)(n:Az):Sto × Int:=
 if nm=false then(s,5)else if(s.fi n).isSome=true then(s,15)else if 8≤s.sp.length then(s,17)else({s with sp:=s.sp++[(n,tal0)]},0)
theorem Aa2(s:Sto)(n:Az)(nm:Bool)(hnm:Fn Tryd.prog Mr [.v (.str n)] (Is (.v (.bool nm)) [.no])):
 Fn Tryd.prog Ec [sP s,.v (.str n)] (Is (.v (ti (s.openM nm n).2)) [sP (s.openM nm n).1,.no]):=by
 refine Fz ?_ (by simp)
 have hkl:(s.sp.map fun x=>I.str x.1).length=s.sp.length:=List.length_map _
 cases nm with
 |false=>
  have hM:s.openM false n=(s,5):=by simp[Sto.openM]
  rw[hM];cases hf:s.fi n with
  |none=>
   obtain⟨h1,h2⟩:=Sto.fi_none hf;repeat'((conv=>whnf);first|((with_reducible refine Ax (by(with_reducible rfl)) (fun hb=>?_));(try rw[hb]);(try simp only[Aa]at hb))|((with_reducible refine Aw (by(with_reducible rfl)) (fun hb=>?_));(try rw[hb]);(try simp only[Aa]at hb))|((with_reducible refine And.intro (fun hb=>?_) (fun hb=>?_))<;>first|(exact absurd hb (by decide))|((try rw[hb]);(try simp only[Aa]at hb)))|((with_reducible refine Exists.intro ?_ ?_);focus (and_intros<;>first|omega|(with_reducible rfl)|kernel_rfl|(intro _ hh;cases hh;done)|(simp;done)|decide))|((refine Au ?_))|((with_reducible refine CallWp.mk ?_);refine⟨_,hnm,?_⟩;rintro _ _ ⟨rfl,rfl⟩)|(((with_reducible apply A9));(focus (simp only[D.at,D.put,D.kid,D.setKid,mkSt,Jo,D.toI,toIs,Ad,Af,h1,Sto.toD]<;>exact rfl))))
   all_goals(try(conv=>whnf))
   (apply dKq<;>kernel_rfl)
  |some i=>
   obtain⟨h1,h2,h3⟩:=Sto.fi_some hf;repeat'((conv=>whnf);first|((with_reducible refine Ax (by(with_reducible rfl)) (fun hb=>?_));(try rw[hb]);(try simp only[Aa]at hb))|((with_reducible refine Aw (by(with_reducible rfl)) (fun hb=>?_));(try rw[hb]);(try simp only[Aa]at hb))|((with_reducible refine And.intro (fun hb=>?_) (fun hb=>?_))<;>first|(exact absurd hb (by decide))|((try rw[hb]);(try simp only[Aa]at hb)))|((with_reducible refine Exists.intro ?_ ?_);focus (and_intros<;>first|omega|(with_reducible rfl)|kernel_rfl|(intro _ hh;cases hh;done)|(simp;done)|decide))|((with_reducible refine And.intro ?_ ?_);focus (decide))|((refine Au ?_))|((with_reducible refine CallWp.mk ?_);refine⟨_,hnm,?_⟩;rintro _ _ ⟨rfl,rfl⟩)|(((with_reducible apply A9));(focus (simp only[D.at,D.put,D.kid,D.setKid,mkSt,Jo,D.toI,toIs,Ad,Af,h1,h3,Sto.toD,Tal.toI]<;>exact rfl))))
   all_goals(try(conv=>whnf))
   (apply dKq<;>kernel_rfl)
 |true=>
  cases hf:s.fi n with
  |some i=>
   have hM:s.openM true n=(s,15):=by simp[Sto.openM,hf]
   rw[hM];obtain⟨h1,h2,h3⟩:=Sto.fi_some hf;repeat'((conv=>whnf);first|((with_reducible refine Ax (by(with_reducible rfl)) (fun hb=>?_));(try rw[hb]);(try simp only[Aa]at hb))|((with_reducible refine Aw (by(with_reducible rfl)) (fun hb=>?_));(try rw[hb]);(try simp only[Aa]at hb))|((with_reducible refine And.intro (fun hb=>?_) (fun hb=>?_))<;>first|(exact absurd hb (by decide))|((try rw[hb]);(try simp only[Aa]at hb)))|((with_reducible refine Exists.intro ?_ ?_);focus (and_intros<;>first|omega|(with_reducible rfl)|kernel_rfl|(intro _ hh;cases hh;done)|(simp;done)|decide))|((with_reducible refine And.intro ?_ ?_);focus (decide))|((refine Au ?_))|((with_reducible refine CallWp.mk ?_);refine⟨_,hnm,?_⟩;rintro _ _ ⟨rfl,rfl⟩)|(((with_reducible apply A9));(focus (simp only[D.at,D.put,D.kid,D.setKid,mkSt,Jo,D.toI,toIs,Ad,Af,h1,h3,Sto.toD,Tal.toI]<;>exact rfl))))
   all_goals(try(conv=>whnf))
   (apply dKq<;>kernel_rfl)
  |none=>
   obtain⟨h1,h2⟩:=Sto.fi_none hf;by_cases hl:8≤s.sp.length
   ·have hM:s.openM true n=(s,17):=by simp[Sto.openM,hf,hl]
    have hb8:¬decide ((8:Int)≤(s.sp.length:Int))=false:=by simp;omega
    rw[hM];repeat'((conv=>whnf);first|((with_reducible refine Ax (by first|(with_reducible exact Bool.of_not_eq_false (by assumption))|((with_reducible refine decide_eq_true ?_);omega)|(with_reducible rfl)) (fun hb=>?_));(try rw[hb]);(try simp only[Aa]at hb))|((with_reducible refine Aw (by(with_reducible rfl)) (fun hb=>?_));(try rw[hb]);(try simp only[Aa]at hb))|((with_reducible refine And.intro (fun hb=>?_) (fun hb=>?_))<;>first|(exact absurd hb (by decide))|((try rw[hb]);(try simp only[Aa]at hb)))|((with_reducible refine Exists.intro ?_ ?_);focus (and_intros<;>first|omega|(with_reducible rfl)|kernel_rfl|(intro _ hh;cases hh;done)|(simp;done)|decide))|((refine Au ?_))|((with_reducible refine CallWp.mk ?_);refine⟨_,hnm,?_⟩;rintro _ _ ⟨rfl,rfl⟩)|(((with_reducible apply A9));(focus (simp only[D.at,D.put,D.kid,D.setKid,mkSt,Jo,D.toI,toIs,Ad,Af,h1,hkl,Sto.toD]<;>exact rfl))))
    all_goals(try(conv=>whnf))
    (apply dKq<;>kernel_rfl)
   ·have hM:s.openM true n=({s with sp:=s.sp++[(n,tal0)]},0):=by simp[Sto.openM,hf,hl]
    have hb8:¬decide ((8:Int)≤(s.sp.length:Int))=true:=by simp;omega
    have hfin:sP {s with sp:=s.sp++[(n,tal0)]}= .own [] (.ptr (.st [.map ((s.sp.map fun x=>.str x.1)++[.str n]) ((s.sp.map fun x=>.ptr (.it x.2.toI))++[.ptr (.it tal0.toI)]),.vec Dr 2 (s.l.map Hld.toD)])):=by
     simp only[sP,Sto.toD,List.map_append,List.map_cons,List.map_nil]
    rw[hM];repeat'((conv=>whnf);first|((with_reducible refine Ax (by(with_reducible rfl)) (fun hb=>?_));(try rw[hb]);(try simp only[Aa]at hb))|((with_reducible refine Aw (by first|(with_reducible exact Bool.of_not_eq_true (by assumption))|((with_reducible refine decide_eq_false ?_);omega)|(with_reducible rfl)) (fun hb=>?_));(try rw[hb]);(try simp only[Aa]at hb))|((with_reducible refine And.intro (fun hb=>?_) (fun hb=>?_))<;>first|(exact absurd hb (by decide))|((try rw[hb]);(try simp only[Aa]at hb)))|((with_reducible refine Exists.intro ?_ ?_);focus (and_intros<;>first|omega|(with_reducible rfl)|kernel_rfl|(intro _ hh;cases hh;done)|(simp;done)|decide))|((refine Au ?_))|((with_reducible refine CallWp.mk ?_);refine⟨_,hnm,?_⟩;rintro _ _ ⟨rfl,rfl⟩)|(((with_reducible apply A9));(focus (simp only[D.at,D.put,D.kid,D.setKid,mkSt,Jo,D.toI,toIs,Ad,Af,h1,hkl,Sto.toD,Lt]<;>exact rfl))))
    all_goals(try(conv=>whnf))
    refine Done.mk ⟨by kernel_rfl,?_⟩ (by kernel_rfl)
    rw[show sP (({s with sp:=s.sp++[(n,tal0)]},0):Sto × Int).1=_ from hfin]
    kernel_rfl

theorem Ajm{l:List Hld}{a:Az}{v:Ver}{h:Hld}(hh:h∈putA l a v):h∈l∨h=⟨a,[v]⟩∨∃e∈l,e.at_=a∧h=⟨a,e.vs++[v]⟩:=by
 unfold putA putL at hh;split at hh
 ·rename_i hf;obtain⟨e,h2,h3⟩:=Afp hf;rw[Zv h2]at hh;have h4:e.at_=a:=by simpa[eqH]using h3
  rcases List.mem_or_eq_of_mem_set hh with h|rfl
  ·exact .inl h
  ·exact .inr (.inr ⟨e,List.mem_of_getElem? h2,h4,by rw[h4]⟩)
 ·rcases List.mem_append.1 hh with h|h
  ·exact .inl (List.mem_of_mem_take h)
  ·rcases List.mem_cons.1 h with rfl|h
   ·exact .inr (.inl rfl)
   ·exact .inl (List.mem_of_mem_drop h)
theorem Ajt{l:List Hld}{a:Az}{v:Ver}(hl:LSo l):LSo (putA l a v):=by
 unfold putA putL;split
 ·rename_i hf;obtain⟨e,h2,h3⟩:=Afp hf;rw[Zv h2,LSo,List.map_set];rw[List.set_getElem?_self' (l:=l.map Hld.at_) (by rw[List.getElem?_map,h2];rfl)]
  exact hl
 ·rename_i hf;have hl':=hl;rw[LSo,List.pairwise_map]at hl';obtain⟨h1,h2⟩:=Aho (lt:=Kh a) (l:=l) (hl'.imp fun {x y} hab hb=>by simp only[Kh,decide_eq_true_eq]at*;exact List.lt_trans hab hb)
  have hgt:∀x∈l.drop (Km (Kh a) l),a<x.at_:=by
   intro x hx;have h3:=h2 x hx;simp only[Kh,decide_eq_false_iff_not]at h3;obtain⟨j,hj,rfl⟩:=List.mem_iff_getElem.1 hx;rw[List.length_drop]at hj;rw[List.getElem_drop]at h3 ⊢;have hne:l[Km (Kh a) l+j].at_≠a:=by
    intro e;cases j with
    |zero=>
     apply hf;unfold bsF;rw[List.getElem?_eq_getElem (show Km (Kh a) l<l.length by omega)]
     simp only[Option.any_some,eqH,decide_eq_true_eq];exact e
    |succ j=>
     have h4:=List.pairwise_iff_getElem.1 hl' (Km (Kh a) l) (Km (Kh a) l+(j+1)) (by omega) (by omega) (by omega)
     rw[e]at h4;have h5:=h2 (l[Km (Kh a) l]'(by omega)) (by rw[List.drop_eq_getElem_cons (by omega)];exact List.mem_cons_self ..)
     simp only[Kh,decide_eq_false_iff_not]at h5;exact h5 h4
   exact Std.lt_of_le_of_ne (List.not_lt.1 h3) (Ne.symm hne)
  rw[LSo,List.map_append,List.map_cons,List.pairwise_append,List.pairwise_cons];rw[LSo]at hl;refine⟨?_,⟨?_,?_⟩,?_⟩
  ·rw[List.map_take];exact List.Pairwise.sublist (List.take_sublist _ _) hl
  ·intro y hy;obtain⟨x,hx,rfl⟩:=List.mem_map.1 hy;exact hgt x hx
  ·rw[List.map_drop];exact List.Pairwise.sublist (List.drop_sublist _ _) hl
  ·intro y hy z hz;obtain⟨x,hx,rfl⟩:=List.mem_map.1 hy;have h3:=h1 x hx;simp only[Kh,decide_eq_true_eq]at h3;rcases List.mem_cons.1 hz with rfl|hz
   ·exact h3
   ·obtain⟨w,hw,rfl⟩:=List.mem_map.1 hz;exact List.lt_trans h3 (hgt w hw)
def WInv(U:Az→Int)(l:List Hld):Prop:=LSo l∧∀h∈l,Lies h.at_∧VSo h.vs∧∀v∈h.vs,1≤v.rev∧v.rev≤U h.at_
theorem VSo.snoc{vs:List Ver}{v:Ver}{u:Int}(h:VSo vs)(hu:∀x∈vs,x.rev≤u)(hv:u<v.rev):VSo (vs++[v]):=by
 rw[VSo,List.pairwise_append];refine⟨h,by simp,fun x hx y hy=>?_⟩
 simp only[List.mem_singleton]at hy;subst hy;have:=hu x hx;omega
theorem WInv.put{U U':Az→Int}{l:List Hld}{a:Az}{v:Ver}(h:WInv U l)(hU:∀x,U x≤U' x)(h1:1≤v.rev)(h2:U a<v.rev)(h3:v.rev≤U' a)(ha:Lies a):WInv U' (putA l a v):=by
 refine⟨Ajt h.1,fun x hx=>?_⟩
 rcases Ajm hx with hx|rfl|⟨e,he,hea,rfl⟩
 ·obtain⟨a1,a2,a3⟩:=h.2 x hx;exact⟨a1,a2,fun v hv=>⟨(a3 v hv).1,Int.le_trans (a3 v hv).2 (hU _)⟩⟩
 ·exact⟨ha,by simp[VSo],fun w hw=>by simp only[List.mem_singleton]at hw;subst hw;exact⟨h1,h3⟩⟩
 ·obtain⟨a1,a2,a3⟩:=h.2 e he;rw[hea]at a3;refine⟨ha,a2.snoc (fun x hx=>(a3 x hx).2) h2,fun w hw=>?_⟩
  rcases List.mem_append.1 hw with hw|hw
  ·exact⟨(a3 w hw).1,Int.le_trans (a3 w hw).2 (hU _)⟩
  ·simp only[List.mem_singleton]at hw;subst hw;exact⟨h1,h3⟩
def bndW(n:Az)(r:Int)(R:Az→Int)(KK:List Az)(a:Az):Int:=if(C1 a).1=n then(if(C1 a).2.1∈KK then r else r+1)else R (C1 a).1
theorem Q7(n k:Az)(c:Chg)(x:WSt):Dw n k c x=x∨∃v,v.rev=x.t.rev+1∧(Dw n k c x).l=putA x.l (B7 n k) v∧(Dw n k c x).w=true:=by
 unfold Dw;dsimp only;split
 ·exact .inl rfl
 ·right;split
  ·exact⟨_,rfl,rfl,rfl⟩
  ·split
   ·exact⟨_,rfl,rfl,rfl⟩
   ·exact⟨_,rfl,rfl,rfl⟩
theorem Agt(n k:Az)(c:Chg)(x:WSt):(Dw n k c x).t.rev=x.t.rev∧(Dw n k c x).t.floor=x.t.floor:=by
 unfold Dw;dsimp only;split
 ·exact⟨rfl,rfl⟩
 ·split
  ·exact⟨rfl,rfl⟩
  ·split<;>exact⟨rfl,rfl⟩
theorem Ah2{n:Az}{r:Int}{R:Az→Int}{k:Az}{KK:List Az}(a:Az):bndW n r R (k::KK) a≤bndW n r R KK a:=by
 unfold bndW;split
 ·split<;>split
  ·omega
  ·omega
  ·rename_i h1 h2;exact absurd (List.mem_cons_of_mem _ h2) h1
  ·omega
 ·omega
theorem Ag6{n k:Az}{c:Chg}{x:WSt}{R:Az→Int}{KK:List Az}(hn:n.length<256)(hk:k ∉ KK)(hr:0≤x.t.rev)(h:WInv (bndW n x.t.rev R (k::KK)) x.l):
 WInv (bndW n x.t.rev R KK) (Dw n k c x).l:=by
 rcases Q7 n k c x with e|⟨v,h1,h2,_⟩
 ·rw[e];exact⟨h.1,fun y hy=>⟨(h.2 y hy).1,(h.2 y hy).2.1,fun v hv=>⟨((h.2 y hy).2.2 v hv).1,Int.le_trans ((h.2 y hy).2.2 v hv).2 (Ah2 _)⟩⟩⟩
 ·rw[h2];have hw:C1 (B7 n k)=(n,k,true):=Mt hn;refine h.put Ah2 (by omega) ?_ ?_ ⟨n,k,rfl,hn⟩
  ·unfold bndW;rw[hw,if_pos rfl,if_pos (List.mem_cons_self ..)];omega
  ·unfold bndW;rw[hw,if_pos rfl,if_neg hk];omega
theorem Ahn{n:Az}{F:List Chg}{R:Az→Int}(hn:n.length<256):∀{KK:List Az} {x:WSt},KK.Nodup→0≤x.t.rev→WInv (bndW n x.t.rev R KK) x.l→
 WInv (bndW n x.t.rev R []) (Ge n F KK x).l∧(Ge n F KK x).t.rev=x.t.rev∧(Ge n F KK x).t.floor=x.t.floor
 | [],x,_,_,h=>⟨h,rfl,rfl⟩
 |k::KK,x,hd,hr,h=>by
  obtain⟨h1,h2⟩:=List.nodup_cons.1 hd;obtain⟨t1,t2⟩:=Agt n k (getF F k) x;have h3:=Ag6 (c:=getF F k) hn h1 hr h;have ih:=Ahn (F:=F) (R:=R) hn (KK:=KK) (x:=Dw n k (getF F k) x) h2 (by omega) (by rw[t1];exact h3)
  rw[t1,t2]at ih;exact ih
theorem Ah5{n:Az}{F:List Chg}:∀{KK:List Az} {x:WSt},(Ge n F KK x).w=false→Ge n F KK x=x
 | [],x,_=>rfl
 |k::KK,x,h=>by
  have ih:=Ah5 (n:=n) (F:=F) (KK:=KK) (x:=Dw n k (getF F k) x) h;change Ge n F KK (Dw n k (getF F k) x)=x;rw[ih];rcases Q7 n k (getF F k) x with e|⟨v,_,_,h2⟩
  ·exact e
  ·have h3:(Ge n F KK (Dw n k (getF F k) x)).w=false:=h;rw[ih,h2]at h3;cases h3
theorem Ah0{n:Az}{F:List Chg}(hn:n.length≤1000):∀{KK:List Az} {m m':Nat} {x:WSt},LBd m x.l→TBd m' x.t→(∀k∈KK,k.length≤64∧((getF F k).gone=true∨(getF F k).val.length≤256))→
 LBd (m+KK.length) (Ge n F KK x).l∧TBd (m'+KK.length) (Ge n F KK x).t
 | [],m,m',x,h1,h2,_=>⟨h1,h2⟩
 |k::KK,m,m',x,h1,h2,h3=>by
  obtain⟨a1,a2⟩:=h3 k (List.mem_cons_self ..);obtain⟨b1,b2,_,_⟩:=W4 (k:=k) (c:=getF F k) h1 h2 hn a1 a2;obtain⟨c1,c2⟩:=Ah0 (F:=F) hn (KK:=KK) b1 b2 fun k hk=>h3 k (List.mem_cons_of_mem _ hk)
  rw[List.length_cons,show m+(KK.length+1)=m+1+KK.length by omega,show m'+(KK.length+1)=m'+1+KK.length by omega]
  exact⟨c1,c2⟩
theorem Agz:∀{cs F FF:List Chg},K6 cs F=some FF→(F.map Chg.key).Nodup→(∀c∈F,c.ok)→(FF.map Chg.key).Nodup∧(∀c∈FF,c.ok)∧FF.length≤F.length+cs.length
 | [],F,FF,h,h1,h2=>by
   have h:some F=some FF:=h;cases h;exact⟨h1,h2,by simp⟩
 |c::r,F,FF,h,h1,h2=>by
  unfold K6 at h;split at h
  ·rename_i hc;obtain⟨a,b,d⟩:=Agz h (U5 h1) fun x hx=>by
    rcases Zn hx with h|h
    ·exact h2 x h
    ·subst h;exact hc
   have:=Zm F c;exact⟨a,b,by simp only[List.length_cons];omega⟩
  ·cases h
theorem Aid{n:Az}{t:Tal}:∀{sp:List (Az × Tal)} {i:Nat},sp.findIdx? (fun x=>decide (x.1=n))=some i→∀n',((sp.set i (n,t)).find? fun x=>decide (x.1=n')).map (·.2)=if n'=n then some t else(sp.find? fun x=>decide (x.1=n')).map (·.2)
 | [],i,h,_=>by simp at h
 |x::sp,i,h,n'=>by
  rw[List.findIdx?_cons]at h;by_cases hx:x.1=n
  ·simp only[hx,decide_true,if_true,Option.some.injEq]at h;subst h;rw[List.set_cons_zero,List.find?_cons,List.find?_cons];by_cases hn:n'=n
   ·subst hn;simp
   ·have h1:¬n=n':=fun e=>hn e.symm
    have h2:¬x.1=n':=by rw[hx];exact h1
    simp[h1,h2,hn]
  ·simp only[hx,decide_false,Bool.false_eq_true,if_false,Option.map_eq_some_iff]at h;obtain⟨j,hj,rfl⟩:=h;rw[List.set_cons_succ,List.find?_cons,List.find?_cons];by_cases hn:x.1=n'
   ·have:¬n'=n:=by rw[←hn];exact hx
    simp[hn,this]
   ·simp only[hn,decide_false];exact Aid hj n'
theorem Mi{s:Sto}{n:Az}{i:Nat}{t:Tal}{l:List Hld}(h:s.fi n=some i)(n':Az):(Sto.mk (s.sp.set i (n,t)) l).tal n'=if n'=n then t else s.tal n':=by
 unfold Sto.tal;have:=Aid (t:=t) h n';simp only at this ⊢;rw[this];split<;>rfl
theorem Ajf{s s':Sto}(h:s'.sp.map (·.1)=s.sp.map (·.1))(n:Az):s'.fi n=s.fi n:=by
 have h1:∀s:Sto,s.fi n=(s.sp.map (·.1)).findIdx? (fun x=>decide (x=n)):=fun s=>by unfold Sto.fi;rw[List.findIdx?_map];rfl
 rw[h1,h1,h]
theorem Agj{s:Sto}{n:Az}{i:Nat}{t:Tal}{l:List Hld}(h:s.fi n=some i):(Sto.mk (s.sp.set i (n,t)) l).sp.map (·.1)=s.sp.map (·.1):=by
 obtain⟨_,_,h3⟩:=Sto.fi_some h;dsimp only;rw[List.map_set];exact List.set_getElem?_self' (by rw[List.getElem?_map,h3];rfl)
theorem Aij{s:Sto}{n:Az}(h:s.fi n=none)(n':Az):({s with sp:=s.sp++[(n,tal0)]}:Sto).tal n'=s.tal n':=by
 unfold Sto.tal;dsimp only;rw[List.find?_append];cases hf:s.sp.find? fun x=>decide (x.1=n')with
 |some x=>rfl
 |none=>
  simp only[Option.none_or];rw[List.find?_cons];split<;>simp
structure SInv(m:Nat)(s:Sto):Prop where
 lb:LBd m s.l
 tb:∀n,TBd m (s.tal n)
 rv:∀n,0≤(s.tal n).floor∧(s.tal n).floor≤(s.tal n).rev∧(s.tal n).rev≤m
 wi:WInv (fun a=>(s.tal (C1 a).1).rev) s.l
 nm:∀x∈s.sp,x.1.length<256
 nd:(s.sp.map (·.1)).Nodup
theorem SInv.mono{m m':Nat}{s:Sto}(h:SInv m s)(hm:m≤m'):SInv m' s:=
 ⟨h.lb.mono hm,fun n=>(h.tb n).mono hm,fun n=>by have:=h.rv n;omega,h.wi,h.nm,h.nd⟩
theorem Ajr:SInv 0 ⟨[],[]⟩:=by
 have ht:∀n,(Sto.mk [] []).tal n=tal0:=fun n=>rfl
 refine⟨⟨Nat.le_refl _,by intro h hh;cases hh⟩,fun n=>?_,fun n=>?_,⟨List.Pairwise.nil,by intro h hh;cases hh⟩,(by intro h hh;cases hh),List.nodup_nil⟩
 ·rw[ht];exact⟨by decide,by decide,by decide⟩
 ·rw[ht];decide
theorem SInv.name{m:Nat}{s:Sto}(h:SInv m s){n:Az}{i:Nat}(hf:s.fi n=some i):n.length<256:=by
 obtain⟨_,_,h3⟩:=Sto.fi_some hf;exact h.nm _ (List.mem_of_getElem? h3)
theorem Ahj{l:List Az}(h:l.Nodup):(Dc l).Nodup:=(List.mergeSort_perm ..).nodup_iff.2 h
theorem Ajd(l:List Az):(Dc l).length=l.length:=List.length_mergeSort _
theorem Aje{l:List Az}{k:Az}:k∈Dc l↔k∈l:=(List.mergeSort_perm ..).mem_iff
def Sto.writeM(s:Sto)(n:Az)(cs:List Chg):Sto × Int × Int:=match s.fi n with
 |none=>(s,0,16)
 |some i=>match K6 cs []with
  |none=>(s,0,1)
  |some F=>(⟨s.sp.set i (n,(Ge n F (Dc (F.map Chg.key)) ⟨s.tal n,s.l,false⟩).fin),(Ge n F (Dc (F.map Chg.key)) ⟨s.tal n,s.l,false⟩).l⟩,(Ge n F (Dc (F.map Chg.key)) ⟨s.tal n,s.l,false⟩).fin.rev,0)
theorem Ajq{FF:List Chg}(h:∀c∈FF,c.ok){k:Az}(hk:k∈Dc (FF.map Chg.key)):k.length≤64∧((getF FF k).gone=true∨(getF FF k).val.length≤256):=by
 obtain⟨q,_,h2,h3⟩:=Adz (Aje.1 hk);have h4:=h _ (List.mem_of_getElem? h2);exact⟨by rw[←h3];exact h4.1.2,h4.2⟩
theorem SInv.start{m:Nat}{s:Sto}(h:SInv m s)(n:Az)(KK:List Az):WInv (bndW n (s.tal n).rev (fun n=>(s.tal n).rev) KK) s.l:=by
 refine⟨h.wi.1,fun x hx=>⟨(h.wi.2 x hx).1,(h.wi.2 x hx).2.1,fun v hv=>⟨((h.wi.2 x hx).2.2 v hv).1,?_⟩⟩⟩
 have h1:=((h.wi.2 x hx).2.2 v hv).2;dsimp only at h1;unfold bndW;split
 ·rename_i e;rw[e]at h1;split<;>omega
 ·exact h1
theorem SInv.write{m:Nat}{s:Sto}(h:SInv m s)(n:Az)(cs:List Chg):SInv (m+cs.length+1) (s.writeM n cs).1:=by
 unfold Sto.writeM;split
 ·exact h.mono (by omega)
 ·rename_i i hi;split
  ·exact h.mono (by omega)
  ·rename_i F hF;obtain⟨f1,f2,f3⟩:=Agz hF (by simp) (by simp)
   have hn:=h.name hi;have hs:=h.start n (Dc (F.map Chg.key));obtain⟨g1,g2,g3⟩:=Ahn (F:=F) (x:=⟨s.tal n,s.l,false⟩) hn (Ahj f1) (by have:=h.rv n;dsimp only;omega) hs
   obtain⟨b1,b2⟩:=Ah0 (n:=n) (F:=F) (x:=⟨s.tal n,s.l,false⟩) (KK:=Dc (F.map Chg.key)) (by omega) h.lb (h.tb n) fun k hk=>Ajq f2 hk
   have hw:=Ah5 (n:=n) (F:=F) (KK:=Dc (F.map Chg.key)) (x:=⟨s.tal n,s.l,false⟩);generalize Ge n F (Dc (F.map Chg.key)) ⟨s.tal n,s.l,false⟩=Z at*;dsimp only at g1 g2 g3 b1 b2 hw ⊢;rw[Ajd,List.length_map]at b1 b2;simp only[List.length_nil,Nat.zero_add]at f3;have hrv:=h.rv n;have hfin:Z.fin.floor=(s.tal n).floor∧Z.fin.rev=(if Z.w=true then(s.tal n).rev+1 else(s.tal n).rev)∧TBd (m+cs.length+1) Z.fin:=by
    have h5:=b2.mono (show m+F.length≤m+cs.length+1 by omega)
    obtain⟨c1,c2,c3⟩:=h5;unfold WSt.fin;split
    ·exact⟨g3,by rw[←g2],⟨c1,c2,c3⟩⟩
    ·exact⟨g3,g2,⟨c1,c2,c3⟩⟩
   refine⟨b1.mono (by omega),fun n'=>?_,fun n'=>?_,?_,?_,?_⟩
   ·rw[Mi hi];split
    ·exact hfin.2.2
    ·exact(h.tb n').mono (by omega)
   ·rw[Mi hi];split
    ·rw[hfin.1,hfin.2.1];split<;>omega
    ·have:=h.rv n';omega
   ·refine⟨g1.1,fun x hx=>⟨(g1.2 x hx).1,(g1.2 x hx).2.1,fun v hv=>⟨((g1.2 x hx).2.2 v hv).1,?_⟩⟩⟩
    dsimp only;rw[Mi hi];have h1:=((g1.2 x hx).2.2 v hv).2;unfold bndW at h1;split
    ·rename_i e;rw[if_pos e,if_neg (by simp)]at h1
     rw[hfin.2.1];cases hZ:Z.w with
     |true=>simp only[if_true];exact h1
     |false=>
      rw[hw hZ]at hx;have h9:=((h.wi.2 x hx).2.2 v hv).2;dsimp only at h9;rw[e]at h9;simpa using h9
    ·rename_i e;rw[if_neg e]at h1;exact h1
   ·intro x hx;rcases List.mem_or_eq_of_mem_set hx with hx|rfl
    ·exact h.nm x hx
    ·exact hn
   ·rw[Agj hi];exact h.nd
theorem SInv.open{m:Nat}{s:Sto}{nm:Bool}(h:SInv m s)(n:Az)(hn:nm=true→n.length<256):SInv m (s.openM nm n).1:=by
 unfold Sto.openM;split
 ·exact h
 ·rename_i hnm;split
  ·exact h
  ·rename_i hf;split
   ·exact h
   ·have hf:s.fi n=none:=by simpa using hf
    have ht:=Aij hf;refine⟨h.lb,fun n'=>by rw[ht];exact h.tb n',fun n'=>by rw[ht];exact h.rv n',⟨h.wi.1,fun x hx=>?_⟩,?_,?_⟩
    ·have h2:=h.wi.2 x hx;refine⟨h2.1,h2.2.1,fun v hv=>⟨(h2.2.2 v hv).1,?_⟩⟩
     have h3:=(h2.2.2 v hv).2;dsimp only at h3 ⊢;rw[ht];exact h3
    ·intro x hx;rcases List.mem_append.1 hx with hx|hx
     ·exact h.nm x hx
     ·simp only[List.mem_singleton]at hx;subst hx;exact hn (by simpa using hnm)
    ·dsimp only;rw[List.map_append,List.nodup_append];refine⟨h.nd,by simp,?_⟩
     intro a ha b hb e;simp only[List.map_cons,List.map_nil,List.mem_singleton]at hb;subst hb;subst e;obtain⟨x,hx,e⟩:=List.mem_map.1 ha;unfold Sto.fi at hf;rw[List.findIdx?_eq_none_iff]at hf;have:=hf x hx;simp[e]at this
def Pf(n:Az)(rev:Int)(h:Hld):Option Hld:=if(C1 h.at_).1=n then(if h.vs.length≤Lm rev h.vs then none else some ⟨h.at_,h.vs.drop (Lm rev h.vs)⟩)else some h
theorem Ahp{n:Az}{rev:Int}:∀{l:List Hld} {x:CSt},(Mz n rev l x).l=x.l++l.filterMap (Pf n rev)∧x.c≤(Mz n rev l x).c∧∀m:Nat,(∀h∈l,h.vs.length≤m)→(Mz n rev l x).c≤x.c+l.length*m
 | [],x=>⟨by simp[Mz],Int.le_refl _,fun m _=>by simp[Mz]⟩
 |h::r,x=>by
  obtain⟨i1,i2,i3⟩:=Ahp (n:=n) (rev:=rev) (l:=r) (x:=Uy n rev h x);unfold Mz;rw[i1,List.filterMap_cons];have hs:(Uy n rev h x).l=x.l++(Pf n rev h).toList∧x.c≤(Uy n rev h x).c∧(Uy n rev h x).c≤x.c+h.vs.length:=by
   unfold Uy Pf;split
   ·split
    ·exact⟨by simp,Int.le_refl _,by omega⟩
    ·exact⟨by simp,by(try dsimp only);omega,by(try dsimp only);omega⟩
   ·exact⟨by simp,Int.le_refl _,by dsimp only;omega⟩
  refine⟨?_,by omega,fun m hm=>?_⟩
  ·rw[hs.1,List.append_assoc];cases Pf n rev h<;>rfl
  ·have h1:=i3 m fun h hh=>hm h (List.mem_cons_of_mem _ hh)
   have h2:=hm h (List.mem_cons_self ..);rw[List.length_cons];have h3:((r.length+1:Nat):Int)*(m:Int)=r.length*m+m:=by rw[Int.natCast_add,Int.add_mul];simp
   omega
theorem Agy{n:Az}{rev:Int}{h h':Hld}(e:Pf n rev h=some h'):h'.at_=h.at_∧∃k,h'.vs=h.vs.drop k∧(h.vs≠[]→h'.vs≠[]):=by
 unfold Pf at e;split at e
 ·split at e
  ·cases e
  ·rename_i hk;cases e;exact⟨rfl,_,rfl,fun _ hn=>by rw[List.drop_eq_nil_iff]at hn;omega⟩
 ·cases e;exact⟨rfl,0,rfl,fun h=>h⟩
theorem Ah1{n:Az}{rev:Int}:∀{l:List Hld},((l.filterMap (Pf n rev)).map Hld.at_).Sublist (l.map Hld.at_)
 | []=>by simp
 |h::r=>by
  rw[List.filterMap_cons];cases e:Pf n rev h with
  |none=>exact List.Sublist.cons _ Ah1
  |some h'=>
   dsimp only;rw[List.map_cons,List.map_cons,(Agy e).1];exact List.Sublist.cons_cons _ Ah1
def Sto.compM(s:Sto)(n:Az)(rev:Int):Sto × Int:=match s.fi n with
 |none=>(s,16)
 |some i=>if s.compE n rev=0 then(⟨s.sp.set i (n,{s.tal n with floor:=rev,vers:=(Mz n rev s.l ⟨[],0⟩).c}),(Mz n rev s.l ⟨[],0⟩).l⟩,0)else(s,s.compE n rev)
theorem Aht{s:Sto}{n:Az}{rev:Int}(h:s.compE n rev=0):0≤rev∧rev≤(s.tal n).rev∧(s.tal n).floor≤rev:=by
 unfold Sto.compE at h;split at h
 ·omega
 ·split at h
  ·omega
  ·split at h<;>omega
theorem SInv.comp{m:Nat}{s:Sto}(h:SInv m s)(hm:m≤80000)(n:Az)(rev:Int):SInv m (s.compM n rev).1:=by
 unfold Sto.compM;split
 ·exact h
 ·rename_i i hi;split
  ·rename_i he;obtain⟨e1,e2,e3⟩:=Aht he;obtain⟨c1,c2,c3⟩:=Ahp (n:=n) (rev:=rev) (l:=s.l) (x:=⟨[],0⟩);have c4:=c3 80000 fun h' hh=>Nat.le_trans (h.lb.held h' hh).2.2.1 hm
   generalize Mz n rev s.l ⟨[],0⟩=Z at*;dsimp only at c1 c2 c4 ⊢;rw[List.nil_append]at c1;have hlen:=h.lb.len;have hc:Z.c≤10000000000:=by
    have:(s.l.length:Int)*80000≤80000*80000:=by omega
    omega
   obtain⟨t1,t2,t3⟩:=h.tb n;have hrv:=h.rv n;have hmem:∀x∈Z.l,∃y∈s.l,Pf n rev y=some x:=fun x hx=>by
    rw[c1]at hx;obtain⟨y,hy,hyx⟩:=List.mem_filterMap.1 hx;exact⟨y,hy,hyx⟩
   refine⟨⟨?_,fun x hx=>?_⟩,fun n'=>?_,fun n'=>?_,⟨?_,fun x hx=>?_⟩,?_,?_⟩
   ·dsimp only;rw[c1];exact Nat.le_trans (List.length_filterMap_le _ _) hlen
   ·obtain⟨y,hy,e⟩:=hmem x hx;obtain⟨a1,k,a2,a3⟩:=Agy e;obtain⟨b1,b2,b3,b4⟩:=h.lb.held y hy;refine⟨by rw[a1];exact b1,a3 b2,by rw[a2,List.length_drop];omega,fun v hv=>?_⟩
    rw[a2]at hv;exact b4 v (List.mem_of_mem_drop hv)
   ·rw[Mi hi];split
    ·exact⟨t1,t2,⟨by dsimp only;omega,by dsimp only;omega⟩⟩
    ·exact h.tb n'
   ·rw[Mi hi];split
    ·dsimp only;omega
    ·exact h.rv n'
   ·dsimp only;rw[c1];exact List.Pairwise.sublist Ah1 h.wi.1
   ·obtain⟨y,hy,e⟩:=hmem x hx;obtain⟨a1,k,a2,a3⟩:=Agy e;obtain⟨b1,b2,b3⟩:=h.wi.2 y hy;refine⟨by rw[a1];exact b1,by rw[a2];exact b2.drop k,fun v hv=>?_⟩
    rw[a2]at hv;have h1:=b3 v (List.mem_of_mem_drop hv);refine⟨h1.1,?_⟩;dsimp only;rw[Mi hi,a1];split
    ·rename_i e;have h9:=h1.2;dsimp only at h9;rw[e]at h9;exact h9
    ·exact h1.2
   ·intro x hx;rcases List.mem_or_eq_of_mem_set hx with hx|rfl
    ·exact h.nm x hx
    ·exact h.name hi
   ·rw[Agj hi];exact h.nd
  ·exact h
set_option maxHeartbeats 4000000

open Go.Proofs
def A8(s:Az)(k lo hi:Int):Bool:=match s[k.toNat]? with
 |some c=>decide (lo≤(c.toNat:Int)∧(c.toNat:Int)≤hi)
 |none=>false
def Fv(s:Az)(k n:Nat):Bool:=(List.range n).all fun i=>A8 s ((k+i:Nat):Int) 128 191
def G9(s:Az):Int:=
 if A8 s 0 0 127 then 1
 else if(A8 s 0 194 223&&Fv s 1 1)then 2
 else if(Fv s 1 2&&((A8 s 0 224 224&&A8 s 1 160 191)||A8 s 0 225 236||(A8 s 0 237 237&&A8 s 1 128 159)||A8 s 0 238 239))then 3
 else if(Fv s 1 3&&((A8 s 0 240 240&&A8 s 1 144 191)||A8 s 0 241 243||(A8 s 0 244 244&&A8 s 1 128 143)))then 4
 else 0

open Go.Proofs
def E8(s:Az):Bool:=match s with
 | []=>false
 | [c]=>decide (32≤(c.toNat:Int))&&decide ((c.toNat:Int)≤126)&& !decide ((c.toNat:Int)=92)
 | [c,d]=>if(c.toNat:Int)=194 then decide (161≤(d.toNat:Int))else true
 |_=>true

open Go.Proofs
def badR(k:Nat)(c:Int)(at':Nat)(piece:Az):Bool:=
 (decide (k=1)&& !((decide (97≤c)&&decide (c≤122))||(decide (48≤c)&&decide (c≤57))||decide (c=95)||(decide (c=45)&&decide (0<at'))))
 ||(decide (1<k)&& !E8 piece)
def Ey:Nat→Az→Nat→Nat→Bool
 |0,_,_,_=>false
 |f+1,s,at',n=>match s[at']? with
  |none=>decide (0<n)
  |some c=>
   let k:=(G9 (s.drop at')).toNat
   if k=0 then false
   else if badR k c.toNat at' ((s.drop at').take k)=true then false
   else if 24<n+1 then false
   else Ey f s (at'+k) (n+1)
def D9(s:Az):Bool:=Ey (s.length+1) s 0 0

theorem Ajc(s:Az):(G9 s).toNat≤4:=by
 unfold G9;repeat' split
 all_goals decide
theorem Ahv:∀{f:Nat} {s:Az} {a n:Nat},Ey f s a n=true→s.length≤a+4*(24 - n)
 |0,s,a,n,h=>by simp[Ey]at h
 |f+1,s,a,n,h=>by
  unfold Ey at h;split at h
  ·rename_i hs;have:=List.getElem?_eq_none_iff.1 hs;omega
  ·dsimp only at h;have hk:=Ajc (s.drop a);generalize (G9 (s.drop a)).toNat=k at h hk;split at h
   ·cases h
   ·split at h
    ·cases h
    ·split at h
     ·cases h
     ·have:=Ahv h;omega
theorem Aha{s:Az}(h:D9 s=true):s.length<256:=by
 have:=Ahv h;omega
structure Opn where
 k:Int
 n:Az
 l:List Chg
 x:Sp
 rev:Int
 most:Int
def Opn.toI(o:Opn):I:=.agg [ti o.k,.str o.n,.list (o.l.map Chg.toI),o.x.toI,ti o.rev,ti o.most]
def Sto.stepM(s:Sto)(o:Opn):Sto:=if o.k=0 then(s.writeM o.n o.l).1 else if o.k=2 then(s.compM o.n o.rev).1 else if o.k=3 then(s.openM (D9 o.n) o.n).1 else s
theorem SInv.step{m:Nat}{s:Sto}(h:SInv m s)(o:Opn)(hm:m≤80000):SInv (m+o.l.length+1) (s.stepM o):=by
 unfold Sto.stepM;split
 ·exact h.write _ _
 ·split
  ·exact(h.comp hm _ _).mono (by omega)
  ·split
   ·exact(h.open _ Aha).mono (by omega)
   ·exact h.mono (by omega)
theorem Aiv{s:Sto}{n:Az}:(s.fi n).isSome=true↔n∈s.sp.map (·.1):=by
 unfold Sto.fi;rw[List.findIdx?_isSome,List.any_eq_true];constructor
 ·rintro⟨x,hx,e⟩;exact List.mem_map.2 ⟨x,hx,by simpa using e⟩
 ·intro h;obtain⟨x,hx,e⟩:=List.mem_map.1 h;exact⟨x,hx,by simpa using e⟩
theorem Ah4{s:Sto}{nm:Bool}{n n':Az}:(s.openM nm n).1.tal n'=s.tal n'∧(s.openM nm n).1.l=s.l:=by
 unfold Sto.openM;split
 ·exact⟨rfl,rfl⟩
 ·split
  ·exact⟨rfl,rfl⟩
  ·rename_i hf;split
   ·exact⟨rfl,rfl⟩
   ·exact⟨Aij (by simpa using hf) n',rfl⟩
theorem Ar0{n:Az}{rev:Int}{h:Hld}(e:(C1 h.at_).1≠n):gV n rev h=none:=by unfold gV;rw[if_neg (fun c=>e c.1)]
theorem SInv.bd{m:Nat}{s:Sto}(h:SInv m s)(hm:m≤80000):s.Bd:=⟨by have:=h.lb.len;omega,fun x hx=>by obtain⟨a,b,c,_⟩:=h.lb.held x hx;exact⟨a,b,by omega⟩⟩
theorem Aqt{m:Nat}{s:Sto}(h:SInv m s){n:Az}(hf:(s.fi n).isSome=true){x:Sp}(hx:SpR x){rev most:Int}(hr:0≤rev∧rev≤(s.tal n).rev∧(rev=0∨(s.tal n).floor≤rev))(hm:1≤most∧most≤16):
 s.rangeM n x rev most=((Ee x most (Lh n (if rev=0 then(s.tal n).rev else rev) s.l) []).1,(Ee x most (Lh n (if rev=0 then(s.tal n).rev else rev) s.l) []).2,0):=by
 obtain⟨i,hi⟩:=Option.isSome_iff_exists.1 hf;unfold Sto.rangeM;rw[if_neg (by rw[hi];simp),if_neg (fun c=>c ⟨hx,by omega,by omega,by omega⟩),if_neg (by omega),if_neg (by omega)]
 rw[Am9 (h.name hi) h.wi.1 fun y hy=>(h.wi.2 y hy).1]
set_option maxHeartbeats 40000000

theorem Aik:∀{p k:Az},(p≤k∧k<p++[0])↔k=p
 | [],[]=>by simp
 | [],x::k=>by
   simp only[List.nil_append];rw[List.cons_lt_cons_iff];have h1:¬x<0:=by
    intro h;have:=UInt8.lt_iff_toNat_lt.1 h;simp at this
   have h2:¬k<[]:=List.not_lt_nil k;simp[h1,h2]
 |a::p,[]=>by simp
 |a::p,x::k=>by
  have ih:=Aik (p:=p) (k:=k);simp only[List.cons_append];rw[List.cons_le_cons_iff,List.cons_lt_cons_iff,List.cons.injEq, ←ih];constructor
  ·rintro⟨h3,h4⟩;rcases h3 with h3|⟨rfl,h3⟩
   ·rcases h4 with h4|⟨rfl,_⟩
    ·exact absurd (UInt8.lt_trans h3 h4) (UInt8.lt_irrefl _)
    ·exact absurd h3 (UInt8.lt_irrefl _)
   ·rcases h4 with h4|⟨_,h4⟩
    ·exact absurd h4 (UInt8.lt_irrefl _)
    ·exact⟨rfl,h3,h4⟩
  ·rintro⟨rfl,h3,h4⟩;exact⟨.inr ⟨rfl,h3⟩,.inr ⟨rfl,h4⟩⟩
end Go.Ab
