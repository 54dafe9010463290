/- Lemmas -/
import Derived.Test.YtkpojedpcabojaaDoorY9
set_option linter.unusedVariables false
set_option linter.unusedSimpArgs false
namespace Go.Ab
def G3(n:Az)(h:Hld):Option Kv:=if(C1 h.at_).1=n then some ⟨(C1 h.at_).2.1,h.vs⟩else none
def keysOf(n:Az)(l:List Hld):List Kv:=l.filterMap (G3 n)
theorem Akn{n:Az}:∀{d:List Hld} {out:List Kv},(d.Pairwise fun a b=>(C1 b.at_).1=n→(C1 a.at_).1=n)→Ta n d out=out++keysOf n d
 | [],out,_=>by simp[Ta,keysOf]
 |h::r,out,hp=>by
  obtain⟨h1,h2⟩:=List.pairwise_cons.1 hp;unfold Ta keysOf;rw[List.filterMap_cons];by_cases hn:(C1 h.at_).1=n
  ·rw[if_neg (by simpa using hn),Akn h2,show G3 n h=some ⟨(C1 h.at_).2.1,h.vs⟩by unfold G3;rw[if_pos hn]]
   simp[keysOf]
  ·rw[if_pos hn,show G3 n h=none by unfold G3;rw[if_neg hn]]
   have:r.filterMap (G3 n)=[]:=by
    rw[List.filterMap_eq_nil_iff];intro a ha;unfold G3;rw[if_neg (fun e=>hn (h1 a ha e))]
   simp[this]
theorem Ani{l:List Hld}{n:Az}(hn:n.length<256)(hl:LSo l)(hv:∀h∈l,Lies h.at_):∀a∈l.take (Km (Kh (B7 n [])) l),(C1 a.at_).1≠n:=by
 rw[LSo,List.pairwise_map]at hl;obtain⟨h1,_⟩:=Aho (lt:=Kh (B7 n [])) (l:=l) (hl.imp fun {a b} hab hb=>by simp only[Kh,decide_eq_true_eq]at*;exact List.lt_trans hab hb)
 intro a ha e;have h3:=(hv a (List.mem_of_mem_take ha)).whose.1;have h4:=h1 a ha;simp only[Kh,decide_eq_true_eq]at h4;rw[e]at h3;rw[h3,Ahd]at h4;exact absurd h4 (List.not_lt.2 (List.IsPrefix.le (List.prefix_append (B7 n []) (C1 a.at_).2.1)))
theorem Amy{l:List Hld}{n:Az}(hn:n.length<256)(hl:LSo l)(hv:∀h∈l,Lies h.at_):Ta n (l.drop (Km (Kh (B7 n [])) l)) []=keysOf n l:=by
 rw[Akn (Aio (rev:=0) hn hl hv).2,List.nil_append]
 conv=>rhs;rw[←List.take_append_drop (Km (Kh (B7 n [])) l) l]
 unfold keysOf;rw[List.filterMap_append,show(l.take (Km (Kh (B7 n [])) l)).filterMap (G3 n)=[]from List.filterMap_eq_nil_iff.2 fun a ha=>by unfold G3;rw[if_neg (Ani hn hl hv a ha)]]
 rfl
theorem V1{rev:Int}:∀{vs:List Ver} {v:Ver},Hr rev vs v=((vs.filter fun w=>decide (w.rev≤rev)).getLast?).getD v
 | [],v=>rfl
 |w::r,v=>by
  unfold Hr;rw[V1,List.filter_cons];by_cases h:w.rev≤rev
  ·rw[if_pos h,if_pos (by simpa using h),List.getLast?_cons]
   rfl
  ·rw[if_neg h,if_neg (by simpa using h)]
theorem Amw{vs:List Ver}(h:VSo vs)(rev:Int):D1 vs rev=if(Hr rev vs Aj).gone=true then(verN,false)else(Hr rev vs Aj,true):=by
 rw[Lg h,V1];cases (vs.filter fun w=>decide (w.rev≤rev)).getLast? with
 |none=>rfl
 |some v=>rfl
def selR(x:Sp)(rev:Int)(h:Kv):Option Pr:=if(Hr rev h.vs Aj).gone=false∧SpH x h.key then some ⟨h.key,(Hr rev h.vs Aj).val,(Hr rev h.vs Aj).made,(Hr rev h.vs Aj).rev⟩else none
theorem Wi{x:Sp}{rev:Int}:∀{ks:List Kv} {out:List Pr},Jw x rev ks out=out++ks.filterMap (selR x rev)
 | [],out=>by simp[Jw]
 |h::r,out=>by
  unfold Jw;rw[List.filterMap_cons];by_cases hc:(Hr rev h.vs Aj).gone=false∧SpH x h.key
  ·rw[if_pos hc,Wi,show selR x rev h=some ⟨h.key,(Hr rev h.vs Aj).val,(Hr rev h.vs Aj).made,(Hr rev h.vs Aj).rev⟩by unfold selR;rw[if_pos hc]]
   simp
  ·rw[if_neg hc,Wi,show selR x rev h=none by unfold selR;rw[if_neg hc]]
theorem Aiz{x:Sp}{m:Nat}:∀{V:List (Az × Ver)} {out:List Pr},out.length≤m→
 Mf x (m:Int) V out=(out++(((V.filter fun p=>decide (SpH x p.1)).map prOf).take (m - out.length)),decide (m - out.length<(V.filter fun p=>decide (SpH x p.1)).length))
 | [],out,_=>by simp[Mf]
 |p::V,out,ho=>by
  unfold Mf;by_cases h:SpH x p.1
  ·have hf:(p::V).filter (fun p=>decide (SpH x p.1))=p::V.filter (fun p=>decide (SpH x p.1)):=by rw[List.filter_cons,if_pos (by simpa using h)]
   rw[if_neg (fun c=>c h),hf]
   by_cases e:out.length=m
   ·rw[if_pos (by omega),e,Nat.sub_self]
    simp
   ·rw[if_neg (by omega),Aiz (by simp;omega)]
    have:m - out.length=(m - (out++[prOf p]).length)+1:=by simp;omega
    rw[this,List.map_cons,List.take_succ_cons];simp only[List.append_assoc,List.singleton_append,List.length_cons,Nat.add_lt_add_iff_right]
  ·have hf:(p::V).filter (fun p=>decide (SpH x p.1))=V.filter (fun p=>decide (SpH x p.1)):=by rw[List.filter_cons,if_neg (by simpa using h)]
   rw[if_pos h,hf];exact Aiz ho
theorem Ajh{n:Az}{x:Sp}{rev:Int}:∀{l:List Hld},(∀h∈l,VSo h.vs)→((Lh n rev l).filter fun p=>decide (SpH x p.1)).map prOf=(keysOf n l).filterMap (selR x rev)
 | [],_=>rfl
 |h::r,hv=>by
  have ih:=Ajh (n:=n) (x:=x) (rev:=rev) (l:=r) fun y hy=>hv y (List.mem_cons_of_mem _ hy)
  have ha:=Amw (hv h (List.mem_cons_self ..)) rev;unfold Lh keysOf at ih ⊢;rw[List.filterMap_cons,List.filterMap_cons];by_cases hn:(C1 h.at_).1=n
  ·rw[show G3 n h=some ⟨(C1 h.at_).2.1,h.vs⟩by unfold G3;rw[if_pos hn]]
   dsimp only;rw[List.filterMap_cons];cases hg:(Hr rev h.vs Aj).gone with
   |true=>
    rw[hg,if_pos rfl]at ha;rw[show gV n rev h=none by unfold gV;rw[ha,if_neg (fun c=>by cases c.2)],show selR x rev ⟨(C1 h.at_).2.1,h.vs⟩=none by unfold selR;rw[if_neg (fun c=>by rw[hg]at c;cases c.1)]]
    exact ih
   |false=>
    rw[hg,if_neg (by simp)]at ha
    rw[show gV n rev h=some ((C1 h.at_).2.1,Hr rev h.vs Aj)by unfold gV;rw[ha,if_pos ⟨hn,rfl⟩]]
    dsimp only;rw[List.filter_cons];by_cases hs:SpH x (C1 h.at_).2.1
    ·rw[if_pos (by simpa using hs),show selR x rev ⟨(C1 h.at_).2.1,h.vs⟩=some (prOf ((C1 h.at_).2.1,Hr rev h.vs Aj))by unfold selR;rw[if_pos ⟨hg,hs⟩];rfl]
     rw[List.map_cons,ih]
    ·rw[if_neg (by simpa using hs),show selR x rev ⟨(C1 h.at_).2.1,h.vs⟩=none by unfold selR;rw[if_neg (fun c=>hs c.2)]]
     exact ih
  ·rw[Ahu hn,show G3 n h=none by unfold G3;rw[if_neg hn]]
   exact ih
theorem Sk{rev:Int}:∀{vs out:List Ver},Sg rev vs out=out++vs.filter fun w=>decide (rev<w.rev)
 | [],out=>by simp[Sg]
 |w::r,out=>by
  unfold Sg;rw[Sk,List.filter_cons];by_cases h:rev<w.rev
  ·rw[if_pos h,if_pos (by simpa using h)];simp
  ·rw[if_neg h,if_neg (by simpa using h)]
theorem Amq{rev:Int}{v w:Ver}{t:List Ver}(h:w.rev≤rev):Lm rev (v::w::t)=Lm rev (w::t)+1:=by
 have hk:Eo rev (v::w::t)=Eo rev (w::t)+1:=by conv=>lhs;unfold Eo;rw[if_pos h]
 unfold Lm;rw[hk,List.getElem?_cons_succ];cases (w::t)[Eo rev (w::t)]? with
 |none=>rfl
 |some u=>dsimp only;split<;>rfl
theorem Akx{rev:Int}:∀{vs:List Ver},VSo vs→vs≠[]→vs.drop (Lm rev vs)=rcVs rev vs
 | [],_,h=>absurd rfl h
 | [v],hs,_=>by
   unfold rcVs Lm Eo;simp only[List.getElem?_cons_zero,Hr,Sg];by_cases h1:v.rev≤rev
   ·have h2:¬rev<v.rev:=by omega
    cases hg:v.gone<;>simp[h1,h2,hg]
   ·have h2:rev<v.rev:=by omega
    simp[h1,h2,Aj]
 |v::w::t,hs,_=>by
  obtain⟨s1,s2⟩:=List.pairwise_cons.1 hs;by_cases hw:w.rev≤rev
  ·rw[Amq hw,List.drop_succ_cons,Akx s2 (by simp)]
   have hv:¬rev<v.rev:=by have:=s1 w (List.mem_cons_self ..);omega
   unfold rcVs;rw[show Hr rev (v::w::t) Aj=Hr rev (w::t) Aj by simp only[Hr,if_pos hw]]
   have hf:(v::w::t).filter (fun u=>decide (rev<u.rev))=(w::t).filter (fun u=>decide (rev<u.rev)):=by rw[List.filter_cons,if_neg (by simpa using hv)]
   rw[Sk,Sk,hf]
  ·have hall:∀u∈w::t,rev<u.rev:=fun u hu=>by
    rcases List.mem_cons.1 hu with rfl|hu
    ·omega
    ·have:=(List.pairwise_cons.1 s2).1 u hu;omega
   have hft:(w::t).filter (fun u=>decide (rev<u.rev))=w::t:=List.filter_eq_self.2 fun u hu=>by simpa using hall u hu
   have hfn:(w::t).filter (fun u=>decide (u.rev≤rev))=[]:=List.filter_eq_nil_iff.2 fun u hu=>by have:=hall u hu;simp;omega
   have hk:Eo rev (v::w::t)=0:=by unfold Eo;rw[if_neg hw]
   unfold rcVs;rw[Sk,V1,List.filter_cons (x:=v),List.filter_cons (x:=v),hft,hfn];unfold Lm;rw[hk];simp only[List.getElem?_cons_zero];by_cases h1:v.rev≤rev
   ·have h2:¬rev<v.rev:=by omega
    cases hg:v.gone<;>simp[h1,h2,hg]
   ·have h2:rev<v.rev:=by omega
    simp[h1,h2,Aj]
set_option maxRecDepth 100000
set_option maxHeartbeats 40000000

open Go.Proofs
def P3(n:Az):List Spc→List Spc→Bool→List Spc
 | [],out,d=>if d=true then out else out++[⟨n,0,0,[]⟩]
 |p::r,out,d=>P3 n r ((if d=false∧n<p.name then out++[⟨n,0,0,[]⟩]else out)++[p]) (if d=false∧n<p.name then true else d)
def Zh(R:List Spc)(n:Az):List Spc × Int:=if D9 n=false then(R,5)else if 0≤Jd n R 0 then(R,15)else if 8≤R.length then(R,17)else(P3 n R [] false,0)
theorem Spc.new_I(n:Az):Spc.toI ⟨n,0,0,[]⟩= .agg [.str n,ti 0,ti 0,.list []]:=rfl
theorem Amd(R:List Spc)(n:Az)(hl:R.length≤100000):Fn Tryd.prog Af1 [rT R,.v (.str n)] (Is (.v (ti (Zh R n).2)) [rT (Zh R n).1,.no]):=by
 refine Vu ?_ (by simp)
 have hfi:=Lf R n hl;have hnm:=Ajf n;have hlm:((R.map Spc.toI).map D.it).length=R.length:=by simp
 unfold Zh;generalize D9 n=nm at hnm ⊢;generalize Jd n R 0=f at hfi ⊢;cases nm with
 |false=>
  simp only[if_true];repeat'((conv=>whnf);first|((with_reducible refine And.intro (fun hb=>?_) (fun hb=>?_))<;>first|(exact absurd hb (by decide))|((try rw[hb]);(try simp only[Aa]at hb)))|((with_reducible refine Exists.intro ?_ ?_);focus (and_intros<;>first|(intro _ hh;cases hh;done)|(simp;done)|decide))|((with_reducible refine CallWp.mk ?_);refine⟨_,hnm,?_⟩;rintro _ _ ⟨rfl,rfl⟩))
  all_goals(try(conv=>whnf))
  (apply dKq<;>kernel_rfl)
 |true=>
 simp only[Bool.true_eq_false,if_false];by_cases hf:0≤f
 ·rw[if_pos hf];have g1:¬decide (0≤f)=false:=by simpa using hf
  repeat'((conv=>whnf);first|((with_reducible refine Ax (by(with_reducible exact Bool.of_not_eq_false (by assumption))) (fun hb=>?_));(try rw[hb]);(try simp only[Aa]at hb))|((with_reducible refine And.intro (fun hb=>?_) (fun hb=>?_))<;>first|(exact absurd hb (by decide))|((try rw[hb]);(try simp only[Aa]at hb)))|((with_reducible refine Exists.intro ?_ ?_);focus (and_intros<;>first|kernel_rfl|(intro _ hh;cases hh;done)|(simp;done)|decide))|((with_reducible refine CallWp.mk ?_);refine⟨_,hnm,?_⟩;rintro _ _ ⟨rfl,rfl⟩)|((with_reducible refine CallWp.mk ?_);refine⟨_,hfi,?_⟩;rintro _ _ ⟨rfl,rfl⟩))
  all_goals(try(conv=>whnf))
  (apply dKq<;>kernel_rfl)
 rw[if_neg hf];have g1:¬decide (0≤f)=true:=by simpa using hf
 by_cases h8:8≤R.length
 ·rw[if_pos h8];have g2:¬decide ((8:Int)≤(R.length:Int))=false:=by simp;omega
  repeat'((conv=>whnf);first|((with_reducible refine Ax (by first|(with_reducible exact Bool.of_not_eq_false (by assumption))|((with_reducible refine decide_eq_true ?_);omega)) (fun hb=>?_));(try rw[hb]);(try simp only[Aa]at hb))|((with_reducible refine Aw (by(with_reducible exact Bool.of_not_eq_true (by assumption))) (fun hb=>?_));(try rw[hb]);(try simp only[Aa]at hb))|((with_reducible refine And.intro (fun hb=>?_) (fun hb=>?_))<;>first|(exact absurd hb (by decide))|((try rw[hb]);(try simp only[Aa]at hb)))|((with_reducible refine Exists.intro ?_ ?_);focus (and_intros<;>first|omega|(with_reducible rfl)|kernel_rfl|(intro _ hh;cases hh;done)|(simp;done)|decide))|(with_reducible intro hfact)|((with_reducible refine CallWp.mk ?_);refine⟨_,hnm,?_⟩;rintro _ _ ⟨rfl,rfl⟩)|((with_reducible refine CallWp.mk ?_);refine⟨_,hfi,?_⟩;rintro _ _ ⟨rfl,rfl⟩))
  all_goals(try(conv=>whnf))
  (apply dKq<;>kernel_rfl)
 rw[if_neg h8];have g2:¬decide ((8:Int)≤(R.length:Int))=true:=by simp;omega
 obtain⟨RES,hRES⟩:∃X,P3 n R [] false=X:=⟨_,rfl⟩;rw[hRES];repeat'((conv=>whnf);first|((with_reducible refine Aw (by first|(with_reducible exact Bool.of_not_eq_true (by assumption))|((with_reducible refine decide_eq_false ?_);omega)) (fun hb=>?_));(try rw[hb]);(try simp only[Aa]at hb))|((with_reducible refine And.intro (fun hb=>?_) (fun hb=>?_))<;>first|(exact absurd hb (by decide))|((try rw[hb]);(try simp only[Aa]at hb)))|((with_reducible refine Exists.intro ?_ ?_);focus (and_intros<;>first|omega|(with_reducible rfl)|kernel_rfl|(intro _ hh;cases hh;done)|(simp;done)|decide))|(with_reducible intro hfact)|((with_reducible refine CallWp.mk ?_);refine⟨_,hnm,?_⟩;rintro _ _ ⟨rfl,rfl⟩)|((with_reducible refine CallWp.mk ?_);refine⟨_,hfi,?_⟩;rintro _ _ ⟨rfl,rfl⟩))
 all_goals(try(conv=>whnf))
 refine LoopWq.by (X:=Nat × List Spc × Bool) (fun y=>[(7,.v (ti (y.1:Int))),(5,.vec 50 4 (y.2.1.map Spc.toI)),(6,.v (.bool y.2.2))]) (fun y=>y.1≤R.length∧y.2.1.length≤2*y.1∧P3 n (R.drop y.1) y.2.1 y.2.2=RES) (fun y=>R.length - y.1) (0,[],false) (by kernel_rfl) ⟨Nat.zero_le _,Nat.zero_le _,hRES⟩ ?_
 rintro⟨j,out,d⟩ ⟨hj,hol,hR⟩;dsimp only at hj hol hR ⊢;have hw:IntKind.i64.wrap ((j:Int)+1)=((j+1:Nat):Int):=(Bf (by omega)).trans (by omega)
 have hol2:(out.map Spc.toI).length≤200000:=by rw[List.length_map];omega
 by_cases hjl:j<R.length
 case neg=>
  have h4:¬decide ((j:Int)<(R.length:Int))=true:=by simp;omega
  rw[List.drop_eq_nil_of_le (by omega)]at hR
  cases d with
  |true=>
   have hR:out=RES:=hR;subst hR;repeat'((conv=>whnf);first|((with_reducible refine Aw (by first|(with_reducible exact Bool.of_not_eq_true (by assumption))|((with_reducible refine decide_eq_false ?_);omega)) (fun hb=>?_));(try rw[hb]);(try simp only[Aa]at hb))|((with_reducible refine And.intro (fun hb=>?_) (fun hb=>?_))<;>first|(exact absurd hb (by decide))|((try rw[hb]);(try simp only[Aa]at hb)))|((with_reducible refine Exists.intro ?_ ?_);focus (and_intros<;>first|omega|(with_reducible rfl)|kernel_rfl|(simp;done)))|(with_reducible intro hfact))
   all_goals(try(conv=>whnf))
   (apply dKq<;>kernel_rfl)
  |false=>
   have hR:out++[⟨n,0,0,[]⟩]=RES:=hR;subst hR;have hfin:rT (out++[⟨n,0,0,[]⟩])= .own [] (.ptr (.st [.vec 50 4 ((out.map Spc.toI++[I.agg [.str n,ti 0,ti 0,.list []]]).map D.it)])):=by simp only[rT,List.map_append,List.map_cons,List.map_nil,Spc.new_I]
   (try dsimp only)
   rw[hfin];repeat'((conv=>whnf);first|((with_reducible refine Aw (by first|(with_reducible exact Bool.of_not_eq_true (by assumption))|((with_reducible refine decide_eq_false ?_);omega)) (fun hb=>?_));(try rw[hb]);(try simp only[Aa]at hb))|((with_reducible refine And.intro (fun hb=>?_) (fun hb=>?_))<;>first|(exact absurd hb (by decide))|((try rw[hb]);(try simp only[Aa]at hb)))|((with_reducible refine Exists.intro ?_ ?_);focus (and_intros<;>first|omega|(with_reducible rfl)|kernel_rfl|exact Ah (by rfl)|(simp only[Bu];omega)|(simp;done)))|(with_reducible intro hfact))
   all_goals(try(conv=>whnf))
   (apply dKq<;>kernel_rfl)
 obtain⟨p,he⟩:∃x,R[j]?=some x:=⟨_,List.getElem?_eq_getElem hjl⟩;have h4:¬decide ((j:Int)<(R.length:Int))=false:=by simp;omega
 have hdr:R.drop j=p::R.drop (j+1):=by rw[List.drop_eq_getElem_cons hjl];rw[List.getElem?_eq_getElem hjl]at he;cases he;rfl
 rw[hdr]at hR;simp only[P3]at hR;obtain⟨pn,pr,pf,pk⟩:=p;dsimp only at hR;by_cases hlt:n<pn
 ·have c1:¬Op.bytesLess n pn=false:=by rw[Kz];simpa using hlt
  cases d with
  |true=>
   rw[if_neg (fun c=>by cases c.1),if_neg (fun c=>by cases c.1)]at hR
   repeat'((conv=>whnf);first|((with_reducible refine Ax (by first|(with_reducible exact Bool.of_not_eq_false (by assumption))|((with_reducible refine decide_eq_true ?_);omega)) (fun hb=>?_));(try rw[hb]);(try simp only[Aa]at hb))|((with_reducible refine Aw (by first|(with_reducible exact Bool.of_not_eq_true (by assumption))|(with_reducible rfl)) (fun hb=>?_));(try rw[hb]);(try simp only[Aa]at hb))|((with_reducible refine And.intro (fun hb=>?_) (fun hb=>?_))<;>first|(exact absurd hb (by decide))|((try rw[hb]);(try simp only[Aa]at hb)))|((with_reducible refine Exists.intro ?_ ?_);focus (and_intros<;>first|omega|(with_reducible rfl)|kernel_rfl|exact Ah (by rfl)|(simp only[Bu];omega)|(simp;done)))|(with_reducible intro hfact)|((try dsimp only);rw[hw])|(((with_reducible apply A3));(focus rfl);(focus (simp only[D.at,D.put,D.kid,D.setKid,mkSt,Ap,D.toI,toIs,Ak,Af,he,hlm]<;>exact rfl));(try(focus exact rfl))))
   all_goals(try(conv=>whnf))
   refine Round.by (j+1,out++[⟨pn,pr,pf,pk⟩],true) ?_ ⟨by omega,by simp;omega,hR⟩ (by dsimp only;omega)
   try dsimp only
   simp only[List.map_append,List.map_cons,List.map_nil];show norm _ _=upd _ _
   kernel_rfl
  |false=>
   rw[if_pos ⟨rfl,hlt⟩,if_pos ⟨rfl,hlt⟩]at hR;repeat'((conv=>whnf);first|((with_reducible refine Ax (by first|(with_reducible exact Bool.of_not_eq_false (by assumption))|((with_reducible refine decide_eq_true ?_);omega)|(with_reducible rfl)) (fun hb=>?_));(try rw[hb]);(try simp only[Aa]at hb))|((with_reducible refine And.intro (fun hb=>?_) (fun hb=>?_))<;>first|(exact absurd hb (by decide))|((try rw[hb]);(try simp only[Aa]at hb)))|((with_reducible refine Exists.intro ?_ ?_);focus (and_intros<;>first|omega|(with_reducible rfl)|kernel_rfl|exact Ah (by rfl)|(simp only[Bu];omega)|(simp;done)))|(with_reducible intro hfact)|((try dsimp only);rw[hw])|(((with_reducible apply A3));(focus rfl);(focus (simp only[D.at,D.put,D.kid,D.setKid,mkSt,Ap,D.toI,toIs,Ak,Af,he,hlm]<;>exact rfl));(try(focus exact rfl))))
   all_goals(try(conv=>whnf))
   refine Round.by (j+1,out++[⟨n,0,0,[]⟩]++[⟨pn,pr,pf,pk⟩],true) ?_ ⟨by omega,by simp;omega,hR⟩ (by dsimp only;omega)
   try dsimp only
   simp only[List.map_append,List.map_cons,List.map_nil,Spc.new_I];show norm _ _=upd _ _
   kernel_rfl
 ·have c1:¬Op.bytesLess n pn=true:=by rw[Kz];simpa using hlt
  rw[if_neg (fun c=>hlt c.2),if_neg (fun c=>hlt c.2)]at hR
  cases d with
  |true=>
   repeat'((conv=>whnf);first|((with_reducible refine Ax (by first|(with_reducible exact Bool.of_not_eq_false (by assumption))|((with_reducible refine decide_eq_true ?_);omega)) (fun hb=>?_));(try rw[hb]);(try simp only[Aa]at hb))|((with_reducible refine Aw (by first|(with_reducible exact Bool.of_not_eq_true (by assumption))|(with_reducible rfl)) (fun hb=>?_));(try rw[hb]);(try simp only[Aa]at hb))|((with_reducible refine And.intro (fun hb=>?_) (fun hb=>?_))<;>first|(exact absurd hb (by decide))|((try rw[hb]);(try simp only[Aa]at hb)))|((with_reducible refine Exists.intro ?_ ?_);focus (and_intros<;>first|omega|(with_reducible rfl)|kernel_rfl|exact Ah (by rfl)|(simp only[Bu];omega)|(simp;done)))|(with_reducible intro hfact)|((try dsimp only);rw[hw])|(((with_reducible apply A3));(focus rfl);(focus (simp only[D.at,D.put,D.kid,D.setKid,mkSt,Ap,D.toI,toIs,Ak,Af,he,hlm]<;>exact rfl));(try(focus exact rfl))))
   all_goals(try(conv=>whnf))
   refine Round.by (j+1,out++[⟨pn,pr,pf,pk⟩],true) ?_ ⟨by omega,by simp;omega,hR⟩ (by dsimp only;omega)
   try dsimp only
   simp only[List.map_append,List.map_cons,List.map_nil];show norm _ _=upd _ _
   kernel_rfl
  |false=>
   repeat'((conv=>whnf);first|((with_reducible refine Ax (by first|(with_reducible exact Bool.of_not_eq_false (by assumption))|((with_reducible refine decide_eq_true ?_);omega)|(with_reducible rfl)) (fun hb=>?_));(try rw[hb]);(try simp only[Aa]at hb))|((with_reducible refine Aw (by(with_reducible exact Bool.of_not_eq_true (by assumption))) (fun hb=>?_));(try rw[hb]);(try simp only[Aa]at hb))|((with_reducible refine And.intro (fun hb=>?_) (fun hb=>?_))<;>first|(exact absurd hb (by decide))|((try rw[hb]);(try simp only[Aa]at hb)))|((with_reducible refine Exists.intro ?_ ?_);focus (and_intros<;>first|omega|(with_reducible rfl)|kernel_rfl|exact Ah (by rfl)|(simp only[Bu];omega)|(simp;done)))|(with_reducible intro hfact)|((try dsimp only);rw[hw])|(((with_reducible apply A3));(focus rfl);(focus (simp only[D.at,D.put,D.kid,D.setKid,mkSt,Ap,D.toI,toIs,Ak,Af,he,hlm]<;>exact rfl));(try(focus exact rfl))))
   all_goals(try(conv=>whnf))
   refine Round.by (j+1,out++[⟨pn,pr,pf,pk⟩],false) ?_ ⟨by omega,by simp;omega,hR⟩ (by dsimp only;omega)
   try dsimp only
   simp only[List.map_append,List.map_cons,List.map_nil];show norm _ _=upd _ _
   kernel_rfl

def Sto.spcS(s:Sto)(n:Az):Spc:=⟨n,(s.tal n).rev,(s.tal n).floor,keysOf n s.l⟩
def Sto.ref(s:Sto):List Spc:=s.names.map s.spcS
theorem Ag1{s:Sto}{n:Az}:n∈s.names↔(s.fi n).isSome=true:=by
 unfold Sto.names;rw[Aje,Ah6]
theorem Ako{f:Az→Spc}(hf:∀n,(f n).name=n){n:Az}:∀{NM:List Az} {k:Nat},n ∉ NM→Jd n (NM.map f) k= -1
 | [],k,_=>rfl
 |m::NM,k,h=>by
  rw[List.map_cons];unfold Jd;rw[if_neg (by rw[hf];intro e;exact h (by rw[e];exact List.mem_cons_self ..))]
  exact Ako hf fun c=>h (List.mem_cons_of_mem _ c)
theorem Ajw{f:Az→Spc}(hf:∀n,(f n).name=n){n:Az}:∀{NM:List Az} {k:Nat},n∈NM→∃i,Jd n (NM.map f) k=((k+i:Nat):Int)∧NM[i]?=some n
 | [],k,h=>by cases h
 |m::NM,k,h=>by
  rw[List.map_cons];unfold Jd;by_cases e:m=n
  ·rw[if_pos (by rw[hf];exact e)]
   exact⟨0,by simp,by simp[e]⟩
  ·rw[if_neg (by rw[hf];exact e)]
   obtain⟨i,h1,h2⟩:=Ajw hf (n:=n) (NM:=NM) (k:=k+1) ((List.mem_cons.1 h).resolve_left fun c=>e c.symm)
   exact⟨i+1,by rw[h1];congr 1;omega,by simpa using h2⟩
theorem Ahg{s:Sto}{n:Az}(h:s.fi n=none):Jd n s.ref 0= -1:=Ako (fun _=>rfl) fun c=>by rw[Ag1,h]at c;cases c
theorem Acp{s:Sto}{n:Az}(h:(s.fi n).isSome=true):∃i:Nat,Jd n s.ref 0=(i:Int)∧s.ref[i]?=some (s.spcS n)∧s.names[i]?=some n:=by
 obtain⟨i,h1,h2⟩:=Ajw (f:=s.spcS) (fun _=>rfl) (k:=0) (Ag1.2 h)
 exact⟨i,by rw[Nat.zero_add]at h1;exact h1,by unfold Sto.ref;rw[List.getElem?_map,h2];rfl,h2⟩
theorem Ais{α:Type}{f g:Az→α}{NM:List Az}(hd:NM.Nodup){i:Nat}{n:Az}(hi:NM[i]?=some n)(h:∀m∈NM,m≠n→g m=f m):(NM.map f).set i (g n)=NM.map g:=by
 apply List.ext_getElem?;intro j;rw[List.getElem?_set,List.getElem?_map,List.getElem?_map,List.length_map];obtain⟨hil,e⟩:=List.getElem?_eq_some_iff.1 hi;by_cases hij:i=j
 ·subst hij;rw[if_pos rfl,if_pos hil,hi];rfl
 ·rw[if_neg hij];cases hj:NM[j]? with
  |none=>rfl
  |some m=>
   obtain⟨hjl,e2⟩:=List.getElem?_eq_some_iff.1 hj;have hne:m≠n:=by
    rintro rfl;have hp:=List.pairwise_iff_getElem.1 hd;rcases Nat.lt_or_gt_of_ne hij with c|c
    ·exact hp i j hil hjl c (e.trans e2.symm)
    ·exact hp j i hjl hil c (e2.trans e.symm)
   simp only[Option.map_some];rw[h m (List.mem_of_getElem? hj) hne]
theorem Nv{n:Az}{h:Hld}(e:(C1 h.at_).1≠n):G3 n h=none:=by unfold G3;rw[if_neg e]
theorem Ak2{rev:Int}:∀{ks out:List Kv},rcGo rev ks out=out++ks.filterMap fun h=>if rcVs rev h.vs=[]then none else some ⟨h.key,rcVs rev h.vs⟩
 | [],out=>by simp[rcGo]
 |h::r,out=>by
  unfold rcGo;rw[Ak2,List.filterMap_cons];by_cases e:rcVs rev h.vs=[]
  ·rw[if_pos e,if_pos e]
  ·rw[if_neg e,if_neg e];simp
theorem Akm{n:Az}{rev:Int}:∀{l:List Hld},(∀h∈l,VSo h.vs∧h.vs≠[])→keysOf n (l.filterMap (Pf n rev))=rcGo rev (keysOf n l) []
 | [],_=>rfl
 |h::r,hv=>by
  obtain⟨v1,v2⟩:=hv h (List.mem_cons_self ..);have ih:=Akm (n:=n) (rev:=rev) (l:=r) fun y hy=>hv y (List.mem_cons_of_mem _ hy)
  rw[Ak2,List.nil_append]at ih ⊢;have hk:=Akx (rev:=rev) v1 v2;unfold keysOf at ih ⊢;rw[List.filterMap_cons,List.filterMap_cons];by_cases hn:(C1 h.at_).1=n
  ·rw[show G3 n h=some ⟨(C1 h.at_).2.1,h.vs⟩by unfold G3;rw[if_pos hn]]
   dsimp only;rw[List.filterMap_cons];by_cases hl:h.vs.length≤Lm rev h.vs
   ·rw[show Pf n rev h=none by unfold Pf;rw[if_pos hn,if_pos hl]]
    rw[List.drop_eq_nil_of_le hl]at hk;dsimp only;rw[if_pos hk.symm];exact ih
   ·rw[show Pf n rev h=some ⟨h.at_,h.vs.drop (Lm rev h.vs)⟩by unfold Pf;rw[if_pos hn,if_neg hl]]
    have hne:rcVs rev h.vs≠[]:=by rw[←hk];intro c;rw[List.drop_eq_nil_iff]at c;omega
    dsimp only;rw[List.filterMap_cons,show G3 n ⟨h.at_,h.vs.drop (Lm rev h.vs)⟩=some ⟨(C1 h.at_).2.1,h.vs.drop (Lm rev h.vs)⟩by unfold G3;rw[if_pos hn]]
    rw[if_neg hne,hk];dsimp only;rw[ih]
  ·rw[show Pf n rev h=some h by unfold Pf;rw[if_neg hn],Nv hn]
   dsimp only;rw[List.filterMap_cons,Nv hn];exact ih
theorem Ait{m:Nat}{s:Sto}(h:SInv m s):s.names.Nodup:=Ahj h.nd
theorem Anf{m:Nat}{s:Sto}(h:SInv m s){n:Az}{rev:Int}{i:Nat}(hi:s.fi n=some i)(he:s.compE n rev=0){q:Nat}(hq:s.names[q]?=some n):
 (s.compM n rev).1.ref=s.ref.set q ⟨n,(s.tal n).rev,rev,rcGo rev (keysOf n s.l) []⟩:=by
 have hnm:(s.compM n rev).1.names=s.names:=by
  unfold Sto.compM Sto.names;rw[hi];dsimp only;rw[if_pos he];dsimp only;have:=Agj (t:={s.tal n with floor:=rev,vers:=(Mz n rev s.l ⟨[],0⟩).c}) (l:=(Mz n rev s.l ⟨[],0⟩).l) hi
  dsimp only at this;rw[this]
 obtain⟨c1,_⟩:=Ahp (n:=n) (rev:=rev) (l:=s.l) (x:=⟨[],0⟩);rw[List.nil_append]at c1;have hself:(s.compM n rev).1.spcS n=⟨n,(s.tal n).rev,rev,rcGo rev (keysOf n s.l) []⟩:=by
  unfold Sto.spcS Sto.compM;rw[hi];dsimp only;rw[if_pos he];dsimp only;rw[Mi hi,if_pos rfl,c1,Akm fun y hy=>⟨(h.wi.2 y hy).2.1,(h.lb.held y hy).2.1⟩]
 unfold Sto.ref;rw[hnm, ←hself];refine(Ais (Ait h) hq fun k hk hne=>?_).symm
 unfold Sto.spcS;have hke:keysOf k (s.compM n rev).1.l=keysOf k s.l:=by
  unfold keysOf;refine Amn _ _ fun _ _ y hy=>?_
  unfold Pf;split
  ·rename_i e;have:(C1 y.at_).1≠k:=by rw[e];exact fun c=>hne c.symm
   rw[Nv this];split
   ·rfl
   ·simp only[Option.bind_some];exact Nv this
  ·rfl
 rw[hke];unfold Sto.compM;rw[hi];dsimp only;rw[if_pos he];dsimp only;rw[Mi hi,if_neg hne]
theorem Aks{m:Nat}{s:Sto}(h:SInv m s){n:Az}(hf:(s.fi n).isSome=true)(x:Sp)(rev most:Int):s.rangeM n x rev most=rrP (s.spcS n) x rev most:=by
 obtain⟨i,hi⟩:=Option.isSome_iff_exists.1 hf;unfold Sto.rangeM rrP Sto.spcS;dsimp only;rw[if_neg (by rw[hi];simp)]
 by_cases hb:SpR x∧0≤rev∧1≤most∧most≤16
 case neg=>simp only[hb,not_false_eq_true,if_true]
 by_cases h1:(s.tal n).rev<rev
 case pos=>simp only[hb,h1,not_true_eq_false,if_false,if_true,and_self]
 by_cases h2:0<rev∧rev<(s.tal n).floor
 case pos=>simp only[hb,h1,h2,not_true_eq_false,if_false,if_true,and_self]
 simp only[hb,h1,h2,not_true_eq_false,if_false,and_self];rw[Ai2 (h.name hi) h.wi.1 fun y hy=>(h.wi.2 y hy).1]
 obtain⟨mm,rfl⟩:∃mm:Nat,most=(mm:Int):=⟨most.toNat,by omega⟩
 have hv:=Ajh (n:=n) (x:=x) (rev:=if rev=0 then(s.tal n).rev else rev) (l:=s.l) fun y hy=>(h.wi.2 y hy).2.1
 rw[Aiz (Nat.zero_le _),hv,Wi];have hlen:((Lh n (if rev=0 then(s.tal n).rev else rev) s.l).filter fun p=>decide (SpH x p.1)).length=((keysOf n s.l).filterMap (selR x (if rev=0 then(s.tal n).rev else rev))).length:=by rw[←hv,List.length_map]
 rw[hlen];simp only[List.nil_append,List.length_nil,Nat.sub_zero,Int.toNat_natCast];by_cases hm:(mm:Int)<(((keysOf n s.l).filterMap (selR x (if rev=0 then(s.tal n).rev else rev))).length:Int)
 ·rw[if_pos hm,decide_eq_true (by omega)]
 ·rw[if_neg hm,decide_eq_false (by omega),List.take_of_length_le (by omega)]

def Jm(ks:List Kv)(k:Az):List Ver:=((ks.find? fun h=>decide (h.key=k)).map (·.vs)).getD []
abbrev KSo(ks:List Kv):Prop:=ks.Pairwise fun a b=>a.key<b.key
theorem Dv(h:Kv)(r:List Kv)(k:Az):Jm (h::r) k=if h.key=k then h.vs else Jm r k:=by
 unfold Jm;rw[List.find?_cons];by_cases e:h.key=k
 ·simp[e]
 ·simp[e]
theorem R6{ks:List Kv}{k:Az}(h:∀x∈ks,k<x.key):Jm ks k=[]:=by
 unfold Jm;rw[List.find?_eq_none.2]
 ·rfl
 ·intro x hx e;simp only[decide_eq_true_eq]at e;have:=h x hx;rw[e]at this;exact absurd this (List.lt_irrefl k)
theorem KSo.ext:∀{a b:List Kv},KSo a→KSo b→(∀x∈a,x.vs≠[])→(∀x∈b,x.vs≠[])→(∀k,Jm a k=Jm b k)→a=b
 | [],[],_,_,_,_,_=>rfl
 | [],y::b,_,_,_,hb,h=>by
   have:=h y.key;rw[Dv,if_pos rfl]at this;exact absurd this.symm (hb y (List.mem_cons_self ..))
 |x::a,[],_,_,ha,_,h=>by
  have:=h x.key;rw[Dv,if_pos rfl]at this;exact absurd this (ha x (List.mem_cons_self ..))
 |x::a,y::b,h1,h2,ha,hb,h=>by
  obtain⟨a1,a2⟩:=List.pairwise_cons.1 h1;obtain⟨b1,b2⟩:=List.pairwise_cons.1 h2;have hxy:x.key=y.key:=by
   by_cases e:x.key=y.key
   ·exact e
   exfalso;by_cases c:x.key<y.key
   ·have:=h x.key;rw[Dv,if_pos rfl,R6 (ks:=y::b) (fun z hz=>by
     rcases List.mem_cons.1 hz with rfl|hz
     ·exact c
     ·exact List.lt_trans c (b1 z hz))]at this
    exact ha x (List.mem_cons_self ..) this
   ·have c2:y.key<x.key:=Std.lt_of_le_of_ne (List.not_lt.1 c) fun q=>e q.symm
    have:=h y.key;rw[Dv (h:=y),if_pos rfl,R6 (ks:=x::a) (fun z hz=>by
     rcases List.mem_cons.1 hz with rfl|hz
     ·exact c2
     ·exact List.lt_trans c2 (a1 z hz))]at this
    exact hb y (List.mem_cons_self ..) this.symm
  have hv:x.vs=y.vs:=by
   have:=h x.key;rw[Dv,if_pos rfl,Dv,if_pos hxy.symm]at this;exact this
  have htl:∀k,Jm a k=Jm b k:=fun k=>by
   by_cases e:x.key=k
   ·rw[R6 (ks:=a) (fun z hz=>by rw[←e];exact a1 z hz),R6 (ks:=b) (fun z hz=>by rw[←e,hxy];exact b1 z hz)]
   ·have:=h k;rw[Dv,if_neg e,Dv,if_neg (by rw[←hxy];exact e)]at this
    exact this
  rw[KSo.ext a2 b2 (fun z hz=>ha z (List.mem_cons_of_mem _ hz)) (fun z hz=>hb z (List.mem_cons_of_mem _ hz)) htl]
  obtain⟨xk,xv⟩:=x;obtain⟨yk,yv⟩:=y;dsimp only at hxy hv;rw[hxy,hv]
def insK(key:Az)(v:Ver):List Kv→List Kv
 | []=>[⟨key,[v]⟩]
 |h::r=>if h.key=key then⟨h.key,h.vs++[v]⟩::r else if key<h.key then⟨key,[v]⟩::h::r else h::insK key v r
theorem Ad8{key:Az}{v:Ver}:∀{r out:List Kv},(∀x∈r,key<x.key)→Mv key v r out true=out++r
 | [],out,_=>by simp[Mv]
 |h::r,out,hl=>by
  have h1:=hl h (List.mem_cons_self ..);unfold Mv;rw[if_neg (fun e=>by rw[e]at h1;exact absurd h1 (List.lt_irrefl _)),if_neg (fun c=>by cases c.1),if_neg (fun c=>by cases c.1),Ad8 fun x hx=>hl x (List.mem_cons_of_mem _ hx)]
  simp
theorem Akr{key:Az}{v:Ver}:∀{r out:List Kv},KSo r→Mv key v r out false=out++insK key v r
 | [],out,_=>by simp[Mv,insK]
 |h::r,out,hs=>by
  obtain⟨s1,s2⟩:=List.pairwise_cons.1 hs;unfold Mv insK;by_cases e:h.key=key
  ·rw[if_pos e,if_pos e,if_neg (fun c=>by rw[e]at c;exact absurd c.2 (List.lt_irrefl _)),Ad8 fun x hx=>by rw[←e];exact s1 x hx]
   simp
  ·rw[if_neg e,if_neg e];by_cases c:key<h.key
   ·rw[if_pos ⟨rfl,c⟩,if_pos ⟨rfl,c⟩,if_pos c,Ad8 fun x hx=>List.lt_trans c (s1 x hx)]
    simp
   ·rw[if_neg (fun q=>c q.2),if_neg (fun q=>c q.2),if_neg c,Akr s2]
    simp
theorem Akw{key:Az}{v:Ver}:∀{r:List Kv} {x:Kv},x∈insK key v r→x∈r∨x.key=key
 | [],x,h=>by
   unfold insK at h;simp only[List.mem_singleton]at h;exact .inr (by rw[h])
 |h::r,x,hx=>by
  unfold insK at hx;split at hx
  ·rename_i e;rcases List.mem_cons.1 hx with rfl|hx
   ·exact .inr e
   ·exact .inl (List.mem_cons_of_mem _ hx)
  ·split at hx
   ·rcases List.mem_cons.1 hx with rfl|hx
    ·exact .inr rfl
    ·exact .inl hx
   ·rcases List.mem_cons.1 hx with rfl|hx
    ·exact .inl (List.mem_cons_self ..)
    ·rcases Akw hx with h'|h'
     ·exact .inl (List.mem_cons_of_mem _ h')
     ·exact .inr h'
theorem Amj{key:Az}{v:Ver}:∀{r:List Kv},KSo r→KSo (insK key v r)
 | [],_=>by simp[insK,KSo]
 |h::r,hs=>by
  obtain⟨s1,s2⟩:=List.pairwise_cons.1 hs;unfold insK;split
  ·exact List.pairwise_cons.2 ⟨s1,s2⟩
  ·rename_i e;split
   ·rename_i c;refine List.pairwise_cons.2 ⟨fun x hx=>?_,hs⟩
    rcases List.mem_cons.1 hx with rfl|hx
    ·exact c
    ·exact List.lt_trans c (s1 x hx)
   ·rename_i c;refine List.pairwise_cons.2 ⟨fun x hx=>?_,Amj s2⟩
    rcases Akw hx with hx|hx
    ·exact s1 x hx
    ·rw[hx];exact Std.lt_of_le_of_ne (List.not_lt.1 c) e
theorem Ami{key:Az}{v:Ver}:∀{r:List Kv},(∀x∈r,x.vs≠[])→∀x∈insK key v r,x.vs≠[]
 | [],_,x,hx=>by
   unfold insK at hx;simp only[List.mem_singleton]at hx;rw[hx];simp
 |h::r,hn,x,hx=>by
  unfold insK at hx;split at hx
  ·rcases List.mem_cons.1 hx with rfl|hx
   ·simp
   ·exact hn x (List.mem_cons_of_mem _ hx)
  ·split at hx
   ·rcases List.mem_cons.1 hx with rfl|hx
    ·simp
    ·exact hn x hx
   ·rcases List.mem_cons.1 hx with rfl|hx
    ·exact hn x (List.mem_cons_self ..)
    ·exact Ami (fun y hy=>hn y (List.mem_cons_of_mem _ hy)) x hx
theorem Af7{key:Az}{v:Ver}:∀{r:List Kv} (k:Az),KSo r→Jm (insK key v r) k=if k=key then Jm r key++[v]else Jm r k
 | [],k,_=>by
   unfold insK;rw[Dv];by_cases e:k=key
   ·subst e;simp[Jm]
   ·rw[if_neg (fun c=>e c.symm),if_neg e]
 |h::r,k,hs=>by
  obtain⟨s1,s2⟩:=List.pairwise_cons.1 hs;unfold insK;by_cases e:h.key=key
  ·rw[if_pos e,Dv,Dv,Dv,if_pos e];by_cases c:k=key
   ·subst c;rw[if_pos e,if_pos rfl]
   ·rw[if_neg (by rw[e];exact fun q=>c q.symm),if_neg c,if_neg (by rw[e];exact fun q=>c q.symm)]
  ·rw[if_neg e];by_cases c:key<h.key
   ·rw[if_pos c,Dv];by_cases d:k=key
    ·subst d;rw[if_pos rfl,if_pos rfl,R6 (ks:=h::r) fun x hx=>by
      rcases List.mem_cons.1 hx with rfl|hx
      ·exact c
      ·exact List.lt_trans c (s1 x hx)]
     rfl
    ·rw[if_neg (fun q=>d q.symm),if_neg d]
   ·rw[if_neg c,Dv,Af7 k s2,Dv,Dv];by_cases d:k=key
    ·subst d;rw[if_neg e,if_pos rfl,if_pos rfl,if_neg e]
    ·rw[if_neg d,if_neg d]

theorem Amk{l:List Hld}{a:Az}(hl:LSo l):∀x∈l.take (Km (Kh a) l),x.at_<a:=by
 rw[LSo,List.pairwise_map]at hl;intro x hx;have:=(Aho (lt:=Kh a) (l:=l) (hl.imp fun {x y} hab hb=>by simp only[Kh,decide_eq_true_eq]at*;exact List.lt_trans hab hb)).1 x hx
 simpa[Kh]using this
theorem Amg{l:List Hld}{a:Az}(hl:LSo l):∀x∈l.drop (Km (Kh a) l),¬x.at_<a:=by
 rw[LSo,List.pairwise_map]at hl;intro x hx;have:=(Aho (lt:=Kh a) (l:=l) (hl.imp fun {x y} hab hb=>by simp only[Kh,decide_eq_true_eq]at*;exact List.lt_trans hab hb)).2 x hx
 simpa[Kh]using this
theorem Amh{l:List Hld}{a:Az}(hl:LSo l)(hf:bsF (Kh a) (eqH a) l=false):∀x∈l.drop (Km (Kh a) l),a<x.at_:=by
 intro x hx;have h3:=Amg hl x hx;have hl':=hl;rw[LSo,List.pairwise_map]at hl';obtain⟨j,hj,rfl⟩:=List.mem_iff_getElem.1 hx;rw[List.length_drop]at hj;rw[List.getElem_drop]at h3 ⊢;have hne:l[Km (Kh a) l+j].at_≠a:=by
  intro e;cases j with
  |zero=>
   unfold bsF at hf;rw[List.getElem?_eq_getElem (show Km (Kh a) l<l.length by omega)]at hf
   simp only[Option.any_some,eqH,decide_eq_false_iff_not]at hf;exact hf e
  |succ j=>
   have h4:=List.pairwise_iff_getElem.1 hl' (Km (Kh a) l) (Km (Kh a) l+(j+1)) (by omega) (by omega) (by omega)
   rw[e]at h4;exact Amg hl (l[Km (Kh a) l]'(by omega)) (by rw[List.drop_eq_getElem_cons (by omega)];exact List.mem_cons_self ..) h4
 exact Std.lt_of_le_of_ne (List.not_lt.1 h3) (Ne.symm hne)
theorem Ajo{n a b:Az}:B7 n a<B7 n b↔a<b:=by rw[Ahd n a,Ahd n b,Aj7]
theorem Qq{n:Az}{l:List Hld}{x:Kv}(hv:∀h∈l,Lies h.at_)(hx:x∈keysOf n l):∃h∈l,h.at_=B7 n x.key∧h.vs=x.vs:=by
 obtain⟨h,hh,e⟩:=List.mem_filterMap.1 hx;unfold G3 at e;split at e
 ·rename_i hn;cases e;exact⟨h,hh,by rw[←hn];exact(hv h hh).whose.1,rfl⟩
 ·cases e
theorem Akv{key:Az}{v:Ver}:∀{a b:List Kv},(∀x∈a,x.key<key)→insK key v (a++b)=a++insK key v b
 | [],b,_=>rfl
 |h::a,b,hl=>by
  have h1:=hl h (List.mem_cons_self ..);rw[List.cons_append]
  conv=>lhs;unfold insK
  rw[if_neg (fun e=>by rw[e]at h1;exact absurd h1 (List.lt_irrefl _)),if_neg (fun c=>absurd (List.lt_trans c h1) (List.lt_irrefl _)),Akv fun x hx=>hl x (List.mem_cons_of_mem _ hx)]
  rfl
theorem Amp{key:Az}{v:Ver}:∀{b:List Kv},(∀x∈b,key<x.key)→insK key v b=⟨key,[v]⟩::b
 | [],_=>rfl
 |h::b,hl=>by
  have h1:=hl h (List.mem_cons_self ..);unfold insK;rw[if_neg (fun e=>by rw[e]at h1;exact absurd h1 (List.lt_irrefl _)),if_pos h1]
theorem Anb{l:List Hld}{n k:Az}{v:Ver}(hn:n.length<256)(hl:LSo l)(hv:∀h∈l,Lies h.at_):keysOf n (putA l (B7 n k) v)=insK k v (keysOf n l):=by
 have hsp:keysOf n l=keysOf n (l.take (Km (Kh (B7 n k)) l))++keysOf n (l.drop (Km (Kh (B7 n k)) l)):=by
  unfold keysOf;rw[←List.filterMap_append,List.take_append_drop]
 have hA:∀x∈keysOf n (l.take (Km (Kh (B7 n k)) l)),x.key<k:=fun x hx=>by
  obtain⟨h,hh,e,_⟩:=Qq (fun h hh=>hv h (List.mem_of_mem_take hh)) hx
  have:=Amk hl h hh;rw[e,Ajo]at this;exact this
 rw[hsp,Akv hA];unfold putA putL;cases hf:bsF (Kh (B7 n k)) (eqH (B7 n k)) l with
 |true=>
  rw[if_pos rfl];obtain⟨e,h2,h3⟩:=Afp hf;have h4:e.at_=B7 n k:=by simpa[eqH]using h3
  have hi:=(List.getElem?_eq_some_iff.1 h2).1;rw[Zv h2,List.set_eq_take_append_cons_drop,if_pos hi];have hd:l.drop (Km (Kh (B7 n k)) l)=e::l.drop (Km (Kh (B7 n k)) l+1):=by
   rw[List.drop_eq_getElem_cons hi];rw[List.getElem?_eq_getElem hi]at h2;rw[Option.some.inj h2]
  rw[hd];unfold keysOf;rw[List.filterMap_append,List.filterMap_cons,List.filterMap_cons];have e1:∀vs,G3 n ⟨e.at_,vs⟩=some ⟨k,vs⟩:=fun vs=>by unfold G3;rw[h4,Mt hn];simp
  rw[e1,show G3 n e=some ⟨k,e.vs⟩from e1 e.vs];dsimp only;unfold insK;rw[if_pos rfl]
 |false=>
  rw[if_neg (by simp)]
  have hB:∀x∈keysOf n (l.drop (Km (Kh (B7 n k)) l)),k<x.key:=fun x hx=>by
   obtain⟨h,hh,e,_⟩:=Qq (fun h hh=>hv h (List.mem_of_mem_drop hh)) hx
   have:=Amh hl hf h hh;rw[e,Ajo]at this;exact this
  rw[Amp hB];unfold keysOf;rw[List.filterMap_append,List.filterMap_cons,show G3 n ⟨B7 n k,[v]⟩=some ⟨k,[v]⟩by unfold G3;rw[Mt hn];simp]
theorem Ws{n:Az}:∀{l:List Hld},LSo l→(∀h∈l,Lies h.at_)→KSo (keysOf n l)
 | [],_,_=>List.Pairwise.nil
 |h::r,hs,hv=>by
  rw[LSo,List.map_cons,List.pairwise_cons]at hs;have hv':=fun x hx=>hv x (List.mem_cons_of_mem h hx)
  have ih:=Ws (n:=n) hs.2 hv';unfold keysOf at ih ⊢;rw[List.filterMap_cons];by_cases hn:(C1 h.at_).1=n
  ·rw[show G3 n h=some ⟨(C1 h.at_).2.1,h.vs⟩by unfold G3;rw[if_pos hn]]
   dsimp only;refine List.pairwise_cons.2 ⟨fun x hx=>?_,ih⟩
   obtain⟨y,hy,e,_⟩:=Qq hv' hx;have h5:=hs.1 y.at_ (List.mem_map_of_mem hy);have hat:h.at_=B7 n (C1 h.at_).2.1:=by rw[←hn];exact(hv h (List.mem_cons_self ..)).whose.1
   rw[hat,e,Ajo]at h5;dsimp only;exact h5
  ·rw[Nv hn];exact ih

def Uw(p:Spc)(was:Ver)(c:Chg):List Ver:=if c.gone=true∧was.gone=true then[]else[Xq p c was]
def Lr:List Chg→Az→Option Chg
 | [],_=>none
 |c::r,k=>match Lr r k with
  |some d=>some d
  |none=>if c.key=k then some c else none
def Qy(p:Spc)(was:Ver):Option Chg→List Ver
 |none=>[]
 |some c=>Uw p was c
theorem Aiq{k:Az}:∀{r:List Chg} {b:Bool},Ut k r b=(b&&(Lr r k).isNone)
 | [],b=>by simp[Ut,Lr]
 |c::r,b=>by
  unfold Ut Lr;rw[Aiq];cases Lr r k with
  |some d=>simp
  |none=>
   by_cases e:c.key=k<;>simp[e]
def newK(ks:List Kv)(k:Az):Ver:=(Jm ks k).getLast?.getD Aj
theorem Ah3{k:Az}{rev:Int}:∀{ks:List Kv} {v:Ver},KSo ks→(∀h∈ks,h.vs≠[]∧∀u∈h.vs,u.rev≤rev)→Q0 k rev ks v=if Jm ks k=[]then v else newK ks k
 | [],v,_,_=>by simp[Q0,Jm]
 |h::r,v,hs,hv=>by
  obtain⟨s1,s2⟩:=List.pairwise_cons.1 hs;obtain⟨v1,v2⟩:=hv h (List.mem_cons_self ..);have hv':=fun x hx=>hv x (List.mem_cons_of_mem h hx)
  unfold Q0;by_cases e:h.key=k
  ·have hlow:Jm r k=[]:=R6 fun x hx=>by rw[←e];exact s1 x hx
   have hlk:Jm (h::r) k=h.vs:=by rw[Dv,if_pos e]
   rw[if_pos e,Ah3 s2 hv',if_pos hlow,hlk,if_neg v1];unfold newK;rw[hlk,V1,List.filter_eq_self.2 fun u hu=>by simpa using v2 u hu]
  ·have hlk:Jm (h::r) k=Jm r k:=by rw[Dv,if_neg e]
   rw[if_neg e,Ah3 s2 hv',hlk];unfold newK;rw[hlk]
theorem Akz{ks:List Kv}{k:Az}(h:Jm ks k=[]):newK ks k=Aj:=by unfold newK;rw[h];rfl
theorem Ahh{p:Spc}(hp:KSo p.keys)(hv:∀h∈p.keys,h.vs≠[]∧∀u∈h.vs,u.rev≤p.rev):∀{cs:List Chg} {nx:Spc},KSo nx.keys→(∀x∈nx.keys,x.vs≠[])→
 KSo (rwGo p cs nx).keys∧(∀x∈(rwGo p cs nx).keys,x.vs≠[])∧(rwGo p cs nx).name=nx.name∧(rwGo p cs nx).floor=nx.floor∧
 (∀k,Jm (rwGo p cs nx).keys k=Jm nx.keys k++Qy p (newK p.keys k) (Lr cs k))∧
 ((rwGo p cs nx).rev=nx.rev∧(∀k,Qy p (newK p.keys k) (Lr cs k)=[])∨(rwGo p cs nx).rev=p.rev+1∧∃k,Qy p (newK p.keys k) (Lr cs k)≠[])
 | [],nx,h1,h2=>⟨h1,h2,rfl,rfl,fun k=>by simp[rwGo,Lr,Qy],.inl ⟨rfl,fun k=>rfl⟩⟩
 |c::r,nx,h1,h2=>by
  have hw:Q0 c.key p.rev p.keys Aj=newK p.keys c.key:=by
   rw[Ah3 hp hv];split
   ·rename_i e;rw[Akz e]
   ·rfl
  have hl:=Aiq (k:=c.key) (r:=r) (b:=true);rw[Bool.true_and]at hl;have hLC:∀k,Lr (c::r) k=match Lr r k with|some d=>some d|none=>if c.key=k then some c else none:=fun k=>rfl
  by_cases hskip:Ut c.key r true=false∨(c.gone=true∧(Q0 c.key p.rev p.keys Aj).gone=true)
  ·have hst:Na p c r nx=nx:=by unfold Na;rw[if_pos hskip]
   obtain⟨i1,i2,i3,i4,i5,i6⟩:=Ahh hp hv (cs:=r) (nx:=nx) h1 h2;have heq:∀k,Qy p (newK p.keys k) (Lr (c::r) k)=Qy p (newK p.keys k) (Lr r k):=fun k=>by
    rw[hLC];cases hr:Lr r k with
    |some d=>rfl
    |none=>
     dsimp only;by_cases e:c.key=k
     ·subst e;rw[if_pos rfl];rcases hskip with hk|⟨g1,g2⟩
      ·rw[hl,hr]at hk;cases hk
      ·rw[hw]at g2;unfold Qy Uw;dsimp only;rw[if_pos ⟨g1,g2⟩]
     ·rw[if_neg e]
   unfold rwGo;rw[hst];simp only[heq];exact⟨i1,i2,i3,i4,i5,i6⟩
  ·have hnl:Lr r c.key=none:=by
    cases hr:Lr r c.key with
    |none=>rfl
    |some d=>exact absurd (.inl (by rw[hl,hr];rfl)) hskip
   have hng:¬(c.gone=true∧(newK p.keys c.key).gone=true):=fun g=>hskip (.inr (by rw[hw];exact g))
   have hst:Na p c r nx=⟨nx.name,p.rev+1,nx.floor,insK c.key (Xq p c (newK p.keys c.key)) nx.keys⟩:=by
    unfold Na;rw[if_neg hskip,hw,Akr h1];rfl
   have hpl:Qy p (newK p.keys c.key) (Lr (c::r) c.key)=[Xq p c (newK p.keys c.key)]:=by
    rw[hLC,hnl];dsimp only;rw[if_pos rfl];unfold Qy Uw;dsimp only;rw[if_neg hng]
   obtain⟨i1,i2,i3,i4,i5,i6⟩:=Ahh hp hv (cs:=r) (nx:=Na p c r nx) (by rw[hst];exact Amj h1) (by rw[hst];exact Ami h2)
   refine⟨i1,i2,by rw[show rwGo p (c::r) nx=rwGo p r (Na p c r nx)from rfl,i3,hst],by rw[show rwGo p (c::r) nx=rwGo p r (Na p c r nx)from rfl,i4,hst],fun k=>?_,.inr ⟨?_,c.key,by rw[hpl];simp⟩⟩
   ·rw[show rwGo p (c::r) nx=rwGo p r (Na p c r nx)from rfl,i5,hst];dsimp only;rw[Af7 k h1];by_cases e:k=c.key
    ·subst e;rw[if_pos rfl,hpl,hnl];simp[Qy]
    ·rw[if_neg e,hLC];cases Lr r k with
     |some d=>rfl
     |none=>
      dsimp only;rw[if_neg (fun q=>e q.symm)]
   ·rw[show rwGo p (c::r) nx=rwGo p r (Na p c r nx)from rfl];rcases i6 with⟨q,_⟩|⟨q,_⟩
    ·rw[q,hst]
    ·exact q
theorem Ak7{F:List Chg}{c:Chg}(k:Az):(Bm F c).find? (fun x=>decide (x.key=k))=if c.key=k then some c else F.find? (fun x=>decide (x.key=k)):=by
 unfold Bm;cases hq:F.findIdx? (fun x=>decide (x.key=c.key))with
 |none=>
  dsimp only;rw[List.findIdx?_eq_none_iff]at hq;rw[List.find?_append];by_cases e:c.key=k
  ·rw[if_pos e,List.find?_eq_none.2 (fun x hx=>by have:=hq x hx;simp at this ⊢;rw[←e];exact this)]
   simp[e]
  ·rw[if_neg e];simp[e]
 |some i=>
  dsimp only;have:∀{F:List Chg} {i:Nat},F.findIdx? (fun x=>decide (x.key=c.key))=some i→(F.set i c).find? (fun x=>decide (x.key=k))=if c.key=k then some c else F.find? (fun x=>decide (x.key=k)):=by
   intro F;induction F with
   |nil=>intro i h;simp at h
   |cons x F ih=>
    intro i h;rw[List.findIdx?_cons]at h;by_cases hx:x.key=c.key
    ·simp only[hx,decide_true,if_true,Option.some.injEq]at h;subst h;rw[List.set_cons_zero,List.find?_cons,List.find?_cons];by_cases e:c.key=k
     ·simp[e]
     ·simp[e,hx]
    ·simp only[hx,decide_false,Bool.false_eq_true,if_false,Option.map_eq_some_iff]at h;obtain⟨j,hj,rfl⟩:=h;rw[List.set_cons_succ,List.find?_cons,List.find?_cons,ih hj];by_cases e:x.key=k
     ·have:¬c.key=k:=fun q=>hx (e.trans q.symm)
      simp[e,this]
     ·simp[e]
  exact this hq
theorem Ajv:∀{cs F FF:List Chg},K6 cs F=some FF→∀k,FF.find? (fun x=>decide (x.key=k))=(Lr cs k).or (F.find? fun x=>decide (x.key=k))
 | [],F,FF,h,k=>by
   have h:some F=some FF:=h;cases h;rfl
 |c::r,F,FF,h,k=>by
  unfold K6 at h;split at h
  ·rw[Ajv h k,Ak7,show Lr (c::r) k=match Lr r k with|some d=>some d|none=>if c.key=k then some c else none from rfl]
   cases Lr r k with
   |some d=>rfl
   |none=>
    dsimp only;by_cases e:c.key=k<;>simp[e]
  ·cases h
end Go.Ab
