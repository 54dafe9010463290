/- Lemmas -/
import Derived.Test.YtkpojedpcabojaaDoorY2
set_option linter.unusedVariables false
set_option linter.unusedSimpArgs false
set_option maxRecDepth 100000
set_option maxHeartbeats 40000000
namespace Go.Ab
open Go.Proofs
def N2(key:Az)(v:Ver):List Kv→List Kv→Bool→List Kv
 | [],out,d=>if d=true then out else out++[⟨key,[v]⟩]
 |h::r,out,d=>
  if h.key=key then N2 key v r ((if d=false∧key<h.key then out++[⟨key,[v]⟩]else out)++[⟨h.key,h.vs++[v]⟩]) true
  else N2 key v r ((if d=false∧key<h.key then out++[⟨key,[v]⟩]else out)++[h]) (if d=false∧key<h.key then true else d)
theorem Kv.one_I(key:Az)(v:Ver):Kv.toI ⟨key,[v]⟩= .agg [.str key,.list [v.toI]]:=rfl
theorem Kv.snoc_I(key:Az)(vs:List Ver)(v:Ver):Kv.toI ⟨key,vs++[v]⟩= .agg [.str key,.list (vs.map Ver.toI++[v.toI])]:=by simp[Kv.toI]
theorem Ak4(p:Spc)(key:Az)(v:Ver)(hl:p.keys.length≤100000)(hv:∀h∈p.keys,h.vs.length≤100000):
 Fn Tryd.prog Agd [.v p.toI,.v (.str key),.v v.toI] (Is (.v (⟨p.name,p.rev,p.floor,N2 key v p.keys [] false⟩:Spc).toI) [.no,.no,.no]):=by
 refine Af6 ?_ (by simp)
 obtain⟨pn,prv,pfl,ks⟩:=p;dsimp only at hl hv ⊢;obtain⟨RES,hRES⟩:∃R,N2 key v ks [] false=R:=⟨_,rfl⟩;rw[hRES];have hks:(ks.map Kv.toI).length=ks.length:=List.length_map _;repeat'((conv=>whnf);((with_reducible refine Exists.intro ?_ ?_);focus (and_intros<;>omega)))
 all_goals(try(conv=>whnf))
 refine LoopWq.by (X:=Nat × List Kv × Bool) (fun y=>[(9,.v (ti (y.1:Int))),(7,.vec 130 2 (y.2.1.map Kv.toI)),(8,.v (.bool y.2.2))]) (fun y=>y.1≤ks.length∧y.2.1.length≤2*y.1∧N2 key v (ks.drop y.1) y.2.1 y.2.2=RES) (fun y=>ks.length - y.1) (0,[],false) (by kernel_rfl) ⟨Nat.zero_le _,Nat.zero_le _,hRES⟩ ?_
 rintro⟨j,out,d⟩ ⟨hj,hol,hR⟩;dsimp only at hj hol hR ⊢;have hw:IntKind.i64.wrap ((j:Int)+1)=((j+1:Nat):Int):=(Bf (by omega)).trans (by omega)
 have hol2:(out.map Kv.toI).length≤200000:=by rw[List.length_map];omega
 by_cases hjl:j<ks.length
 case neg=>
  have h3:¬decide ((j:Int)<((ks.map Kv.toI).length:Int))=true:=by simp;omega
  have h4:¬decide ((j:Int)<(ks.length:Int))=true:=by simp;omega
  rw[List.drop_eq_nil_of_le (by omega)]at hR
  cases d with
  |true=>
   have hR:out=RES:=hR;subst hR;repeat'((conv=>whnf);first|((with_reducible refine Aw (by(with_reducible exact Bool.of_not_eq_true (by assumption))) (fun hb=>?_));(try rw[hb]);(try simp only[Aa]at hb))|((with_reducible refine And.intro (fun hb=>?_) (fun hb=>?_))<;>first|(exact absurd hb (by decide))|((try rw[hb]);(try simp only[Aa]at hb)))|((with_reducible refine Exists.intro ?_ ?_);focus (and_intros<;>first|omega|(with_reducible rfl)|kernel_rfl|(simp;done)))|(with_reducible intro hfact))
   all_goals(try(conv=>whnf))
   (apply dKq<;>kernel_rfl)
  |false=>
   have hR:out++[⟨key,[v]⟩]=RES:=hR;subst hR;repeat'((conv=>whnf);first|((with_reducible refine Aw (by(with_reducible exact Bool.of_not_eq_true (by assumption))) (fun hb=>?_));(try rw[hb]);(try simp only[Aa]at hb))|((with_reducible refine And.intro (fun hb=>?_) (fun hb=>?_))<;>first|(exact absurd hb (by decide))|((try rw[hb]);(try simp only[Aa]at hb)))|((with_reducible refine Exists.intro ?_ ?_);focus (and_intros<;>first|omega|(with_reducible rfl)|kernel_rfl|exact Ah (by rfl)|(simp only[Bu];omega)|(simp;done)))|(with_reducible intro hfact))
   all_goals(try(conv=>whnf))
   refine Done.mk ⟨?_,by kernel_rfl⟩ (by kernel_rfl)
   simp only[Spc.toI,List.map_append,List.map_cons,List.map_nil,Kv.one_I]
   kernel_rfl
 obtain⟨h,he⟩:∃x,ks[j]?=some x:=⟨_,List.getElem?_eq_getElem hjl⟩;have h3:¬decide ((j:Int)<((ks.map Kv.toI).length:Int))=false:=by simp;omega
 have h4:¬decide ((j:Int)<(ks.length:Int))=false:=by simp;omega
 have hdr:ks.drop j=h::ks.drop (j+1):=by rw[List.drop_eq_getElem_cons hjl];rw[List.getElem?_eq_getElem hjl]at he;cases he;rfl
 rw[hdr]at hR;simp only[N2]at hR;have hvl:=hv h (List.mem_of_getElem? he);obtain⟨hk,hvs⟩:=h;dsimp only at hR hvl;have hvl2:(hvs.map Ver.toI).length≤100000:=by rw[List.length_map];exact hvl
 by_cases heq:hk=key
 ·rw[if_pos heq]at hR;have hnl:¬key<hk:=by rw[heq];exact List.lt_irrefl _
  rw[if_neg (fun c=>hnl c.2)]at hR
  have e1:¬decide (hk=key)=false:=by simpa using heq
  have c1:¬Op.bytesLess key hk=true:=by rw[Kz];simpa using hnl
  cases d with
  |true=>
   repeat'((conv=>whnf);first|((with_reducible refine Ax (by(with_reducible exact Bool.of_not_eq_false (by assumption))) (fun hb=>?_));(try rw[hb]);(try simp only[Aa]at hb);(try subst hb))|((with_reducible refine Aw (by first|(with_reducible exact Bool.of_not_eq_true (by assumption))|(with_reducible rfl)) (fun hb=>?_));(try rw[hb]);(try simp only[Aa]at hb))|((with_reducible refine And.intro (fun hb=>?_) (fun hb=>?_))<;>first|(exact absurd hb (by decide))|((try rw[hb]);(try simp only[Aa]at hb)))|((with_reducible refine Exists.intro ?_ ?_);focus (and_intros<;>first|omega|(with_reducible rfl)|kernel_rfl|exact Ah (by rfl)|exact size_map (fun _=>rfl)|(simp only[Bu];omega)|(simp;done)))|(with_reducible intro hfact)|((with_reducible refine Drawn.mkV ?_ ?_ ?_ (fun hfact=>?_));(focus (as_aux_lemma=>kernel_rfl));(focus (as_aux_lemma=>kernel_rfl));(focus (as_aux_lemma=>kernel_rfl));(try simp only[dRS]at hfact))|((try dsimp only);(rw[B6 he]))|((try dsimp only);rw[hw]))
   all_goals(try(conv=>whnf))
   refine Round.by (j+1,out++[⟨hk,hvs++[v]⟩],true) ?_ ⟨by omega,by simp;omega,hR⟩ (by dsimp only;omega)
   try dsimp only
   simp only[List.map_append,List.map_cons,List.map_nil,Kv.one_I,Kv.snoc_I];show norm _ _=upd _ _
   kernel_rfl
  |false=>
   repeat'((conv=>whnf);first|((with_reducible refine Ax (by first|(with_reducible exact Bool.of_not_eq_false (by assumption))|(with_reducible rfl)) (fun hb=>?_));(try rw[hb]);(try simp only[Aa]at hb);(try subst hb))|((with_reducible refine Aw (by(with_reducible exact Bool.of_not_eq_true (by assumption))) (fun hb=>?_));(try rw[hb]);(try simp only[Aa]at hb))|((with_reducible refine And.intro (fun hb=>?_) (fun hb=>?_))<;>first|(exact absurd hb (by decide))|((try rw[hb]);(try simp only[Aa]at hb)))|((with_reducible refine Exists.intro ?_ ?_);focus (and_intros<;>first|omega|(with_reducible rfl)|kernel_rfl|exact Ah (by rfl)|exact size_map (fun _=>rfl)|(simp only[Bu];omega)|(simp;done)))|(with_reducible intro hfact)|((with_reducible refine Drawn.mkV ?_ ?_ ?_ (fun hfact=>?_));(focus (as_aux_lemma=>kernel_rfl));(focus (as_aux_lemma=>kernel_rfl));(focus (as_aux_lemma=>kernel_rfl));(try simp only[dRS]at hfact))|((try dsimp only);(rw[B6 he]))|((try dsimp only);rw[hw]))
   all_goals(try(conv=>whnf))
   refine Round.by (j+1,out++[⟨hk,hvs++[v]⟩],true) ?_ ⟨by omega,by simp;omega,hR⟩ (by dsimp only;omega)
   try dsimp only
   simp only[List.map_append,List.map_cons,List.map_nil,Kv.one_I,Kv.snoc_I];show norm _ _=upd _ _
   kernel_rfl
 ·rw[if_neg heq]at hR;have e1:¬decide (hk=key)=true:=by simpa using heq
  by_cases hlt:key<hk
  ·have c1:¬Op.bytesLess key hk=false:=by rw[Kz];simpa using hlt
   cases d with
   |true=>
    rw[if_neg (fun c=>by cases c.1),if_neg (fun c=>by cases c.1)]at hR
    repeat'((conv=>whnf);first|((with_reducible refine Ax (by(with_reducible exact Bool.of_not_eq_false (by assumption))) (fun hb=>?_));(try rw[hb]);(try simp only[Aa]at hb))|((with_reducible refine Aw (by first|(with_reducible exact Bool.of_not_eq_true (by assumption))|(with_reducible rfl)) (fun hb=>?_));(try rw[hb]);(try simp only[Aa]at hb))|((with_reducible refine And.intro (fun hb=>?_) (fun hb=>?_))<;>first|(exact absurd hb (by decide))|((try rw[hb]);(try simp only[Aa]at hb)))|((with_reducible refine Exists.intro ?_ ?_);focus (and_intros<;>first|omega|(with_reducible rfl)|kernel_rfl|exact Ah (by rfl)|(simp only[Bu];omega)|(simp;done)))|(with_reducible intro hfact)|((try dsimp only);(rw[B6 he]))|((try dsimp only);rw[hw]))
    all_goals(try(conv=>whnf))
    refine Round.by (j+1,out++[⟨hk,hvs⟩],true) ?_ ⟨by omega,by simp;omega,hR⟩ (by dsimp only;omega)
    try dsimp only
    simp only[List.map_append,List.map_cons,List.map_nil,Kv.one_I,Kv.snoc_I];show norm _ _=upd _ _
    kernel_rfl
   |false=>
    rw[if_pos ⟨rfl,hlt⟩,if_pos ⟨rfl,hlt⟩]at hR;repeat'((conv=>whnf);first|((with_reducible refine Ax (by first|(with_reducible exact Bool.of_not_eq_false (by assumption))|(with_reducible rfl)) (fun hb=>?_));(try rw[hb]);(try simp only[Aa]at hb))|((with_reducible refine Aw (by(with_reducible exact Bool.of_not_eq_true (by assumption))) (fun hb=>?_));(try rw[hb]);(try simp only[Aa]at hb))|((with_reducible refine And.intro (fun hb=>?_) (fun hb=>?_))<;>first|(exact absurd hb (by decide))|((try rw[hb]);(try simp only[Aa]at hb)))|((with_reducible refine Exists.intro ?_ ?_);focus (and_intros<;>first|omega|(with_reducible rfl)|kernel_rfl|exact Ah (by rfl)|(simp only[Bu];omega)|(simp;done)))|(with_reducible intro hfact)|((try dsimp only);(rw[B6 he]))|((try dsimp only);rw[hw]))
    all_goals(try(conv=>whnf))
    refine Round.by (j+1,out++[⟨key,[v]⟩]++[⟨hk,hvs⟩],true) ?_ ⟨by omega,by simp;omega,hR⟩ (by dsimp only;omega)
    try dsimp only
    simp only[List.map_append,List.map_cons,List.map_nil,Kv.one_I,Kv.snoc_I];show norm _ _=upd _ _
    kernel_rfl
  ·have c1:¬Op.bytesLess key hk=true:=by rw[Kz];simpa using hlt
   rw[if_neg (fun c=>hlt c.2),if_neg (fun c=>hlt c.2)]at hR
   cases d with
   |true=>
    repeat'((conv=>whnf);first|((with_reducible refine Ax (by(with_reducible exact Bool.of_not_eq_false (by assumption))) (fun hb=>?_));(try rw[hb]);(try simp only[Aa]at hb))|((with_reducible refine Aw (by first|(with_reducible exact Bool.of_not_eq_true (by assumption))|(with_reducible rfl)) (fun hb=>?_));(try rw[hb]);(try simp only[Aa]at hb))|((with_reducible refine And.intro (fun hb=>?_) (fun hb=>?_))<;>first|(exact absurd hb (by decide))|((try rw[hb]);(try simp only[Aa]at hb)))|((with_reducible refine Exists.intro ?_ ?_);focus (and_intros<;>first|omega|(with_reducible rfl)|kernel_rfl|exact Ah (by rfl)|(simp only[Bu];omega)|(simp;done)))|(with_reducible intro hfact)|((try dsimp only);(rw[B6 he]))|((try dsimp only);rw[hw]))
    all_goals(try(conv=>whnf))
    refine Round.by (j+1,out++[⟨hk,hvs⟩],true) ?_ ⟨by omega,by simp;omega,hR⟩ (by dsimp only;omega)
    try dsimp only
    simp only[List.map_append,List.map_cons,List.map_nil,Kv.one_I,Kv.snoc_I];show norm _ _=upd _ _
    kernel_rfl
   |false=>
    repeat'((conv=>whnf);first|((with_reducible refine Ax (by first|(with_reducible exact Bool.of_not_eq_false (by assumption))|(with_reducible rfl)) (fun hb=>?_));(try rw[hb]);(try simp only[Aa]at hb))|((with_reducible refine Aw (by(with_reducible exact Bool.of_not_eq_true (by assumption))) (fun hb=>?_));(try rw[hb]);(try simp only[Aa]at hb))|((with_reducible refine And.intro (fun hb=>?_) (fun hb=>?_))<;>first|(exact absurd hb (by decide))|((try rw[hb]);(try simp only[Aa]at hb)))|((with_reducible refine Exists.intro ?_ ?_);focus (and_intros<;>first|omega|(with_reducible rfl)|kernel_rfl|exact Ah (by rfl)|(simp only[Bu];omega)|(simp;done)))|(with_reducible intro hfact)|((try dsimp only);(rw[B6 he]))|((try dsimp only);rw[hw]))
    all_goals(try(conv=>whnf))
    refine Round.by (j+1,out++[⟨hk,hvs⟩],false) ?_ ⟨by omega,by simp;omega,hR⟩ (by dsimp only;omega)
    try dsimp only
    simp only[List.map_append,List.map_cons,List.map_nil,Kv.one_I,Kv.snoc_I];show norm _ _=upd _ _
    kernel_rfl

open Go.Proofs
theorem Adc{α:Type}{a b:List α}{i:Nat}{x:α}(h:a.take i=b.take i)(ha:a[i]?=some x)(hb:b[i]?=some x):a.take (i+1)=b.take (i+1):=by
 rw[List.take_add_one,List.take_add_one,h,ha,hb]
def Ak1(a:List Spc):Prop:=a.length≤100000∧∀p∈a,p.keys.length≤100000∧∀h∈p.keys,h.vs.length≤100000
theorem Akt(a b:List Spc)(ha:Ak1 a)(hb0:Ak1 b):Fn Tryd.prog Ae6 [.v (.list (a.map Spc.toI)),.v (.list (b.map Spc.toI))] (Is (.v (.bool (decide (a=b)))) [.no,.no]):=by
 refine Ae0 ?_ (by simp)
 obtain⟨ha1,ha2⟩:=ha;obtain⟨hb1,hb2⟩:=hb0;by_cases hl:a.length=b.length
 case neg=>
  have h1:¬(!decide (((a.map Spc.toI).length:Int)=((b.map Spc.toI).length:Int)))=false:=by simp;omega
  have h2:decide (a=b)=false:=decide_eq_false (fun e=>hl (by rw[e]))
  rw[h2];repeat'((conv=>whnf);first|((with_reducible refine Ax (by(with_reducible exact Bool.of_not_eq_false (by assumption))) (fun hb=>?_));(try rw[hb]);(try simp only[Aa]at hb))|((with_reducible refine Exists.intro ?_ ?_);focus (and_intros<;>(with_reducible rfl)))|(with_reducible intro hfact))
  all_goals(try(conv=>whnf))
  (apply dKq<;>kernel_rfl)
 have h1:¬(!decide (((a.map Spc.toI).length:Int)=((b.map Spc.toI).length:Int)))=true:=by simp;omega
 repeat'((conv=>whnf);first|((with_reducible refine Aw (by(with_reducible exact Bool.of_not_eq_true (by assumption))) (fun hb=>?_));(try rw[hb]);(try simp only[Aa]at hb))|((with_reducible refine Exists.intro ?_ ?_);focus (and_intros<;>(with_reducible rfl)))|(with_reducible intro hfact))
 all_goals(try(conv=>whnf))
 refine LoopWq.by (X:=Nat) (fun j=>[(5,.v (ti (j:Int)))]) (fun j=>j≤a.length∧a.take j=b.take j) (fun j=>a.length - j) 0 (by kernel_rfl) ⟨Nat.zero_le _,rfl⟩ ?_
 rintro j ⟨hj,hp⟩
 (try dsimp only at hj hp ⊢)
 have hw:IntKind.i64.wrap ((j:Int)+1)=((j+1:Nat):Int):=(Bf (by omega)).trans (by omega)
 by_cases hjl:j<a.length
 case neg=>
  have h3:¬decide ((j:Int)<((a.map Spc.toI).length:Int))=true:=by simp;omega
  have h4:¬decide ((j:Int)<(a.length:Int))=true:=by simp;omega
  rw[List.take_of_length_le (by omega),List.take_of_length_le (by omega)]at hp
  rw[decide_eq_true hp];repeat'((conv=>whnf);first|((with_reducible refine Aw (by(with_reducible exact Bool.of_not_eq_true (by assumption))) (fun hb=>?_));(try rw[hb]);(try simp only[Aa]at hb))|((with_reducible refine Exists.intro ?_ ?_);focus (and_intros<;>(with_reducible rfl)))|(with_reducible intro hfact))
  all_goals(try(conv=>whnf))
  (apply dKq<;>kernel_rfl)
 obtain⟨x,hx⟩:∃x,a[j]?=some x:=⟨_,List.getElem?_eq_getElem hjl⟩;obtain⟨y,hy⟩:∃y,b[j]?=some y:=⟨_,List.getElem?_eq_getElem (by omega)⟩
 have h3:¬decide ((j:Int)<((a.map Spc.toI).length:Int))=false:=by simp;omega
 have h4:¬decide ((j:Int)<(a.length:Int))=false:=by simp;omega
 have hab:a=b→x=y:=fun e=>by rw[e]at hx;exact Option.some.inj (hx.symm.trans hy)
 have hxb:=ha2 x (List.mem_of_getElem? hx);have hyb:=hb2 y (List.mem_of_getElem? hy);obtain⟨xn,xr,xf,xk⟩:=x;obtain⟨yn,yr,yf,yk⟩:=y;simp only[Spc.mk.injEq]at hab;dsimp only at hxb hyb;obtain⟨hxb1,hxb2⟩:=hxb;obtain⟨hyb1,hyb2⟩:=hyb;by_cases c1:xn=yn
 case neg=>
  have e1:¬(!decide (xn=yn))=false:=by simp[c1]
  have hne:decide (a=b)=false:=decide_eq_false fun e=>c1 (hab e).1
  rw[hne];repeat'((conv=>whnf);first|((with_reducible refine Ax (by first|(with_reducible exact Bool.of_not_eq_false (by assumption))|(with_reducible rfl)) (fun hb=>?_));(try rw[hb]);(try simp only[Aa]at hb))|((with_reducible refine Exists.intro ?_ ?_);focus (and_intros<;>first|omega|(with_reducible rfl)|kernel_rfl))|(with_reducible intro hfact)|((with_reducible refine Drawn.mkV ?_ ?_ ?_ (fun hfact=>?_));(focus (as_aux_lemma=>kernel_rfl));(focus (as_aux_lemma=>kernel_rfl));(focus (as_aux_lemma=>kernel_rfl));(try simp only[dRS]at hfact))|((try dsimp only);(rw[B6 hx]))|((try dsimp only);(rw[B6 hy])))
  all_goals(try(conv=>whnf))
  (apply dKq<;>kernel_rfl)
 have e1:¬(!decide (xn=yn))=true:=by simp[c1]
 by_cases c2:xr=yr
 case neg=>
  have e2:¬(!decide (xr=yr))=false:=by simp[c2]
  have hne:decide (a=b)=false:=decide_eq_false fun e=>c2 (hab e).2.1
  rw[hne];repeat'((conv=>whnf);first|((with_reducible refine Ax (by first|(with_reducible exact Bool.of_not_eq_false (by assumption))|(with_reducible rfl)) (fun hb=>?_));(try rw[hb]);(try simp only[Aa]at hb))|((with_reducible refine Aw (by first|(with_reducible assumption)|(with_reducible exact Bool.of_not_eq_true (by assumption))|(with_reducible rfl)) (fun hb=>?_));(try rw[hb]);(try simp only[Aa]at hb);(try subst hb))|((with_reducible refine Exists.intro ?_ ?_);focus (and_intros<;>first|omega|(with_reducible rfl)|kernel_rfl))|(with_reducible intro hfact)|((with_reducible refine Drawn.mkV ?_ ?_ ?_ (fun hfact=>?_));(focus (as_aux_lemma=>kernel_rfl));(focus (as_aux_lemma=>kernel_rfl));(focus (as_aux_lemma=>kernel_rfl));(try simp only[dRS]at hfact))|((try dsimp only);(rw[B6 hx]))|((try dsimp only);(rw[B6 hy])))
  all_goals(try(conv=>whnf))
  (apply dKq<;>kernel_rfl)
 have e2:¬(!decide (xr=yr))=true:=by simp[c2]
 by_cases c3:xf=yf
 case neg=>
  have e3:¬(!decide (xf=yf))=false:=by simp[c3]
  have hne:decide (a=b)=false:=decide_eq_false fun e=>c3 (hab e).2.2.1
  rw[hne];repeat'((conv=>whnf);first|((with_reducible refine Ax (by first|(with_reducible exact Bool.of_not_eq_false (by assumption))|(with_reducible rfl)) (fun hb=>?_));(try rw[hb]);(try simp only[Aa]at hb))|((with_reducible refine Aw (by first|(with_reducible assumption)|(with_reducible exact Bool.of_not_eq_true (by assumption))|(with_reducible rfl)) (fun hb=>?_));(try rw[hb]);(try simp only[Aa]at hb);(try subst hb))|((with_reducible refine Exists.intro ?_ ?_);focus (and_intros<;>first|omega|(with_reducible rfl)|kernel_rfl))|(with_reducible intro hfact)|((with_reducible refine Drawn.mkV ?_ ?_ ?_ (fun hfact=>?_));(focus (as_aux_lemma=>kernel_rfl));(focus (as_aux_lemma=>kernel_rfl));(focus (as_aux_lemma=>kernel_rfl));(try simp only[dRS]at hfact))|((try dsimp only);(rw[B6 hx]))|((try dsimp only);(rw[B6 hy])))
  all_goals(try(conv=>whnf))
  (apply dKq<;>kernel_rfl)
 have e3:¬(!decide (xf=yf))=true:=by simp[c3]
 by_cases c4:xk.length=yk.length
 case neg=>
  have e4:¬(!decide (((xk.map Kv.toI).length:Int)=((yk.map Kv.toI).length:Int)))=false:=by simp;omega
  have hne:decide (a=b)=false:=decide_eq_false fun e=>c4 (by rw[(hab e).2.2.2])
  rw[hne];repeat'((conv=>whnf);first|((with_reducible refine Ax (by(with_reducible exact Bool.of_not_eq_false (by assumption))) (fun hb=>?_));(try rw[hb]);(try simp only[Aa]at hb))|((with_reducible refine Aw (by first|(with_reducible assumption)|(with_reducible exact Bool.of_not_eq_true (by assumption))|(with_reducible rfl)) (fun hb=>?_));(try rw[hb]);(try simp only[Aa]at hb);(try subst hb))|((with_reducible refine Exists.intro ?_ ?_);focus (and_intros<;>first|omega|(with_reducible rfl)|kernel_rfl))|(with_reducible intro hfact)|((with_reducible refine Drawn.mkV ?_ ?_ ?_ (fun hfact=>?_));(focus (as_aux_lemma=>kernel_rfl));(focus (as_aux_lemma=>kernel_rfl));(focus (as_aux_lemma=>kernel_rfl));(try simp only[dRS]at hfact))|((try dsimp only);(rw[B6 hx]))|((try dsimp only);(rw[B6 hy])))
  all_goals(try(conv=>whnf))
  (apply dKq<;>kernel_rfl)
 have e4:¬(!decide (((xk.map Kv.toI).length:Int)=((yk.map Kv.toI).length:Int)))=true:=by simp;omega
 repeat'((conv=>whnf);first|((with_reducible refine Ax (by(with_reducible exact Bool.of_not_eq_false (by assumption))) (fun hb=>?_));(try rw[hb]);(try simp only[Aa]at hb))|((with_reducible refine Aw (by first|(with_reducible exact Bool.of_not_eq_true (by assumption))|(with_reducible rfl)) (fun hb=>?_));(try rw[hb]);(try simp only[Aa]at hb);(try subst hb))|((with_reducible refine Exists.intro ?_ ?_);focus (and_intros<;>first|omega|(with_reducible rfl)|kernel_rfl))|(with_reducible intro hfact)|((with_reducible refine Drawn.mkV ?_ ?_ ?_ (fun hfact=>?_));(focus (as_aux_lemma=>kernel_rfl));(focus (as_aux_lemma=>kernel_rfl));(focus (as_aux_lemma=>kernel_rfl));(try simp only[dRS]at hfact))|((try dsimp only);(rw[B6 hx]))|((try dsimp only);(rw[B6 hy])))
 all_goals(try(conv=>whnf))
 refine LoopWq.by (X:=Nat) (fun k=>[(6,.v (ti (k:Int)))]) (fun k=>k≤xk.length∧xk.take k=yk.take k) (fun k=>xk.length - k) 0 (by kernel_rfl) ⟨Nat.zero_le _,rfl⟩ ?_
 rintro k ⟨hk,hq⟩
 (try dsimp only at hk hq ⊢)
 have hwk:IntKind.i64.wrap ((k:Int)+1)=((k+1:Nat):Int):=(Bf (by omega)).trans (by omega)
 by_cases hkl:k<xk.length
 case neg=>
  have h5:¬decide ((k:Int)<((xk.map Kv.toI).length:Int))=true:=by simp;omega
  have h6:¬decide ((k:Int)<(xk.length:Int))=true:=by simp;omega
  rw[List.take_of_length_le (by omega),List.take_of_length_le (by omega)]at hq
  have hnx:a.take (j+1)=b.take (j+1):=Adc hp hx (by rw[hy,c1,c2,c3,hq])
  repeat'((conv=>whnf);first|((with_reducible refine Aw (by(with_reducible exact Bool.of_not_eq_true (by assumption))) (fun hb=>?_));(try rw[hb]);(try simp only[Aa]at hb))|((with_reducible refine Exists.intro ?_ ?_);focus (and_intros<;>first|omega|(with_reducible rfl)|kernel_rfl))|(with_reducible intro hfact)|((try dsimp only);(rw[B6 hx]))|((try dsimp only);rw[hw]))
  all_goals(try(conv=>whnf))
  refine Round.by (j+1) ?_ ⟨by omega,hnx⟩ (by omega)
  try dsimp only
  show norm _ _=upd _ _
  kernel_rfl
 obtain⟨u,hu⟩:∃x,xk[k]?=some x:=⟨_,List.getElem?_eq_getElem hkl⟩;obtain⟨w,hwv⟩:∃y,yk[k]?=some y:=⟨_,List.getElem?_eq_getElem (by omega)⟩
 have h5:¬decide ((k:Int)<((xk.map Kv.toI).length:Int))=false:=by simp;omega
 have h6:¬decide ((k:Int)<(xk.length:Int))=false:=by simp;omega
 have hab2:a=b→u=w:=fun e=>by
  have:=(hab e).2.2.2;rw[this]at hu;exact Option.some.inj (hu.symm.trans hwv)
 have hub:=hxb2 u (List.mem_of_getElem? hu);have hwb:=hyb2 w (List.mem_of_getElem? hwv);obtain⟨uk,uv⟩:=u;obtain⟨wk,wv⟩:=w;simp only[Kv.mk.injEq]at hab2;dsimp only at hub hwb;by_cases c5:uk=wk
 case neg=>
  have e5:¬(!decide (uk=wk))=false:=by simp[c5]
  have hne:decide (a=b)=false:=decide_eq_false fun e=>c5 (hab2 e).1
  rw[hne];repeat'((conv=>whnf);first|((with_reducible refine Ax (by first|(with_reducible exact Bool.of_not_eq_false (by assumption))|(with_reducible rfl)) (fun hb=>?_));(try rw[hb]);(try simp only[Aa]at hb))|((with_reducible refine Exists.intro ?_ ?_);focus (and_intros<;>first|omega|(with_reducible rfl)|kernel_rfl|(simp;done)))|(with_reducible intro hfact)|((with_reducible refine Drawn.mkV ?_ ?_ ?_ (fun hfact=>?_));(focus (as_aux_lemma=>kernel_rfl));(focus (as_aux_lemma=>kernel_rfl));(focus (as_aux_lemma=>kernel_rfl));(try simp only[dRS]at hfact))|((try dsimp only);(rw[B6 hx]))|((try dsimp only);(rw[B6 hy]))|((try dsimp only);(rw[B6 hu]))|((try dsimp only);(rw[B6 hwv])))
  all_goals(try(conv=>whnf))
  (apply dKq<;>kernel_rfl)
 have e5:¬(!decide (uk=wk))=true:=by simp[c5]
 by_cases c6:uv.length=wv.length
 case neg=>
  have e6:¬(!decide (((uv.map Ver.toI).length:Int)=((wv.map Ver.toI).length:Int)))=false:=by simp;omega
  have hne:decide (a=b)=false:=decide_eq_false fun e=>c6 (by rw[(hab2 e).2])
  rw[hne];repeat'((conv=>whnf);first|((with_reducible refine Ax (by(with_reducible exact Bool.of_not_eq_false (by assumption))) (fun hb=>?_));(try rw[hb]);(try simp only[Aa]at hb))|((with_reducible refine Aw (by first|(with_reducible assumption)|(with_reducible exact Bool.of_not_eq_true (by assumption))|(with_reducible rfl)) (fun hb=>?_));(try rw[hb]);(try simp only[Aa]at hb);(try subst hb))|((with_reducible refine Exists.intro ?_ ?_);focus (and_intros<;>first|omega|(with_reducible rfl)|kernel_rfl|(simp;done)))|(with_reducible intro hfact)|((with_reducible refine Drawn.mkV ?_ ?_ ?_ (fun hfact=>?_));(focus (as_aux_lemma=>kernel_rfl));(focus (as_aux_lemma=>kernel_rfl));(focus (as_aux_lemma=>kernel_rfl));(try simp only[dRS]at hfact))|((try dsimp only);(rw[B6 hx]))|((try dsimp only);(rw[B6 hy]))|((try dsimp only);(rw[B6 hu]))|((try dsimp only);(rw[B6 hwv])))
  all_goals(try(conv=>whnf))
  (apply dKq<;>kernel_rfl)
 have e6:¬(!decide (((uv.map Ver.toI).length:Int)=((wv.map Ver.toI).length:Int)))=true:=by simp;omega
 repeat'((conv=>whnf);first|((with_reducible refine Ax (by(with_reducible exact Bool.of_not_eq_false (by assumption))) (fun hb=>?_));(try rw[hb]);(try simp only[Aa]at hb))|((with_reducible refine Aw (by first|(with_reducible exact Bool.of_not_eq_true (by assumption))|(with_reducible rfl)) (fun hb=>?_));(try rw[hb]);(try simp only[Aa]at hb);(try subst hb))|((with_reducible refine Exists.intro ?_ ?_);focus (and_intros<;>first|omega|(with_reducible rfl)|kernel_rfl|(simp;done)))|(with_reducible intro hfact)|((with_reducible refine Drawn.mkV ?_ ?_ ?_ (fun hfact=>?_));(focus (as_aux_lemma=>kernel_rfl));(focus (as_aux_lemma=>kernel_rfl));(focus (as_aux_lemma=>kernel_rfl));(try simp only[dRS]at hfact))|((try dsimp only);(rw[B6 hx]))|((try dsimp only);(rw[B6 hy]))|((try dsimp only);(rw[B6 hu]))|((try dsimp only);(rw[B6 hwv])))
 all_goals(try(conv=>whnf))
 refine LoopWq.by (X:=Nat) (fun n=>[(9,.v (ti (n:Int)))]) (fun n=>n≤uv.length∧uv.take n=wv.take n) (fun n=>uv.length - n) 0 (by kernel_rfl) ⟨Nat.zero_le _,rfl⟩ ?_
 rintro n ⟨hn,hr⟩
 (try dsimp only at hn hr ⊢)
 have hwn:IntKind.i64.wrap ((n:Int)+1)=((n+1:Nat):Int):=(Bf (by omega)).trans (by omega)
 by_cases hnl:n<uv.length
 case neg=>
  have h7:¬decide ((n:Int)<((uv.map Ver.toI).length:Int))=true:=by simp;omega
  have h8:¬decide ((n:Int)<(uv.length:Int))=true:=by simp;omega
  rw[List.take_of_length_le (by omega),List.take_of_length_le (by omega)]at hr
  have hnx:xk.take (k+1)=yk.take (k+1):=Adc hq hu (by rw[hwv,c5,hr])
  repeat'((conv=>whnf);first|((with_reducible refine Aw (by(with_reducible exact Bool.of_not_eq_true (by assumption))) (fun hb=>?_));(try rw[hb]);(try simp only[Aa]at hb))|((with_reducible refine Exists.intro ?_ ?_);focus (and_intros<;>first|omega|(with_reducible rfl)|kernel_rfl|(simp;done)))|(with_reducible intro hfact)|((try dsimp only);rw[hwk]))
  all_goals(try(conv=>whnf))
  refine Round.by (k+1) ?_ ⟨by omega,hnx⟩ (by omega)
  try dsimp only
  show norm _ _=upd _ _
  kernel_rfl
 obtain⟨v,hv⟩:∃x,uv[n]?=some x:=⟨_,List.getElem?_eq_getElem hnl⟩;obtain⟨z,hz⟩:∃y,wv[n]?=some y:=⟨_,List.getElem?_eq_getElem (by omega)⟩
 have h7:¬decide ((n:Int)<((uv.map Ver.toI).length:Int))=false:=by simp;omega
 have h8:¬decide ((n:Int)<(uv.length:Int))=false:=by simp;omega
 have hab3:a=b→v=z:=fun e=>by
  have:=(hab2 e).2;rw[this]at hv;exact Option.some.inj (hv.symm.trans hz)
 obtain⟨vr,vm,vv,vg⟩:=v;obtain⟨zr,zm,zv,zg⟩:=z;have hqe:(decide (vr=zr)&&(decide (vm=zm)&&(decide (vv=zv)&&(decide (vg=zg)&&true))))=decide (Ver.mk vr vm vv vg=Ver.mk zr zm zv zg):=by rw[Bool.eq_iff_iff];simp
 by_cases c7:Ver.mk vr vm vv vg=Ver.mk zr zm zv zg
 ·have g:¬(!(decide (vr=zr)&&(decide (vm=zm)&&(decide (vv=zv)&&(decide (vg=zg)&&true)))))=true:=by rw[hqe];simp[c7]
  have hnx:uv.take (n+1)=wv.take (n+1):=Adc hr hv (by rw[hz,c7])
  repeat'((conv=>whnf);first|((with_reducible refine Ax (by first|(with_reducible assumption)|(with_reducible exact Bool.of_not_eq_false (by assumption))) (fun hb=>?_));(try rw[hb]);(try simp only[Aa]at hb))|((with_reducible refine Aw (by(with_reducible exact Bool.of_not_eq_true (by assumption))) (fun hb=>?_));(try rw[hb]);(try simp only[Aa]at hb))|((with_reducible refine Exists.intro ?_ ?_);focus (and_intros<;>first|omega|(with_reducible rfl)|kernel_rfl|(simp;done)))|(with_reducible intro hfact)|((with_reducible refine Drawn.mkV ?_ ?_ ?_ (fun hfact=>?_));(focus (as_aux_lemma=>kernel_rfl));(focus (as_aux_lemma=>kernel_rfl));(focus (as_aux_lemma=>kernel_rfl));(try simp only[dRS]at hfact))|((try dsimp only);(rw[B6 hv]))|((try dsimp only);(rw[B6 hz]))|(skip;rw[hwn]))
  all_goals(try(conv=>whnf))
  refine Round.by (n+1) ?_ ⟨by omega,hnx⟩ (by omega)
  try dsimp only
  show norm _ _=upd _ _
  kernel_rfl
 ·have g:¬(!(decide (vr=zr)&&(decide (vm=zm)&&(decide (vv=zv)&&(decide (vg=zg)&&true)))))=false:=by rw[hqe];simp[c7]
  have hne:decide (a=b)=false:=decide_eq_false fun e=>c7 (hab3 e)
  rw[hne];repeat'((conv=>whnf);first|((with_reducible refine Ax (by(with_reducible exact Bool.of_not_eq_false (by assumption))) (fun hb=>?_));(try rw[hb]);(try simp only[Aa]at hb))|((with_reducible refine Exists.intro ?_ ?_);focus (and_intros<;>first|omega|(with_reducible rfl)|kernel_rfl|(simp;done)))|(with_reducible intro hfact)|((with_reducible refine Drawn.mkV ?_ ?_ ?_ (fun hfact=>?_));(focus (as_aux_lemma=>kernel_rfl));(focus (as_aux_lemma=>kernel_rfl));(focus (as_aux_lemma=>kernel_rfl));(try simp only[dRS]at hfact))|((try dsimp only);(rw[B6 hv]))|((try dsimp only);(rw[B6 hz])))
  all_goals(try(conv=>whnf))
  (apply dKq<;>kernel_rfl)

open Go.Proofs
abbrev rT(R:List Spc):SV:=.own [] (.ptr (.st [.vec 50 4 ((R.map Spc.toI).map D.it)]))
def Ev(n:Az):List Spc→Nat→Int
 | [],_=> -1
 |p::r,i=>if p.name=n then(i:Int)else Ev n r (i+1)
theorem Z3(R:List Spc)(n:Az)(hl:R.length≤100000):Fn Tryd.prog Ach [rT R,.v (.str n)] (Is (.v (ti (Ev n R 0))) [rT R,.no]):=by
 refine Acg ?_ (by simp)
 obtain⟨RES,hRES⟩:∃X,Ev n R 0=X:=⟨_,rfl⟩;rw[hRES];have hlm:((R.map Spc.toI).map D.it).length=R.length:=by simp
 (skip)
 all_goals(try(conv=>whnf))
 refine LoopWq.by (X:=Nat) (fun j=>[(5,.v (ti (j:Int)))]) (fun j=>j≤R.length∧Ev n (R.drop j) j=RES) (fun j=>R.length - j) 0 (by kernel_rfl) ⟨Nat.zero_le _,hRES⟩ ?_
 rintro j ⟨hj,hR⟩
 (try dsimp only at hj hR ⊢)
 have hw:IntKind.i64.wrap ((j:Int)+1)=((j+1:Nat):Int):=(Bf (by omega)).trans (by omega)
 by_cases hjl:j<R.length
 case neg=>
  have h4:¬decide ((j:Int)<(R.length:Int))=true:=by simp;omega
  have h3:¬decide ((j:Int)<((((R.map Spc.toI).map D.it).length:Nat):Int))=true:=by rw[hlm];exact h4
  rw[List.drop_eq_nil_of_le (by omega)]at hR
  have hR:(-1:Int)=RES:=hR;subst hR;repeat'((conv=>whnf);first|((with_reducible refine Aw (by(with_reducible exact Bool.of_not_eq_true (by assumption))) (fun hb=>?_));(try rw[hb]);(try simp only[Aa]at hb))|((with_reducible refine Exists.intro ?_ ?_);focus (and_intros<;>first|omega|(with_reducible rfl)|kernel_rfl|(simp;done)))|(with_reducible intro hfact))
  all_goals(try(conv=>whnf))
  (apply dKq<;>kernel_rfl)
 obtain⟨p,he⟩:∃x,R[j]?=some x:=⟨_,List.getElem?_eq_getElem hjl⟩;have h4:¬decide ((j:Int)<(R.length:Int))=false:=by simp;omega
 have h3:¬decide ((j:Int)<((((R.map Spc.toI).map D.it).length:Nat):Int))=false:=by rw[hlm];exact h4
 have hdr:R.drop j=p::R.drop (j+1):=by rw[List.drop_eq_getElem_cons hjl];rw[List.getElem?_eq_getElem hjl]at he;cases he;rfl
 rw[hdr]at hR;simp only[Ev]at hR;obtain⟨pn,pr,pf,pk⟩:=p;dsimp only at hR;by_cases hn:pn=n
 ·rw[if_pos hn]at hR;subst hR;have e1:¬decide (pn=n)=false:=by simpa using hn
  repeat'((conv=>whnf);first|((with_reducible refine Ax (by(with_reducible exact Bool.of_not_eq_false (by assumption))) (fun hb=>?_));(try rw[hb]);(try simp only[Aa]at hb);(try subst hb))|((with_reducible refine Exists.intro ?_ ?_);focus (and_intros<;>first|omega|(with_reducible rfl)|kernel_rfl|(simp;done)))|(with_reducible intro hfact)|(((with_reducible apply A3));(focus rfl);(focus (simp only[D.at,D.put,D.kid,D.setKid,mkSt,Ap,D.toI,toIs,Ak,Af,he,hlm]<;>exact rfl));(try(focus exact rfl))))
  all_goals(try(conv=>whnf))
  (apply dKq<;>kernel_rfl)
 ·rw[if_neg hn]at hR;have e1:¬decide (pn=n)=true:=by simpa using hn
  repeat'((conv=>whnf);first|((with_reducible refine Ax (by(with_reducible exact Bool.of_not_eq_false (by assumption))) (fun hb=>?_));(try rw[hb]);(try simp only[Aa]at hb))|((with_reducible refine Aw (by(with_reducible exact Bool.of_not_eq_true (by assumption))) (fun hb=>?_));(try rw[hb]);(try simp only[Aa]at hb))|((with_reducible refine Exists.intro ?_ ?_);focus (and_intros<;>first|omega|(with_reducible rfl)|kernel_rfl|(simp;done)))|(with_reducible intro hfact)|((try dsimp only);rw[hw])|(((with_reducible apply A3));(focus rfl);(focus (simp only[D.at,D.put,D.kid,D.setKid,mkSt,Ap,D.toI,toIs,Ak,Af,he,hlm]<;>exact rfl));(try(focus exact rfl))))
  all_goals(try(conv=>whnf))
  refine Round.by (j+1) ?_ ⟨by omega,hR⟩ (by omega)
  try dsimp only
  show norm _ _=upd _ _
  kernel_rfl

open Go.Proofs
def Acj:List Chg→Bool
 | []=>true
 |c::r=>if c.ok then Acj r else false
def Aba(key:Az):List Chg→Bool→Bool
 | [],b=>b
 |c::r,b=>Aba key r (b&& !decide (c.key=key))
def Z9(key:Az)(rev:Int):List Kv→Ver→Ver
 | [],v=>v
 |h::r,v=>Z9 key rev r (if h.key=key then Bx rev h.vs Aj else v)
def Acm(p:Spc)(c:Chg)(was:Ver):Ver:=if c.gone=true then⟨p.rev+1,0,[],true⟩else⟨p.rev+1,if was.gone=true then p.rev+1 else was.made,c.val,false⟩
def Xd(p:Spc)(c:Chg)(r:List Chg)(nx:Spc):Spc:=
 if Aba c.key r true=false∨(c.gone=true∧(Z9 c.key p.rev p.keys Aj).gone=true)then nx
 else⟨nx.name,p.rev+1,nx.floor,N2 c.key (Acm p c (Z9 c.key p.rev p.keys Aj)) nx.keys [] false⟩
def rwGo(p:Spc):List Chg→Spc→Spc
 | [],nx=>nx
 |c::r,nx=>rwGo p r (Xd p c r nx)
def KL(m:Nat)(ks:List Kv):Prop:=ks.length≤m∧∀h∈ks,h.vs.length≤m
theorem Agq{key:Az}{v:Ver}{m:Nat}(hm:1≤m):∀{r out:List Kv} {d:Bool},(∀h∈r,h.vs.length+1≤m)→(∀h∈out,h.vs.length≤m)→
 (N2 key v r out d).length≤out.length+r.length+(if d=true then 0 else 1)∧∀h∈N2 key v r out d,h.vs.length≤m
 | [],out,d,_,ho=>by
   unfold N2;split
   ·rename_i hd;subst hd;exact⟨by simp,ho⟩
   ·rename_i hd;refine⟨by simp[hd],fun h hh=>?_⟩
    rcases List.mem_append.1 hh with hh|hh
    ·exact ho h hh
    ·simp only[List.mem_singleton]at hh;subst hh;simpa using hm
 |h::r,out,d,hr,ho=>by
  have h1:=hr h (List.mem_cons_self ..);have hr':=fun x hx=>hr x (List.mem_cons_of_mem _ hx)
  have ho':∀(c:Prop) [Decidable c],∀x∈(if c then out++[⟨key,[v]⟩]else out),x.vs.length≤m:=by
   intro c _ x hx;split at hx
   ·rcases List.mem_append.1 hx with hx|hx
    ·exact ho x hx
    ·simp only[List.mem_singleton]at hx;subst hx;simpa using hm
   ·exact ho x hx
  have hsn:∀(c:Prop) [Decidable c] (y:Kv),y.vs.length≤m→∀x∈(if c then out++[⟨key,[v]⟩]else out)++[y],x.vs.length≤m:=by
   intro c _ y hy x hx;rcases List.mem_append.1 hx with hx|hx
   ·exact ho' c x hx
   ·simp only[List.mem_singleton]at hx;subst hx;exact hy
  unfold N2;split
  ·rename_i hk;have hnl:¬(d=false∧key<h.key):=fun c=>by rw[hk]at c;exact absurd c.2 (List.lt_irrefl _)
   obtain⟨i1,i2⟩:=Agq (key:=key) (v:=v) hm (r:=r) (out:=(if d=false∧key<h.key then out++[⟨key,[v]⟩]else out)++[⟨h.key,h.vs++[v]⟩]) (d:=true) hr' (hsn _ _ (by simp;omega))
   refine⟨?_,i2⟩;rw[if_neg hnl]at i1 ⊢;simp only[List.length_append,List.length_cons,List.length_nil,if_true]at i1 ⊢;split<;>omega
  ·obtain⟨i1,i2⟩:=Agq (key:=key) (v:=v) hm (r:=r) (out:=(if d=false∧key<h.key then out++[⟨key,[v]⟩]else out)++[h]) (d:=if d=false∧key<h.key then true else d) hr' (hsn _ _ (by omega))
   refine⟨?_,i2⟩;by_cases hc:d=false∧key<h.key
   ·rw[if_pos hc,if_pos hc]at i1;rw[if_pos hc,if_pos hc,hc.1];simp only[List.length_append,List.length_cons,List.length_nil,if_true,Bool.false_eq_true,if_false]at i1 ⊢;omega
   ·rw[if_neg hc,if_neg hc]at i1;rw[if_neg hc,if_neg hc];simp only[List.length_append,List.length_cons,List.length_nil]at i1 ⊢;omega
theorem Amm{m:Nat}{p nx:Spc}{c:Chg}{r:List Chg}(h:KL m nx.keys):KL (m+1) (Xd p c r nx).keys:=by
 unfold Xd;split
 ·exact⟨by have:=h.1;omega,fun x hx=>by have:=h.2 x hx;omega⟩
 ·obtain⟨i1,i2⟩:=Agq (key:=c.key) (v:=Acm p c (Z9 c.key p.rev p.keys Aj)) (m:=m+1) (by omega) (r:=nx.keys) (out:=[]) (d:=false) (fun x hx=>by have:=h.2 x hx;omega) (by intro x hx;cases hx)
  refine⟨?_,i2⟩;simp only[List.length_nil,Bool.false_eq_true,if_false]at i1;have:=h.1;dsimp only;omega
theorem Akm(R:List Spc)(n:Az)(cs:List I)(hl:R.length≤100000)(hf:Ev n R 0= -1):
 Fn Tryd.prog Du [rT R,.v (.str n),.v (.list cs)] (Is (.tup [.i (ti 0),.i (ti 16)]) [rT R,.no,.no]):=by
 refine Jd ?_ (by simp)
 have hfi:=Z3 R n hl;rw[hf]at hfi;repeat'((conv=>whnf);first|((with_reducible refine Ax (by first|((with_reducible refine decide_eq_true ?_);omega)|(with_reducible rfl)) (fun hb=>?_));(try rw[hb]);(try simp only[Aa]at hb))|((with_reducible refine Exists.intro ?_ ?_);focus (and_intros<;>first|kernel_rfl|(intro _ hh;cases hh;done)|(simp;done)|decide))|((with_reducible refine CallWp.mk ?_);refine⟨_,hfi,?_⟩;rintro _ _ ⟨rfl,rfl⟩))
 all_goals(try(conv=>whnf))
 (apply dKq<;>kernel_rfl)
theorem Ak2(R:List Spc)(n:Az)(cs:List Chg)(hl:R.length≤100000)(hcs:cs.length≤1000)(i:Nat)(p:Spc)(hf:Ev n R 0=(i:Int))(he:R[i]?=some p)(RES:Bool)(hRES0:RES=false)(hRES:Acj cs=RES):
 Fn Tryd.prog Du [rT R,.v (.str n),.v (.list (cs.map Chg.toI))] (Is (.tup [.i (ti 0),.i (ti 1)]) [rT R,.no,.no]):=by
 refine Jd ?_ (by simp)
 have hfi:=Z3 R n hl;rw[hf]at hfi;have hil:=(List.getElem?_eq_some_iff.1 he).1;have hlm:((R.map Spc.toI).map D.it).length=R.length:=by simp
 have hcl:(cs.map Chg.toI).length=cs.length:=List.length_map _;repeat'((conv=>whnf);first|((with_reducible refine Aw (by first|(with_reducible assumption)|((with_reducible refine decide_eq_false ?_);omega)) (fun hb=>?_));(try rw[hb]);(try simp only[Aa]at hb))|((with_reducible refine Exists.intro ?_ ?_);focus (and_intros<;>first|kernel_rfl|(intro _ hh;cases hh;done)|(simp;done)|decide))|((with_reducible refine CallWp.mk ?_);refine⟨_,hfi,?_⟩;rintro _ _ ⟨rfl,rfl⟩))
 all_goals(try(conv=>whnf))
 refine LoopWq.by (X:=Nat) (fun j=>[(9,.v (ti (j:Int)))]) (fun j=>j≤cs.length∧Acj (cs.drop j)=RES) (fun j=>cs.length - j) 0 (by kernel_rfl) ⟨Nat.zero_le _,hRES⟩ ?_
 rintro j ⟨hj,hR⟩
 (try dsimp only at hj hR ⊢)
 have hw:IntKind.i64.wrap ((j:Int)+1)=((j+1:Nat):Int):=(Bf (by omega)).trans (by omega)
 by_cases hjl:j<cs.length
 case neg=>
  rw[List.drop_eq_nil_of_le (by omega)]at hR
  rw[←hR]at hRES0;cases hRES0
 obtain⟨c,hc⟩:∃c,cs[j]?=some c:=⟨_,List.getElem?_eq_getElem hjl⟩;have h3:¬decide ((j:Int)<(cs.length:Int))=false:=by simp;omega
 have h4:¬decide ((j:Int)<((cs.map Chg.toI).length:Int))=false:=by simp;omega
 have hdr:cs.drop j=c::cs.drop (j+1):=by rw[List.drop_eq_getElem_cons hjl];rw[List.getElem?_eq_getElem hjl]at hc;cases hc;rfl
 rw[hdr]at hR;simp only[Acj]at hR;obtain⟨ck,cv,cg⟩:=c;by_cases hok:(Chg.mk ck cv cg).ok
 ·rw[if_pos hok]at hR;obtain⟨hk1,hk2⟩:=hok;dsimp only at hk1 hk2;cases cg with
  |true=>
   repeat'((conv=>whnf);first|((with_reducible refine Ax (by(with_reducible exact Bool.of_not_eq_false (by assumption))) (fun hb=>?_));(try rw[hb]);(try simp only[Aa]at hb))|((with_reducible refine Aw (by first|(with_reducible assumption)|(with_reducible rfl)) (fun hb=>?_));(try rw[hb]);(try simp only[Aa]at hb))|((with_reducible refine And.intro (fun hb=>?_) (fun hb=>?_))<;>first|(exfalso;((simp only[Bu]at hb<;>omega)))|((try rw[hb]);(try simp only[Aa]at hb)))|((with_reducible refine Exists.intro ?_ ?_);focus (and_intros<;>first|omega|(with_reducible rfl)|kernel_rfl))|(with_reducible intro hfact)|((try dsimp only);(rw[B6 hc]))|((try dsimp only);rw[hw]))
   all_goals(try(conv=>whnf))
   refine Round.by (j+1) ?_ ⟨by omega,hR⟩ (by omega)
   try dsimp only
   show norm _ _=upd _ _
   kernel_rfl
  |false=>
   have hk2:cv.length≤256:=by simpa using hk2
   repeat'((conv=>whnf);first|((with_reducible refine Ax (by first|(with_reducible exact Bool.of_not_eq_false (by assumption))|(with_reducible rfl)) (fun hb=>?_));(try rw[hb]);(try simp only[Aa]at hb))|((with_reducible refine Aw (by first|(with_reducible assumption)|(with_reducible rfl)) (fun hb=>?_));(try rw[hb]);(try simp only[Aa]at hb))|((with_reducible refine And.intro (fun hb=>?_) (fun hb=>?_))<;>first|(exfalso;((simp only[Bu]at hb<;>omega)))|((try rw[hb]);(try simp only[Aa]at hb)))|((with_reducible refine Exists.intro ?_ ?_);focus (and_intros<;>first|omega|(with_reducible rfl)|kernel_rfl))|(with_reducible intro hfact)|((try dsimp only);(rw[B6 hc]))|((try dsimp only);rw[hw]))
   all_goals(try(conv=>whnf))
   refine Round.by (j+1) ?_ ⟨by omega,hR⟩ (by omega)
   try dsimp only
   show norm _ _=upd _ _
   kernel_rfl
 ·by_cases hk:1≤ck.length∧ck.length≤64
  ·cases cg with
   |true=>exact absurd ⟨hk,.inl rfl⟩ hok
   |false=>
    have hv:¬cv.length≤256:=fun h=>hok ⟨hk,.inr h⟩
    repeat'((conv=>whnf);first|((with_reducible refine Ax (by first|(with_reducible exact Bool.of_not_eq_false (by assumption))|(with_reducible rfl)) (fun hb=>?_));(try rw[hb]);(try simp only[Aa]at hb))|((with_reducible refine Aw (by first|(with_reducible assumption)|(with_reducible rfl)) (fun hb=>?_));(try rw[hb]);(try simp only[Aa]at hb))|((with_reducible refine And.intro (fun hb=>?_) (fun hb=>?_))<;>first|(exfalso;((simp only[Bu]at hb<;>omega)))|((try rw[hb]);(try simp only[Aa]at hb)))|((with_reducible refine Exists.intro ?_ ?_);focus (and_intros<;>first|omega|(with_reducible rfl)|kernel_rfl))|(with_reducible intro hfact)|((try dsimp only);(rw[B6 hc])))
    all_goals(try(conv=>whnf))
    all_goals((apply dKq<;>kernel_rfl))
  ·cases cg with
   |true=>
    repeat'((conv=>whnf);first|((with_reducible refine Ax (by first|(with_reducible exact Bool.of_not_eq_false (by assumption))|(with_reducible rfl)) (fun hb=>?_));(try rw[hb]);(try simp only[Aa]at hb))|((with_reducible refine Aw (by first|(with_reducible assumption)|(with_reducible rfl)) (fun hb=>?_));(try rw[hb]);(try simp only[Aa]at hb))|((with_reducible refine And.intro (fun hb=>?_) (fun hb=>?_))<;>first|(exfalso;((simp only[Bu]at hb<;>omega)))|((try rw[hb]);(try simp only[Aa]at hb)))|((with_reducible refine Exists.intro ?_ ?_);focus (and_intros<;>first|omega|(with_reducible rfl)|kernel_rfl))|(with_reducible intro hfact)|((try dsimp only);(rw[B6 hc])))
    all_goals(try(conv=>whnf))
    all_goals((apply dKq<;>kernel_rfl))
   |false=>
    repeat'((conv=>whnf);first|((with_reducible refine Ax (by first|(with_reducible exact Bool.of_not_eq_false (by assumption))|(with_reducible rfl)) (fun hb=>?_));(try rw[hb]);(try simp only[Aa]at hb))|((with_reducible refine Aw (by first|(with_reducible assumption)|(with_reducible rfl)) (fun hb=>?_));(try rw[hb]);(try simp only[Aa]at hb))|((with_reducible refine And.intro (fun hb=>?_) (fun hb=>?_))<;>first|(exfalso;((simp only[Bu]at hb<;>omega)))|((try rw[hb]);(try simp only[Aa]at hb)))|((with_reducible refine Exists.intro ?_ ?_);focus (and_intros<;>first|omega|(with_reducible rfl)|kernel_rfl))|(with_reducible intro hfact)|((try dsimp only);(rw[B6 hc])))
    all_goals(try(conv=>whnf))
    all_goals((apply dKq<;>kernel_rfl))
end Go.Ab
