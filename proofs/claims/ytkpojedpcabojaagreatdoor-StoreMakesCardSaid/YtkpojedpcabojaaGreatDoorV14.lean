/- Lemmas -/
import Derived.Test.YtkpojedpcabojaaGreatDoorY9
set_option linter.unusedVariables false
set_option linter.unusedSimpArgs false
namespace Go.Ab
def G3(n:A1)(h:C0):Option Kv:=if(Cz h.at_).1=n then some ⟨(Cz h.at_).2.1,h.vs⟩else none
def keysOf(n:A1)(l:List C0):List Kv:=l.filterMap (G3 n)
theorem Axb{n:A1}:∀{d:List C0} {out:List Kv},(d.Pairwise fun a b=>(Cz b.at_).1=n→(Cz a.at_).1=n)→Wy n d out=out++keysOf n d
 | [],out,_=>by simp[Wy,keysOf]
 |h::r,out,hp=>by
  obtain⟨h1,h2⟩:=B1.1 hp;unfold Wy keysOf;rw[Cc];by_cases hn:(Cz h.at_).1=n
  ·rw[if_neg (by simpa using hn),Axb h2,show G3 n h=some ⟨(Cz h.at_).2.1,h.vs⟩by unfold G3;rw[if_pos hn]]
   simp[keysOf]
  ·rw[if_pos hn,show G3 n h=none by unfold G3;rw[if_neg hn]]
   have:r.filterMap (G3 n)=[]:=by
    rw[List.filterMap_eq_nil_iff];intro a ha;unfold G3;rw[if_neg (fun e=>hn (h1 a ha e))]
   simp[this]
theorem Bkg{l:List C0}{n:A1}(hn:n.length<256)(hl:P6 l)(hv:∀h∈l,Sg h.at_):∀a∈l.take (Gm (Fe (Cp n [])) l),(Cz a.at_).1≠n:=by
 rw[P6,List.pairwise_map]at hl;obtain⟨h1,_⟩:=Yj (lt:=Fe (Cp n [])) (l:=l) (hl.imp fun {a b} Te hb=>by simp only[Fe,decide_eq_true_eq]at*;exact E2 Te hb)
 intro a ha e;have h3:=(hv a (C6 ha)).whose.1;have h4:=h1 a ha;simp only[Fe,decide_eq_true_eq]at h4;rw[e]at h3;rw[h3,P0]at h4;exact absurd h4 (List.not_lt.2 (List.IsPrefix.le (List.prefix_append (Cp n []) (Cz a.at_).2.1)))
theorem Bdj{l:List C0}{n:A1}(hn:n.length<256)(hl:P6 l)(hv:∀h∈l,Sg h.at_):Wy n (l.drop (Gm (Fe (Cp n [])) l)) []=keysOf n l:=by
 rw[Axb (Aqd (rev:=0) hn hl hv).2,Cu]
 conv=>rhs;rw[←B3 (Gm (Fe (Cp n [])) l) l]
 unfold keysOf;rw[Fh,show(l.take (Gm (Fe (Cp n [])) l)).filterMap (G3 n)=[]from List.filterMap_eq_nil_iff.2 fun a ha=>by unfold G3;rw[if_neg (Bkg hn hl hv a ha)]]
 rfl
theorem Y4{rev:Int}:∀{vs:List Bt} {v:Bt},Js rev vs v=((vs.filter fun w=>decide (w.rev≤rev)).getLast?).getD v
 | [],v=>rfl
 |w::r,v=>by
  unfold Js;rw[Y4,H4];by_cases h:w.rev≤rev
  ·rw[if_pos h,if_pos (by simpa using h),List.getLast?_cons]
   rfl
  ·rw[if_neg h,if_neg (by simpa using h)]
theorem Bcs{vs:List Bt}(h:U4 vs)(rev:Int):Ks vs rev=if(Js rev vs Fx).gone=true then(Aoo,false)else(Js rev vs Fx,true):=by
 rw[Ahi h,Y4];cases (vs.filter fun w=>decide (w.rev≤rev)).getLast? with
 |none=>rfl
 |some v=>rfl
def V2(x:Sp)(rev:Int)(h:Kv):Option Pr:=if(Js rev h.vs Fx).gone=false∧R8 x h.key then some ⟨h.key,(Js rev h.vs Fx).val,(Js rev h.vs Fx).made,(Js rev h.vs Fx).rev⟩else none
theorem Zm{x:Sp}{rev:Int}:∀{ks:List Kv} {out:List Pr},Kp x rev ks out=out++ks.filterMap (V2 x rev)
 | [],out=>by simp[Kp]
 |h::r,out=>by
  unfold Kp;rw[Cc];by_cases hc:(Js rev h.vs Fx).gone=false∧R8 x h.key
  ·rw[if_pos hc,Zm,show V2 x rev h=some ⟨h.key,(Js rev h.vs Fx).val,(Js rev h.vs Fx).made,(Js rev h.vs Fx).rev⟩by unfold V2;rw[if_pos hc]]
   simp
  ·rw[if_neg hc,Zm,show V2 x rev h=none by unfold V2;rw[if_neg hc]]
theorem Arv{x:Sp}{m:Nat}:∀{V:List (A1 × Bt)} {out:List Pr},out.length≤m→
 Zz x (m:Int) V out=(out++(((V.filter fun p=>decide (R8 x p.1)).map Ai8).take (m - out.length)),decide (m - out.length<(V.filter fun p=>decide (R8 x p.1)).length))
 | [],out,_=>by simp[Zz]
 |p::V,out,ho=>by
  unfold Zz;by_cases h:R8 x p.1
  ·have hf:(p::V).filter (fun p=>decide (R8 x p.1))=p::V.filter (fun p=>decide (R8 x p.1)):=by rw[H4,if_pos (by simpa using h)]
   rw[if_neg (fun c=>c h),hf]
   by_cases e:out.length=m
   ·rw[if_pos (by omega),e,Nat.sub_self]
    simp
   ·rw[if_neg (by omega),Arv (by simp;omega)]
    have:m - out.length=(m - (out++[Ai8 p]).length)+1:=by simp;omega
    rw[this,A0,List.take_succ_cons];simp only[A8,List.singleton_append,Cg,Nat.add_lt_add_iff_right]
  ·have hf:(p::V).filter (fun p=>decide (R8 x p.1))=V.filter (fun p=>decide (R8 x p.1)):=by rw[H4,if_neg (by simpa using h)]
   rw[if_pos h,hf];exact Arv ho
theorem Ar9{n:A1}{x:Sp}{rev:Int}:∀{l:List C0},(∀h∈l,U4 h.vs)→((N9 n rev l).filter fun p=>decide (R8 x p.1)).map Ai8=(keysOf n l).filterMap (V2 x rev)
 | [],_=>rfl
 |h::r,hv=>by
  have ih:=Ar9 (n:=n) (x:=x) (rev:=rev) (l:=r) fun y hy=>hv y (Au _ hy)
  have ha:=Bcs (hv h (Ar ..)) rev;unfold N9 keysOf at ih ⊢;rw[Cc,Cc];by_cases hn:(Cz h.at_).1=n
  ·rw[show G3 n h=some ⟨(Cz h.at_).2.1,h.vs⟩by unfold G3;rw[if_pos hn]]
   dsimp only;rw[Cc];cases hg:(Js rev h.vs Fx).gone with
   |true=>
    rw[hg,if_pos rfl]at ha;rw[show gV n rev h=none by unfold gV;rw[ha,if_neg (fun c=>by cases c.2)],show V2 x rev ⟨(Cz h.at_).2.1,h.vs⟩=none by unfold V2;rw[if_neg (fun c=>by rw[hg]at c;cases c.1)]]
    exact ih
   |false=>
    rw[hg,if_neg (by simp)]at ha
    rw[show gV n rev h=some ((Cz h.at_).2.1,Js rev h.vs Fx)by unfold gV;rw[ha,if_pos ⟨hn,rfl⟩]]
    dsimp only;rw[H4];by_cases hs:R8 x (Cz h.at_).2.1
    ·rw[if_pos (by simpa using hs),show V2 x rev ⟨(Cz h.at_).2.1,h.vs⟩=some (Ai8 ((Cz h.at_).2.1,Js rev h.vs Fx))by unfold V2;rw[if_pos ⟨hg,hs⟩];rfl]
     rw[A0,ih]
    ·rw[if_neg (by simpa using hs),show V2 x rev ⟨(Cz h.at_).2.1,h.vs⟩=none by unfold V2;rw[if_neg (fun c=>hs c.2)]]
     exact ih
  ·rw[Bk6 hn,show G3 n h=none by unfold G3;rw[if_neg hn]]
   exact ih
theorem Wr{rev:Int}:∀{vs out:List Bt},Wq rev vs out=out++vs.filter fun w=>decide (rev<w.rev)
 | [],out=>by simp[Wq]
 |w::r,out=>by
  unfold Wq;rw[Wr,H4];by_cases h:rev<w.rev
  ·rw[if_pos h,if_pos (by simpa using h)];simp
  ·rw[if_neg h,if_neg (by simpa using h)]
theorem Bar{rev:Int}{v w:Bt}{t:List Bt}(h:w.rev≤rev):Mt rev (v::w::t)=Mt rev (w::t)+1:=by
 have hk:Nh rev (v::w::t)=Nh rev (w::t)+1:=by conv=>lhs;unfold Nh;rw[if_pos h]
 unfold Mt;rw[hk,Bn];cases (w::t)[Nh rev (w::t)]? with
 |none=>rfl
 |some u=>dsimp only;split<;>rfl
theorem A3a{rev:Int}:∀{vs:List Bt},U4 vs→vs≠[]→vs.drop (Mt rev vs)=Ac6 rev vs
 | [],_,h=>absurd rfl h
 | [v],hs,_=>by
   unfold Ac6 Mt Nh;simp only[B9,Js,Wq];by_cases h1:v.rev≤rev
   ·have h2:¬rev<v.rev:=by omega
    cases hg:v.gone<;>simp[h1,h2,hg]
   ·have h2:rev<v.rev:=by omega
    simp[h1,h2,Fx]
 |v::w::t,hs,_=>by
  obtain⟨s1,s2⟩:=B1.1 hs;by_cases hw:w.rev≤rev
  ·rw[Bar hw,List.drop_succ_cons,A3a s2 (by simp)]
   have hv:¬rev<v.rev:=by have:=s1 w (Ar ..);omega
   unfold Ac6;rw[show Js rev (v::w::t) Fx=Js rev (w::t) Fx by simp only[Js,if_pos hw]]
   have hf:(v::w::t).filter (fun u=>decide (rev<u.rev))=(w::t).filter (fun u=>decide (rev<u.rev)):=by rw[H4,if_neg (by simpa using hv)]
   rw[Wr,Wr,hf]
  ·have Jd:∀u∈w::t,rev<u.rev:=fun u hu=>by
    rcases Ah.1 hu with rfl|hu
    ·omega
    ·have:=(B1.1 s2).1 u hu;omega
   have hft:(w::t).filter (fun u=>decide (rev<u.rev))=w::t:=K5.2 fun u hu=>by simpa using Jd u hu
   have Mh:(w::t).filter (fun u=>decide (u.rev≤rev))=[]:=List.filter_eq_nil_iff.2 fun u hu=>by have:=Jd u hu;simp;omega
   have hk:Nh rev (v::w::t)=0:=by unfold Nh;rw[if_neg hw]
   unfold Ac6;rw[Wr,Y4,H4 (x:=v),H4 (x:=v),hft,Mh];unfold Mt;rw[hk];simp only[B9];by_cases h1:v.rev≤rev
   ·have h2:¬rev<v.rev:=by omega
    cases hg:v.gone<;>simp[h1,h2,hg]
   ·have h2:rev<v.rev:=by omega
    simp[h1,h2,Fx]
set_option maxRecDepth 100000
set_option maxHeartbeats 40000000

open Go.Proofs
def Tj(n:A1):List Cv→List Cv→Bool→List Cv
 | [],out,d=>if d=true then out else out++[⟨n,0,0,[]⟩]
 |p::r,out,d=>Tj n r ((if d=false∧n<p.name then out++[⟨n,0,0,[]⟩]else out)++[p]) (if d=false∧n<p.name then true else d)
def Aeu(R:List Cv)(n:A1):List Cv × Int:=if Hp n=false then(R,5)else if 0≤Jz n R 0 then(R,15)else if 8≤R.length then(R,17)else(Tj n R [] false,0)
theorem Cv.Bni(n:A1):Cv.Ap ⟨n,0,0,[]⟩= .agg [.str n,ti 0,ti 0,.list []]:=rfl
theorem A60(R:List Cv)(n:A1)(hl:R.length≤100000):Fn Tryz.prog Nn [rT R,.v (.str n)] (Is (.v (ti (Aeu R n).2)) [rT (Aeu R n).1,.no]):=by
 refine X4 ?_ (by simp)
 have H6:=Lh R n hl;have Qe:=Ay3 n;have Fk:((R.map Cv.Ap).map D.it).length=R.length:=by simp
 unfold Aeu;generalize Hp n=nm at Qe ⊢;generalize Jz n R 0=f at H6 ⊢;cases nm with
 |false=>
  simp only[if_true];repeat'((conv=>whnf);first|((with_reducible refine Ai (fun hb=>?_) fun hb=>?_)<;>first|exact absurd hb (by decide)|(try rw[hb]);try simp only[Am]at hb)|(with_reducible refine Aa ?_ ?_);focus (and_intros<;>first|intro _ hh;cases hh;done|simp;done|decide)|(with_reducible refine A5.mk ?_);refine⟨_,Qe,?_⟩;rintro _ _ ⟨rfl,rfl⟩)
  all_goals(try(conv=>whnf))
  (apply D6<;>kernel_rfl)
 |true=>
 simp only[Bool.true_eq_false,if_false];by_cases hf:0≤f
 ·rw[if_pos hf];have g1:¬decide (0≤f)=false:=by simpa using hf
  repeat'((conv=>whnf);first|(with_reducible refine Bv (by exact Ae (by assumption)) fun hb=>?_);(try rw[hb]);try simp only[Am]at hb|((with_reducible refine Ai (fun hb=>?_) fun hb=>?_)<;>first|exact absurd hb (by decide)|(try rw[hb]);try simp only[Am]at hb)|(with_reducible refine Aa ?_ ?_);focus (and_intros<;>first|kernel_rfl|intro _ hh;cases hh;done|simp;done|decide)|(with_reducible refine A5.mk ?_);(first|refine⟨_,Qe,?_⟩|refine⟨_,H6,?_⟩);rintro _ _ ⟨rfl,rfl⟩)
  all_goals(try(conv=>whnf))
  (apply D6<;>kernel_rfl)
 rw[if_neg hf];have g1:¬decide (0≤f)=true:=by simpa using hf
 by_cases h8:8≤R.length
 ·rw[if_pos h8];have g2:¬decide ((8:Int)≤(R.length:Int))=false:=by simp;omega
  repeat'((conv=>whnf);first|(with_reducible first|refine Bv (by first|exact Ae (by assumption)|refine decide_eq_true ?_;omega) fun hb=>?_|refine Bq (by exact Ag (by assumption)) fun hb=>?_);(try rw[hb]);try simp only[Am]at hb|((with_reducible refine Ai (fun hb=>?_) fun hb=>?_)<;>first|exact absurd hb (by decide)|(try rw[hb]);try simp only[Am]at hb)|(with_reducible refine Aa ?_ ?_);focus (and_intros<;>first|omega|with_reducible rfl|kernel_rfl|intro _ hh;cases hh;done|simp;done|decide)|with_reducible intro Av|(with_reducible refine A5.mk ?_);(first|refine⟨_,Qe,?_⟩|refine⟨_,H6,?_⟩);rintro _ _ ⟨rfl,rfl⟩)
  all_goals(try(conv=>whnf))
  (apply D6<;>kernel_rfl)
 rw[if_neg h8];have g2:¬decide ((8:Int)≤(R.length:Int))=true:=by simp;omega
 obtain⟨E3,Hj⟩:∃X,Tj n R [] false=X:=⟨_,rfl⟩;rw[Hj];repeat'((conv=>whnf);first|(with_reducible refine Bq (by first|exact Ag (by assumption)|refine decide_eq_false ?_;omega) fun hb=>?_);(try rw[hb]);try simp only[Am]at hb|((with_reducible refine Ai (fun hb=>?_) fun hb=>?_)<;>first|exact absurd hb (by decide)|(try rw[hb]);try simp only[Am]at hb)|(with_reducible refine Aa ?_ ?_);focus (and_intros<;>first|omega|with_reducible rfl|kernel_rfl|intro _ hh;cases hh;done|simp;done|decide)|with_reducible intro Av|(with_reducible refine A5.mk ?_);(first|refine⟨_,Qe,?_⟩|refine⟨_,H6,?_⟩);rintro _ _ ⟨rfl,rfl⟩)
 all_goals(try(conv=>whnf))
 refine Ep.by (X:=Nat × List Cv × Bool) (fun y=>[(7,.v (ti (y.1:Int))),(5,.vec 52 4 (y.2.1.map Cv.Ap)),(6,.v (.bool y.2.2))]) (fun y=>y.1≤R.length∧y.2.1.length≤2*y.1∧Tj n (R.drop y.1) y.2.1 y.2.2=E3) (fun y=>R.length - y.1) (0,[],false) (by kernel_rfl) ⟨A3 _,A3 _,Hj⟩ ?_
 rintro⟨j,out,d⟩ ⟨hj,hol,hR⟩;dsimp only at hj hol hR ⊢;have hw:=zwj (j:=j) (by omega)
 have Biy:(out.map Cv.Ap).length≤200000:=by rw[An];omega
 by_cases E6:j<R.length
 case neg=>
  have h4:¬decide ((j:Int)<(R.length:Int))=true:=by simp;omega
  rw[Bo (by omega)]at hR
  cases d with
  |true=>
   have hR:out=E3:=hR;subst hR;repeat'((conv=>whnf);first|(with_reducible refine Bq (by first|exact Ag (by assumption)|refine decide_eq_false ?_;omega) fun hb=>?_);(try rw[hb]);try simp only[Am]at hb|((with_reducible refine Ai (fun hb=>?_) fun hb=>?_)<;>first|exact absurd hb (by decide)|(try rw[hb]);try simp only[Am]at hb)|(with_reducible refine Aa ?_ ?_);focus (and_intros<;>first|omega|with_reducible rfl|kernel_rfl|simp;done)|with_reducible intro Av)
   all_goals(try(conv=>whnf))
   (apply D6<;>kernel_rfl)
  |false=>
   have hR:out++[⟨n,0,0,[]⟩]=E3:=hR;subst hR;have Rv:rT (out++[⟨n,0,0,[]⟩])= .own [] (.ptr (.st [.vec 52 4 ((out.map Cv.Ap++[I.agg [.str n,ti 0,ti 0,.list []]]).map D.it)])):=by simp only[rT,B5,A0,C5,Cv.Bni]
   (try dsimp only)
   rw[Rv];repeat'((conv=>whnf);first|(with_reducible refine Bq (by first|exact Ag (by assumption)|refine decide_eq_false ?_;omega) fun hb=>?_);(try rw[hb]);try simp only[Am]at hb|((with_reducible refine Ai (fun hb=>?_) fun hb=>?_)<;>first|exact absurd hb (by decide)|(try rw[hb]);try simp only[Am]at hb)|(with_reducible refine Aa ?_ ?_);focus (and_intros<;>first|omega|with_reducible rfl|kernel_rfl|exact F0 (by rfl)|simp only[Eu];omega|simp;done)|with_reducible intro Av)
   all_goals(try(conv=>whnf))
   (apply D6<;>kernel_rfl)
 obtain⟨p,he⟩:∃x,R[j]?=some x:=⟨_,Ac E6⟩;have h4:¬decide ((j:Int)<(R.length:Int))=false:=by simp;omega
 have K9:R.drop j=p::R.drop (j+1):=by rw[A7 E6];rw[Ac E6]at he;cases he;rfl
 rw[K9]at hR;simp only[Tj]at hR;obtain⟨pn,pr,pf,pk⟩:=p;dsimp only at hR;by_cases Di:n<pn
 ·have c1:¬Op.bytesLess n pn=false:=by rw[Kq];simpa using Di
  cases d with
  |true=>
   rw[if_neg (fun c=>by cases c.1),if_neg (fun c=>by cases c.1)]at hR
   repeat'((conv=>whnf);first|(with_reducible first|refine Bv (by first|exact Ae (by assumption)|refine decide_eq_true ?_;omega) fun hb=>?_|refine Bq (by first|exact Ag (by assumption)|rfl) fun hb=>?_);(try rw[hb]);try simp only[Am]at hb|((with_reducible refine Ai (fun hb=>?_) fun hb=>?_)<;>first|exact absurd hb (by decide)|(try rw[hb]);try simp only[Am]at hb)|(with_reducible refine Aa ?_ ?_);focus (and_intros<;>first|omega|with_reducible rfl|kernel_rfl|exact F0 (by rfl)|simp only[Eu];omega|simp;done)|with_reducible intro Av|(try dsimp only);rw[hw]|(with_reducible apply Dh);(focus rfl);(focus (simp only[D.at,D.put,D.Cr,D.Bc,B7,Bw,D.Ap,B8,A4,Dq,he,Fk]<;>exact rfl));(try(focus exact rfl)))
   all_goals(try(conv=>whnf))
   refine Round.by (j+1,out++[⟨pn,pr,pf,pk⟩],true) ?_ ⟨by omega,by simp;omega,hR⟩ (by dsimp only;omega)
   try dsimp only
   simp only[B5,A0,C5];show norm _ _=Dy _ _
   kernel_rfl
  |false=>
   rw[if_pos ⟨rfl,Di⟩,if_pos ⟨rfl,Di⟩]at hR;repeat'((conv=>whnf);first|(with_reducible refine Bv (by first|exact Ae (by assumption)|refine decide_eq_true ?_;omega|rfl) fun hb=>?_);(try rw[hb]);try simp only[Am]at hb|((with_reducible refine Ai (fun hb=>?_) fun hb=>?_)<;>first|exact absurd hb (by decide)|(try rw[hb]);try simp only[Am]at hb)|(with_reducible refine Aa ?_ ?_);focus (and_intros<;>first|omega|with_reducible rfl|kernel_rfl|exact F0 (by rfl)|simp only[Eu];omega|simp;done)|with_reducible intro Av|(try dsimp only);rw[hw]|(with_reducible apply Dh);(focus rfl);(focus (simp only[D.at,D.put,D.Cr,D.Bc,B7,Bw,D.Ap,B8,A4,Dq,he,Fk]<;>exact rfl));(try(focus exact rfl)))
   all_goals(try(conv=>whnf))
   refine Round.by (j+1,out++[⟨n,0,0,[]⟩]++[⟨pn,pr,pf,pk⟩],true) ?_ ⟨by omega,by simp;omega,hR⟩ (by dsimp only;omega)
   try dsimp only
   simp only[B5,A0,C5,Cv.Bni];show norm _ _=Dy _ _
   kernel_rfl
 ·have c1:¬Op.bytesLess n pn=true:=by rw[Kq];simpa using Di
  rw[if_neg (fun c=>Di c.2),if_neg (fun c=>Di c.2)]at hR
  cases d with
  |true=>
   repeat'((conv=>whnf);first|(with_reducible first|refine Bv (by first|exact Ae (by assumption)|refine decide_eq_true ?_;omega) fun hb=>?_|refine Bq (by first|exact Ag (by assumption)|rfl) fun hb=>?_);(try rw[hb]);try simp only[Am]at hb|((with_reducible refine Ai (fun hb=>?_) fun hb=>?_)<;>first|exact absurd hb (by decide)|(try rw[hb]);try simp only[Am]at hb)|(with_reducible refine Aa ?_ ?_);focus (and_intros<;>first|omega|with_reducible rfl|kernel_rfl|exact F0 (by rfl)|simp only[Eu];omega|simp;done)|with_reducible intro Av|(try dsimp only);rw[hw]|(with_reducible apply Dh);(focus rfl);(focus (simp only[D.at,D.put,D.Cr,D.Bc,B7,Bw,D.Ap,B8,A4,Dq,he,Fk]<;>exact rfl));(try(focus exact rfl)))
   all_goals(try(conv=>whnf))
   refine Round.by (j+1,out++[⟨pn,pr,pf,pk⟩],true) ?_ ⟨by omega,by simp;omega,hR⟩ (by dsimp only;omega)
   try dsimp only
   simp only[B5,A0,C5];show norm _ _=Dy _ _
   kernel_rfl
  |false=>
   repeat'((conv=>whnf);first|(with_reducible first|refine Bv (by first|exact Ae (by assumption)|refine decide_eq_true ?_;omega|rfl) fun hb=>?_|refine Bq (by exact Ag (by assumption)) fun hb=>?_);(try rw[hb]);try simp only[Am]at hb|((with_reducible refine Ai (fun hb=>?_) fun hb=>?_)<;>first|exact absurd hb (by decide)|(try rw[hb]);try simp only[Am]at hb)|(with_reducible refine Aa ?_ ?_);focus (and_intros<;>first|omega|with_reducible rfl|kernel_rfl|exact F0 (by rfl)|simp only[Eu];omega|simp;done)|with_reducible intro Av|(try dsimp only);rw[hw]|(with_reducible apply Dh);(focus rfl);(focus (simp only[D.at,D.put,D.Cr,D.Bc,B7,Bw,D.Ap,B8,A4,Dq,he,Fk]<;>exact rfl));(try(focus exact rfl)))
   all_goals(try(conv=>whnf))
   refine Round.by (j+1,out++[⟨pn,pr,pf,pk⟩],false) ?_ ⟨by omega,by simp;omega,hR⟩ (by dsimp only;omega)
   try dsimp only
   simp only[B5,A0,C5];show norm _ _=Dy _ _
   kernel_rfl

def A6.Hm(s:A6)(n:A1):Cv:=⟨n,(s.De n).rev,(s.De n).floor,keysOf n s.l⟩
def A6.ref(s:A6):List Cv:=s.names.map s.Hm
theorem Ann{s:A6}{n:A1}:n∈s.names↔(s.fi n).isSome=true:=by
 unfold A6.names;rw[Z4,Azi]
theorem Axf{f:A1→Cv}(hf:∀n,(f n).name=n){n:A1}:∀{NM:List A1} {k:Nat},n ∉ NM→Jz n (NM.map f) k= -1
 | [],k,_=>rfl
 |m::NM,k,h=>by
  rw[A0];unfold Jz;rw[if_neg (by rw[hf];intro e;exact h (by rw[e];exact Ar ..))]
  exact Axf hf fun c=>h (Au _ c)
theorem As1{f:A1→Cv}(hf:∀n,(f n).name=n){n:A1}:∀{NM:List A1} {k:Nat},n∈NM→∃i,Jz n (NM.map f) k=((k+i:Nat):Int)∧NM[i]?=some n
 | [],k,h=>by cases h
 |m::NM,k,h=>by
  rw[A0];unfold Jz;by_cases e:m=n
  ·rw[if_pos (by rw[hf];exact e)]
   exact⟨0,by simp,by simp[e]⟩
  ·rw[if_neg (by rw[hf];exact e)]
   obtain⟨i,h1,h2⟩:=As1 hf (n:=n) (NM:=NM) (k:=k+1) ((Ah.1 h).resolve_left fun c=>e c.symm)
   exact⟨i+1,by rw[h1];congr 1;omega,by simpa using h2⟩
theorem An0{s:A6}{n:A1}(h:s.fi n=none):Jz n s.ref 0= -1:=Axf (fun _=>rfl) fun c=>by rw[Ann,h]at c;cases c
theorem Ag7{s:A6}{n:A1}(h:(s.fi n).isSome=true):∃i:Nat,Jz n s.ref 0=(i:Int)∧s.ref[i]?=some (s.Hm n)∧s.names[i]?=some n:=by
 obtain⟨i,h1,h2⟩:=As1 (f:=s.Hm) (fun _=>rfl) (k:=0) (Ann.2 h)
 exact⟨i,by rw[Bm]at h1;exact h1,by unfold A6.ref;rw[B2,h2];rfl,h2⟩
theorem Aqa{α:Type}{f g:A1→α}{NM:List A1}(hd:NM.Nodup){i:Nat}{n:A1}(hi:NM[i]?=some n)(h:∀m∈NM,m≠n→g m=f m):(NM.map f).set i (g n)=NM.map g:=by
 apply List.ext_getElem?;intro j;rw[List.getElem?_set,B2,B2,An];obtain⟨Pv,e⟩:=Ak.1 hi;by_cases L7:i=j
 ·subst L7;rw[if_pos rfl,if_pos Pv,hi];rfl
 ·rw[if_neg L7];cases hj:NM[j]? with
  |none=>rfl
  |some m=>
   obtain⟨E6,e2⟩:=Ak.1 hj;have A2:m≠n:=by
    rintro rfl;have hp:=Jf.1 hd;rcases Nat.lt_or_gt_of_ne L7 with c|c
    ·exact hp i j Pv E6 c (e.trans e2.symm)
    ·exact hp j i E6 Pv c (e2.trans e.symm)
   simp only[Bx];rw[h m (Aw hj) A2]
theorem R9{n:A1}{h:C0}(e:(Cz h.at_).1≠n):G3 n h=none:=by unfold G3;rw[if_neg e]
theorem A3z{rev:Int}:∀{ks out:List Kv},Ac5 rev ks out=out++ks.filterMap fun h=>if Ac6 rev h.vs=[]then none else some ⟨h.key,Ac6 rev h.vs⟩
 | [],out=>by simp[Ac5]
 |h::r,out=>by
  unfold Ac5;rw[A3z,Cc];by_cases e:Ac6 rev h.vs=[]
  ·rw[if_pos e,if_pos e]
  ·rw[if_neg e,if_neg e];simp
theorem Axa{n:A1}{rev:Int}:∀{l:List C0},(∀h∈l,U4 h.vs∧h.vs≠[])→keysOf n (l.filterMap (Kz n rev))=Ac5 rev (keysOf n l) []
 | [],_=>rfl
 |h::r,hv=>by
  obtain⟨v1,v2⟩:=hv h (Ar ..);have ih:=Axa (n:=n) (rev:=rev) (l:=r) fun y hy=>hv y (Au _ hy)
  rw[A3z,Cu]at ih ⊢;have hk:=A3a (rev:=rev) v1 v2;unfold keysOf at ih ⊢;rw[Cc,Cc];by_cases hn:(Cz h.at_).1=n
  ·rw[show G3 n h=some ⟨(Cz h.at_).2.1,h.vs⟩by unfold G3;rw[if_pos hn]]
   dsimp only;rw[Cc];by_cases hl:h.vs.length≤Mt rev h.vs
   ·rw[show Kz n rev h=none by unfold Kz;rw[if_pos hn,if_pos hl]]
    rw[Bo hl]at hk;dsimp only;rw[if_pos hk.symm];exact ih
   ·rw[show Kz n rev h=some ⟨h.at_,h.vs.drop (Mt rev h.vs)⟩by unfold Kz;rw[if_pos hn,if_neg hl]]
    have A2:Ac6 rev h.vs≠[]:=by rw[←hk];intro c;rw[List.drop_eq_nil_iff]at c;omega
    dsimp only;rw[Cc,show G3 n ⟨h.at_,h.vs.drop (Mt rev h.vs)⟩=some ⟨(Cz h.at_).2.1,h.vs.drop (Mt rev h.vs)⟩by unfold G3;rw[if_pos hn]]
    rw[if_neg A2,hk];dsimp only;rw[ih]
  ·rw[show Kz n rev h=some h by unfold Kz;rw[if_neg hn],R9 hn]
   dsimp only;rw[Cc,R9 hn];exact ih
theorem Aqc{m:Nat}{s:A6}(h:G6 m s):s.names.Nodup:=S4 h.nd
theorem Bj2{m:Nat}{s:A6}(h:G6 m s){n:A1}{rev:Int}{i:Nat}(hi:s.fi n=some i)(he:s.Vo n rev=0){q:Nat}(hq:s.names[q]?=some n):
 (s.J9 n rev).1.ref=s.ref.set q ⟨n,(s.De n).rev,rev,Ac5 rev (keysOf n s.l) []⟩:=by
 have Qe:(s.J9 n rev).1.names=s.names:=by
  unfold A6.J9 A6.names;rw[hi];dsimp only;rw[if_pos he];dsimp only;have:=Aeo (t:={s.De n with floor:=rev,Jk:=(Ls n rev s.l ⟨[],0⟩).c}) (l:=(Ls n rev s.l ⟨[],0⟩).l) hi
  dsimp only at this;rw[this]
 obtain⟨c1,_⟩:=Vv (n:=n) (rev:=rev) (l:=s.l) (x:=⟨[],0⟩);rw[Cu]at c1;have Atw:(s.J9 n rev).1.Hm n=⟨n,(s.De n).rev,rev,Ac5 rev (keysOf n s.l) []⟩:=by
  unfold A6.Hm A6.J9;rw[hi];dsimp only;rw[if_pos he];dsimp only;rw[N8 hi,if_pos rfl,c1,Axa fun y hy=>⟨(h.wi.2 y hy).2.1,(h.lb.held y hy).2.1⟩]
 unfold A6.ref;rw[Qe, ←Atw];refine(Aqa (Aqc h) hq fun k hk A2=>?_).symm
 unfold A6.Hm;have hke:keysOf k (s.J9 n rev).1.l=keysOf k s.l:=by
  unfold keysOf;refine A9n _ _ fun _ _ y hy=>?_
  unfold Kz;split
  ·rename_i e;have:(Cz y.at_).1≠k:=by rw[e];exact fun c=>A2 c.symm
   rw[R9 this];split
   ·rfl
   ·simp only[Option.bind_some];exact R9 this
  ·rfl
 rw[hke];unfold A6.J9;rw[hi];dsimp only;rw[if_pos he];dsimp only;rw[N8 hi,if_neg A2]
theorem Ayc{m:Nat}{s:A6}(h:G6 m s){n:A1}(hf:(s.fi n).isSome=true)(x:Sp)(rev most:Int):s.Nw n x rev most=rrP (s.Hm n) x rev most:=by
 obtain⟨i,hi⟩:=Jr.1 hf;unfold A6.Nw rrP A6.Hm;dsimp only;rw[if_neg (by rw[hi];simp)]
 by_cases hb:Wo x∧0≤rev∧1≤most∧most≤16
 case neg=>simp only[hb,not_false_eq_true,if_true]
 by_cases h1:(s.De n).rev<rev
 case pos=>simp only[hb,h1,not_true_eq_false,if_false,if_true,and_self]
 by_cases h2:0<rev∧rev<(s.De n).floor
 case pos=>simp only[hb,h1,h2,not_true_eq_false,if_false,if_true,and_self]
 simp only[hb,h1,h2,not_true_eq_false,if_false,and_self];rw[Bbd (h.name hi) h.wi.1 fun y hy=>(h.wi.2 y hy).1]
 obtain⟨mm,rfl⟩:∃mm:Nat,most=(mm:Int):=⟨most.toNat,by omega⟩
 have hv:=Ar9 (n:=n) (x:=x) (rev:=if rev=0 then(s.De n).rev else rev) (l:=s.l) fun y hy=>(h.wi.2 y hy).2.1
 rw[Arv (A3 _),hv,Zm];have hlen:((N9 n (if rev=0 then(s.De n).rev else rev) s.l).filter fun p=>decide (R8 x p.1)).length=((keysOf n s.l).filterMap (V2 x (if rev=0 then(s.De n).rev else rev))).length:=by rw[←hv,An]
 rw[hlen];simp only[Cu,Fb,Nat.sub_zero,Hq];by_cases hm:(mm:Int)<(((keysOf n s.l).filterMap (V2 x (if rev=0 then(s.De n).rev else rev))).length:Int)
 ·rw[if_pos hm,decide_eq_true (by omega)]
 ·rw[if_neg hm,decide_eq_false (by omega),C9 (by omega)]

def J3(ks:List Kv)(k:A1):List Bt:=((ks.find? fun h=>decide (h.key=k)).map (·.vs)).getD []
abbrev V6(ks:List Kv):Prop:=ks.Pairwise fun a b=>a.key<b.key
theorem He(h:Kv)(r:List Kv)(k:A1):J3 (h::r) k=if h.key=k then h.vs else J3 r k:=by
 unfold J3;rw[F2];by_cases e:h.key=k
 ·simp[e]
 ·simp[e]
theorem Wg{ks:List Kv}{k:A1}(h:∀x∈ks,k<x.key):J3 ks k=[]:=by
 unfold J3;rw[List.find?_eq_none.2]
 ·rfl
 ·intro x hx e;simp only[decide_eq_true_eq]at e;have:=h x hx;rw[e]at this;exact absurd this (Dt k)
theorem V6.ext:∀{a b:List Kv},V6 a→V6 b→(∀x∈a,x.vs≠[])→(∀x∈b,x.vs≠[])→(∀k,J3 a k=J3 b k)→a=b
 | [],[],_,_,_,_,_=>rfl
 | [],y::b,_,_,_,hb,h=>by
   have:=h y.key;rw[He,if_pos rfl]at this;exact absurd this.symm (hb y (Ar ..))
 |x::a,[],_,_,ha,_,h=>by
  have:=h x.key;rw[He,if_pos rfl]at this;exact absurd this (ha x (Ar ..))
 |x::a,y::b,h1,h2,ha,hb,h=>by
  obtain⟨a1,a2⟩:=B1.1 h1;obtain⟨b1,b2⟩:=B1.1 h2;have hxy:x.key=y.key:=by
   by_cases e:x.key=y.key
   ·exact e
   exfalso;by_cases c:x.key<y.key
   ·have:=h x.key;rw[He,if_pos rfl,Wg (ks:=y::b) (fun z hz=>by
     rcases Ah.1 hz with rfl|hz
     ·exact c
     ·exact E2 c (b1 z hz))]at this
    exact ha x (Ar ..) this
   ·have c2:y.key<x.key:=Std.lt_of_le_of_ne (List.not_lt.1 c) fun q=>e q.symm
    have:=h y.key;rw[He (h:=y),if_pos rfl,Wg (ks:=x::a) (fun z hz=>by
     rcases Ah.1 hz with rfl|hz
     ·exact c2
     ·exact E2 c2 (a1 z hz))]at this
    exact hb y (Ar ..) this.symm
  have hv:x.vs=y.vs:=by
   have:=h x.key;rw[He,if_pos rfl,He,if_pos hxy.symm]at this;exact this
  have htl:∀k,J3 a k=J3 b k:=fun k=>by
   by_cases e:x.key=k
   ·rw[Wg (ks:=a) (fun z hz=>by rw[←e];exact a1 z hz),Wg (ks:=b) (fun z hz=>by rw[←e,hxy];exact b1 z hz)]
   ·have:=h k;rw[He,if_neg e,He,if_neg (by rw[←hxy];exact e)]at this
    exact this
  rw[V6.ext a2 b2 (fun z hz=>ha z (Au _ hz)) (fun z hz=>hb z (Au _ hz)) htl]
  obtain⟨xk,xv⟩:=x;obtain⟨yk,yv⟩:=y;dsimp only at hxy hv;rw[hxy,hv]
def Pn(key:A1)(v:Bt):List Kv→List Kv
 | []=>[⟨key,[v]⟩]
 |h::r=>if h.key=key then⟨h.key,h.vs++[v]⟩::r else if key<h.key then⟨key,[v]⟩::h::r else h::Pn key v r
theorem Aja{key:A1}{v:Bt}:∀{r out:List Kv},(∀x∈r,key<x.key)→N5 key v r out true=out++r
 | [],out,_=>by simp[N5]
 |h::r,out,hl=>by
  have h1:=hl h (Ar ..);unfold N5;rw[if_neg (fun e=>by rw[e]at h1;exact absurd h1 (Dt _)),if_neg (fun c=>by cases c.1),if_neg (fun c=>by cases c.1),Aja fun x hx=>hl x (Au _ hx)]
  simp
theorem Ax9{key:A1}{v:Bt}:∀{r out:List Kv},V6 r→N5 key v r out false=out++Pn key v r
 | [],out,_=>by simp[N5,Pn]
 |h::r,out,hs=>by
  obtain⟨s1,s2⟩:=B1.1 hs;unfold N5 Pn;by_cases e:h.key=key
  ·rw[if_pos e,if_pos e,if_neg (fun c=>by rw[e]at c;exact absurd c.2 (Dt _)),Aja fun x hx=>by rw[←e];exact s1 x hx]
   simp
  ·rw[if_neg e,if_neg e];by_cases c:key<h.key
   ·rw[if_pos ⟨rfl,c⟩,if_pos ⟨rfl,c⟩,if_pos c,Aja fun x hx=>E2 c (s1 x hx)]
    simp
   ·rw[if_neg (fun q=>c q.2),if_neg (fun q=>c q.2),if_neg c,Ax9 s2]
    simp
theorem A24{key:A1}{v:Bt}:∀{r:List Kv} {x:Kv},x∈Pn key v r→x∈r∨x.key=key
 | [],x,h=>by
   unfold Pn at h;simp only[Cx]at h;exact .inr (by rw[h])
 |h::r,x,hx=>by
  unfold Pn at hx;split at hx
  ·rename_i e;rcases Ah.1 hx with rfl|hx
   ·exact .inr e
   ·exact .inl (Au _ hx)
  ·split at hx
   ·rcases Ah.1 hx with rfl|hx
    ·exact .inr rfl
    ·exact .inl hx
   ·rcases Ah.1 hx with rfl|hx
    ·exact .inl (Ar ..)
    ·rcases A24 hx with h'|h'
     ·exact .inl (Au _ h')
     ·exact .inr h'
theorem A72{key:A1}{v:Bt}:∀{r:List Kv},V6 r→V6 (Pn key v r)
 | [],_=>by simp[Pn,V6]
 |h::r,hs=>by
  obtain⟨s1,s2⟩:=B1.1 hs;unfold Pn;split
  ·exact B1.2 ⟨s1,s2⟩
  ·rename_i e;split
   ·rename_i c;refine B1.2 ⟨fun x hx=>?_,hs⟩
    rcases Ah.1 hx with rfl|hx
    ·exact c
    ·exact E2 c (s1 x hx)
   ·rename_i c;refine B1.2 ⟨fun x hx=>?_,A72 s2⟩
    rcases A24 hx with hx|hx
    ·exact s1 x hx
    ·rw[hx];exact Std.lt_of_le_of_ne (List.not_lt.1 c) e
theorem A71{key:A1}{v:Bt}:∀{r:List Kv},(∀x∈r,x.vs≠[])→∀x∈Pn key v r,x.vs≠[]
 | [],_,x,hx=>by
   unfold Pn at hx;simp only[Cx]at hx;rw[hx];simp
 |h::r,hn,x,hx=>by
  unfold Pn at hx;split at hx
  ·rcases Ah.1 hx with rfl|hx
   ·simp
   ·exact hn x (Au _ hx)
  ·split at hx
   ·rcases Ah.1 hx with rfl|hx
    ·simp
    ·exact hn x hx
   ·rcases Ah.1 hx with rfl|hx
    ·exact hn x (Ar ..)
    ·exact A71 (fun y hy=>hn y (Au _ hy)) x hx
theorem Ane{key:A1}{v:Bt}:∀{r:List Kv} (k:A1),V6 r→J3 (Pn key v r) k=if k=key then J3 r key++[v]else J3 r k
 | [],k,_=>by
   unfold Pn;rw[He];by_cases e:k=key
   ·subst e;simp[J3]
   ·rw[if_neg (fun c=>e c.symm),if_neg e]
 |h::r,k,hs=>by
  obtain⟨s1,s2⟩:=B1.1 hs;unfold Pn;by_cases e:h.key=key
  ·rw[if_pos e,He,He,He,if_pos e];by_cases c:k=key
   ·subst c;rw[if_pos e,if_pos rfl]
   ·rw[if_neg (by rw[e];exact fun q=>c q.symm),if_neg c,if_neg (by rw[e];exact fun q=>c q.symm)]
  ·rw[if_neg e];by_cases c:key<h.key
   ·rw[if_pos c,He];by_cases d:k=key
    ·subst d;rw[if_pos rfl,if_pos rfl,Wg (ks:=h::r) fun x hx=>by
      rcases Ah.1 hx with rfl|hx
      ·exact c
      ·exact E2 c (s1 x hx)]
     rfl
    ·rw[if_neg (fun q=>d q.symm),if_neg d]
   ·rw[if_neg c,He,Ane k s2,He,He];by_cases d:k=key
    ·subst d;rw[if_neg e,if_pos rfl,if_pos rfl,if_neg e]
    ·rw[if_neg d,if_neg d]

theorem A82{l:List C0}{a:A1}(hl:P6 l):∀x∈l.take (Gm (Fe a) l),x.at_<a:=by
 rw[P6,List.pairwise_map]at hl;intro x hx;have:=(Yj (lt:=Fe a) (l:=l) (hl.imp fun {x y} Te hb=>by simp only[Fe,decide_eq_true_eq]at*;exact E2 Te hb)).1 x hx
 simpa[Fe]using this
theorem A7f{l:List C0}{a:A1}(hl:P6 l):∀x∈l.drop (Gm (Fe a) l),¬x.at_<a:=by
 rw[P6,List.pairwise_map]at hl;intro x hx;have:=(Yj (lt:=Fe a) (l:=l) (hl.imp fun {x y} Te hb=>by simp only[Fe,decide_eq_true_eq]at*;exact E2 Te hb)).2 x hx
 simpa[Fe]using this
theorem A7g{l:List C0}{a:A1}(hl:P6 l)(hf:U6 (Fe a) (Su a) l=false):∀x∈l.drop (Gm (Fe a) l),a<x.at_:=by
 intro x hx;have h3:=A7f hl x hx;have Ve:=hl;rw[P6,List.pairwise_map]at Ve;obtain⟨j,hj,rfl⟩:=Hi.1 hx;rw[Br]at hj;rw[List.getElem_drop]at h3 ⊢;have A2:l[Gm (Fe a) l+j].at_≠a:=by
  intro e;cases j with
  |zero=>
   unfold U6 at hf;rw[Ac (show Gm (Fe a) l<l.length by omega)]at hf
   simp only[Option.any_some,Su,decide_eq_false_iff_not]at hf;exact hf e
  |succ j=>
   have h4:=Jf.1 Ve (Gm (Fe a) l) (Gm (Fe a) l+(j+1)) (by omega) (by omega) (by omega)
   rw[e]at h4;exact A7f hl (l[Gm (Fe a) l]'(by omega)) (by rw[A7 (by omega)];exact Ar ..) h4
 exact Std.lt_of_le_of_ne (List.not_lt.1 h3) (Ne.symm A2)
theorem Asa{n a b:A1}:Cp n a<Cp n b↔a<b:=by rw[P0 n a,P0 n b,A0z]
theorem Uc{n:A1}{l:List C0}{x:Kv}(hv:∀h∈l,Sg h.at_)(hx:x∈keysOf n l):∃h∈l,h.at_=Cp n x.key∧h.vs=x.vs:=by
 obtain⟨h,hh,e⟩:=Gp.1 hx;unfold G3 at e;split at e
 ·rename_i hn;cases e;exact⟨h,hh,by rw[←hn];exact(hv h hh).whose.1,rfl⟩
 ·cases e
theorem A23{key:A1}{v:Bt}:∀{a b:List Kv},(∀x∈a,x.key<key)→Pn key v (a++b)=a++Pn key v b
 | [],b,_=>rfl
 |h::a,b,hl=>by
  have h1:=hl h (Ar ..);rw[C4]
  conv=>lhs;unfold Pn
  rw[if_neg (fun e=>by rw[e]at h1;exact absurd h1 (Dt _)),if_neg (fun c=>absurd (E2 c h1) (Dt _)),A23 fun x hx=>hl x (Au _ hx)]
  rfl
theorem Bam{key:A1}{v:Bt}:∀{b:List Kv},(∀x∈b,key<x.key)→Pn key v b=⟨key,[v]⟩::b
 | [],_=>rfl
 |h::b,hl=>by
  have h1:=hl h (Ar ..);unfold Pn;rw[if_neg (fun e=>by rw[e]at h1;exact absurd h1 (Dt _)),if_pos h1]
theorem Bjg{l:List C0}{n k:A1}{v:Bt}(hn:n.length<256)(hl:P6 l)(hv:∀h∈l,Sg h.at_):keysOf n (Pf l (Cp n k) v)=Pn k v (keysOf n l):=by
 have Mx:keysOf n l=keysOf n (l.take (Gm (Fe (Cp n k)) l))++keysOf n (l.drop (Gm (Fe (Cp n k)) l)):=by
  unfold keysOf;rw[←Fh,B3]
 have hA:∀x∈keysOf n (l.take (Gm (Fe (Cp n k)) l)),x.key<k:=fun x hx=>by
  obtain⟨h,hh,e,_⟩:=Uc (fun h hh=>hv h (C6 hh)) hx
  have:=A82 hl h hh;rw[e,Asa]at this;exact this
 rw[Mx,A23 hA];unfold Pf Afx;cases hf:U6 (Fe (Cp n k)) (Su (Cp n k)) l with
 |true=>
  rw[if_pos rfl];obtain⟨e,h2,h3⟩:=Ww hf;have h4:e.at_=Cp n k:=by simpa[Su]using h3
  have hi:=(Ak.1 h2).1;rw[Sm h2,List.set_eq_take_append_cons_drop,if_pos hi];have hd:l.drop (Gm (Fe (Cp n k)) l)=e::l.drop (Gm (Fe (Cp n k)) l+1):=by
   rw[A7 hi];rw[Ac hi]at h2;rw[Cy h2]
  rw[hd];unfold keysOf;rw[Fh,Cc,Cc];have e1:∀vs,G3 n ⟨e.at_,vs⟩=some ⟨k,vs⟩:=fun vs=>by unfold G3;rw[h4,D3 hn];simp
  rw[e1,show G3 n e=some ⟨k,e.vs⟩from e1 e.vs];dsimp only;unfold Pn;rw[if_pos rfl]
 |false=>
  rw[if_neg (by simp)]
  have hB:∀x∈keysOf n (l.drop (Gm (Fe (Cp n k)) l)),k<x.key:=fun x hx=>by
   obtain⟨h,hh,e,_⟩:=Uc (fun h hh=>hv h (Er hh)) hx
   have:=A7g hl hf h hh;rw[e,Asa]at this;exact this
  rw[Bam hB];unfold keysOf;rw[Fh,Cc,show G3 n ⟨Cp n k,[v]⟩=some ⟨k,[v]⟩by unfold G3;rw[D3 hn];simp]
theorem We{n:A1}:∀{l:List C0},P6 l→(∀h∈l,Sg h.at_)→V6 (keysOf n l)
 | [],_,_=>List.Pairwise.nil
 |h::r,hs,hv=>by
  rw[P6,A0,B1]at hs;have Na:=fun x hx=>hv x (Au h hx)
  have ih:=We (n:=n) hs.2 Na;unfold keysOf at ih ⊢;rw[Cc];by_cases hn:(Cz h.at_).1=n
  ·rw[show G3 n h=some ⟨(Cz h.at_).2.1,h.vs⟩by unfold G3;rw[if_pos hn]]
   dsimp only;refine B1.2 ⟨fun x hx=>?_,ih⟩
   obtain⟨y,hy,e,_⟩:=Uc Na hx;have h5:=hs.1 y.at_ (List.mem_map_of_mem hy);have Dd:h.at_=Cp n (Cz h.at_).2.1:=by rw[←hn];exact(hv h (Ar ..)).whose.1
   rw[Dd,e,Asa]at h5;dsimp only;exact h5
  ·rw[R9 hn];exact ih

def Xh(p:Cv)(was:Bt)(c:Ce):List Bt:=if c.gone=true∧was.gone=true then[]else[Abc p c was]
def Lj:List Ce→A1→Option Ce
 | [],_=>none
 |c::r,k=>match Lj r k with
  |some d=>some d
  |none=>if c.key=k then some c else none
def Ue(p:Cv)(was:Bt):Option Ce→List Bt
 |none=>[]
 |some c=>Xh p was c
theorem Ap8{k:A1}:∀{r:List Ce} {b:Bool},Xd k r b=(b&&(Lj r k).isNone)
 | [],b=>by simp[Xd,Lj]
 |c::r,b=>by
  unfold Xd Lj;rw[Ap8];cases Lj r k with
  |some d=>simp
  |none=>
   by_cases e:c.key=k<;>simp[e]
def Po(ks:List Kv)(k:A1):Bt:=(J3 ks k).getLast?.getD Fx
theorem Aoq{k:A1}{rev:Int}:∀{ks:List Kv} {v:Bt},V6 ks→(∀h∈ks,h.vs≠[]∧∀u∈h.vs,u.rev≤rev)→Vs k rev ks v=if J3 ks k=[]then v else Po ks k
 | [],v,_,_=>by simp[Vs,J3]
 |h::r,v,hs,hv=>by
  obtain⟨s1,s2⟩:=B1.1 hs;obtain⟨v1,v2⟩:=hv h (Ar ..);have Na:=fun x hx=>hv x (Au h hx)
  unfold Vs;by_cases e:h.key=k
  ·have Bw6:J3 r k=[]:=Wg fun x hx=>by rw[←e];exact s1 x hx
   have Qw:J3 (h::r) k=h.vs:=by rw[He,if_pos e]
   rw[if_pos e,Aoq s2 Na,if_pos Bw6,Qw,if_neg v1];unfold Po;rw[Qw,Y4,K5.2 fun u hu=>by simpa using v2 u hu]
  ·have Qw:J3 (h::r) k=J3 r k:=by rw[He,if_neg e]
   rw[if_neg e,Aoq s2 Na,Qw];unfold Po;rw[Qw]
theorem A3k{ks:List Kv}{k:A1}(h:J3 ks k=[]):Po ks k=Fx:=by unfold Po;rw[h];rfl
theorem An5{p:Cv}(hp:V6 p.keys)(hv:∀h∈p.keys,h.vs≠[]∧∀u∈h.vs,u.rev≤p.rev):∀{cs:List Ce} {nx:Cv},V6 nx.keys→(∀x∈nx.keys,x.vs≠[])→
 V6 (Mn p cs nx).keys∧(∀x∈(Mn p cs nx).keys,x.vs≠[])∧(Mn p cs nx).name=nx.name∧(Mn p cs nx).floor=nx.floor∧
 (∀k,J3 (Mn p cs nx).keys k=J3 nx.keys k++Ue p (Po p.keys k) (Lj cs k))∧
 ((Mn p cs nx).rev=nx.rev∧(∀k,Ue p (Po p.keys k) (Lj cs k)=[])∨(Mn p cs nx).rev=p.rev+1∧∃k,Ue p (Po p.keys k) (Lj cs k)≠[])
 | [],nx,h1,h2=>⟨h1,h2,rfl,rfl,fun k=>by simp[Mn,Lj,Ue],.inl ⟨rfl,fun k=>rfl⟩⟩
 |c::r,nx,h1,h2=>by
  have hw:Vs c.key p.rev p.keys Fx=Po p.keys c.key:=by
   rw[Aoq hp hv];split
   ·rename_i e;rw[A3k e]
   ·rfl
  have hl:=Ap8 (k:=c.key) (r:=r) (b:=true);rw[Bool.true_and]at hl;have hLC:∀k,Lj (c::r) k=match Lj r k with|some d=>some d|none=>if c.key=k then some c else none:=fun k=>rfl
  by_cases Atx:Xd c.key r true=false∨(c.gone=true∧(Vs c.key p.rev p.keys Fx).gone=true)
  ·have Ga:Qb p c r nx=nx:=by unfold Qb;rw[if_pos Atx]
   obtain⟨i1,i2,i3,i4,i5,i6⟩:=An5 hp hv (cs:=r) (nx:=nx) h1 h2;have heq:∀k,Ue p (Po p.keys k) (Lj (c::r) k)=Ue p (Po p.keys k) (Lj r k):=fun k=>by
    rw[hLC];cases hr:Lj r k with
    |some d=>rfl
    |none=>
     dsimp only;by_cases e:c.key=k
     ·subst e;rw[if_pos rfl];rcases Atx with hk|⟨g1,g2⟩
      ·rw[hl,hr]at hk;cases hk
      ·rw[hw]at g2;unfold Ue Xh;dsimp only;rw[if_pos ⟨g1,g2⟩]
     ·rw[if_neg e]
   unfold Mn;rw[Ga];simp only[heq];exact⟨i1,i2,i3,i4,i5,i6⟩
  ·have hnl:Lj r c.key=none:=by
    cases hr:Lj r c.key with
    |none=>rfl
    |some d=>exact absurd (.inl (by rw[hl,hr];rfl)) Atx
   have hng:¬(c.gone=true∧(Po p.keys c.key).gone=true):=fun g=>Atx (.inr (by rw[hw];exact g))
   have Ga:Qb p c r nx=⟨nx.name,p.rev+1,nx.floor,Pn c.key (Abc p c (Po p.keys c.key)) nx.keys⟩:=by
    unfold Qb;rw[if_neg Atx,hw,Ax9 h1];rfl
   have Ju:Ue p (Po p.keys c.key) (Lj (c::r) c.key)=[Abc p c (Po p.keys c.key)]:=by
    rw[hLC,hnl];dsimp only;rw[if_pos rfl];unfold Ue Xh;dsimp only;rw[if_neg hng]
   obtain⟨i1,i2,i3,i4,i5,i6⟩:=An5 hp hv (cs:=r) (nx:=Qb p c r nx) (by rw[Ga];exact A72 h1) (by rw[Ga];exact A71 h2)
   refine⟨i1,i2,by rw[show Mn p (c::r) nx=Mn p r (Qb p c r nx)from rfl,i3,Ga],by rw[show Mn p (c::r) nx=Mn p r (Qb p c r nx)from rfl,i4,Ga],fun k=>?_,.inr ⟨?_,c.key,by rw[Ju];simp⟩⟩
   ·rw[show Mn p (c::r) nx=Mn p r (Qb p c r nx)from rfl,i5,Ga];dsimp only;rw[Ane k h1];by_cases e:k=c.key
    ·subst e;rw[if_pos rfl,Ju,hnl];simp[Ue]
    ·rw[if_neg e,hLC];cases Lj r k with
     |some d=>rfl
     |none=>
      dsimp only;rw[if_neg (fun q=>e q.symm)]
   ·rw[show Mn p (c::r) nx=Mn p r (Qb p c r nx)from rfl];rcases i6 with⟨q,_⟩|⟨q,_⟩
    ·rw[q,Ga]
    ·exact q
theorem A51{F:List Ce}{c:Ce}(k:A1):(Fp F c).find? (fun x=>decide (x.key=k))=if c.key=k then some c else F.find? (fun x=>decide (x.key=k)):=by
 unfold Fp;cases hq:F.findIdx? (fun x=>decide (x.key=c.key))with
 |none=>
  dsimp only;rw[List.findIdx?_eq_none_iff]at hq;rw[List.find?_append];by_cases e:c.key=k
  ·rw[if_pos e,List.find?_eq_none.2 (fun x hx=>by have:=hq x hx;simp at this ⊢;rw[←e];exact this)]
   simp[e]
  ·rw[if_neg e];simp[e]
 |some i=>
  dsimp only;have:∀{F:List Ce} {i:Nat},F.findIdx? (fun x=>decide (x.key=c.key))=some i→(F.set i c).find? (fun x=>decide (x.key=k))=if c.key=k then some c else F.find? (fun x=>decide (x.key=k)):=by
   intro F;induction F with
   |nil=>intro i h;simp at h
   |cons x F ih=>
    intro i h;rw[List.findIdx?_cons]at h;by_cases hx:x.key=c.key
    ·simp only[hx,decide_true,if_true,Af]at h;subst h;rw[F7,F2,F2];by_cases e:c.key=k
     ·simp[e]
     ·simp[e,hx]
    ·simp only[hx,decide_false,D0,if_false,Eg]at h;obtain⟨j,hj,rfl⟩:=h;rw[E9,F2,F2,ih hj];by_cases e:x.key=k
     ·have:¬c.key=k:=fun q=>hx (e.trans q.symm)
      simp[e,this]
     ·simp[e]
  exact this hq
theorem As0:∀{cs F FF:List Ce},L6 cs F=some FF→∀k,FF.find? (fun x=>decide (x.key=k))=(Lj cs k).or (F.find? fun x=>decide (x.key=k))
 | [],F,FF,h,k=>by
   have h:some F=some FF:=h;cases h;rfl
 |c::r,F,FF,h,k=>by
  unfold L6 at h;split at h
  ·rw[As0 h k,A51,show Lj (c::r) k=match Lj r k with|some d=>some d|none=>if c.key=k then some c else none from rfl]
   cases Lj r k with
   |some d=>rfl
   |none=>
    dsimp only;by_cases e:c.key=k<;>simp[e]
  ·cases h
end Go.Ab
