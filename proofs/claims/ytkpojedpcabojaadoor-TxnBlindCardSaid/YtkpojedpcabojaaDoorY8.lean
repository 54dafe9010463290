/- Lemmas -/
import Derived.Test.YtkpojedpcabojaaDoorY2
set_option linter.unusedVariables false
set_option linter.unusedSimpArgs false
set_option maxRecDepth 100000
set_option maxHeartbeats 40000000
namespace Go.Ab
open Go.Proofs
def Ate(key:Az)(v:Fk):List Kv→List Kv→Bool→List Kv
 | [],out,d=>if d=true then out else out++[⟨key,[v]⟩]
 |h::r,out,d=>
  if h.key=key then Ate key v r ((if d=false∧key<h.key then out++[⟨key,[v]⟩]else out)++[⟨h.key,h.vs++[v]⟩]) true
  else Ate key v r ((if d=false∧key<h.key then out++[⟨key,[v]⟩]else out)++[h]) (if d=false∧key<h.key then true else d)
theorem Kv.A3f(key:Az)(v:Fk):Kv.Bx ⟨key,[v]⟩= .agg [.str key,.list [v.Bx]]:=rfl
theorem Kv.A2r(key:Az)(vs:List Fk)(v:Fk):Kv.Bx ⟨key,vs++[v]⟩= .agg [.str key,.list (vs.map Fk.Bx++[v.Bx])]:=by simp[Kv.Bx]
theorem Bfj(p:Spc)(key:Az)(v:Fk)(hl:p.keys.length≤100000)(hv:∀h∈p.keys,h.vs.length≤100000):
 Fn Tryd.prog A2x [.v p.Bx,.v (.str key),.v v.Bx] (Is (.v (⟨p.name,p.rev,p.floor,Ate key v p.keys [] false⟩:Spc).Bx) [.no,.no,.no]):=by
 refine A2p ?_ (by simp)
 obtain⟨pn,prv,pfl,ks⟩:=p;dsimp only at hl hv ⊢;obtain⟨RES,Ajz⟩:∃R,Ate key v ks [] false=R:=⟨_,rfl⟩;rw[Ajz];have hks:(ks.map Kv.Bx).length=ks.length:=Bh _;repeat'((conv=>whnf);((with_reducible refine Ac ?_ ?_);focus (and_intros<;>omega)))
 all_goals(try(conv=>whnf))
 refine Afm.by (X:=Nat × List Kv × Bool) (fun y=>[(9,.v (ti (y.1:Int))),(7,.vec 130 2 (y.2.1.map Kv.Bx)),(8,.v (.bool y.2.2))]) (fun y=>y.1≤ks.length∧y.2.1.length≤2*y.1∧Ate key v (ks.drop y.1) y.2.1 y.2.2=RES) (fun y=>ks.length - y.1) (0,[],false) (by kernel_rfl) ⟨Cr _,Cr _,Ajz⟩ ?_
 rintro⟨j,out,d⟩ ⟨hj,hol,hR⟩;dsimp only at hj hol hR ⊢;have hw:IntKind.i64.wrap ((j:Int)+1)=((j+1:Nat):Int):=(Bf (by omega)).trans (by omega)
 have Boj:(out.map Kv.Bx).length≤200000:=by rw[Bh];omega
 by_cases hjl:j<ks.length
 case neg=>
  have h3:¬decide ((j:Int)<((ks.map Kv.Bx).length:Int))=true:=by simp;omega
  have h4:¬decide ((j:Int)<(ks.length:Int))=true:=by simp;omega
  rw[Db (by omega)]at hR
  cases d with
  |true=>
   have hR:out=RES:=hR;subst hR;repeat'((conv=>whnf);first|((with_reducible refine Aw (by(with_reducible exact Ak (by assumption))) (fun hb=>?_));(try rw[hb]);(try simp only[Aa]at hb))|((with_reducible refine A5 (fun hb=>?_) (fun hb=>?_))<;>first|(exact absurd hb (by decide))|((try rw[hb]);(try simp only[Aa]at hb)))|((with_reducible refine Ac ?_ ?_);focus (and_intros<;>first|omega|(with_reducible rfl)|kernel_rfl|(simp;done)))|(with_reducible intro Cq))
   all_goals(try(conv=>whnf))
   (apply dKq<;>kernel_rfl)
  |false=>
   have hR:out++[⟨key,[v]⟩]=RES:=hR;subst hR;repeat'((conv=>whnf);first|((with_reducible refine Aw (by(with_reducible exact Ak (by assumption))) (fun hb=>?_));(try rw[hb]);(try simp only[Aa]at hb))|((with_reducible refine A5 (fun hb=>?_) (fun hb=>?_))<;>first|(exact absurd hb (by decide))|((try rw[hb]);(try simp only[Aa]at hb)))|((with_reducible refine Ac ?_ ?_);focus (and_intros<;>first|omega|(with_reducible rfl)|kernel_rfl|exact Ah (by rfl)|(simp only[An];omega)|(simp;done)))|(with_reducible intro Cq))
   all_goals(try(conv=>whnf))
   refine Am1.mk ⟨?_,by kernel_rfl⟩ (by kernel_rfl)
   simp only[Spc.Bx,F5,Cy,Kc,Kv.A3f]
   kernel_rfl
 obtain⟨h,he⟩:∃x,ks[j]?=some x:=⟨_,Ae hjl⟩;have h3:¬decide ((j:Int)<((ks.map Kv.Bx).length:Int))=false:=by simp;omega
 have h4:¬decide ((j:Int)<(ks.length:Int))=false:=by simp;omega
 have hdr:ks.drop j=h::ks.drop (j+1):=by rw[Cc hjl];rw[Ae hjl]at he;cases he;rfl
 rw[hdr]at hR;simp only[Ate]at hR;have hvl:=hv h (Cb he);obtain⟨hk,hvs⟩:=h;dsimp only at hR hvl;have Awo:(hvs.map Fk.Bx).length≤100000:=by rw[Bh];exact hvl
 by_cases heq:hk=key
 ·rw[if_pos heq]at hR;have hnl:¬key<hk:=by rw[heq];exact Af9 _
  rw[if_neg (fun c=>hnl c.2)]at hR
  have e1:¬decide (hk=key)=false:=by simpa using heq
  have c1:¬Op.bytesLess key hk=true:=by rw[Kz];simpa using hnl
  cases d with
  |true=>
   repeat'((conv=>whnf);first|((with_reducible refine Ax (by(with_reducible exact Ai (by assumption))) (fun hb=>?_));(try rw[hb]);(try simp only[Aa]at hb);(try subst hb))|((with_reducible refine Aw (by first|(with_reducible exact Ak (by assumption))|(with_reducible rfl)) (fun hb=>?_));(try rw[hb]);(try simp only[Aa]at hb))|((with_reducible refine A5 (fun hb=>?_) (fun hb=>?_))<;>first|(exact absurd hb (by decide))|((try rw[hb]);(try simp only[Aa]at hb)))|((with_reducible refine Ac ?_ ?_);focus (and_intros<;>first|omega|(with_reducible rfl)|kernel_rfl|exact Ah (by rfl)|exact size_map (fun _=>rfl)|(simp only[An];omega)|(simp;done)))|(with_reducible intro Cq)|((with_reducible refine Ai2.mkV ?_ ?_ ?_ (fun Cq=>?_));(focus (as_aux_lemma=>kernel_rfl));(focus (as_aux_lemma=>kernel_rfl));(focus (as_aux_lemma=>kernel_rfl));(try simp only[Bv,Bg,Dg,or_false,false_or,or_assoc,forall_eq_or_imp,forall_eq,false_implies,implies_true,forall_const,and_true,true_and]at Cq))|((try dsimp only);(rw[B6 he]))|((try dsimp only);rw[hw]))
   all_goals(try(conv=>whnf))
   refine Round.by (j+1,out++[⟨hk,hvs++[v]⟩],true) ?_ ⟨by omega,by simp;omega,hR⟩ (by dsimp only;omega)
   try dsimp only
   simp only[F5,Cy,Kc,Kv.A3f,Kv.A2r];show norm _ _=upd _ _
   kernel_rfl
  |false=>
   repeat'((conv=>whnf);first|((with_reducible refine Ax (by first|(with_reducible exact Ai (by assumption))|(with_reducible rfl)) (fun hb=>?_));(try rw[hb]);(try simp only[Aa]at hb);(try subst hb))|((with_reducible refine Aw (by(with_reducible exact Ak (by assumption))) (fun hb=>?_));(try rw[hb]);(try simp only[Aa]at hb))|((with_reducible refine A5 (fun hb=>?_) (fun hb=>?_))<;>first|(exact absurd hb (by decide))|((try rw[hb]);(try simp only[Aa]at hb)))|((with_reducible refine Ac ?_ ?_);focus (and_intros<;>first|omega|(with_reducible rfl)|kernel_rfl|exact Ah (by rfl)|exact size_map (fun _=>rfl)|(simp only[An];omega)|(simp;done)))|(with_reducible intro Cq)|((with_reducible refine Ai2.mkV ?_ ?_ ?_ (fun Cq=>?_));(focus (as_aux_lemma=>kernel_rfl));(focus (as_aux_lemma=>kernel_rfl));(focus (as_aux_lemma=>kernel_rfl));(try simp only[Bv,Bg,Dg,or_false,false_or,or_assoc,forall_eq_or_imp,forall_eq,false_implies,implies_true,forall_const,and_true,true_and]at Cq))|((try dsimp only);(rw[B6 he]))|((try dsimp only);rw[hw]))
   all_goals(try(conv=>whnf))
   refine Round.by (j+1,out++[⟨hk,hvs++[v]⟩],true) ?_ ⟨by omega,by simp;omega,hR⟩ (by dsimp only;omega)
   try dsimp only
   simp only[F5,Cy,Kc,Kv.A3f,Kv.A2r];show norm _ _=upd _ _
   kernel_rfl
 ·rw[if_neg heq]at hR;have e1:¬decide (hk=key)=true:=by simpa using heq
  by_cases Ze:key<hk
  ·have c1:¬Op.bytesLess key hk=false:=by rw[Kz];simpa using Ze
   cases d with
   |true=>
    rw[if_neg (fun c=>by cases c.1),if_neg (fun c=>by cases c.1)]at hR
    repeat'((conv=>whnf);first|((with_reducible refine Ax (by(with_reducible exact Ai (by assumption))) (fun hb=>?_));(try rw[hb]);(try simp only[Aa]at hb))|((with_reducible refine Aw (by first|(with_reducible exact Ak (by assumption))|(with_reducible rfl)) (fun hb=>?_));(try rw[hb]);(try simp only[Aa]at hb))|((with_reducible refine A5 (fun hb=>?_) (fun hb=>?_))<;>first|(exact absurd hb (by decide))|((try rw[hb]);(try simp only[Aa]at hb)))|((with_reducible refine Ac ?_ ?_);focus (and_intros<;>first|omega|(with_reducible rfl)|kernel_rfl|exact Ah (by rfl)|(simp only[An];omega)|(simp;done)))|(with_reducible intro Cq)|((try dsimp only);(rw[B6 he]))|((try dsimp only);rw[hw]))
    all_goals(try(conv=>whnf))
    refine Round.by (j+1,out++[⟨hk,hvs⟩],true) ?_ ⟨by omega,by simp;omega,hR⟩ (by dsimp only;omega)
    try dsimp only
    simp only[F5,Cy,Kc,Kv.A3f,Kv.A2r];show norm _ _=upd _ _
    kernel_rfl
   |false=>
    rw[if_pos ⟨rfl,Ze⟩,if_pos ⟨rfl,Ze⟩]at hR;repeat'((conv=>whnf);first|((with_reducible refine Ax (by first|(with_reducible exact Ai (by assumption))|(with_reducible rfl)) (fun hb=>?_));(try rw[hb]);(try simp only[Aa]at hb))|((with_reducible refine Aw (by(with_reducible exact Ak (by assumption))) (fun hb=>?_));(try rw[hb]);(try simp only[Aa]at hb))|((with_reducible refine A5 (fun hb=>?_) (fun hb=>?_))<;>first|(exact absurd hb (by decide))|((try rw[hb]);(try simp only[Aa]at hb)))|((with_reducible refine Ac ?_ ?_);focus (and_intros<;>first|omega|(with_reducible rfl)|kernel_rfl|exact Ah (by rfl)|(simp only[An];omega)|(simp;done)))|(with_reducible intro Cq)|((try dsimp only);(rw[B6 he]))|((try dsimp only);rw[hw]))
    all_goals(try(conv=>whnf))
    refine Round.by (j+1,out++[⟨key,[v]⟩]++[⟨hk,hvs⟩],true) ?_ ⟨by omega,by simp;omega,hR⟩ (by dsimp only;omega)
    try dsimp only
    simp only[F5,Cy,Kc,Kv.A3f,Kv.A2r];show norm _ _=upd _ _
    kernel_rfl
  ·have c1:¬Op.bytesLess key hk=true:=by rw[Kz];simpa using Ze
   rw[if_neg (fun c=>Ze c.2),if_neg (fun c=>Ze c.2)]at hR
   cases d with
   |true=>
    repeat'((conv=>whnf);first|((with_reducible refine Ax (by(with_reducible exact Ai (by assumption))) (fun hb=>?_));(try rw[hb]);(try simp only[Aa]at hb))|((with_reducible refine Aw (by first|(with_reducible exact Ak (by assumption))|(with_reducible rfl)) (fun hb=>?_));(try rw[hb]);(try simp only[Aa]at hb))|((with_reducible refine A5 (fun hb=>?_) (fun hb=>?_))<;>first|(exact absurd hb (by decide))|((try rw[hb]);(try simp only[Aa]at hb)))|((with_reducible refine Ac ?_ ?_);focus (and_intros<;>first|omega|(with_reducible rfl)|kernel_rfl|exact Ah (by rfl)|(simp only[An];omega)|(simp;done)))|(with_reducible intro Cq)|((try dsimp only);(rw[B6 he]))|((try dsimp only);rw[hw]))
    all_goals(try(conv=>whnf))
    refine Round.by (j+1,out++[⟨hk,hvs⟩],true) ?_ ⟨by omega,by simp;omega,hR⟩ (by dsimp only;omega)
    try dsimp only
    simp only[F5,Cy,Kc,Kv.A3f,Kv.A2r];show norm _ _=upd _ _
    kernel_rfl
   |false=>
    repeat'((conv=>whnf);first|((with_reducible refine Ax (by first|(with_reducible exact Ai (by assumption))|(with_reducible rfl)) (fun hb=>?_));(try rw[hb]);(try simp only[Aa]at hb))|((with_reducible refine Aw (by(with_reducible exact Ak (by assumption))) (fun hb=>?_));(try rw[hb]);(try simp only[Aa]at hb))|((with_reducible refine A5 (fun hb=>?_) (fun hb=>?_))<;>first|(exact absurd hb (by decide))|((try rw[hb]);(try simp only[Aa]at hb)))|((with_reducible refine Ac ?_ ?_);focus (and_intros<;>first|omega|(with_reducible rfl)|kernel_rfl|exact Ah (by rfl)|(simp only[An];omega)|(simp;done)))|(with_reducible intro Cq)|((try dsimp only);(rw[B6 he]))|((try dsimp only);rw[hw]))
    all_goals(try(conv=>whnf))
    refine Round.by (j+1,out++[⟨hk,hvs⟩],false) ?_ ⟨by omega,by simp;omega,hR⟩ (by dsimp only;omega)
    try dsimp only
    simp only[F5,Cy,Kc,Kv.A3f,Kv.A2r];show norm _ _=upd _ _
    kernel_rfl

open Go.Proofs
abbrev rT(R:List Spc):SV:=.own [] (.ptr (.st [.vec 50 4 ((R.map Spc.Bx).map D.it)]))
def Aqo(n:Az):List Spc→Nat→Int
 | [],_=> -1
 |p::r,i=>if p.name=n then(i:Int)else Aqo n r (i+1)
theorem Auo(R:List Spc)(n:Az)(hl:R.length≤100000):Fn Tryd.prog Ay3 [rT R,.v (.str n)] (Is (.v (ti (Aqo n R 0))) [rT R,.no]):=by
 refine Ayw ?_ (by simp)
 obtain⟨RES,Ajz⟩:∃X,Aqo n R 0=X:=⟨_,rfl⟩;rw[Ajz];have hlm:((R.map Spc.Bx).map D.it).length=R.length:=by simp
 (skip)
 all_goals(try(conv=>whnf))
 refine Afm.by (X:=Nat) (fun j=>[(5,.v (ti (j:Int)))]) (fun j=>j≤R.length∧Aqo n (R.drop j) j=RES) (fun j=>R.length - j) 0 (by kernel_rfl) ⟨Cr _,Ajz⟩ ?_
 rintro j ⟨hj,hR⟩
 (try dsimp only at hj hR ⊢)
 have hw:IntKind.i64.wrap ((j:Int)+1)=((j+1:Nat):Int):=(Bf (by omega)).trans (by omega)
 by_cases hjl:j<R.length
 case neg=>
  have h4:¬decide ((j:Int)<(R.length:Int))=true:=by simp;omega
  have h3:¬decide ((j:Int)<((((R.map Spc.Bx).map D.it).length:Nat):Int))=true:=by rw[hlm];exact h4
  rw[Db (by omega)]at hR
  have hR:(-1:Int)=RES:=hR;subst hR;repeat'((conv=>whnf);first|((with_reducible refine Aw (by(with_reducible exact Ak (by assumption))) (fun hb=>?_));(try rw[hb]);(try simp only[Aa]at hb))|((with_reducible refine Ac ?_ ?_);focus (and_intros<;>first|omega|(with_reducible rfl)|kernel_rfl|(simp;done)))|(with_reducible intro Cq))
  all_goals(try(conv=>whnf))
  (apply dKq<;>kernel_rfl)
 obtain⟨p,he⟩:∃x,R[j]?=some x:=⟨_,Ae hjl⟩;have h4:¬decide ((j:Int)<(R.length:Int))=false:=by simp;omega
 have h3:¬decide ((j:Int)<((((R.map Spc.Bx).map D.it).length:Nat):Int))=false:=by rw[hlm];exact h4
 have hdr:R.drop j=p::R.drop (j+1):=by rw[Cc hjl];rw[Ae hjl]at he;cases he;rfl
 rw[hdr]at hR;simp only[Aqo]at hR;obtain⟨pn,pr,pf,pk⟩:=p;dsimp only at hR;by_cases hn:pn=n
 ·rw[if_pos hn]at hR;subst hR;have e1:¬decide (pn=n)=false:=by simpa using hn
  repeat'((conv=>whnf);first|((with_reducible refine Ax (by(with_reducible exact Ai (by assumption))) (fun hb=>?_));(try rw[hb]);(try simp only[Aa]at hb);(try subst hb))|((with_reducible refine Ac ?_ ?_);focus (and_intros<;>first|omega|(with_reducible rfl)|kernel_rfl|(simp;done)))|(with_reducible intro Cq)|(((with_reducible apply A3));(focus rfl);(focus (simp only[D.at,D.put,D.Xw,D.Fh,Mg,Jo,D.Bx,Js,Ad,Af,he,hlm]<;>exact rfl));(try(focus exact rfl))))
  all_goals(try(conv=>whnf))
  (apply dKq<;>kernel_rfl)
 ·rw[if_neg hn]at hR;have e1:¬decide (pn=n)=true:=by simpa using hn
  repeat'((conv=>whnf);first|((with_reducible refine Ax (by(with_reducible exact Ai (by assumption))) (fun hb=>?_));(try rw[hb]);(try simp only[Aa]at hb))|((with_reducible refine Aw (by(with_reducible exact Ak (by assumption))) (fun hb=>?_));(try rw[hb]);(try simp only[Aa]at hb))|((with_reducible refine Ac ?_ ?_);focus (and_intros<;>first|omega|(with_reducible rfl)|kernel_rfl|(simp;done)))|(with_reducible intro Cq)|((try dsimp only);rw[hw])|(((with_reducible apply A3));(focus rfl);(focus (simp only[D.at,D.put,D.Xw,D.Fh,Mg,Jo,D.Bx,Js,Ad,Af,he,hlm]<;>exact rfl));(try(focus exact rfl))))
  all_goals(try(conv=>whnf))
  refine Round.by (j+1) ?_ ⟨by omega,hR⟩ (by omega)
  try dsimp only
  show norm _ _=upd _ _
  kernel_rfl

open Go.Proofs
def Az1:List Ef→Bool
 | []=>true
 |c::r=>if c.ok then Az1 r else false
def Axw(key:Az):List Ef→Bool→Bool
 | [],b=>b
 |c::r,b=>Axw key r (b&& !decide (c.key=key))
def Aw3(key:Az)(rev:Int):List Kv→Fk→Fk
 | [],v=>v
 |h::r,v=>Aw3 key rev r (if h.key=key then Aps rev h.vs Akw else v)
def Az6(p:Spc)(c:Ef)(was:Fk):Fk:=if c.gone=true then⟨p.rev+1,0,[],true⟩else⟨p.rev+1,if was.gone=true then p.rev+1 else was.made,c.val,false⟩
def At0(p:Spc)(c:Ef)(r:List Ef)(nx:Spc):Spc:=
 if Axw c.key r true=false∨(c.gone=true∧(Aw3 c.key p.rev p.keys Akw).gone=true)then nx
 else⟨nx.name,p.rev+1,nx.floor,Ate c.key (Az6 p c (Aw3 c.key p.rev p.keys Akw)) nx.keys [] false⟩
def Asi(p:Spc):List Ef→Spc→Spc
 | [],nx=>nx
 |c::r,nx=>Asi p r (At0 p c r nx)
def KL(m:Nat)(ks:List Kv):Prop:=ks.length≤m∧∀h∈ks,h.vs.length≤m
theorem A46{key:Az}{v:Fk}{m:Nat}(hm:1≤m):∀{r out:List Kv} {d:Bool},(∀h∈r,h.vs.length+1≤m)→(∀h∈out,h.vs.length≤m)→
 (Ate key v r out d).length≤out.length+r.length+(if d=true then 0 else 1)∧∀h∈Ate key v r out d,h.vs.length≤m
 | [],out,d,_,ho=>by
   unfold Ate;split
   ·rename_i hd;subst hd;exact⟨by simp,ho⟩
   ·rename_i hd;refine⟨by simp[hd],fun h hh=>?_⟩
    rcases Bv.1 hh with hh|hh
    ·exact ho h hh
    ·simp only[Jd]at hh;subst hh;simpa using hm
 |h::r,out,d,hr,ho=>by
  have h1:=hr h (B2 ..);have hr':=fun x hx=>hr x (B4 _ hx)
  have ho':∀(c:Prop) [Decidable c],∀x∈(if c then out++[⟨key,[v]⟩]else out),x.vs.length≤m:=by
   intro c _ x hx;split at hx
   ·rcases Bv.1 hx with hx|hx
    ·exact ho x hx
    ·simp only[Jd]at hx;subst hx;simpa using hm
   ·exact ho x hx
  have hsn:∀(c:Prop) [Decidable c] (y:Kv),y.vs.length≤m→∀x∈(if c then out++[⟨key,[v]⟩]else out)++[y],x.vs.length≤m:=by
   intro c _ y hy x hx;rcases Bv.1 hx with hx|hx
   ·exact ho' c x hx
   ·simp only[Jd]at hx;subst hx;exact hy
  unfold Ate;split
  ·rename_i hk;have hnl:¬(d=false∧key<h.key):=fun c=>by rw[hk]at c;exact absurd c.2 (Af9 _)
   obtain⟨i1,i2⟩:=A46 (key:=key) (v:=v) hm (r:=r) (out:=(if d=false∧key<h.key then out++[⟨key,[v]⟩]else out)++[⟨h.key,h.vs++[v]⟩]) (d:=true) hr' (hsn _ _ (by simp;omega))
   refine⟨?_,i2⟩;rw[if_neg hnl]at i1 ⊢;simp only[Hq,Ho,Ak7,if_true]at i1 ⊢;split<;>omega
  ·obtain⟨i1,i2⟩:=A46 (key:=key) (v:=v) hm (r:=r) (out:=(if d=false∧key<h.key then out++[⟨key,[v]⟩]else out)++[h]) (d:=if d=false∧key<h.key then true else d) hr' (hsn _ _ (by omega))
   refine⟨?_,i2⟩;by_cases hc:d=false∧key<h.key
   ·rw[if_pos hc,if_pos hc]at i1;rw[if_pos hc,if_pos hc,hc.1];simp only[Hq,Ho,Ak7,if_true,Ado,if_false]at i1 ⊢;omega
   ·rw[if_neg hc,if_neg hc]at i1;rw[if_neg hc,if_neg hc];simp only[Hq,Ho,Ak7]at i1 ⊢;omega
theorem Bhh{m:Nat}{p nx:Spc}{c:Ef}{r:List Ef}(h:KL m nx.keys):KL (m+1) (At0 p c r nx).keys:=by
 unfold At0;split
 ·exact⟨by have:=h.1;omega,fun x hx=>by have:=h.2 x hx;omega⟩
 ·obtain⟨i1,i2⟩:=A46 (key:=c.key) (v:=Az6 p c (Aw3 c.key p.rev p.keys Akw)) (m:=m+1) (by omega) (r:=nx.keys) (out:=[]) (d:=false) (fun x hx=>by have:=h.2 x hx;omega) (by intro x hx;cases hx)
  refine⟨?_,i2⟩;simp only[Ak7,Ado,if_false]at i1;have:=h.1;dsimp only;omega
theorem Bcv(R:List Spc)(n:Az)(cs:List I)(hl:R.length≤100000)(hf:Aqo n R 0= -1):
 Fn Tryd.prog Aqi [rT R,.v (.str n),.v (.list cs)] (Is (.tup [.i (ti 0),.i (ti 16)]) [rT R,.no,.no]):=by
 refine Ass ?_ (by simp)
 have hfi:=Auo R n hl;rw[hf]at hfi;repeat'((conv=>whnf);first|((with_reducible refine Ax (by first|((with_reducible refine decide_eq_true ?_);omega)|(with_reducible rfl)) (fun hb=>?_));(try rw[hb]);(try simp only[Aa]at hb))|((with_reducible refine Ac ?_ ?_);focus (and_intros<;>first|kernel_rfl|(intro _ hh;cases hh;done)|(simp;done)|decide))|((with_reducible refine Ct.mk ?_);refine⟨_,hfi,?_⟩;rintro _ _ ⟨rfl,rfl⟩))
 all_goals(try(conv=>whnf))
 (apply dKq<;>kernel_rfl)
theorem Bfc(R:List Spc)(n:Az)(cs:List Ef)(hl:R.length≤100000)(hcs:cs.length≤1000)(i:Nat)(p:Spc)(hf:Aqo n R 0=(i:Int))(he:R[i]?=some p)(RES:Bool)(A5i:RES=false)(Ajz:Az1 cs=RES):
 Fn Tryd.prog Aqi [rT R,.v (.str n),.v (.list (cs.map Ef.Bx))] (Is (.tup [.i (ti 0),.i (ti 1)]) [rT R,.no,.no]):=by
 refine Ass ?_ (by simp)
 have hfi:=Auo R n hl;rw[hf]at hfi;have hil:=(A7.1 he).1;have hlm:((R.map Spc.Bx).map D.it).length=R.length:=by simp
 have hcl:(cs.map Ef.Bx).length=cs.length:=Bh _;repeat'((conv=>whnf);first|((with_reducible refine Aw (by first|(with_reducible assumption)|((with_reducible refine decide_eq_false ?_);omega)) (fun hb=>?_));(try rw[hb]);(try simp only[Aa]at hb))|((with_reducible refine Ac ?_ ?_);focus (and_intros<;>first|kernel_rfl|(intro _ hh;cases hh;done)|(simp;done)|decide))|((with_reducible refine Ct.mk ?_);refine⟨_,hfi,?_⟩;rintro _ _ ⟨rfl,rfl⟩))
 all_goals(try(conv=>whnf))
 refine Afm.by (X:=Nat) (fun j=>[(9,.v (ti (j:Int)))]) (fun j=>j≤cs.length∧Az1 (cs.drop j)=RES) (fun j=>cs.length - j) 0 (by kernel_rfl) ⟨Cr _,Ajz⟩ ?_
 rintro j ⟨hj,hR⟩
 (try dsimp only at hj hR ⊢)
 have hw:IntKind.i64.wrap ((j:Int)+1)=((j+1:Nat):Int):=(Bf (by omega)).trans (by omega)
 by_cases hjl:j<cs.length
 case neg=>
  rw[Db (by omega)]at hR
  rw[←hR]at A5i;cases A5i
 obtain⟨c,hc⟩:∃c,cs[j]?=some c:=⟨_,Ae hjl⟩;have h3:¬decide ((j:Int)<(cs.length:Int))=false:=by simp;omega
 have h4:¬decide ((j:Int)<((cs.map Ef.Bx).length:Int))=false:=by simp;omega
 have hdr:cs.drop j=c::cs.drop (j+1):=by rw[Cc hjl];rw[Ae hjl]at hc;cases hc;rfl
 rw[hdr]at hR;simp only[Az1]at hR;obtain⟨ck,cv,cg⟩:=c;by_cases H2:(Ef.mk ck cv cg).ok
 ·rw[if_pos H2]at hR;obtain⟨hk1,hk2⟩:=H2;dsimp only at hk1 hk2;cases cg with
  |true=>
   repeat'((conv=>whnf);first|((with_reducible refine Ax (by(with_reducible exact Ai (by assumption))) (fun hb=>?_));(try rw[hb]);(try simp only[Aa]at hb))|((with_reducible refine Aw (by first|(with_reducible assumption)|(with_reducible rfl)) (fun hb=>?_));(try rw[hb]);(try simp only[Aa]at hb))|((with_reducible refine A5 (fun hb=>?_) (fun hb=>?_))<;>first|(exfalso;((simp only[An]at hb<;>omega)))|((try rw[hb]);(try simp only[Aa]at hb)))|((with_reducible refine Ac ?_ ?_);focus (and_intros<;>first|omega|(with_reducible rfl)|kernel_rfl))|(with_reducible intro Cq)|((try dsimp only);(rw[B6 hc]))|((try dsimp only);rw[hw]))
   all_goals(try(conv=>whnf))
   refine Round.by (j+1) ?_ ⟨by omega,hR⟩ (by omega)
   try dsimp only
   show norm _ _=upd _ _
   kernel_rfl
  |false=>
   have hk2:cv.length≤256:=by simpa using hk2
   repeat'((conv=>whnf);first|((with_reducible refine Ax (by first|(with_reducible exact Ai (by assumption))|(with_reducible rfl)) (fun hb=>?_));(try rw[hb]);(try simp only[Aa]at hb))|((with_reducible refine Aw (by first|(with_reducible assumption)|(with_reducible rfl)) (fun hb=>?_));(try rw[hb]);(try simp only[Aa]at hb))|((with_reducible refine A5 (fun hb=>?_) (fun hb=>?_))<;>first|(exfalso;((simp only[An]at hb<;>omega)))|((try rw[hb]);(try simp only[Aa]at hb)))|((with_reducible refine Ac ?_ ?_);focus (and_intros<;>first|omega|(with_reducible rfl)|kernel_rfl))|(with_reducible intro Cq)|((try dsimp only);(rw[B6 hc]))|((try dsimp only);rw[hw]))
   all_goals(try(conv=>whnf))
   refine Round.by (j+1) ?_ ⟨by omega,hR⟩ (by omega)
   try dsimp only
   show norm _ _=upd _ _
   kernel_rfl
 ·by_cases hk:1≤ck.length∧ck.length≤64
  ·cases cg with
   |true=>exact absurd ⟨hk,.inl rfl⟩ H2
   |false=>
    have hv:¬cv.length≤256:=fun h=>H2 ⟨hk,.inr h⟩
    repeat'((conv=>whnf);first|((with_reducible refine Ax (by first|(with_reducible exact Ai (by assumption))|(with_reducible rfl)) (fun hb=>?_));(try rw[hb]);(try simp only[Aa]at hb))|((with_reducible refine Aw (by first|(with_reducible assumption)|(with_reducible rfl)) (fun hb=>?_));(try rw[hb]);(try simp only[Aa]at hb))|((with_reducible refine A5 (fun hb=>?_) (fun hb=>?_))<;>first|(exfalso;((simp only[An]at hb<;>omega)))|((try rw[hb]);(try simp only[Aa]at hb)))|((with_reducible refine Ac ?_ ?_);focus (and_intros<;>first|omega|(with_reducible rfl)|kernel_rfl))|(with_reducible intro Cq)|((try dsimp only);(rw[B6 hc])))
    all_goals(try(conv=>whnf))
    all_goals((apply dKq<;>kernel_rfl))
  ·cases cg with
   |true=>
    repeat'((conv=>whnf);first|((with_reducible refine Ax (by first|(with_reducible exact Ai (by assumption))|(with_reducible rfl)) (fun hb=>?_));(try rw[hb]);(try simp only[Aa]at hb))|((with_reducible refine Aw (by first|(with_reducible assumption)|(with_reducible rfl)) (fun hb=>?_));(try rw[hb]);(try simp only[Aa]at hb))|((with_reducible refine A5 (fun hb=>?_) (fun hb=>?_))<;>first|(exfalso;((simp only[An]at hb<;>omega)))|((try rw[hb]);(try simp only[Aa]at hb)))|((with_reducible refine Ac ?_ ?_);focus (and_intros<;>first|omega|(with_reducible rfl)|kernel_rfl))|(with_reducible intro Cq)|((try dsimp only);(rw[B6 hc])))
    all_goals(try(conv=>whnf))
    all_goals((apply dKq<;>kernel_rfl))
   |false=>
    repeat'((conv=>whnf);first|((with_reducible refine Ax (by first|(with_reducible exact Ai (by assumption))|(with_reducible rfl)) (fun hb=>?_));(try rw[hb]);(try simp only[Aa]at hb))|((with_reducible refine Aw (by first|(with_reducible assumption)|(with_reducible rfl)) (fun hb=>?_));(try rw[hb]);(try simp only[Aa]at hb))|((with_reducible refine A5 (fun hb=>?_) (fun hb=>?_))<;>first|(exfalso;((simp only[An]at hb<;>omega)))|((try rw[hb]);(try simp only[Aa]at hb)))|((with_reducible refine Ac ?_ ?_);focus (and_intros<;>first|omega|(with_reducible rfl)|kernel_rfl))|(with_reducible intro Cq)|((try dsimp only);(rw[B6 hc])))
    all_goals(try(conv=>whnf))
    all_goals((apply dKq<;>kernel_rfl))

open Go.Proofs
theorem Bhi(R:List Spc)(n:Az)(cs:List Ef)(hl:R.length≤100000)(hcs:cs.length≤1000)(i:Nat)(p:Spc)(hf:Aqo n R 0=(i:Int))(he:R[i]?=some p)(hkl:KL 90000 p.keys)(A26:0≤p.rev∧p.rev≤1000000000000)(RES:Bool)(A5i:RES=true)(Ajz:Az1 cs=RES)(Z:Spc)(hZ:Asi p cs p=Z):
 Fn Tryd.prog Aqi [rT R,.v (.str n),.v (.list (cs.map Ef.Bx))] (Is (.tup [.i (ti Z.rev),.i (ti 0)]) [rT (R.set i Z),.no,.no]):=by
 refine Ass ?_ (by simp)
 have hfi:=Auo R n hl;rw[hf]at hfi;have hil:=(A7.1 he).1;have hlm:((R.map Spc.Bx).map D.it).length=R.length:=by simp
 have hcl:(cs.map Ef.Bx).length=cs.length:=Bh _;repeat'((conv=>whnf);first|((with_reducible refine Aw (by first|((with_reducible refine decide_eq_false ?_);omega)|(with_reducible rfl)) (fun hb=>?_));(try rw[hb]);(try simp only[Aa]at hb))|((with_reducible refine Ac ?_ ?_);focus (and_intros<;>first|kernel_rfl|(intro _ hh;cases hh;done)|(simp;done)|decide))|((with_reducible refine Ct.mk ?_);refine⟨_,hfi,?_⟩;rintro _ _ ⟨rfl,rfl⟩))
 all_goals(try(conv=>whnf))
 refine Afm.by (X:=Nat) (fun j=>[(9,.v (ti (j:Int)))]) (fun j=>j≤cs.length∧Az1 (cs.drop j)=RES) (fun j=>cs.length - j) 0 (by kernel_rfl) ⟨Cr _,Ajz⟩ ?_
 rintro j ⟨hj,hR⟩
 (try dsimp only at hj hR ⊢)
 have hw:IntKind.i64.wrap ((j:Int)+1)=((j+1:Nat):Int):=(Bf (by omega)).trans (by omega)
 by_cases hjl:j<cs.length
 ·skip
  obtain⟨c,hc⟩:∃c,cs[j]?=some c:=⟨_,Ae hjl⟩;have h3:¬decide ((j:Int)<(cs.length:Int))=false:=by simp;omega
  have h4:¬decide ((j:Int)<((cs.map Ef.Bx).length:Int))=false:=by simp;omega
  have hdr:cs.drop j=c::cs.drop (j+1):=by rw[Cc hjl];rw[Ae hjl]at hc;cases hc;rfl
  rw[hdr]at hR;simp only[Az1]at hR;obtain⟨ck,cv,cg⟩:=c;by_cases H2:(Ef.mk ck cv cg).ok
  case neg=>
   rw[if_neg H2]at hR;rw[←hR]at A5i;cases A5i
  rw[if_pos H2]at hR;obtain⟨hk1,hk2⟩:=H2;dsimp only at hk1 hk2;cases cg with
  |true=>
   repeat'((conv=>whnf);first|((with_reducible refine Ax (by first|(with_reducible assumption)|(with_reducible exact Ai (by assumption))) (fun hb=>?_));(try rw[hb]);(try simp only[Aa]at hb))|((with_reducible refine Aw (by(with_reducible rfl)) (fun hb=>?_));(try rw[hb]);(try simp only[Aa]at hb))|((with_reducible refine A5 (fun hb=>?_) (fun hb=>?_))<;>first|(exfalso;((simp only[An]at hb<;>omega)))|((try rw[hb]);(try simp only[Aa]at hb)))|((with_reducible refine Ac ?_ ?_);focus (and_intros<;>first|omega|(with_reducible rfl)|kernel_rfl))|(with_reducible intro Cq)|((try dsimp only);(rw[B6 hc]))|((try dsimp only);rw[hw]))
   all_goals(try(conv=>whnf))
   refine Round.by (j+1) ?_ ⟨by omega,hR⟩ (by omega)
   try dsimp only
   show norm _ _=upd _ _
   kernel_rfl
  |false=>
   have hk2:cv.length≤256:=by simpa using hk2
   repeat'((conv=>whnf);first|((with_reducible refine Ax (by first|(with_reducible assumption)|(with_reducible exact Ai (by assumption))|(with_reducible rfl)) (fun hb=>?_));(try rw[hb]);(try simp only[Aa]at hb))|((with_reducible refine Aw (by(with_reducible rfl)) (fun hb=>?_));(try rw[hb]);(try simp only[Aa]at hb))|((with_reducible refine A5 (fun hb=>?_) (fun hb=>?_))<;>first|(exfalso;((simp only[An]at hb<;>omega)))|((try rw[hb]);(try simp only[Aa]at hb)))|((with_reducible refine Ac ?_ ?_);focus (and_intros<;>first|omega|(with_reducible rfl)|kernel_rfl))|(with_reducible intro Cq)|((try dsimp only);(rw[B6 hc]))|((try dsimp only);rw[hw]))
   all_goals(try(conv=>whnf))
   refine Round.by (j+1) ?_ ⟨by omega,hR⟩ (by omega)
   try dsimp only
   show norm _ _=upd _ _
   kernel_rfl
 have h3:¬decide ((j:Int)<(cs.length:Int))=true:=by simp;omega
 have h4:¬decide ((j:Int)<((cs.map Ef.Bx).length:Int))=true:=by simp;omega
 repeat'((conv=>whnf);first|((with_reducible refine Aw (by(with_reducible exact Ak (by assumption))) (fun hb=>?_));(try rw[hb]);(try simp only[Aa]at hb))|((with_reducible refine Ac ?_ ?_);focus (and_intros<;>first|omega|(with_reducible rfl)|kernel_rfl|(simp;done)))|(with_reducible intro Cq)|(((with_reducible apply A3));(focus rfl);(focus (simp only[D.at,D.put,D.Xw,D.Fh,Mg,Jo,D.Bx,Js,Ad,Af,he,hlm]<;>exact rfl));(try(focus exact rfl))))
 all_goals(try(conv=>whnf))
 clear hR Ajz A5i;refine Afm.by (X:=Nat × Spc) (fun y=>[(12,.v (ti (y.1:Int))),(11,.box (T.one (F.i y.2.Bx)))]) (fun y=>y.1≤cs.length∧KL (90000+y.1) y.2.keys∧Asi p (cs.drop y.1) y.2=Z) (fun y=>cs.length - y.1) (0,p) (by kernel_rfl) ⟨Cr _,hkl,hZ⟩ ?_
 rintro⟨q,nx⟩ ⟨hq,hkq,hQ⟩;dsimp only at hq hkq hQ ⊢;have hwq:IntKind.i64.wrap ((q:Int)+1)=((q+1:Nat):Int):=(Bf (by omega)).trans (by omega)
 by_cases hql:q<cs.length
 case neg=>
  have h5:¬decide ((q:Int)<(cs.length:Int))=true:=by simp;omega
  have h6:¬decide ((q:Int)<((cs.map Ef.Bx).length:Int))=true:=by simp;omega
  rw[Db (by omega)]at hQ
  have hQ:nx=Z:=hQ;subst hQ;obtain⟨nn,nr,nf,nk⟩:=nx;have Au1:rT (R.set i ⟨nn,nr,nf,nk⟩)= .own [] (.ptr (.st [.vec 50 4 (((R.map Spc.Bx).map D.it).set i (.it (Spc.mk nn nr nf nk).Bx))])):=by simp only[rT,Amd]
  rw[Au1];repeat'((conv=>whnf);first|((with_reducible refine Aw (by(with_reducible exact Ak (by assumption))) (fun hb=>?_));(try rw[hb]);(try simp only[Aa]at hb))|((with_reducible refine Ac ?_ ?_);focus (and_intros<;>first|omega|(with_reducible rfl)|kernel_rfl|(simp;done)))|(with_reducible intro Cq)|((with_reducible refine Ai2.mkV ?_ ?_ ?_ (fun Cq=>?_));(focus (as_aux_lemma=>kernel_rfl));(focus (as_aux_lemma=>kernel_rfl));(focus (as_aux_lemma=>kernel_rfl));(try simp only[Bv,Bg,Dg,or_false,false_or,or_assoc,forall_eq_or_imp,forall_eq,false_implies,implies_true,forall_const,and_true,true_and]at Cq))|(((with_reducible apply Ba));(focus (simp only[D.at,D.put,D.Xw,D.Fh,Mg,Jo,D.Bx,Js,Ad,Af,he,hlm]<;>exact rfl))))
  all_goals(try(conv=>whnf))
  (apply dKq<;>kernel_rfl)
 obtain⟨c,hc⟩:∃c,cs[q]?=some c:=⟨_,Ae hql⟩;have h5:¬decide ((q:Int)<(cs.length:Int))=false:=by simp;omega
 have h6:¬decide ((q:Int)<((cs.map Ef.Bx).length:Int))=false:=by simp;omega
 have hdq:cs.drop q=c::cs.drop (q+1):=by rw[Cc hql];rw[Ae hql]at hc;cases hc;rfl
 rw[hdq]at hQ;simp only[Asi]at hQ;have hkn:KL (90000+(q+1)) (At0 p c (cs.drop (q+1)) nx).keys:=Bhh hkq;have Atc:∀nx',nx'=At0 p c (cs.drop (q+1)) nx→q+1≤cs.length∧KL (90000+(q+1)) nx'.keys∧Asi p (cs.drop (q+1)) nx'=Z:=fun nx' e=>by subst e;exact⟨by omega,hkn,hQ⟩
 clear hQ hkn;obtain⟨LA,hLA⟩:∃b,Axw c.key (cs.drop (q+1)) true=b:=⟨_,rfl⟩;obtain⟨WA,hWA⟩:∃v,Aw3 c.key p.rev p.keys Akw=v:=⟨_,rfl⟩;unfold At0 at Atc;rw[hLA,hWA]at Atc;obtain⟨ck,cv,cg⟩:=c;dsimp only at hLA hWA Atc;repeat'((conv=>whnf);first|((with_reducible refine Ax (by(with_reducible exact Ai (by assumption))) (fun hb=>?_));(try rw[hb]);(try simp only[Aa]at hb))|((with_reducible refine Ac ?_ ?_);focus (and_intros<;>(with_reducible rfl)))|(with_reducible intro Cq)|((try dsimp only);rw[hwq]))
 all_goals(try(conv=>whnf))
 refine Afm.by (X:=Nat × Bool) (fun y=>[(14,.v (ti (y.1:Int))),(13,.v (.bool y.2))]) (fun y=>(q+1≤y.1∧y.1≤cs.length)∧Axw ck (cs.drop y.1) y.2=LA) (fun y=>cs.length - y.1) (q+1,true) (by kernel_rfl) ⟨⟨Bz _,by omega⟩,hLA⟩ ?_
 rintro⟨k,b⟩ ⟨⟨hk0,hk⟩,hK⟩;dsimp only at hk0 hk hK ⊢;have hwk:IntKind.i64.wrap ((k:Int)+1)=((k+1:Nat):Int):=(Bf (by omega)).trans (by omega)
 by_cases Bic:k<cs.length
 ·obtain⟨e,hke⟩:∃c,cs[k]?=some c:=⟨_,Ae Bic⟩;have h7:¬decide ((k:Int)<(cs.length:Int))=false:=by simp;omega
  have h8:¬decide ((k:Int)<((cs.map Ef.Bx).length:Int))=false:=by simp;omega
  have hdk:cs.drop k=e::cs.drop (k+1):=by rw[Cc Bic];rw[Ae Bic]at hke;cases hke;rfl
  rw[hdk]at hK;simp only[Axw]at hK;obtain⟨ek,ev,eg⟩:=e;dsimp only at hK;cases b with
  |true=>
   repeat'((conv=>whnf);first|((with_reducible refine Ax (by first|(with_reducible exact Ai (by assumption))|(with_reducible rfl)) (fun hb=>?_));(try rw[hb]);(try simp only[Aa]at hb))|((with_reducible refine Ac ?_ ?_);focus (and_intros<;>first|omega|(with_reducible rfl)|kernel_rfl))|(with_reducible intro Cq)|((with_reducible refine Ai2.mkV ?_ ?_ ?_ (fun Cq=>?_));(focus (as_aux_lemma=>kernel_rfl));(focus (as_aux_lemma=>kernel_rfl));(focus (as_aux_lemma=>kernel_rfl));(try simp only[Bv,Bg,Dg,or_false,false_or,or_assoc,forall_eq_or_imp,forall_eq,false_implies,implies_true,forall_const,and_true,true_and]at Cq))|((try dsimp only);(rw[B6 hke]))|((try dsimp only);(rw[B6 hc]))|((try dsimp only);rw[hwk]))
   all_goals(try(conv=>whnf))
   refine Round.by (k+1,true&& !decide (ek=ck)) ?_ ⟨⟨by omega,by omega⟩,hK⟩ (by dsimp only;omega)
   try dsimp only
   show norm _ _=upd _ _
   kernel_rfl
  |false=>
   repeat'((conv=>whnf);first|((with_reducible refine Ax (by(with_reducible exact Ai (by assumption))) (fun hb=>?_));(try rw[hb]);(try simp only[Aa]at hb))|((with_reducible refine Aw (by first|(with_reducible exact Ak (by assumption))|(with_reducible rfl)) (fun hb=>?_));(try rw[hb]);(try simp only[Aa]at hb))|((with_reducible refine Ac ?_ ?_);focus (and_intros<;>(with_reducible rfl)))|(with_reducible intro Cq)|((with_reducible refine Ai2.mkV ?_ ?_ ?_ (fun Cq=>?_));(focus (as_aux_lemma=>kernel_rfl));(focus (as_aux_lemma=>kernel_rfl));(focus (as_aux_lemma=>kernel_rfl));(try simp only[Bv,Bg,Dg,or_false,false_or,or_assoc,forall_eq_or_imp,forall_eq,false_implies,implies_true,forall_const,and_true,true_and]at Cq))|(skip;rw[hwk]))
   all_goals(try(conv=>whnf))
   refine Round.by (k+1,false&& !decide (ek=ck)) ?_ ⟨⟨by omega,by omega⟩,hK⟩ (by dsimp only;omega)
   try dsimp only
   show norm _ _=upd _ _
   kernel_rfl
 have h7:¬decide ((k:Int)<(cs.length:Int))=true:=by simp;omega
 have h8:¬decide ((k:Int)<((cs.map Ef.Bx).length:Int))=true:=by simp;omega
 rw[Db (by omega)]at hK
 have hK:b=LA:=hK;subst hK;repeat'((conv=>whnf);first|((with_reducible refine Aw (by(with_reducible exact Ak (by assumption))) (fun hb=>?_));(try rw[hb]);(try simp only[Aa]at hb))|((with_reducible refine Ac ?_ ?_);focus (and_intros<;>first|omega|(with_reducible rfl)|kernel_rfl))|(with_reducible intro Cq))
 all_goals(try(conv=>whnf))
 obtain⟨pn,pr,pf,pk⟩:=p;dsimp only at hkl A26 hWA Atc;have hpk:(pk.map Kv.Bx).length=pk.length:=Bh _;have Bze:=hkl.1;refine Afm.by (X:=Nat × Fk) (fun y=>[(16,.v (ti (y.1:Int))),(15,.box (T.one (F.i y.2.Bx)))]) (fun y=>y.1≤pk.length∧Aw3 ck pr (pk.drop y.1) y.2=WA) (fun y=>pk.length - y.1) (0,Akw) (by kernel_rfl) ⟨Cr _,hWA⟩ ?_
 rintro⟨m,w⟩ ⟨hm,hM⟩;dsimp only at hm hM ⊢;have hwm:IntKind.i64.wrap ((m:Int)+1)=((m+1:Nat):Int):=(Bf (by omega)).trans (by omega)
 by_cases hml:m<pk.length
 ·obtain⟨h,hmh⟩:∃c,pk[m]?=some c:=⟨_,Ae hml⟩;have h9:¬decide ((m:Int)<(pk.length:Int))=false:=by simp;omega
  have h10:¬decide ((m:Int)<((pk.map Kv.Bx).length:Int))=false:=by simp;omega
  have hdm:pk.drop m=h::pk.drop (m+1):=by rw[Cc hml];rw[Ae hml]at hmh;cases hmh;rfl
  rw[hdm]at hM;simp only[Aw3]at hM;have hat:=Bdu h.vs pr (by have:=hkl.2 h (Cb hmh);omega)
  obtain⟨hk',hv'⟩:=h;dsimp only at hM hat;by_cases hkk:hk'=ck
  ·rw[if_pos hkk]at hM;have e1:¬decide (hk'=ck)=false:=by simpa using hkk
   generalize Aps pr hv' Akw=u at hat hM;repeat'((conv=>whnf);first|((with_reducible refine Ax (by(with_reducible exact Ai (by assumption))) (fun hb=>?_));(try rw[hb]);(try simp only[Aa]at hb);(try subst hb))|((with_reducible refine Ac ?_ ?_);focus (and_intros<;>first|omega|(with_reducible rfl)|kernel_rfl|(intro _ hh;cases hh;done)|(simp;done)|decide))|(with_reducible intro Cq)|((with_reducible refine Ai2.mkV ?_ ?_ ?_ (fun Cq=>?_));(focus (as_aux_lemma=>kernel_rfl));(focus (as_aux_lemma=>kernel_rfl));(focus (as_aux_lemma=>kernel_rfl));(try simp only[Bv,Bg,Dg,or_false,false_or,or_assoc,forall_eq_or_imp,forall_eq,false_implies,implies_true,forall_const,and_true,true_and]at Cq))|((try dsimp only);(rw[B6 hmh]))|((try dsimp only);(rw[B6 hc]))|((with_reducible refine Aq3.mk ?_);refine⟨_,_,hat,?_⟩)|((try dsimp only);rw[hwm]))
   all_goals(try(conv=>whnf))
   refine Round.by (m+1,u) ?_ ⟨by omega,hM⟩ (by dsimp only;omega)
   try dsimp only
   show norm _ _=upd _ _
   kernel_rfl
  ·rw[if_neg hkk]at hM;have e1:¬decide (hk'=ck)=true:=by simpa using hkk
   repeat'((conv=>whnf);first|((with_reducible refine Ax (by(with_reducible exact Ai (by assumption))) (fun hb=>?_));(try rw[hb]);(try simp only[Aa]at hb))|((with_reducible refine Aw (by(with_reducible exact Ak (by assumption))) (fun hb=>?_));(try rw[hb]);(try simp only[Aa]at hb))|((with_reducible refine Ac ?_ ?_);focus (and_intros<;>first|omega|(with_reducible rfl)|kernel_rfl|(simp;done)))|(with_reducible intro Cq)|((with_reducible refine Ai2.mkV ?_ ?_ ?_ (fun Cq=>?_));(focus (as_aux_lemma=>kernel_rfl));(focus (as_aux_lemma=>kernel_rfl));(focus (as_aux_lemma=>kernel_rfl));(try simp only[Bv,Bg,Dg,or_false,false_or,or_assoc,forall_eq_or_imp,forall_eq,false_implies,implies_true,forall_const,and_true,true_and]at Cq))|((try dsimp only);(rw[B6 hmh]))|((try dsimp only);(rw[B6 hc]))|((try dsimp only);rw[hwm]))
   all_goals(try(conv=>whnf))
   refine Round.by (m+1,w) ?_ ⟨by omega,hM⟩ (by dsimp only;omega)
   try dsimp only
   show norm _ _=upd _ _
   kernel_rfl
 have h9:¬decide ((m:Int)<(pk.length:Int))=true:=by simp;omega
 have h10:¬decide ((m:Int)<((pk.map Kv.Bx).length:Int))=true:=by simp;omega
 rw[Db (by omega)]at hM
 have hM:w=WA:=hM;subst hM;obtain⟨wr,wm,wv,wg⟩:=w;have hpr:IntKind.i64.wrap (pr+1)=pr+1:=Bf (by omega)
 have Aof:=fun v=>Bfj nx ck v (by have:=hkq.1;omega) (fun h hh=>by have:=hkq.2 h hh;omega)
 dsimp only at Atc;obtain⟨nn,nr,nf,nk⟩:=nx;dsimp only at Aof Atc;cases b with
 |false=>
  repeat'((conv=>whnf);first|((with_reducible refine Ax (by first|(with_reducible exact Ai (by assumption))|(with_reducible rfl)) (fun hb=>?_));(try rw[hb]);(try simp only[Aa]at hb))|((with_reducible refine Aw (by first|(with_reducible assumption)|(with_reducible exact Ak (by assumption))) (fun hb=>?_));(try rw[hb]);(try simp only[Aa]at hb))|((with_reducible refine A5 (fun hb=>?_) (fun hb=>?_))<;>first|(exact absurd hb (by decide))|((try rw[hb]);(try simp only[Aa]at hb)))|((with_reducible refine Ac ?_ ?_);focus (and_intros<;>first|omega|(with_reducible rfl)|kernel_rfl|(simp;done)))|(with_reducible intro Cq)|((try dsimp only);rw[hwq]))
  all_goals(try(conv=>whnf))
  refine Round.by (q+1,⟨nn,nr,nf,nk⟩) ?_ (Atc _ (by rw[if_pos (.inl rfl)])) (by dsimp only;omega)
  try dsimp only
  show norm _ _=upd _ _
  kernel_rfl
 |true=>
  cases cg with
  |true=>
   cases wg with
   |true=>
    repeat'((conv=>whnf);first|((with_reducible refine Ax (by first|(with_reducible assumption)|(with_reducible rfl)) (fun hb=>?_));(try rw[hb]);(try simp only[Aa]at hb))|((with_reducible refine Aw (by first|(with_reducible exact Ak (by assumption))|(with_reducible rfl)) (fun hb=>?_));(try rw[hb]);(try simp only[Aa]at hb))|((with_reducible refine A5 (fun hb=>?_) (fun hb=>?_))<;>first|(exact absurd hb (by decide))|((try rw[hb]);(try simp only[Aa]at hb)))|((with_reducible refine Ac ?_ ?_);focus (and_intros<;>first|omega|(with_reducible rfl)|kernel_rfl|(simp;done)))|(with_reducible intro Cq)|((try dsimp only);(rw[B6 hc]))|(skip;rw[hwq]))
    all_goals(try(conv=>whnf))
    refine Round.by (q+1,⟨nn,nr,nf,nk⟩) ?_ (Atc _ (by rw[if_pos (.inr ⟨rfl,rfl⟩)])) (by dsimp only;omega)
    try dsimp only
    show norm _ _=upd _ _
    kernel_rfl
   |false=>
    have Aof:=Aof ⟨pr+1,0,[],true⟩;repeat'((conv=>whnf);first|((with_reducible refine Ax (by first|(with_reducible assumption)|(with_reducible rfl)) (fun hb=>?_));(try rw[hb]);(try simp only[Aa]at hb))|((with_reducible refine Aw (by first|(with_reducible exact Ak (by assumption))|(with_reducible rfl)) (fun hb=>?_));(try rw[hb]);(try simp only[Aa]at hb))|((with_reducible refine A5 (fun hb=>?_) (fun hb=>?_))<;>first|(exact absurd hb (by decide))|((try rw[hb]);(try simp only[Aa]at hb)))|((with_reducible refine Ac ?_ ?_);focus (and_intros<;>first|omega|(with_reducible rfl)|kernel_rfl|(intro _ hh;cases hh;done)|(simp;done)|decide))|(with_reducible intro Cq)|((with_reducible refine Ai2.mkV ?_ ?_ ?_ (fun Cq=>?_));(focus (as_aux_lemma=>kernel_rfl));(focus (as_aux_lemma=>kernel_rfl));(focus (as_aux_lemma=>kernel_rfl));(try simp only[Bv,Bg,Dg,or_false,false_or,or_assoc,forall_eq_or_imp,forall_eq,false_implies,implies_true,forall_const,and_true,true_and]at Cq))|((try dsimp only);(rw[B6 hc]))|((with_reducible refine Aq3.mk ?_);refine⟨_,_,Aof,?_⟩)|((try dsimp only);rw[hpr])|(skip;rw[hwq]))
    all_goals(try(conv=>whnf))
    refine Round.by (q+1,⟨nn,pr+1,nf,Ate ck ⟨pr+1,0,[],true⟩ nk [] false⟩) ?_ (Atc _ (by rw[if_neg (by simp)];simp[Az6])) (by dsimp only;omega)
    try dsimp only
    show norm _ _=upd _ _
    kernel_rfl
  |false=>
   cases wg with
   |true=>
    have Aof:=Aof ⟨pr+1,pr+1,cv,false⟩;repeat'((conv=>whnf);first|((with_reducible refine Aw (by first|(with_reducible exact Ak (by assumption))|(with_reducible rfl)) (fun hb=>?_));(try rw[hb]);(try simp only[Aa]at hb))|((with_reducible refine A5 (fun hb=>?_) (fun hb=>?_))<;>first|(exact absurd hb (by decide))|((try rw[hb]);(try simp only[Aa]at hb)))|((with_reducible refine Ac ?_ ?_);focus (and_intros<;>first|omega|(with_reducible rfl)|kernel_rfl|(intro _ hh;cases hh;done)|(simp;done)|decide))|(with_reducible intro Cq)|((with_reducible refine Ai2.mkV ?_ ?_ ?_ (fun Cq=>?_));(focus (as_aux_lemma=>kernel_rfl));(focus (as_aux_lemma=>kernel_rfl));(focus (as_aux_lemma=>kernel_rfl));(try simp only[Bv,Bg,Dg,or_false,false_or,or_assoc,forall_eq_or_imp,forall_eq,false_implies,implies_true,forall_const,and_true,true_and]at Cq))|((try dsimp only);(rw[B6 hc]))|((with_reducible refine Aq3.mk ?_);refine⟨_,_,Aof,?_⟩)|((try dsimp only);rw[hpr])|(skip;rw[hwq]))
    all_goals(try(conv=>whnf))
    refine Round.by (q+1,⟨nn,pr+1,nf,Ate ck ⟨pr+1,pr+1,cv,false⟩ nk [] false⟩) ?_ (Atc _ (by rw[if_neg (by simp)];simp[Az6])) (by dsimp only;omega)
    try dsimp only
    show norm _ _=upd _ _
    kernel_rfl
   |false=>
    have Aof:=Aof ⟨pr+1,wm,cv,false⟩;repeat'((conv=>whnf);first|((with_reducible refine Aw (by first|(with_reducible exact Ak (by assumption))|(with_reducible rfl)) (fun hb=>?_));(try rw[hb]);(try simp only[Aa]at hb))|((with_reducible refine A5 (fun hb=>?_) (fun hb=>?_))<;>first|(exact absurd hb (by decide))|((try rw[hb]);(try simp only[Aa]at hb)))|((with_reducible refine Ac ?_ ?_);focus (and_intros<;>first|omega|(with_reducible rfl)|kernel_rfl|(intro _ hh;cases hh;done)|(simp;done)|decide))|(with_reducible intro Cq)|((with_reducible refine Ai2.mkV ?_ ?_ ?_ (fun Cq=>?_));(focus (as_aux_lemma=>kernel_rfl));(focus (as_aux_lemma=>kernel_rfl));(focus (as_aux_lemma=>kernel_rfl));(try simp only[Bv,Bg,Dg,or_false,false_or,or_assoc,forall_eq_or_imp,forall_eq,false_implies,implies_true,forall_const,and_true,true_and]at Cq))|((try dsimp only);(rw[B6 hc]))|((with_reducible refine Aq3.mk ?_);refine⟨_,_,Aof,?_⟩)|((try dsimp only);rw[hpr])|(skip;rw[hwq]))
    all_goals(try(conv=>whnf))
    refine Round.by (q+1,⟨nn,pr+1,nf,Ate ck ⟨pr+1,wm,cv,false⟩ nk [] false⟩) ?_ (Atc _ (by rw[if_neg (by simp)];simp[Az6])) (by dsimp only;omega)
    try dsimp only
    show norm _ _=upd _ _
    kernel_rfl
end Go.Ab
