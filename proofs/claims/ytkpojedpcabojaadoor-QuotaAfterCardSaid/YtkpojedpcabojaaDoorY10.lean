/- Lemmas -/
import Derived.Test.YtkpojedpcabojaaDoorY6
set_option linter.unusedVariables false
set_option linter.unusedSimpArgs false
set_option maxRecDepth 100000
set_option maxHeartbeats 40000000
namespace Go.Ab
open Go.Proofs
def Acj:List Chg→Bool
 | []=>true
 |c::r=>if c.ok then Acj r else false
def Aba(key:Az):List Chg→Bool→Bool
 | [],b=>b
 |c::r,b=>Aba key r (b&& !decide (c.key=key))
def Z9(key:Az)(rev:Int):List Kv→Ver→Ver
 | [],v=>v
 |h::r,v=>Z9 key rev r (if h.key=key then Bx rev h.vs Aj else v)
def Acm(p:Spc)(c:Chg)(was:Ver):Ver:=if c.gone=true then⟨p.rev+1,0,[],true⟩else⟨p.rev+1,if was.gone=true then p.rev+1 else was.made,c.val,false⟩
def Xd(p:Spc)(c:Chg)(r:List Chg)(nx:Spc):Spc:=
 if Aba c.key r true=false∨(c.gone=true∧(Z9 c.key p.rev p.keys Aj).gone=true)then nx
 else⟨nx.name,p.rev+1,nx.floor,N2 c.key (Acm p c (Z9 c.key p.rev p.keys Aj)) nx.keys [] false⟩
def rwGo(p:Spc):List Chg→Spc→Spc
 | [],nx=>nx
 |c::r,nx=>rwGo p r (Xd p c r nx)
def KL(m:Nat)(ks:List Kv):Prop:=ks.length≤m∧∀h∈ks,h.vs.length≤m
theorem Agq{key:Az}{v:Ver}{m:Nat}(hm:1≤m):∀{r out:List Kv} {d:Bool},(∀h∈r,h.vs.length+1≤m)→(∀h∈out,h.vs.length≤m)→
 (N2 key v r out d).length≤out.length+r.length+(if d=true then 0 else 1)∧∀h∈N2 key v r out d,h.vs.length≤m
 | [],out,d,_,ho=>by
   unfold N2;split
   ·rename_i hd;subst hd;exact⟨by simp,ho⟩
   ·rename_i hd;refine⟨by simp[hd],fun h hh=>?_⟩
    rcases List.mem_append.1 hh with hh|hh
    ·exact ho h hh
    ·simp only[List.mem_singleton]at hh;subst hh;simpa using hm
 |h::r,out,d,hr,ho=>by
  have h1:=hr h (List.mem_cons_self ..);have hr':=fun x hx=>hr x (List.mem_cons_of_mem _ hx)
  have ho':∀(c:Prop) [Decidable c],∀x∈(if c then out++[⟨key,[v]⟩]else out),x.vs.length≤m:=by
   intro c _ x hx;split at hx
   ·rcases List.mem_append.1 hx with hx|hx
    ·exact ho x hx
    ·simp only[List.mem_singleton]at hx;subst hx;simpa using hm
   ·exact ho x hx
  have hsn:∀(c:Prop) [Decidable c] (y:Kv),y.vs.length≤m→∀x∈(if c then out++[⟨key,[v]⟩]else out)++[y],x.vs.length≤m:=by
   intro c _ y hy x hx;rcases List.mem_append.1 hx with hx|hx
   ·exact ho' c x hx
   ·simp only[List.mem_singleton]at hx;subst hx;exact hy
  unfold N2;split
  ·rename_i hk;have hnl:¬(d=false∧key<h.key):=fun c=>by rw[hk]at c;exact absurd c.2 (List.lt_irrefl _)
   obtain⟨i1,i2⟩:=Agq (key:=key) (v:=v) hm (r:=r) (out:=(if d=false∧key<h.key then out++[⟨key,[v]⟩]else out)++[⟨h.key,h.vs++[v]⟩]) (d:=true) hr' (hsn _ _ (by simp;omega))
   refine⟨?_,i2⟩;rw[if_neg hnl]at i1 ⊢;simp only[List.length_append,List.length_cons,List.length_nil,if_true]at i1 ⊢;split<;>omega
  ·obtain⟨i1,i2⟩:=Agq (key:=key) (v:=v) hm (r:=r) (out:=(if d=false∧key<h.key then out++[⟨key,[v]⟩]else out)++[h]) (d:=if d=false∧key<h.key then true else d) hr' (hsn _ _ (by omega))
   refine⟨?_,i2⟩;by_cases hc:d=false∧key<h.key
   ·rw[if_pos hc,if_pos hc]at i1;rw[if_pos hc,if_pos hc,hc.1];simp only[List.length_append,List.length_cons,List.length_nil,if_true,Bool.false_eq_true,if_false]at i1 ⊢;omega
   ·rw[if_neg hc,if_neg hc]at i1;rw[if_neg hc,if_neg hc];simp only[List.length_append,List.length_cons,List.length_nil]at i1 ⊢;omega
theorem Amm{m:Nat}{p nx:Spc}{c:Chg}{r:List Chg}(h:KL m nx.keys):KL (m+1) (Xd p c r nx).keys:=by
 unfold Xd;split
 ·exact⟨by have:=h.1;omega,fun x hx=>by have:=h.2 x hx;omega⟩
 ·obtain⟨i1,i2⟩:=Agq (key:=c.key) (v:=Acm p c (Z9 c.key p.rev p.keys Aj)) (m:=m+1) (by omega) (r:=nx.keys) (out:=[]) (d:=false) (fun x hx=>by have:=h.2 x hx;omega) (by intro x hx;cases hx)
  refine⟨?_,i2⟩;simp only[List.length_nil,Bool.false_eq_true,if_false]at i1;have:=h.1;dsimp only;omega
theorem Akm(R:List Spc)(n:Az)(cs:List I)(hl:R.length≤100000)(hf:Ev n R 0= -1):
 Fn Tryd.prog Du [rT R,.v (.str n),.v (.list cs)] (Is (.tup [.i (ti 0),.i (ti 16)]) [rT R,.no,.no]):=by
 refine Jd ?_ (by simp)
 have hfi:=Z3 R n hl;rw[hf]at hfi;repeat'((conv=>whnf);first|((with_reducible refine Ax (by first|((with_reducible refine decide_eq_true ?_);omega)|(with_reducible rfl)) (fun hb=>?_));(try rw[hb]);(try simp only[Aa]at hb))|((with_reducible refine Exists.intro ?_ ?_);focus (and_intros<;>first|kernel_rfl|(intro _ hh;cases hh;done)|(simp;done)|decide))|((with_reducible refine CallWp.mk ?_);refine⟨_,hfi,?_⟩;rintro _ _ ⟨rfl,rfl⟩))
 all_goals(try(conv=>whnf))
 (apply dKq<;>kernel_rfl)
theorem Ak2(R:List Spc)(n:Az)(cs:List Chg)(hl:R.length≤100000)(hcs:cs.length≤1000)(i:Nat)(p:Spc)(hf:Ev n R 0=(i:Int))(he:R[i]?=some p)(RES:Bool)(hRES0:RES=false)(hRES:Acj cs=RES):
 Fn Tryd.prog Du [rT R,.v (.str n),.v (.list (cs.map Chg.toI))] (Is (.tup [.i (ti 0),.i (ti 1)]) [rT R,.no,.no]):=by
 refine Jd ?_ (by simp)
 have hfi:=Z3 R n hl;rw[hf]at hfi;have hil:=(List.getElem?_eq_some_iff.1 he).1;have hlm:((R.map Spc.toI).map D.it).length=R.length:=by simp
 have hcl:(cs.map Chg.toI).length=cs.length:=List.length_map _;repeat'((conv=>whnf);first|((with_reducible refine Aw (by first|(with_reducible assumption)|((with_reducible refine decide_eq_false ?_);omega)) (fun hb=>?_));(try rw[hb]);(try simp only[Aa]at hb))|((with_reducible refine Exists.intro ?_ ?_);focus (and_intros<;>first|kernel_rfl|(intro _ hh;cases hh;done)|(simp;done)|decide))|((with_reducible refine CallWp.mk ?_);refine⟨_,hfi,?_⟩;rintro _ _ ⟨rfl,rfl⟩))
 all_goals(try(conv=>whnf))
 refine LoopWq.by (X:=Nat) (fun j=>[(9,.v (ti (j:Int)))]) (fun j=>j≤cs.length∧Acj (cs.drop j)=RES) (fun j=>cs.length - j) 0 (by kernel_rfl) ⟨Nat.zero_le _,hRES⟩ ?_
 rintro j ⟨hj,hR⟩
 (try dsimp only at hj hR ⊢)
 have hw:IntKind.i64.wrap ((j:Int)+1)=((j+1:Nat):Int):=(Bf (by omega)).trans (by omega)
 by_cases hjl:j<cs.length
 case neg=>
  rw[List.drop_eq_nil_of_le (by omega)]at hR
  rw[←hR]at hRES0;cases hRES0
 obtain⟨c,hc⟩:∃c,cs[j]?=some c:=⟨_,List.getElem?_eq_getElem hjl⟩;have h3:¬decide ((j:Int)<(cs.length:Int))=false:=by simp;omega
 have h4:¬decide ((j:Int)<((cs.map Chg.toI).length:Int))=false:=by simp;omega
 have hdr:cs.drop j=c::cs.drop (j+1):=by rw[List.drop_eq_getElem_cons hjl];rw[List.getElem?_eq_getElem hjl]at hc;cases hc;rfl
 rw[hdr]at hR;simp only[Acj]at hR;obtain⟨ck,cv,cg⟩:=c;by_cases hok:(Chg.mk ck cv cg).ok
 ·rw[if_pos hok]at hR;obtain⟨hk1,hk2⟩:=hok;dsimp only at hk1 hk2;cases cg with
  |true=>
   repeat'((conv=>whnf);first|((with_reducible refine Ax (by(with_reducible exact Bool.of_not_eq_false (by assumption))) (fun hb=>?_));(try rw[hb]);(try simp only[Aa]at hb))|((with_reducible refine Aw (by first|(with_reducible assumption)|(with_reducible rfl)) (fun hb=>?_));(try rw[hb]);(try simp only[Aa]at hb))|((with_reducible refine And.intro (fun hb=>?_) (fun hb=>?_))<;>first|(exfalso;((simp only[Bu]at hb<;>omega)))|((try rw[hb]);(try simp only[Aa]at hb)))|((with_reducible refine Exists.intro ?_ ?_);focus (and_intros<;>first|omega|(with_reducible rfl)|kernel_rfl))|(with_reducible intro hfact)|((try dsimp only);(rw[B6 hc]))|((try dsimp only);rw[hw]))
   all_goals(try(conv=>whnf))
   refine Round.by (j+1) ?_ ⟨by omega,hR⟩ (by omega)
   try dsimp only
   show norm _ _=upd _ _
   kernel_rfl
  |false=>
   have hk2:cv.length≤256:=by simpa using hk2
   repeat'((conv=>whnf);first|((with_reducible refine Ax (by first|(with_reducible exact Bool.of_not_eq_false (by assumption))|(with_reducible rfl)) (fun hb=>?_));(try rw[hb]);(try simp only[Aa]at hb))|((with_reducible refine Aw (by first|(with_reducible assumption)|(with_reducible rfl)) (fun hb=>?_));(try rw[hb]);(try simp only[Aa]at hb))|((with_reducible refine And.intro (fun hb=>?_) (fun hb=>?_))<;>first|(exfalso;((simp only[Bu]at hb<;>omega)))|((try rw[hb]);(try simp only[Aa]at hb)))|((with_reducible refine Exists.intro ?_ ?_);focus (and_intros<;>first|omega|(with_reducible rfl)|kernel_rfl))|(with_reducible intro hfact)|((try dsimp only);(rw[B6 hc]))|((try dsimp only);rw[hw]))
   all_goals(try(conv=>whnf))
   refine Round.by (j+1) ?_ ⟨by omega,hR⟩ (by omega)
   try dsimp only
   show norm _ _=upd _ _
   kernel_rfl
 ·by_cases hk:1≤ck.length∧ck.length≤64
  ·cases cg with
   |true=>exact absurd ⟨hk,.inl rfl⟩ hok
   |false=>
    have hv:¬cv.length≤256:=fun h=>hok ⟨hk,.inr h⟩
    repeat'((conv=>whnf);first|((with_reducible refine Ax (by first|(with_reducible exact Bool.of_not_eq_false (by assumption))|(with_reducible rfl)) (fun hb=>?_));(try rw[hb]);(try simp only[Aa]at hb))|((with_reducible refine Aw (by first|(with_reducible assumption)|(with_reducible rfl)) (fun hb=>?_));(try rw[hb]);(try simp only[Aa]at hb))|((with_reducible refine And.intro (fun hb=>?_) (fun hb=>?_))<;>first|(exfalso;((simp only[Bu]at hb<;>omega)))|((try rw[hb]);(try simp only[Aa]at hb)))|((with_reducible refine Exists.intro ?_ ?_);focus (and_intros<;>first|omega|(with_reducible rfl)|kernel_rfl))|(with_reducible intro hfact)|((try dsimp only);(rw[B6 hc])))
    all_goals(try(conv=>whnf))
    all_goals((apply dKq<;>kernel_rfl))
  ·cases cg with
   |true=>
    repeat'((conv=>whnf);first|((with_reducible refine Ax (by first|(with_reducible exact Bool.of_not_eq_false (by assumption))|(with_reducible rfl)) (fun hb=>?_));(try rw[hb]);(try simp only[Aa]at hb))|((with_reducible refine Aw (by first|(with_reducible assumption)|(with_reducible rfl)) (fun hb=>?_));(try rw[hb]);(try simp only[Aa]at hb))|((with_reducible refine And.intro (fun hb=>?_) (fun hb=>?_))<;>first|(exfalso;((simp only[Bu]at hb<;>omega)))|((try rw[hb]);(try simp only[Aa]at hb)))|((with_reducible refine Exists.intro ?_ ?_);focus (and_intros<;>first|omega|(with_reducible rfl)|kernel_rfl))|(with_reducible intro hfact)|((try dsimp only);(rw[B6 hc])))
    all_goals(try(conv=>whnf))
    all_goals((apply dKq<;>kernel_rfl))
   |false=>
    repeat'((conv=>whnf);first|((with_reducible refine Ax (by first|(with_reducible exact Bool.of_not_eq_false (by assumption))|(with_reducible rfl)) (fun hb=>?_));(try rw[hb]);(try simp only[Aa]at hb))|((with_reducible refine Aw (by first|(with_reducible assumption)|(with_reducible rfl)) (fun hb=>?_));(try rw[hb]);(try simp only[Aa]at hb))|((with_reducible refine And.intro (fun hb=>?_) (fun hb=>?_))<;>first|(exfalso;((simp only[Bu]at hb<;>omega)))|((try rw[hb]);(try simp only[Aa]at hb)))|((with_reducible refine Exists.intro ?_ ?_);focus (and_intros<;>first|omega|(with_reducible rfl)|kernel_rfl))|(with_reducible intro hfact)|((try dsimp only);(rw[B6 hc])))
    all_goals(try(conv=>whnf))
    all_goals((apply dKq<;>kernel_rfl))

open Go.Proofs
theorem Amn(R:List Spc)(n:Az)(cs:List Chg)(hl:R.length≤100000)(hcs:cs.length≤1000)(i:Nat)(p:Spc)(hf:Ev n R 0=(i:Int))(he:R[i]?=some p)(hkl:KL 90000 p.keys)(hrev:0≤p.rev∧p.rev≤1000000000000)(RES:Bool)(hRES0:RES=true)(hRES:Acj cs=RES)(Z:Spc)(hZ:rwGo p cs p=Z):
 Fn Tryd.prog Du [rT R,.v (.str n),.v (.list (cs.map Chg.toI))] (Is (.tup [.i (ti Z.rev),.i (ti 0)]) [rT (R.set i Z),.no,.no]):=by
 refine Jd ?_ (by simp)
 have hfi:=Z3 R n hl;rw[hf]at hfi;have hil:=(List.getElem?_eq_some_iff.1 he).1;have hlm:((R.map Spc.toI).map D.it).length=R.length:=by simp
 have hcl:(cs.map Chg.toI).length=cs.length:=List.length_map _;repeat'((conv=>whnf);first|((with_reducible refine Aw (by first|((with_reducible refine decide_eq_false ?_);omega)|(with_reducible rfl)) (fun hb=>?_));(try rw[hb]);(try simp only[Aa]at hb))|((with_reducible refine Exists.intro ?_ ?_);focus (and_intros<;>first|kernel_rfl|(intro _ hh;cases hh;done)|(simp;done)|decide))|((with_reducible refine CallWp.mk ?_);refine⟨_,hfi,?_⟩;rintro _ _ ⟨rfl,rfl⟩))
 all_goals(try(conv=>whnf))
 refine LoopWq.by (X:=Nat) (fun j=>[(9,.v (ti (j:Int)))]) (fun j=>j≤cs.length∧Acj (cs.drop j)=RES) (fun j=>cs.length - j) 0 (by kernel_rfl) ⟨Nat.zero_le _,hRES⟩ ?_
 rintro j ⟨hj,hR⟩
 (try dsimp only at hj hR ⊢)
 have hw:IntKind.i64.wrap ((j:Int)+1)=((j+1:Nat):Int):=(Bf (by omega)).trans (by omega)
 by_cases hjl:j<cs.length
 ·skip
  obtain⟨c,hc⟩:∃c,cs[j]?=some c:=⟨_,List.getElem?_eq_getElem hjl⟩;have h3:¬decide ((j:Int)<(cs.length:Int))=false:=by simp;omega
  have h4:¬decide ((j:Int)<((cs.map Chg.toI).length:Int))=false:=by simp;omega
  have hdr:cs.drop j=c::cs.drop (j+1):=by rw[List.drop_eq_getElem_cons hjl];rw[List.getElem?_eq_getElem hjl]at hc;cases hc;rfl
  rw[hdr]at hR;simp only[Acj]at hR;obtain⟨ck,cv,cg⟩:=c;by_cases hok:(Chg.mk ck cv cg).ok
  case neg=>
   rw[if_neg hok]at hR;rw[←hR]at hRES0;cases hRES0
  rw[if_pos hok]at hR;obtain⟨hk1,hk2⟩:=hok;dsimp only at hk1 hk2;cases cg with
  |true=>
   repeat'((conv=>whnf);first|((with_reducible refine Ax (by first|(with_reducible assumption)|(with_reducible exact Bool.of_not_eq_false (by assumption))) (fun hb=>?_));(try rw[hb]);(try simp only[Aa]at hb))|((with_reducible refine Aw (by(with_reducible rfl)) (fun hb=>?_));(try rw[hb]);(try simp only[Aa]at hb))|((with_reducible refine And.intro (fun hb=>?_) (fun hb=>?_))<;>first|(exfalso;((simp only[Bu]at hb<;>omega)))|((try rw[hb]);(try simp only[Aa]at hb)))|((with_reducible refine Exists.intro ?_ ?_);focus (and_intros<;>first|omega|(with_reducible rfl)|kernel_rfl))|(with_reducible intro hfact)|((try dsimp only);(rw[B6 hc]))|((try dsimp only);rw[hw]))
   all_goals(try(conv=>whnf))
   refine Round.by (j+1) ?_ ⟨by omega,hR⟩ (by omega)
   try dsimp only
   show norm _ _=upd _ _
   kernel_rfl
  |false=>
   have hk2:cv.length≤256:=by simpa using hk2
   repeat'((conv=>whnf);first|((with_reducible refine Ax (by first|(with_reducible assumption)|(with_reducible exact Bool.of_not_eq_false (by assumption))|(with_reducible rfl)) (fun hb=>?_));(try rw[hb]);(try simp only[Aa]at hb))|((with_reducible refine Aw (by(with_reducible rfl)) (fun hb=>?_));(try rw[hb]);(try simp only[Aa]at hb))|((with_reducible refine And.intro (fun hb=>?_) (fun hb=>?_))<;>first|(exfalso;((simp only[Bu]at hb<;>omega)))|((try rw[hb]);(try simp only[Aa]at hb)))|((with_reducible refine Exists.intro ?_ ?_);focus (and_intros<;>first|omega|(with_reducible rfl)|kernel_rfl))|(with_reducible intro hfact)|((try dsimp only);(rw[B6 hc]))|((try dsimp only);rw[hw]))
   all_goals(try(conv=>whnf))
   refine Round.by (j+1) ?_ ⟨by omega,hR⟩ (by omega)
   try dsimp only
   show norm _ _=upd _ _
   kernel_rfl
 have h3:¬decide ((j:Int)<(cs.length:Int))=true:=by simp;omega
 have h4:¬decide ((j:Int)<((cs.map Chg.toI).length:Int))=true:=by simp;omega
 repeat'((conv=>whnf);first|((with_reducible refine Aw (by(with_reducible exact Bool.of_not_eq_true (by assumption))) (fun hb=>?_));(try rw[hb]);(try simp only[Aa]at hb))|((with_reducible refine Exists.intro ?_ ?_);focus (and_intros<;>first|omega|(with_reducible rfl)|kernel_rfl|(simp;done)))|(with_reducible intro hfact)|(((with_reducible apply A3));(focus rfl);(focus (simp only[D.at,D.put,D.kid,D.setKid,mkSt,Ap,D.toI,toIs,Ak,Af,he,hlm]<;>exact rfl));(try(focus exact rfl))))
 all_goals(try(conv=>whnf))
 clear hR hRES hRES0;refine LoopWq.by (X:=Nat × Spc) (fun y=>[(12,.v (ti (y.1:Int))),(11,.box (T.one (F.i y.2.toI)))]) (fun y=>y.1≤cs.length∧KL (90000+y.1) y.2.keys∧rwGo p (cs.drop y.1) y.2=Z) (fun y=>cs.length - y.1) (0,p) (by kernel_rfl) ⟨Nat.zero_le _,hkl,hZ⟩ ?_
 rintro⟨q,nx⟩ ⟨hq,hkq,hQ⟩;dsimp only at hq hkq hQ ⊢;have hwq:IntKind.i64.wrap ((q:Int)+1)=((q+1:Nat):Int):=(Bf (by omega)).trans (by omega)
 by_cases hql:q<cs.length
 case neg=>
  have h5:¬decide ((q:Int)<(cs.length:Int))=true:=by simp;omega
  have h6:¬decide ((q:Int)<((cs.map Chg.toI).length:Int))=true:=by simp;omega
  rw[List.drop_eq_nil_of_le (by omega)]at hQ
  have hQ:nx=Z:=hQ;subst hQ;obtain⟨nn,nr,nf,nk⟩:=nx;have hfin:rT (R.set i ⟨nn,nr,nf,nk⟩)= .own [] (.ptr (.st [.vec 50 4 (((R.map Spc.toI).map D.it).set i (.it (Spc.mk nn nr nf nk).toI))])):=by simp only[rT,List.map_set]
  rw[hfin];repeat'((conv=>whnf);first|((with_reducible refine Aw (by(with_reducible exact Bool.of_not_eq_true (by assumption))) (fun hb=>?_));(try rw[hb]);(try simp only[Aa]at hb))|((with_reducible refine Exists.intro ?_ ?_);focus (and_intros<;>first|omega|(with_reducible rfl)|kernel_rfl|(simp;done)))|(with_reducible intro hfact)|((with_reducible refine Drawn.mkV ?_ ?_ ?_ (fun hfact=>?_));(focus (as_aux_lemma=>kernel_rfl));(focus (as_aux_lemma=>kernel_rfl));(focus (as_aux_lemma=>kernel_rfl));(try simp only[dRS]at hfact))|(((with_reducible apply Ba));(focus (simp only[D.at,D.put,D.kid,D.setKid,mkSt,Ap,D.toI,toIs,Ak,Af,he,hlm]<;>exact rfl))))
  all_goals(try(conv=>whnf))
  (apply dKq<;>kernel_rfl)
 obtain⟨c,hc⟩:∃c,cs[q]?=some c:=⟨_,List.getElem?_eq_getElem hql⟩;have h5:¬decide ((q:Int)<(cs.length:Int))=false:=by simp;omega
 have h6:¬decide ((q:Int)<((cs.map Chg.toI).length:Int))=false:=by simp;omega
 have hdq:cs.drop q=c::cs.drop (q+1):=by rw[List.drop_eq_getElem_cons hql];rw[List.getElem?_eq_getElem hql]at hc;cases hc;rfl
 rw[hdq]at hQ;simp only[rwGo]at hQ;have hkn:KL (90000+(q+1)) (Xd p c (cs.drop (q+1)) nx).keys:=Amm hkq;have hnext:∀nx',nx'=Xd p c (cs.drop (q+1)) nx→q+1≤cs.length∧KL (90000+(q+1)) nx'.keys∧rwGo p (cs.drop (q+1)) nx'=Z:=fun nx' e=>by subst e;exact⟨by omega,hkn,hQ⟩
 clear hQ hkn;obtain⟨LA,hLA⟩:∃b,Aba c.key (cs.drop (q+1)) true=b:=⟨_,rfl⟩;obtain⟨WA,hWA⟩:∃v,Z9 c.key p.rev p.keys Aj=v:=⟨_,rfl⟩;unfold Xd at hnext;rw[hLA,hWA]at hnext;obtain⟨ck,cv,cg⟩:=c;dsimp only at hLA hWA hnext;repeat'((conv=>whnf);first|((with_reducible refine Ax (by(with_reducible exact Bool.of_not_eq_false (by assumption))) (fun hb=>?_));(try rw[hb]);(try simp only[Aa]at hb))|((with_reducible refine Exists.intro ?_ ?_);focus (and_intros<;>(with_reducible rfl)))|(with_reducible intro hfact)|((try dsimp only);rw[hwq]))
 all_goals(try(conv=>whnf))
 refine LoopWq.by (X:=Nat × Bool) (fun y=>[(14,.v (ti (y.1:Int))),(13,.v (.bool y.2))]) (fun y=>(q+1≤y.1∧y.1≤cs.length)∧Aba ck (cs.drop y.1) y.2=LA) (fun y=>cs.length - y.1) (q+1,true) (by kernel_rfl) ⟨⟨Nat.le_refl _,by omega⟩,hLA⟩ ?_
 rintro⟨k,b⟩ ⟨⟨hk0,hk⟩,hK⟩;dsimp only at hk0 hk hK ⊢;have hwk:IntKind.i64.wrap ((k:Int)+1)=((k+1:Nat):Int):=(Bf (by omega)).trans (by omega)
 by_cases hkl2:k<cs.length
 ·obtain⟨e,hke⟩:∃c,cs[k]?=some c:=⟨_,List.getElem?_eq_getElem hkl2⟩;have h7:¬decide ((k:Int)<(cs.length:Int))=false:=by simp;omega
  have h8:¬decide ((k:Int)<((cs.map Chg.toI).length:Int))=false:=by simp;omega
  have hdk:cs.drop k=e::cs.drop (k+1):=by rw[List.drop_eq_getElem_cons hkl2];rw[List.getElem?_eq_getElem hkl2]at hke;cases hke;rfl
  rw[hdk]at hK;simp only[Aba]at hK;obtain⟨ek,ev,eg⟩:=e;dsimp only at hK;cases b with
  |true=>
   repeat'((conv=>whnf);first|((with_reducible refine Ax (by first|(with_reducible exact Bool.of_not_eq_false (by assumption))|(with_reducible rfl)) (fun hb=>?_));(try rw[hb]);(try simp only[Aa]at hb))|((with_reducible refine Exists.intro ?_ ?_);focus (and_intros<;>first|omega|(with_reducible rfl)|kernel_rfl))|(with_reducible intro hfact)|((with_reducible refine Drawn.mkV ?_ ?_ ?_ (fun hfact=>?_));(focus (as_aux_lemma=>kernel_rfl));(focus (as_aux_lemma=>kernel_rfl));(focus (as_aux_lemma=>kernel_rfl));(try simp only[dRS]at hfact))|((try dsimp only);(rw[B6 hke]))|((try dsimp only);(rw[B6 hc]))|((try dsimp only);rw[hwk]))
   all_goals(try(conv=>whnf))
   refine Round.by (k+1,true&& !decide (ek=ck)) ?_ ⟨⟨by omega,by omega⟩,hK⟩ (by dsimp only;omega)
   try dsimp only
   show norm _ _=upd _ _
   kernel_rfl
  |false=>
   repeat'((conv=>whnf);first|((with_reducible refine Ax (by(with_reducible exact Bool.of_not_eq_false (by assumption))) (fun hb=>?_));(try rw[hb]);(try simp only[Aa]at hb))|((with_reducible refine Aw (by first|(with_reducible exact Bool.of_not_eq_true (by assumption))|(with_reducible rfl)) (fun hb=>?_));(try rw[hb]);(try simp only[Aa]at hb))|((with_reducible refine Exists.intro ?_ ?_);focus (and_intros<;>(with_reducible rfl)))|(with_reducible intro hfact)|((with_reducible refine Drawn.mkV ?_ ?_ ?_ (fun hfact=>?_));(focus (as_aux_lemma=>kernel_rfl));(focus (as_aux_lemma=>kernel_rfl));(focus (as_aux_lemma=>kernel_rfl));(try simp only[dRS]at hfact))|(skip;rw[hwk]))
   all_goals(try(conv=>whnf))
   refine Round.by (k+1,false&& !decide (ek=ck)) ?_ ⟨⟨by omega,by omega⟩,hK⟩ (by dsimp only;omega)
   try dsimp only
   show norm _ _=upd _ _
   kernel_rfl
 have h7:¬decide ((k:Int)<(cs.length:Int))=true:=by simp;omega
 have h8:¬decide ((k:Int)<((cs.map Chg.toI).length:Int))=true:=by simp;omega
 rw[List.drop_eq_nil_of_le (by omega)]at hK
 have hK:b=LA:=hK;subst hK;repeat'((conv=>whnf);first|((with_reducible refine Aw (by(with_reducible exact Bool.of_not_eq_true (by assumption))) (fun hb=>?_));(try rw[hb]);(try simp only[Aa]at hb))|((with_reducible refine Exists.intro ?_ ?_);focus (and_intros<;>first|omega|(with_reducible rfl)|kernel_rfl))|(with_reducible intro hfact))
 all_goals(try(conv=>whnf))
 obtain⟨pn,pr,pf,pk⟩:=p;dsimp only at hkl hrev hWA hnext;have hpk:(pk.map Kv.toI).length=pk.length:=List.length_map _;have hpkl:=hkl.1;refine LoopWq.by (X:=Nat × Ver) (fun y=>[(16,.v (ti (y.1:Int))),(15,.box (T.one (F.i y.2.toI)))]) (fun y=>y.1≤pk.length∧Z9 ck pr (pk.drop y.1) y.2=WA) (fun y=>pk.length - y.1) (0,Aj) (by kernel_rfl) ⟨Nat.zero_le _,hWA⟩ ?_
 rintro⟨m,w⟩ ⟨hm,hM⟩;dsimp only at hm hM ⊢;have hwm:IntKind.i64.wrap ((m:Int)+1)=((m+1:Nat):Int):=(Bf (by omega)).trans (by omega)
 by_cases hml:m<pk.length
 ·obtain⟨h,hmh⟩:∃c,pk[m]?=some c:=⟨_,List.getElem?_eq_getElem hml⟩;have h9:¬decide ((m:Int)<(pk.length:Int))=false:=by simp;omega
  have h10:¬decide ((m:Int)<((pk.map Kv.toI).length:Int))=false:=by simp;omega
  have hdm:pk.drop m=h::pk.drop (m+1):=by rw[List.drop_eq_getElem_cons hml];rw[List.getElem?_eq_getElem hml]at hmh;cases hmh;rfl
  rw[hdm]at hM;simp only[Z9]at hM;have hat:=Ak0 h.vs pr (by have:=hkl.2 h (List.mem_of_getElem? hmh);omega)
  obtain⟨hk',hv'⟩:=h;dsimp only at hM hat;by_cases hkk:hk'=ck
  ·rw[if_pos hkk]at hM;have e1:¬decide (hk'=ck)=false:=by simpa using hkk
   generalize Bx pr hv' Aj=u at hat hM;repeat'((conv=>whnf);first|((with_reducible refine Ax (by(with_reducible exact Bool.of_not_eq_false (by assumption))) (fun hb=>?_));(try rw[hb]);(try simp only[Aa]at hb);(try subst hb))|((with_reducible refine Exists.intro ?_ ?_);focus (and_intros<;>first|omega|(with_reducible rfl)|kernel_rfl|(intro _ hh;cases hh;done)|(simp;done)|decide))|(with_reducible intro hfact)|((with_reducible refine Drawn.mkV ?_ ?_ ?_ (fun hfact=>?_));(focus (as_aux_lemma=>kernel_rfl));(focus (as_aux_lemma=>kernel_rfl));(focus (as_aux_lemma=>kernel_rfl));(try simp only[dRS]at hfact))|((try dsimp only);(rw[B6 hmh]))|((try dsimp only);(rw[B6 hc]))|((with_reducible refine CallIs.mk ?_);refine⟨_,_,hat,?_⟩)|((try dsimp only);rw[hwm]))
   all_goals(try(conv=>whnf))
   refine Round.by (m+1,u) ?_ ⟨by omega,hM⟩ (by dsimp only;omega)
   try dsimp only
   show norm _ _=upd _ _
   kernel_rfl
  ·rw[if_neg hkk]at hM;have e1:¬decide (hk'=ck)=true:=by simpa using hkk
   repeat'((conv=>whnf);first|((with_reducible refine Ax (by(with_reducible exact Bool.of_not_eq_false (by assumption))) (fun hb=>?_));(try rw[hb]);(try simp only[Aa]at hb))|((with_reducible refine Aw (by(with_reducible exact Bool.of_not_eq_true (by assumption))) (fun hb=>?_));(try rw[hb]);(try simp only[Aa]at hb))|((with_reducible refine Exists.intro ?_ ?_);focus (and_intros<;>first|omega|(with_reducible rfl)|kernel_rfl|(simp;done)))|(with_reducible intro hfact)|((with_reducible refine Drawn.mkV ?_ ?_ ?_ (fun hfact=>?_));(focus (as_aux_lemma=>kernel_rfl));(focus (as_aux_lemma=>kernel_rfl));(focus (as_aux_lemma=>kernel_rfl));(try simp only[dRS]at hfact))|((try dsimp only);(rw[B6 hmh]))|((try dsimp only);(rw[B6 hc]))|((try dsimp only);rw[hwm]))
   all_goals(try(conv=>whnf))
   refine Round.by (m+1,w) ?_ ⟨by omega,hM⟩ (by dsimp only;omega)
   try dsimp only
   show norm _ _=upd _ _
   kernel_rfl
 have h9:¬decide ((m:Int)<(pk.length:Int))=true:=by simp;omega
 have h10:¬decide ((m:Int)<((pk.map Kv.toI).length:Int))=true:=by simp;omega
 rw[List.drop_eq_nil_of_le (by omega)]at hM
 have hM:w=WA:=hM;subst hM;obtain⟨wr,wm,wv,wg⟩:=w;have hpr:IntKind.i64.wrap (pr+1)=pr+1:=Bf (by omega)
 have hput:=fun v=>Ak4 nx ck v (by have:=hkq.1;omega) (fun h hh=>by have:=hkq.2 h hh;omega)
 dsimp only at hnext;obtain⟨nn,nr,nf,nk⟩:=nx;dsimp only at hput hnext;cases b with
 |false=>
  repeat'((conv=>whnf);first|((with_reducible refine Ax (by first|(with_reducible exact Bool.of_not_eq_false (by assumption))|(with_reducible rfl)) (fun hb=>?_));(try rw[hb]);(try simp only[Aa]at hb))|((with_reducible refine Aw (by first|(with_reducible assumption)|(with_reducible exact Bool.of_not_eq_true (by assumption))) (fun hb=>?_));(try rw[hb]);(try simp only[Aa]at hb))|((with_reducible refine And.intro (fun hb=>?_) (fun hb=>?_))<;>first|(exact absurd hb (by decide))|((try rw[hb]);(try simp only[Aa]at hb)))|((with_reducible refine Exists.intro ?_ ?_);focus (and_intros<;>first|omega|(with_reducible rfl)|kernel_rfl|(simp;done)))|(with_reducible intro hfact)|((try dsimp only);rw[hwq]))
  all_goals(try(conv=>whnf))
  refine Round.by (q+1,⟨nn,nr,nf,nk⟩) ?_ (hnext _ (by rw[if_pos (.inl rfl)])) (by dsimp only;omega)
  try dsimp only
  show norm _ _=upd _ _
  kernel_rfl
 |true=>
  cases cg with
  |true=>
   cases wg with
   |true=>
    repeat'((conv=>whnf);first|((with_reducible refine Ax (by first|(with_reducible assumption)|(with_reducible rfl)) (fun hb=>?_));(try rw[hb]);(try simp only[Aa]at hb))|((with_reducible refine Aw (by first|(with_reducible exact Bool.of_not_eq_true (by assumption))|(with_reducible rfl)) (fun hb=>?_));(try rw[hb]);(try simp only[Aa]at hb))|((with_reducible refine And.intro (fun hb=>?_) (fun hb=>?_))<;>first|(exact absurd hb (by decide))|((try rw[hb]);(try simp only[Aa]at hb)))|((with_reducible refine Exists.intro ?_ ?_);focus (and_intros<;>first|omega|(with_reducible rfl)|kernel_rfl|(simp;done)))|(with_reducible intro hfact)|((try dsimp only);(rw[B6 hc]))|(skip;rw[hwq]))
    all_goals(try(conv=>whnf))
    refine Round.by (q+1,⟨nn,nr,nf,nk⟩) ?_ (hnext _ (by rw[if_pos (.inr ⟨rfl,rfl⟩)])) (by dsimp only;omega)
    try dsimp only
    show norm _ _=upd _ _
    kernel_rfl
   |false=>
    have hput:=hput ⟨pr+1,0,[],true⟩;repeat'((conv=>whnf);first|((with_reducible refine Ax (by first|(with_reducible assumption)|(with_reducible rfl)) (fun hb=>?_));(try rw[hb]);(try simp only[Aa]at hb))|((with_reducible refine Aw (by first|(with_reducible exact Bool.of_not_eq_true (by assumption))|(with_reducible rfl)) (fun hb=>?_));(try rw[hb]);(try simp only[Aa]at hb))|((with_reducible refine And.intro (fun hb=>?_) (fun hb=>?_))<;>first|(exact absurd hb (by decide))|((try rw[hb]);(try simp only[Aa]at hb)))|((with_reducible refine Exists.intro ?_ ?_);focus (and_intros<;>first|omega|(with_reducible rfl)|kernel_rfl|(intro _ hh;cases hh;done)|(simp;done)|decide))|(with_reducible intro hfact)|((with_reducible refine Drawn.mkV ?_ ?_ ?_ (fun hfact=>?_));(focus (as_aux_lemma=>kernel_rfl));(focus (as_aux_lemma=>kernel_rfl));(focus (as_aux_lemma=>kernel_rfl));(try simp only[dRS]at hfact))|((try dsimp only);(rw[B6 hc]))|((with_reducible refine CallIs.mk ?_);refine⟨_,_,hput,?_⟩)|((try dsimp only);rw[hpr])|(skip;rw[hwq]))
    all_goals(try(conv=>whnf))
    refine Round.by (q+1,⟨nn,pr+1,nf,N2 ck ⟨pr+1,0,[],true⟩ nk [] false⟩) ?_ (hnext _ (by rw[if_neg (by simp)];simp[Acm])) (by dsimp only;omega)
    try dsimp only
    show norm _ _=upd _ _
    kernel_rfl
  |false=>
   cases wg with
   |true=>
    have hput:=hput ⟨pr+1,pr+1,cv,false⟩;repeat'((conv=>whnf);first|((with_reducible refine Aw (by first|(with_reducible exact Bool.of_not_eq_true (by assumption))|(with_reducible rfl)) (fun hb=>?_));(try rw[hb]);(try simp only[Aa]at hb))|((with_reducible refine And.intro (fun hb=>?_) (fun hb=>?_))<;>first|(exact absurd hb (by decide))|((try rw[hb]);(try simp only[Aa]at hb)))|((with_reducible refine Exists.intro ?_ ?_);focus (and_intros<;>first|omega|(with_reducible rfl)|kernel_rfl|(intro _ hh;cases hh;done)|(simp;done)|decide))|(with_reducible intro hfact)|((with_reducible refine Drawn.mkV ?_ ?_ ?_ (fun hfact=>?_));(focus (as_aux_lemma=>kernel_rfl));(focus (as_aux_lemma=>kernel_rfl));(focus (as_aux_lemma=>kernel_rfl));(try simp only[dRS]at hfact))|((try dsimp only);(rw[B6 hc]))|((with_reducible refine CallIs.mk ?_);refine⟨_,_,hput,?_⟩)|((try dsimp only);rw[hpr])|(skip;rw[hwq]))
    all_goals(try(conv=>whnf))
    refine Round.by (q+1,⟨nn,pr+1,nf,N2 ck ⟨pr+1,pr+1,cv,false⟩ nk [] false⟩) ?_ (hnext _ (by rw[if_neg (by simp)];simp[Acm])) (by dsimp only;omega)
    try dsimp only
    show norm _ _=upd _ _
    kernel_rfl
   |false=>
    have hput:=hput ⟨pr+1,wm,cv,false⟩;repeat'((conv=>whnf);first|((with_reducible refine Aw (by first|(with_reducible exact Bool.of_not_eq_true (by assumption))|(with_reducible rfl)) (fun hb=>?_));(try rw[hb]);(try simp only[Aa]at hb))|((with_reducible refine And.intro (fun hb=>?_) (fun hb=>?_))<;>first|(exact absurd hb (by decide))|((try rw[hb]);(try simp only[Aa]at hb)))|((with_reducible refine Exists.intro ?_ ?_);focus (and_intros<;>first|omega|(with_reducible rfl)|kernel_rfl|(intro _ hh;cases hh;done)|(simp;done)|decide))|(with_reducible intro hfact)|((with_reducible refine Drawn.mkV ?_ ?_ ?_ (fun hfact=>?_));(focus (as_aux_lemma=>kernel_rfl));(focus (as_aux_lemma=>kernel_rfl));(focus (as_aux_lemma=>kernel_rfl));(try simp only[dRS]at hfact))|((try dsimp only);(rw[B6 hc]))|((with_reducible refine CallIs.mk ?_);refine⟨_,_,hput,?_⟩)|((try dsimp only);rw[hpr])|(skip;rw[hwq]))
    all_goals(try(conv=>whnf))
    refine Round.by (q+1,⟨nn,pr+1,nf,N2 ck ⟨pr+1,wm,cv,false⟩ nk [] false⟩) ?_ (hnext _ (by rw[if_neg (by simp)];simp[Acm])) (by dsimp only;omega)
    try dsimp only
    show norm _ _=upd _ _
    kernel_rfl

open Go.Proofs
def Abj:Stm:=(sO [gA 4 (cI 0)] (.seq (sO [gM 8 1,gC 9 73 [nL 8],gT 10 9] (cR 10 [gA 4 (cI 5)])) (.seq (sO [gM 11 0,gM 12 1,gC 13 74 [(true,11),nL 12],gB 14 .geq 13 (cI 0)] (cR 14 [gA 4 (cI 15)])) (.seq (sO [gM 15 0,O1 (.nchk 16 15),gF 17 16 0,gL 18 17,gN 19 18,gB 20 .geq 19 (cI 8)] (cR 20 [gA 4 (cI 17)])) (sO [O1 (.empty 21 50 4),gA 5 21] (sO [gA 6 cF] (.seq (sO [gA 7 (cI 0)] (.block 0 (.loop [22,23,24,25,26,27,28,29,30,31,32,33,34,35,36,37,38,39,40,41,42,43,44,45,46,47,48,49,50,51,52,53,54,55,56,57,58,59,62,68] (.seq (sO [gM 22 7,gM 23 0,O1 (.nchk 24 23),gF 25 24 0,gL 26 25,gN 27 26,gB 28 .lss 22 27] (.cond 28 .skip (.exit 0))) (.seq (.block 1 (.seq (sO [gM 31 6,gT 32 31,gM 33 32,qt 33 (iM 34 1),qt 33 (iM 35 0),qt 33 (.nchk 36 35),qt 33 (iG 37 36 0 0),qt 33 (iL 38 37),qt 33 (iM 39 7),qt 33 (iI 40 4 38 39),qt 33 (iG 41 40 0 0),qt 33 (iL 42 41),qt 33 (iB 43 .lss 34 42),gP 44 33 43 cF] (.cond 44 (sO [gM 45 5,gM 46 1,O1 (.build 47 [(.str []),(.int .i64 0),(.int .i64 0),(.list [])] [(0,46)]),O1 (.bsl 48 50 4 (.agg [(.str []),(.int .i64 0),(.int .i64 0),(.list [])]) 1 [(0,47)]),O1 (.app 49 50 4 56 45 48),gA 5 49] (.ops [gA 6 cT])) .skip)) (.ops [gM 50 5,gM 51 0,O1 (.nchk 52 51),gF 53 52 0,gL 54 53,gM 55 7,gI 56 4 54 55,gU 57 4 56,O1 (.bsl 58 50 4 (.agg [(.str []),(.int .i64 0),(.int .i64 0),(.list [])]) 1 [(0,57)]),O1 (.app 59 50 4 56 50 58),gA 5 59]))) (.ops [gM 29 7,gB 30 .add 29 (cI 1),gA 7 30])))))) (.seq (sO [gM 60 6,gT 61 60] (.cond 61 (.ops [gM 62 5,gM 63 1,O1 (.build 64 [(.str []),(.int .i64 0),(.int .i64 0),(.list [])] [(0,63)]),O1 (.bsl 65 50 4 (.agg [(.str []),(.int .i64 0),(.int .i64 0),(.list [])]) 1 [(0,64)]),O1 (.app 66 50 4 56 62 65),gA 5 66]) .skip)) (sO [gM 67 0,O1 (.movD 68 5),O1 (.nchk 69 67),gF 70 69 0,gS 1 70 68] (sO [gA 4 (cI 0)] .ret))))))))))
theorem Abz:OF 25 71 Abj [.t 4]:=oF Tryd.func25 rfl Tryd.ntmps25 (by kernel_rfl) (by kernel_rfl)

def G3(n:Az)(h:Hld):Option Kv:=if(C1 h.at_).1=n then some ⟨(C1 h.at_).2.1,h.vs⟩else none
def keysOf(n:Az)(l:List Hld):List Kv:=l.filterMap (G3 n)
theorem V1{rev:Int}:∀{vs:List Ver} {v:Ver},Bx rev vs v=((vs.filter fun w=>decide (w.rev≤rev)).getLast?).getD v
 | [],v=>rfl
 |w::r,v=>by
  unfold Bx;rw[V1,List.filter_cons];by_cases h:w.rev≤rev
  ·rw[if_pos h,if_pos (by simpa using h),List.getLast?_cons]
   rfl
  ·rw[if_neg h,if_neg (by simpa using h)]
theorem Amw{vs:List Ver}(h:VSo vs)(rev:Int):D1 vs rev=if(Bx rev vs Aj).gone=true then(verN,false)else(Bx rev vs Aj,true):=by
 rw[Lg h,V1];cases (vs.filter fun w=>decide (w.rev≤rev)).getLast? with
 |none=>rfl
 |some v=>rfl
def selR(x:Sp)(rev:Int)(h:Kv):Option Pr:=if(Bx rev h.vs Aj).gone=false∧SpH x h.key then some ⟨h.key,(Bx rev h.vs Aj).val,(Bx rev h.vs Aj).made,(Bx rev h.vs Aj).rev⟩else none
theorem Agn{x:Sp}{rev:Int}:∀{ks:List Kv} {out:List Pr},Ls x rev ks out=out++ks.filterMap (selR x rev)
 | [],out=>by simp[Ls]
 |h::r,out=>by
  unfold Ls;rw[List.filterMap_cons];by_cases hc:(Bx rev h.vs Aj).gone=false∧SpH x h.key
  ·rw[if_pos hc,Agn,show selR x rev h=some ⟨h.key,(Bx rev h.vs Aj).val,(Bx rev h.vs Aj).made,(Bx rev h.vs Aj).rev⟩by unfold selR;rw[if_pos hc]]
   simp
  ·rw[if_neg hc,Agn,show selR x rev h=none by unfold selR;rw[if_neg hc]]
theorem Aiz{x:Sp}{m:Nat}:∀{V:List (Az × Ver)} {out:List Pr},out.length≤m→
 Mf x (m:Int) V out=(out++(((V.filter fun p=>decide (SpH x p.1)).map prOf).take (m - out.length)),decide (m - out.length<(V.filter fun p=>decide (SpH x p.1)).length))
 | [],out,_=>by simp[Mf]
 |p::V,out,ho=>by
  unfold Mf;by_cases h:SpH x p.1
  ·have hf:(p::V).filter (fun p=>decide (SpH x p.1))=p::V.filter (fun p=>decide (SpH x p.1)):=by rw[List.filter_cons,if_pos (by simpa using h)]
   rw[if_neg (fun c=>c h),hf]
   by_cases e:out.length=m
   ·rw[if_pos (by omega),e,Nat.sub_self]
    simp
   ·rw[if_neg (by omega),Aiz (by simp;omega)]
    have:m - out.length=(m - (out++[prOf p]).length)+1:=by simp;omega
    rw[this,List.map_cons,List.take_succ_cons];simp only[List.append_assoc,List.singleton_append,List.length_cons,Nat.add_lt_add_iff_right]
  ·have hf:(p::V).filter (fun p=>decide (SpH x p.1))=V.filter (fun p=>decide (SpH x p.1)):=by rw[List.filter_cons,if_neg (by simpa using h)]
   rw[if_pos h,hf];exact Aiz ho
theorem Ajh{n:Az}{x:Sp}{rev:Int}:∀{l:List Hld},(∀h∈l,VSo h.vs)→((Lh n rev l).filter fun p=>decide (SpH x p.1)).map prOf=(keysOf n l).filterMap (selR x rev)
 | [],_=>rfl
 |h::r,hv=>by
  have ih:=Ajh (n:=n) (x:=x) (rev:=rev) (l:=r) fun y hy=>hv y (List.mem_cons_of_mem _ hy)
  have ha:=Amw (hv h (List.mem_cons_self ..)) rev;unfold Lh keysOf at ih ⊢;rw[List.filterMap_cons,List.filterMap_cons];by_cases hn:(C1 h.at_).1=n
  ·rw[show G3 n h=some ⟨(C1 h.at_).2.1,h.vs⟩by unfold G3;rw[if_pos hn]]
   dsimp only;rw[List.filterMap_cons];cases hg:(Bx rev h.vs Aj).gone with
   |true=>
    rw[hg,if_pos rfl]at ha;rw[show gV n rev h=none by unfold gV;rw[ha,if_neg (fun c=>by cases c.2)],show selR x rev ⟨(C1 h.at_).2.1,h.vs⟩=none by unfold selR;rw[if_neg (fun c=>by rw[hg]at c;cases c.1)]]
    exact ih
   |false=>
    rw[hg,if_neg (by simp)]at ha
    rw[show gV n rev h=some ((C1 h.at_).2.1,Bx rev h.vs Aj)by unfold gV;rw[ha,if_pos ⟨hn,rfl⟩]]
    dsimp only;rw[List.filter_cons];by_cases hs:SpH x (C1 h.at_).2.1
    ·rw[if_pos (by simpa using hs),show selR x rev ⟨(C1 h.at_).2.1,h.vs⟩=some (prOf ((C1 h.at_).2.1,Bx rev h.vs Aj))by unfold selR;rw[if_pos ⟨hg,hs⟩];rfl]
     rw[List.map_cons,ih]
    ·rw[if_neg (by simpa using hs),show selR x rev ⟨(C1 h.at_).2.1,h.vs⟩=none by unfold selR;rw[if_neg (fun c=>hs c.2)]]
     exact ih
  ·rw[Ahu hn,show G3 n h=none by unfold G3;rw[if_neg hn]]
   exact ih

open Go.Proofs
def Z5(n:Az):List Spc→List Spc→Bool→List Spc
 | [],out,d=>if d=true then out else out++[⟨n,0,0,[]⟩]
 |p::r,out,d=>Z5 n r ((if d=false∧n<p.name then out++[⟨n,0,0,[]⟩]else out)++[p]) (if d=false∧n<p.name then true else d)
def Adw(R:List Spc)(n:Az):List Spc × Int:=if D9 n=false then(R,5)else if 0≤Ev n R 0 then(R,15)else if 8≤R.length then(R,17)else(Z5 n R [] false,0)
theorem Spc.new_I(n:Az):Spc.toI ⟨n,0,0,[]⟩= .agg [.str n,ti 0,ti 0,.list []]:=rfl
theorem Aks(R:List Spc)(n:Az)(hl:R.length≤100000):Fn Tryd.prog Mg [rT R,.v (.str n)] (Is (.v (ti (Adw R n).2)) [rT (Adw R n).1,.no]):=by
 refine Abz ?_ (by simp)
 have hfi:=Z3 R n hl;have hnm:=Amo n;have hlm:((R.map Spc.toI).map D.it).length=R.length:=by simp
 unfold Adw;generalize D9 n=nm at hnm ⊢;generalize Ev n R 0=f at hfi ⊢;cases nm with
 |false=>
  simp only[if_true];repeat'((conv=>whnf);first|((with_reducible refine And.intro (fun hb=>?_) (fun hb=>?_))<;>first|(exact absurd hb (by decide))|((try rw[hb]);(try simp only[Aa]at hb)))|((with_reducible refine Exists.intro ?_ ?_);focus (and_intros<;>first|(intro _ hh;cases hh;done)|(simp;done)|decide))|((with_reducible refine CallWp.mk ?_);refine⟨_,hnm,?_⟩;rintro _ _ ⟨rfl,rfl⟩))
  all_goals(try(conv=>whnf))
  (apply dKq<;>kernel_rfl)
 |true=>
 simp only[Bool.true_eq_false,if_false];by_cases hf:0≤f
 ·rw[if_pos hf];have g1:¬decide (0≤f)=false:=by simpa using hf
  repeat'((conv=>whnf);first|((with_reducible refine Ax (by(with_reducible exact Bool.of_not_eq_false (by assumption))) (fun hb=>?_));(try rw[hb]);(try simp only[Aa]at hb))|((with_reducible refine And.intro (fun hb=>?_) (fun hb=>?_))<;>first|(exact absurd hb (by decide))|((try rw[hb]);(try simp only[Aa]at hb)))|((with_reducible refine Exists.intro ?_ ?_);focus (and_intros<;>first|kernel_rfl|(intro _ hh;cases hh;done)|(simp;done)|decide))|((with_reducible refine CallWp.mk ?_);refine⟨_,hnm,?_⟩;rintro _ _ ⟨rfl,rfl⟩)|((with_reducible refine CallWp.mk ?_);refine⟨_,hfi,?_⟩;rintro _ _ ⟨rfl,rfl⟩))
  all_goals(try(conv=>whnf))
  (apply dKq<;>kernel_rfl)
 rw[if_neg hf];have g1:¬decide (0≤f)=true:=by simpa using hf
 by_cases h8:8≤R.length
 ·rw[if_pos h8];have g2:¬decide ((8:Int)≤(R.length:Int))=false:=by simp;omega
  repeat'((conv=>whnf);first|((with_reducible refine Ax (by first|(with_reducible exact Bool.of_not_eq_false (by assumption))|((with_reducible refine decide_eq_true ?_);omega)) (fun hb=>?_));(try rw[hb]);(try simp only[Aa]at hb))|((with_reducible refine Aw (by(with_reducible exact Bool.of_not_eq_true (by assumption))) (fun hb=>?_));(try rw[hb]);(try simp only[Aa]at hb))|((with_reducible refine And.intro (fun hb=>?_) (fun hb=>?_))<;>first|(exact absurd hb (by decide))|((try rw[hb]);(try simp only[Aa]at hb)))|((with_reducible refine Exists.intro ?_ ?_);focus (and_intros<;>first|omega|(with_reducible rfl)|kernel_rfl|(intro _ hh;cases hh;done)|(simp;done)|decide))|(with_reducible intro hfact)|((with_reducible refine CallWp.mk ?_);refine⟨_,hnm,?_⟩;rintro _ _ ⟨rfl,rfl⟩)|((with_reducible refine CallWp.mk ?_);refine⟨_,hfi,?_⟩;rintro _ _ ⟨rfl,rfl⟩))
  all_goals(try(conv=>whnf))
  (apply dKq<;>kernel_rfl)
 rw[if_neg h8];have g2:¬decide ((8:Int)≤(R.length:Int))=true:=by simp;omega
 obtain⟨RES,hRES⟩:∃X,Z5 n R [] false=X:=⟨_,rfl⟩;rw[hRES];repeat'((conv=>whnf);first|((with_reducible refine Aw (by first|(with_reducible exact Bool.of_not_eq_true (by assumption))|((with_reducible refine decide_eq_false ?_);omega)) (fun hb=>?_));(try rw[hb]);(try simp only[Aa]at hb))|((with_reducible refine And.intro (fun hb=>?_) (fun hb=>?_))<;>first|(exact absurd hb (by decide))|((try rw[hb]);(try simp only[Aa]at hb)))|((with_reducible refine Exists.intro ?_ ?_);focus (and_intros<;>first|omega|(with_reducible rfl)|kernel_rfl|(intro _ hh;cases hh;done)|(simp;done)|decide))|(with_reducible intro hfact)|((with_reducible refine CallWp.mk ?_);refine⟨_,hnm,?_⟩;rintro _ _ ⟨rfl,rfl⟩)|((with_reducible refine CallWp.mk ?_);refine⟨_,hfi,?_⟩;rintro _ _ ⟨rfl,rfl⟩))
 all_goals(try(conv=>whnf))
 refine LoopWq.by (X:=Nat × List Spc × Bool) (fun y=>[(7,.v (ti (y.1:Int))),(5,.vec 50 4 (y.2.1.map Spc.toI)),(6,.v (.bool y.2.2))]) (fun y=>y.1≤R.length∧y.2.1.length≤2*y.1∧Z5 n (R.drop y.1) y.2.1 y.2.2=RES) (fun y=>R.length - y.1) (0,[],false) (by kernel_rfl) ⟨Nat.zero_le _,Nat.zero_le _,hRES⟩ ?_
 rintro⟨j,out,d⟩ ⟨hj,hol,hR⟩;dsimp only at hj hol hR ⊢;have hw:IntKind.i64.wrap ((j:Int)+1)=((j+1:Nat):Int):=(Bf (by omega)).trans (by omega)
 have hol2:(out.map Spc.toI).length≤200000:=by rw[List.length_map];omega
 by_cases hjl:j<R.length
 case neg=>
  have h4:¬decide ((j:Int)<(R.length:Int))=true:=by simp;omega
  rw[List.drop_eq_nil_of_le (by omega)]at hR
  cases d with
  |true=>
   have hR:out=RES:=hR;subst hR;repeat'((conv=>whnf);first|((with_reducible refine Aw (by first|(with_reducible exact Bool.of_not_eq_true (by assumption))|((with_reducible refine decide_eq_false ?_);omega)) (fun hb=>?_));(try rw[hb]);(try simp only[Aa]at hb))|((with_reducible refine And.intro (fun hb=>?_) (fun hb=>?_))<;>first|(exact absurd hb (by decide))|((try rw[hb]);(try simp only[Aa]at hb)))|((with_reducible refine Exists.intro ?_ ?_);focus (and_intros<;>first|omega|(with_reducible rfl)|kernel_rfl|(simp;done)))|(with_reducible intro hfact))
   all_goals(try(conv=>whnf))
   (apply dKq<;>kernel_rfl)
  |false=>
   have hR:out++[⟨n,0,0,[]⟩]=RES:=hR;subst hR;have hfin:rT (out++[⟨n,0,0,[]⟩])= .own [] (.ptr (.st [.vec 50 4 ((out.map Spc.toI++[I.agg [.str n,ti 0,ti 0,.list []]]).map D.it)])):=by simp only[rT,List.map_append,List.map_cons,List.map_nil,Spc.new_I]
   (try dsimp only)
   rw[hfin];repeat'((conv=>whnf);first|((with_reducible refine Aw (by first|(with_reducible exact Bool.of_not_eq_true (by assumption))|((with_reducible refine decide_eq_false ?_);omega)) (fun hb=>?_));(try rw[hb]);(try simp only[Aa]at hb))|((with_reducible refine And.intro (fun hb=>?_) (fun hb=>?_))<;>first|(exact absurd hb (by decide))|((try rw[hb]);(try simp only[Aa]at hb)))|((with_reducible refine Exists.intro ?_ ?_);focus (and_intros<;>first|omega|(with_reducible rfl)|kernel_rfl|exact Ah (by rfl)|(simp only[Bu];omega)|(simp;done)))|(with_reducible intro hfact))
   all_goals(try(conv=>whnf))
   (apply dKq<;>kernel_rfl)
 obtain⟨p,he⟩:∃x,R[j]?=some x:=⟨_,List.getElem?_eq_getElem hjl⟩;have h4:¬decide ((j:Int)<(R.length:Int))=false:=by simp;omega
 have hdr:R.drop j=p::R.drop (j+1):=by rw[List.drop_eq_getElem_cons hjl];rw[List.getElem?_eq_getElem hjl]at he;cases he;rfl
 rw[hdr]at hR;simp only[Z5]at hR;obtain⟨pn,pr,pf,pk⟩:=p;dsimp only at hR;by_cases hlt:n<pn
 ·have c1:¬Op.bytesLess n pn=false:=by rw[Kz];simpa using hlt
  cases d with
  |true=>
   rw[if_neg (fun c=>by cases c.1),if_neg (fun c=>by cases c.1)]at hR
   repeat'((conv=>whnf);first|((with_reducible refine Ax (by first|(with_reducible exact Bool.of_not_eq_false (by assumption))|((with_reducible refine decide_eq_true ?_);omega)) (fun hb=>?_));(try rw[hb]);(try simp only[Aa]at hb))|((with_reducible refine Aw (by first|(with_reducible exact Bool.of_not_eq_true (by assumption))|(with_reducible rfl)) (fun hb=>?_));(try rw[hb]);(try simp only[Aa]at hb))|((with_reducible refine And.intro (fun hb=>?_) (fun hb=>?_))<;>first|(exact absurd hb (by decide))|((try rw[hb]);(try simp only[Aa]at hb)))|((with_reducible refine Exists.intro ?_ ?_);focus (and_intros<;>first|omega|(with_reducible rfl)|kernel_rfl|exact Ah (by rfl)|(simp only[Bu];omega)|(simp;done)))|(with_reducible intro hfact)|((try dsimp only);rw[hw])|(((with_reducible apply A3));(focus rfl);(focus (simp only[D.at,D.put,D.kid,D.setKid,mkSt,Ap,D.toI,toIs,Ak,Af,he,hlm]<;>exact rfl));(try(focus exact rfl))))
   all_goals(try(conv=>whnf))
   refine Round.by (j+1,out++[⟨pn,pr,pf,pk⟩],true) ?_ ⟨by omega,by simp;omega,hR⟩ (by dsimp only;omega)
   try dsimp only
   simp only[List.map_append,List.map_cons,List.map_nil];show norm _ _=upd _ _
   kernel_rfl
  |false=>
   rw[if_pos ⟨rfl,hlt⟩,if_pos ⟨rfl,hlt⟩]at hR;repeat'((conv=>whnf);first|((with_reducible refine Ax (by first|(with_reducible exact Bool.of_not_eq_false (by assumption))|((with_reducible refine decide_eq_true ?_);omega)|(with_reducible rfl)) (fun hb=>?_));(try rw[hb]);(try simp only[Aa]at hb))|((with_reducible refine And.intro (fun hb=>?_) (fun hb=>?_))<;>first|(exact absurd hb (by decide))|((try rw[hb]);(try simp only[Aa]at hb)))|((with_reducible refine Exists.intro ?_ ?_);focus (and_intros<;>first|omega|(with_reducible rfl)|kernel_rfl|exact Ah (by rfl)|(simp only[Bu];omega)|(simp;done)))|(with_reducible intro hfact)|((try dsimp only);rw[hw])|(((with_reducible apply A3));(focus rfl);(focus (simp only[D.at,D.put,D.kid,D.setKid,mkSt,Ap,D.toI,toIs,Ak,Af,he,hlm]<;>exact rfl));(try(focus exact rfl))))
   all_goals(try(conv=>whnf))
   refine Round.by (j+1,out++[⟨n,0,0,[]⟩]++[⟨pn,pr,pf,pk⟩],true) ?_ ⟨by omega,by simp;omega,hR⟩ (by dsimp only;omega)
   try dsimp only
   simp only[List.map_append,List.map_cons,List.map_nil,Spc.new_I];show norm _ _=upd _ _
   kernel_rfl
 ·have c1:¬Op.bytesLess n pn=true:=by rw[Kz];simpa using hlt
  rw[if_neg (fun c=>hlt c.2),if_neg (fun c=>hlt c.2)]at hR
  cases d with
  |true=>
   repeat'((conv=>whnf);first|((with_reducible refine Ax (by first|(with_reducible exact Bool.of_not_eq_false (by assumption))|((with_reducible refine decide_eq_true ?_);omega)) (fun hb=>?_));(try rw[hb]);(try simp only[Aa]at hb))|((with_reducible refine Aw (by first|(with_reducible exact Bool.of_not_eq_true (by assumption))|(with_reducible rfl)) (fun hb=>?_));(try rw[hb]);(try simp only[Aa]at hb))|((with_reducible refine And.intro (fun hb=>?_) (fun hb=>?_))<;>first|(exact absurd hb (by decide))|((try rw[hb]);(try simp only[Aa]at hb)))|((with_reducible refine Exists.intro ?_ ?_);focus (and_intros<;>first|omega|(with_reducible rfl)|kernel_rfl|exact Ah (by rfl)|(simp only[Bu];omega)|(simp;done)))|(with_reducible intro hfact)|((try dsimp only);rw[hw])|(((with_reducible apply A3));(focus rfl);(focus (simp only[D.at,D.put,D.kid,D.setKid,mkSt,Ap,D.toI,toIs,Ak,Af,he,hlm]<;>exact rfl));(try(focus exact rfl))))
   all_goals(try(conv=>whnf))
   refine Round.by (j+1,out++[⟨pn,pr,pf,pk⟩],true) ?_ ⟨by omega,by simp;omega,hR⟩ (by dsimp only;omega)
   try dsimp only
   simp only[List.map_append,List.map_cons,List.map_nil];show norm _ _=upd _ _
   kernel_rfl
  |false=>
   repeat'((conv=>whnf);first|((with_reducible refine Ax (by first|(with_reducible exact Bool.of_not_eq_false (by assumption))|((with_reducible refine decide_eq_true ?_);omega)|(with_reducible rfl)) (fun hb=>?_));(try rw[hb]);(try simp only[Aa]at hb))|((with_reducible refine Aw (by(with_reducible exact Bool.of_not_eq_true (by assumption))) (fun hb=>?_));(try rw[hb]);(try simp only[Aa]at hb))|((with_reducible refine And.intro (fun hb=>?_) (fun hb=>?_))<;>first|(exact absurd hb (by decide))|((try rw[hb]);(try simp only[Aa]at hb)))|((with_reducible refine Exists.intro ?_ ?_);focus (and_intros<;>first|omega|(with_reducible rfl)|kernel_rfl|exact Ah (by rfl)|(simp only[Bu];omega)|(simp;done)))|(with_reducible intro hfact)|((try dsimp only);rw[hw])|(((with_reducible apply A3));(focus rfl);(focus (simp only[D.at,D.put,D.kid,D.setKid,mkSt,Ap,D.toI,toIs,Ak,Af,he,hlm]<;>exact rfl));(try(focus exact rfl))))
   all_goals(try(conv=>whnf))
   refine Round.by (j+1,out++[⟨pn,pr,pf,pk⟩],false) ?_ ⟨by omega,by simp;omega,hR⟩ (by dsimp only;omega)
   try dsimp only
   simp only[List.map_append,List.map_cons,List.map_nil];show norm _ _=upd _ _
   kernel_rfl
end Go.Ab
