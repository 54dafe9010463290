/- Lemmas -/
import Derived.Test.YtkpojedpcabojaaDoorY7
set_option linter.unusedVariables false
set_option linter.unusedSimpArgs false
set_option maxRecDepth 100000
set_option maxHeartbeats 40000000
namespace Go.Ab
open Go.Proofs
theorem Am9(R:List Spc)(n:Az)(cs:List Chg)(hl:R.length≤100000)(hcs:cs.length≤1000)(i:Nat)(p:Spc)(hf:Jd n R 0=(i:Int))(he:R[i]?=some p)(hkl:KL 90000 p.keys)(hrev:0≤p.rev∧p.rev≤1000000000000)(RES:Bool)(hRES0:RES=true)(hRES:Xc cs=RES)(Z:Spc)(hZ:rwGo p cs p=Z):
 Fn Tryd.prog Ab1 [rT R,.v (.str n),.v (.list (cs.map Chg.toI))] (Is (.tup [.i (ti Z.rev),.i (ti 0)]) [rT (R.set i Z),.no,.no]):=by
 refine Abz ?_ (by simp)
 have hfi:=Lf R n hl;rw[hf]at hfi;have hil:=(List.getElem?_eq_some_iff.1 he).1;have hlm:((R.map Spc.toI).map D.it).length=R.length:=by simp
 have hcl:(cs.map Chg.toI).length=cs.length:=List.length_map _;repeat'((conv=>whnf);first|((with_reducible refine Aw (by first|((with_reducible refine decide_eq_false ?_);omega)|(with_reducible rfl)) (fun hb=>?_));(try rw[hb]);(try simp only[Aa]at hb))|((with_reducible refine Exists.intro ?_ ?_);focus (and_intros<;>first|kernel_rfl|(intro _ hh;cases hh;done)|(simp;done)|decide))|((with_reducible refine CallWp.mk ?_);refine⟨_,hfi,?_⟩;rintro _ _ ⟨rfl,rfl⟩))
 all_goals(try(conv=>whnf))
 refine LoopWq.by (X:=Nat) (fun j=>[(9,.v (ti (j:Int)))]) (fun j=>j≤cs.length∧Xc (cs.drop j)=RES) (fun j=>cs.length - j) 0 (by kernel_rfl) ⟨Nat.zero_le _,hRES⟩ ?_
 rintro j ⟨hj,hR⟩
 (try dsimp only at hj hR ⊢)
 have hw:IntKind.i64.wrap ((j:Int)+1)=((j+1:Nat):Int):=(Bf (by omega)).trans (by omega)
 by_cases hjl:j<cs.length
 ·skip
  obtain⟨c,hc⟩:∃c,cs[j]?=some c:=⟨_,List.getElem?_eq_getElem hjl⟩;have h3:¬decide ((j:Int)<(cs.length:Int))=false:=by simp;omega
  have h4:¬decide ((j:Int)<((cs.map Chg.toI).length:Int))=false:=by simp;omega
  have hdr:cs.drop j=c::cs.drop (j+1):=by rw[List.drop_eq_getElem_cons hjl];rw[List.getElem?_eq_getElem hjl]at hc;cases hc;rfl
  rw[hdr]at hR;simp only[Xc]at hR;obtain⟨ck,cv,cg⟩:=c;by_cases hok:(Chg.mk ck cv cg).ok
  case neg=>
   rw[if_neg hok]at hR;rw[←hR]at hRES0;cases hRES0
  rw[if_pos hok]at hR;obtain⟨hk1,hk2⟩:=hok;dsimp only at hk1 hk2;cases cg with
  |true=>
   repeat'((conv=>whnf);first|((with_reducible refine Ax (by first|(with_reducible assumption)|(with_reducible exact Bool.of_not_eq_false (by assumption))) (fun hb=>?_));(try rw[hb]);(try simp only[Aa]at hb))|((with_reducible refine Aw (by(with_reducible rfl)) (fun hb=>?_));(try rw[hb]);(try simp only[Aa]at hb))|((with_reducible refine And.intro (fun hb=>?_) (fun hb=>?_))<;>first|(exfalso;((simp only[Bu]at hb<;>omega)))|((try rw[hb]);(try simp only[Aa]at hb)))|((with_reducible refine Exists.intro ?_ ?_);focus (and_intros<;>first|omega|(with_reducible rfl)|kernel_rfl))|(with_reducible intro hfact)|((try dsimp only);(rw[B6 hc]))|((try dsimp only);rw[hw]))
   all_goals(try(conv=>whnf))
   refine Round.by (j+1) ?_ ⟨by omega,hR⟩ (by omega)
   try dsimp only
   show norm _ _=upd _ _
   kernel_rfl
  |false=>
   have hk2:cv.length≤256:=by simpa using hk2
   repeat'((conv=>whnf);first|((with_reducible refine Ax (by first|(with_reducible assumption)|(with_reducible exact Bool.of_not_eq_false (by assumption))|(with_reducible rfl)) (fun hb=>?_));(try rw[hb]);(try simp only[Aa]at hb))|((with_reducible refine Aw (by(with_reducible rfl)) (fun hb=>?_));(try rw[hb]);(try simp only[Aa]at hb))|((with_reducible refine And.intro (fun hb=>?_) (fun hb=>?_))<;>first|(exfalso;((simp only[Bu]at hb<;>omega)))|((try rw[hb]);(try simp only[Aa]at hb)))|((with_reducible refine Exists.intro ?_ ?_);focus (and_intros<;>first|omega|(with_reducible rfl)|kernel_rfl))|(with_reducible intro hfact)|((try dsimp only);(rw[B6 hc]))|((try dsimp only);rw[hw]))
   all_goals(try(conv=>whnf))
   refine Round.by (j+1) ?_ ⟨by omega,hR⟩ (by omega)
   try dsimp only
   show norm _ _=upd _ _
   kernel_rfl
 have h3:¬decide ((j:Int)<(cs.length:Int))=true:=by simp;omega
 have h4:¬decide ((j:Int)<((cs.map Chg.toI).length:Int))=true:=by simp;omega
 repeat'((conv=>whnf);first|((with_reducible refine Aw (by(with_reducible exact Bool.of_not_eq_true (by assumption))) (fun hb=>?_));(try rw[hb]);(try simp only[Aa]at hb))|((with_reducible refine Exists.intro ?_ ?_);focus (and_intros<;>first|omega|(with_reducible rfl)|kernel_rfl|(simp;done)))|(with_reducible intro hfact)|(((with_reducible apply A3));(focus rfl);(focus (simp only[D.at,D.put,D.kid,D.setKid,mkSt,Ap,D.toI,toIs,Ak,Af,he,hlm]<;>exact rfl));(try(focus exact rfl))))
 all_goals(try(conv=>whnf))
 clear hR hRES hRES0;refine LoopWq.by (X:=Nat × Spc) (fun y=>[(12,.v (ti (y.1:Int))),(11,.box (T.one (F.i y.2.toI)))]) (fun y=>y.1≤cs.length∧KL (90000+y.1) y.2.keys∧rwGo p (cs.drop y.1) y.2=Z) (fun y=>cs.length - y.1) (0,p) (by kernel_rfl) ⟨Nat.zero_le _,hkl,hZ⟩ ?_
 rintro⟨q,nx⟩ ⟨hq,hkq,hQ⟩;dsimp only at hq hkq hQ ⊢;have hwq:IntKind.i64.wrap ((q:Int)+1)=((q+1:Nat):Int):=(Bf (by omega)).trans (by omega)
 by_cases hql:q<cs.length
 case neg=>
  have h5:¬decide ((q:Int)<(cs.length:Int))=true:=by simp;omega
  have h6:¬decide ((q:Int)<((cs.map Chg.toI).length:Int))=true:=by simp;omega
  rw[List.drop_eq_nil_of_le (by omega)]at hQ
  have hQ:nx=Z:=hQ;subst hQ;obtain⟨nn,nr,nf,nk⟩:=nx;have hfin:rT (R.set i ⟨nn,nr,nf,nk⟩)= .own [] (.ptr (.st [.vec 50 4 (((R.map Spc.toI).map D.it).set i (.it (Spc.mk nn nr nf nk).toI))])):=by simp only[rT,List.map_set]
  rw[hfin];repeat'((conv=>whnf);first|((with_reducible refine Aw (by(with_reducible exact Bool.of_not_eq_true (by assumption))) (fun hb=>?_));(try rw[hb]);(try simp only[Aa]at hb))|((with_reducible refine Exists.intro ?_ ?_);focus (and_intros<;>first|omega|(with_reducible rfl)|kernel_rfl|(simp;done)))|(with_reducible intro hfact)|((with_reducible refine Drawn.mkV ?_ ?_ ?_ (fun hfact=>?_));(focus (as_aux_lemma=>kernel_rfl));(focus (as_aux_lemma=>kernel_rfl));(focus (as_aux_lemma=>kernel_rfl));(try simp only[dRS]at hfact))|(((with_reducible apply Ba));(focus (simp only[D.at,D.put,D.kid,D.setKid,mkSt,Ap,D.toI,toIs,Ak,Af,he,hlm]<;>exact rfl))))
  all_goals(try(conv=>whnf))
  (apply dKq<;>kernel_rfl)
 obtain⟨c,hc⟩:∃c,cs[q]?=some c:=⟨_,List.getElem?_eq_getElem hql⟩;have h5:¬decide ((q:Int)<(cs.length:Int))=false:=by simp;omega
 have h6:¬decide ((q:Int)<((cs.map Chg.toI).length:Int))=false:=by simp;omega
 have hdq:cs.drop q=c::cs.drop (q+1):=by rw[List.drop_eq_getElem_cons hql];rw[List.getElem?_eq_getElem hql]at hc;cases hc;rfl
 rw[hdq]at hQ;simp only[rwGo]at hQ;have hkn:KL (90000+(q+1)) (Na p c (cs.drop (q+1)) nx).keys:=Am8 hkq;have hnext:∀nx',nx'=Na p c (cs.drop (q+1)) nx→q+1≤cs.length∧KL (90000+(q+1)) nx'.keys∧rwGo p (cs.drop (q+1)) nx'=Z:=fun nx' e=>by subst e;exact⟨by omega,hkn,hQ⟩
 clear hQ hkn;obtain⟨LA,hLA⟩:∃b,Ut c.key (cs.drop (q+1)) true=b:=⟨_,rfl⟩;obtain⟨WA,hWA⟩:∃v,Q0 c.key p.rev p.keys Aj=v:=⟨_,rfl⟩;unfold Na at hnext;rw[hLA,hWA]at hnext;obtain⟨ck,cv,cg⟩:=c;dsimp only at hLA hWA hnext;repeat'((conv=>whnf);first|((with_reducible refine Ax (by(with_reducible exact Bool.of_not_eq_false (by assumption))) (fun hb=>?_));(try rw[hb]);(try simp only[Aa]at hb))|((with_reducible refine Exists.intro ?_ ?_);focus (and_intros<;>(with_reducible rfl)))|(with_reducible intro hfact)|((try dsimp only);rw[hwq]))
 all_goals(try(conv=>whnf))
 refine LoopWq.by (X:=Nat × Bool) (fun y=>[(14,.v (ti (y.1:Int))),(13,.v (.bool y.2))]) (fun y=>(q+1≤y.1∧y.1≤cs.length)∧Ut ck (cs.drop y.1) y.2=LA) (fun y=>cs.length - y.1) (q+1,true) (by kernel_rfl) ⟨⟨Nat.le_refl _,by omega⟩,hLA⟩ ?_
 rintro⟨k,b⟩ ⟨⟨hk0,hk⟩,hK⟩;dsimp only at hk0 hk hK ⊢;have hwk:IntKind.i64.wrap ((k:Int)+1)=((k+1:Nat):Int):=(Bf (by omega)).trans (by omega)
 by_cases hkl2:k<cs.length
 ·obtain⟨e,hke⟩:∃c,cs[k]?=some c:=⟨_,List.getElem?_eq_getElem hkl2⟩;have h7:¬decide ((k:Int)<(cs.length:Int))=false:=by simp;omega
  have h8:¬decide ((k:Int)<((cs.map Chg.toI).length:Int))=false:=by simp;omega
  have hdk:cs.drop k=e::cs.drop (k+1):=by rw[List.drop_eq_getElem_cons hkl2];rw[List.getElem?_eq_getElem hkl2]at hke;cases hke;rfl
  rw[hdk]at hK;simp only[Ut]at hK;obtain⟨ek,ev,eg⟩:=e;dsimp only at hK;cases b with
  |true=>
   repeat'((conv=>whnf);first|((with_reducible refine Ax (by first|(with_reducible exact Bool.of_not_eq_false (by assumption))|(with_reducible rfl)) (fun hb=>?_));(try rw[hb]);(try simp only[Aa]at hb))|((with_reducible refine Exists.intro ?_ ?_);focus (and_intros<;>first|omega|(with_reducible rfl)|kernel_rfl))|(with_reducible intro hfact)|((with_reducible refine Drawn.mkV ?_ ?_ ?_ (fun hfact=>?_));(focus (as_aux_lemma=>kernel_rfl));(focus (as_aux_lemma=>kernel_rfl));(focus (as_aux_lemma=>kernel_rfl));(try simp only[dRS]at hfact))|((try dsimp only);(rw[B6 hke]))|((try dsimp only);(rw[B6 hc]))|((try dsimp only);rw[hwk]))
   all_goals(try(conv=>whnf))
   refine Round.by (k+1,true&& !decide (ek=ck)) ?_ ⟨⟨by omega,by omega⟩,hK⟩ (by dsimp only;omega)
   try dsimp only
   show norm _ _=upd _ _
   kernel_rfl
  |false=>
   repeat'((conv=>whnf);first|((with_reducible refine Ax (by(with_reducible exact Bool.of_not_eq_false (by assumption))) (fun hb=>?_));(try rw[hb]);(try simp only[Aa]at hb))|((with_reducible refine Aw (by first|(with_reducible exact Bool.of_not_eq_true (by assumption))|(with_reducible rfl)) (fun hb=>?_));(try rw[hb]);(try simp only[Aa]at hb))|((with_reducible refine Exists.intro ?_ ?_);focus (and_intros<;>(with_reducible rfl)))|(with_reducible intro hfact)|((with_reducible refine Drawn.mkV ?_ ?_ ?_ (fun hfact=>?_));(focus (as_aux_lemma=>kernel_rfl));(focus (as_aux_lemma=>kernel_rfl));(focus (as_aux_lemma=>kernel_rfl));(try simp only[dRS]at hfact))|(skip;rw[hwk]))
   all_goals(try(conv=>whnf))
   refine Round.by (k+1,false&& !decide (ek=ck)) ?_ ⟨⟨by omega,by omega⟩,hK⟩ (by dsimp only;omega)
   try dsimp only
   show norm _ _=upd _ _
   kernel_rfl
 have h7:¬decide ((k:Int)<(cs.length:Int))=true:=by simp;omega
 have h8:¬decide ((k:Int)<((cs.map Chg.toI).length:Int))=true:=by simp;omega
 rw[List.drop_eq_nil_of_le (by omega)]at hK
 have hK:b=LA:=hK;subst hK;repeat'((conv=>whnf);first|((with_reducible refine Aw (by(with_reducible exact Bool.of_not_eq_true (by assumption))) (fun hb=>?_));(try rw[hb]);(try simp only[Aa]at hb))|((with_reducible refine Exists.intro ?_ ?_);focus (and_intros<;>first|omega|(with_reducible rfl)|kernel_rfl))|(with_reducible intro hfact))
 all_goals(try(conv=>whnf))
 obtain⟨pn,pr,pf,pk⟩:=p;dsimp only at hkl hrev hWA hnext;have hpk:(pk.map Kv.toI).length=pk.length:=List.length_map _;have hpkl:=hkl.1;refine LoopWq.by (X:=Nat × Ver) (fun y=>[(16,.v (ti (y.1:Int))),(15,.box (T.one (F.i y.2.toI)))]) (fun y=>y.1≤pk.length∧Q0 ck pr (pk.drop y.1) y.2=WA) (fun y=>pk.length - y.1) (0,Aj) (by kernel_rfl) ⟨Nat.zero_le _,hWA⟩ ?_
 rintro⟨m,w⟩ ⟨hm,hM⟩;dsimp only at hm hM ⊢;have hwm:IntKind.i64.wrap ((m:Int)+1)=((m+1:Nat):Int):=(Bf (by omega)).trans (by omega)
 by_cases hml:m<pk.length
 ·obtain⟨h,hmh⟩:∃c,pk[m]?=some c:=⟨_,List.getElem?_eq_getElem hml⟩;have h9:¬decide ((m:Int)<(pk.length:Int))=false:=by simp;omega
  have h10:¬decide ((m:Int)<((pk.map Kv.toI).length:Int))=false:=by simp;omega
  have hdm:pk.drop m=h::pk.drop (m+1):=by rw[List.drop_eq_getElem_cons hml];rw[List.getElem?_eq_getElem hml]at hmh;cases hmh;rfl
  rw[hdm]at hM;simp only[Q0]at hM;have hat:=Akh h.vs pr (by have:=hkl.2 h (List.mem_of_getElem? hmh);omega)
  obtain⟨hk',hv'⟩:=h;dsimp only at hM hat;by_cases hkk:hk'=ck
  ·rw[if_pos hkk]at hM;have e1:¬decide (hk'=ck)=false:=by simpa using hkk
   generalize Hr pr hv' Aj=u at hat hM;repeat'((conv=>whnf);first|((with_reducible refine Ax (by(with_reducible exact Bool.of_not_eq_false (by assumption))) (fun hb=>?_));(try rw[hb]);(try simp only[Aa]at hb);(try subst hb))|((with_reducible refine Exists.intro ?_ ?_);focus (and_intros<;>first|omega|(with_reducible rfl)|kernel_rfl|(intro _ hh;cases hh;done)|(simp;done)|decide))|(with_reducible intro hfact)|((with_reducible refine Drawn.mkV ?_ ?_ ?_ (fun hfact=>?_));(focus (as_aux_lemma=>kernel_rfl));(focus (as_aux_lemma=>kernel_rfl));(focus (as_aux_lemma=>kernel_rfl));(try simp only[dRS]at hfact))|((try dsimp only);(rw[B6 hmh]))|((try dsimp only);(rw[B6 hc]))|((with_reducible refine CallIs.mk ?_);refine⟨_,_,hat,?_⟩)|((try dsimp only);rw[hwm]))
   all_goals(try(conv=>whnf))
   refine Round.by (m+1,u) ?_ ⟨by omega,hM⟩ (by dsimp only;omega)
   try dsimp only
   show norm _ _=upd _ _
   kernel_rfl
  ·rw[if_neg hkk]at hM;have e1:¬decide (hk'=ck)=true:=by simpa using hkk
   repeat'((conv=>whnf);first|((with_reducible refine Ax (by(with_reducible exact Bool.of_not_eq_false (by assumption))) (fun hb=>?_));(try rw[hb]);(try simp only[Aa]at hb))|((with_reducible refine Aw (by(with_reducible exact Bool.of_not_eq_true (by assumption))) (fun hb=>?_));(try rw[hb]);(try simp only[Aa]at hb))|((with_reducible refine Exists.intro ?_ ?_);focus (and_intros<;>first|omega|(with_reducible rfl)|kernel_rfl|(simp;done)))|(with_reducible intro hfact)|((with_reducible refine Drawn.mkV ?_ ?_ ?_ (fun hfact=>?_));(focus (as_aux_lemma=>kernel_rfl));(focus (as_aux_lemma=>kernel_rfl));(focus (as_aux_lemma=>kernel_rfl));(try simp only[dRS]at hfact))|((try dsimp only);(rw[B6 hmh]))|((try dsimp only);(rw[B6 hc]))|((try dsimp only);rw[hwm]))
   all_goals(try(conv=>whnf))
   refine Round.by (m+1,w) ?_ ⟨by omega,hM⟩ (by dsimp only;omega)
   try dsimp only
   show norm _ _=upd _ _
   kernel_rfl
 have h9:¬decide ((m:Int)<(pk.length:Int))=true:=by simp;omega
 have h10:¬decide ((m:Int)<((pk.map Kv.toI).length:Int))=true:=by simp;omega
 rw[List.drop_eq_nil_of_le (by omega)]at hM
 have hM:w=WA:=hM;subst hM;obtain⟨wr,wm,wv,wg⟩:=w;have hpr:IntKind.i64.wrap (pr+1)=pr+1:=Bf (by omega)
 have hput:=fun v=>Amu nx ck v (by have:=hkq.1;omega) (fun h hh=>by have:=hkq.2 h hh;omega)
 dsimp only at hnext;obtain⟨nn,nr,nf,nk⟩:=nx;dsimp only at hput hnext;cases b with
 |false=>
  repeat'((conv=>whnf);first|((with_reducible refine Ax (by first|(with_reducible exact Bool.of_not_eq_false (by assumption))|(with_reducible rfl)) (fun hb=>?_));(try rw[hb]);(try simp only[Aa]at hb))|((with_reducible refine Aw (by first|(with_reducible assumption)|(with_reducible exact Bool.of_not_eq_true (by assumption))) (fun hb=>?_));(try rw[hb]);(try simp only[Aa]at hb))|((with_reducible refine And.intro (fun hb=>?_) (fun hb=>?_))<;>first|(exact absurd hb (by decide))|((try rw[hb]);(try simp only[Aa]at hb)))|((with_reducible refine Exists.intro ?_ ?_);focus (and_intros<;>first|omega|(with_reducible rfl)|kernel_rfl|(simp;done)))|(with_reducible intro hfact)|((try dsimp only);rw[hwq]))
  all_goals(try(conv=>whnf))
  refine Round.by (q+1,⟨nn,nr,nf,nk⟩) ?_ (hnext _ (by rw[if_pos (.inl rfl)])) (by dsimp only;omega)
  try dsimp only
  show norm _ _=upd _ _
  kernel_rfl
 |true=>
  cases cg with
  |true=>
   cases wg with
   |true=>
    repeat'((conv=>whnf);first|((with_reducible refine Ax (by first|(with_reducible assumption)|(with_reducible rfl)) (fun hb=>?_));(try rw[hb]);(try simp only[Aa]at hb))|((with_reducible refine Aw (by first|(with_reducible exact Bool.of_not_eq_true (by assumption))|(with_reducible rfl)) (fun hb=>?_));(try rw[hb]);(try simp only[Aa]at hb))|((with_reducible refine And.intro (fun hb=>?_) (fun hb=>?_))<;>first|(exact absurd hb (by decide))|((try rw[hb]);(try simp only[Aa]at hb)))|((with_reducible refine Exists.intro ?_ ?_);focus (and_intros<;>first|omega|(with_reducible rfl)|kernel_rfl|(simp;done)))|(with_reducible intro hfact)|((try dsimp only);(rw[B6 hc]))|(skip;rw[hwq]))
    all_goals(try(conv=>whnf))
    refine Round.by (q+1,⟨nn,nr,nf,nk⟩) ?_ (hnext _ (by rw[if_pos (.inr ⟨rfl,rfl⟩)])) (by dsimp only;omega)
    try dsimp only
    show norm _ _=upd _ _
    kernel_rfl
   |false=>
    have hput:=hput ⟨pr+1,0,[],true⟩;repeat'((conv=>whnf);first|((with_reducible refine Ax (by first|(with_reducible assumption)|(with_reducible rfl)) (fun hb=>?_));(try rw[hb]);(try simp only[Aa]at hb))|((with_reducible refine Aw (by first|(with_reducible exact Bool.of_not_eq_true (by assumption))|(with_reducible rfl)) (fun hb=>?_));(try rw[hb]);(try simp only[Aa]at hb))|((with_reducible refine And.intro (fun hb=>?_) (fun hb=>?_))<;>first|(exact absurd hb (by decide))|((try rw[hb]);(try simp only[Aa]at hb)))|((with_reducible refine Exists.intro ?_ ?_);focus (and_intros<;>first|omega|(with_reducible rfl)|kernel_rfl|(intro _ hh;cases hh;done)|(simp;done)|decide))|(with_reducible intro hfact)|((with_reducible refine Drawn.mkV ?_ ?_ ?_ (fun hfact=>?_));(focus (as_aux_lemma=>kernel_rfl));(focus (as_aux_lemma=>kernel_rfl));(focus (as_aux_lemma=>kernel_rfl));(try simp only[dRS]at hfact))|((try dsimp only);(rw[B6 hc]))|((with_reducible refine CallIs.mk ?_);refine⟨_,_,hput,?_⟩)|((try dsimp only);rw[hpr])|(skip;rw[hwq]))
    all_goals(try(conv=>whnf))
    refine Round.by (q+1,⟨nn,pr+1,nf,Mv ck ⟨pr+1,0,[],true⟩ nk [] false⟩) ?_ (hnext _ (by rw[if_neg (by simp)];simp[Xq])) (by dsimp only;omega)
    try dsimp only
    show norm _ _=upd _ _
    kernel_rfl
  |false=>
   cases wg with
   |true=>
    have hput:=hput ⟨pr+1,pr+1,cv,false⟩;repeat'((conv=>whnf);first|((with_reducible refine Aw (by first|(with_reducible exact Bool.of_not_eq_true (by assumption))|(with_reducible rfl)) (fun hb=>?_));(try rw[hb]);(try simp only[Aa]at hb))|((with_reducible refine And.intro (fun hb=>?_) (fun hb=>?_))<;>first|(exact absurd hb (by decide))|((try rw[hb]);(try simp only[Aa]at hb)))|((with_reducible refine Exists.intro ?_ ?_);focus (and_intros<;>first|omega|(with_reducible rfl)|kernel_rfl|(intro _ hh;cases hh;done)|(simp;done)|decide))|(with_reducible intro hfact)|((with_reducible refine Drawn.mkV ?_ ?_ ?_ (fun hfact=>?_));(focus (as_aux_lemma=>kernel_rfl));(focus (as_aux_lemma=>kernel_rfl));(focus (as_aux_lemma=>kernel_rfl));(try simp only[dRS]at hfact))|((try dsimp only);(rw[B6 hc]))|((with_reducible refine CallIs.mk ?_);refine⟨_,_,hput,?_⟩)|((try dsimp only);rw[hpr])|(skip;rw[hwq]))
    all_goals(try(conv=>whnf))
    refine Round.by (q+1,⟨nn,pr+1,nf,Mv ck ⟨pr+1,pr+1,cv,false⟩ nk [] false⟩) ?_ (hnext _ (by rw[if_neg (by simp)];simp[Xq])) (by dsimp only;omega)
    try dsimp only
    show norm _ _=upd _ _
    kernel_rfl
   |false=>
    have hput:=hput ⟨pr+1,wm,cv,false⟩;repeat'((conv=>whnf);first|((with_reducible refine Aw (by first|(with_reducible exact Bool.of_not_eq_true (by assumption))|(with_reducible rfl)) (fun hb=>?_));(try rw[hb]);(try simp only[Aa]at hb))|((with_reducible refine And.intro (fun hb=>?_) (fun hb=>?_))<;>first|(exact absurd hb (by decide))|((try rw[hb]);(try simp only[Aa]at hb)))|((with_reducible refine Exists.intro ?_ ?_);focus (and_intros<;>first|omega|(with_reducible rfl)|kernel_rfl|(intro _ hh;cases hh;done)|(simp;done)|decide))|(with_reducible intro hfact)|((with_reducible refine Drawn.mkV ?_ ?_ ?_ (fun hfact=>?_));(focus (as_aux_lemma=>kernel_rfl));(focus (as_aux_lemma=>kernel_rfl));(focus (as_aux_lemma=>kernel_rfl));(try simp only[dRS]at hfact))|((try dsimp only);(rw[B6 hc]))|((with_reducible refine CallIs.mk ?_);refine⟨_,_,hput,?_⟩)|((try dsimp only);rw[hpr])|(skip;rw[hwq]))
    all_goals(try(conv=>whnf))
    refine Round.by (q+1,⟨nn,pr+1,nf,Mv ck ⟨pr+1,wm,cv,false⟩ nk [] false⟩) ?_ (hnext _ (by rw[if_neg (by simp)];simp[Xq])) (by dsimp only;omega)
    try dsimp only
    show norm _ _=upd _ _
    kernel_rfl

open Go.Proofs
def Rv:Stm:=(sO [gA 6 (cI 0)] (sO [gM 15 0,gM 16 1,gC 17 74 [(true,15),nL 16],gA 7 17] (.seq (sO [gM 18 7,gB 19 .lss 18 (cI 0)] (cR 19 [gA 6 (cI 16)])) (sO [gM 20 0,O1 (.nchk 21 20),gF 22 21 0,gL 23 22,gM 24 7,gI 25 4 23 24,gU 26 4 25,O1 (.allocD 8 (.st [(.it (.str [])),(.it (.int .i64 0)),(.it (.int .i64 0)),(.vec 130 2 [])])),gS 4 8 26] (.seq (sO [gM 27 2,gB 28 .lss 27 (cI 0)] (cR 28 [gA 6 (cI 1)])) (.seq (sO [gM 29 2,gF 30 8 1,gL 31 30,gB 32 .gtr 29 31] (cR 32 [gA 6 (cI 13)])) (.seq (sO [gM 33 2,gF 34 8 2,gL 35 34,gB 36 .lss 33 35] (cR 36 [gA 6 (cI 14)])) (sO [O1 (.empty 37 130 2),gA 9 37] (.seq (sO [gA 10 (cI 0)] (.block 0 (.loop [11,12,13,14,38,39,40,41,42,43,44,45,46,47,48,49,50,51,52,53,54,55,56,57,58,59,60,61,62,63,64,65,66,67,68,69,70,71,72,73,74,75,76,77,78,79,80,81,82,83,84,85,86,87,88,89,90,91,92,93,94,95,96,97,98,99,100,101,102,103,104,105,106,107,108,109,110,111,112,113,114,116] (.seq (sO [gM 38 10,gF 39 8 3,gL 40 39,gN 41 40,gB 42 .lss 38 41] (.cond 42 .skip (.exit 0))) (.seq (.block 1 (sO [gF 45 8 3,gL 46 45,gM 47 10,gI 48 2 46 47,gF 49 48 0,gL 50 49,O1 (.buildD 51 [(.it (.str [])),(.vec 125 4 [])] [(0,50)]),O1 (.allocD 11 (.st [(.it (.str [])),(.vec 125 4 [])])),gS 2 11 51] (sO [gF 53 8 3,gL 54 53,gM 55 10,gI 56 2 54 55,gF 57 56 1,gL 58 57,gM 59 2,gC 60 75 [nL 58,nL 59],gA 52 60,gE 61 52 0,gE 62 52 1,O1 (.alloc 12 (.one (.i (.agg [(.int .i64 0),(.int .i64 0),(.str []),(.bool false)])))),gS 4 12 61,gA 13 62] (.seq (sO [gM 63 13] (.cond 63 (.ops [gF 64 11 1,gL 65 64,gU 66 4 12,O1 (.bsl 67 125 4 (.agg [(.int .i64 0),(.int .i64 0),(.str []),(.bool false)]) 1 [(0,66)]),O1 (.app 68 125 4 40 65 67),gF 69 11 1,gS 1 69 68]) .skip)) (.seq (sO [gA 14 (cI 0)] (.block 2 (.loop [70,71,72,73,74,75,76,77,78,79,80,81,82,83,84,85,86,87,88,89,90,91,92,93,94,95,96,97,98,99,100,101,102,103,104,105,106,111,116] (.seq (sO [gM 70 14,gF 71 8 3,gL 72 71,gM 73 10,gI 74 2 72 73,gF 75 74 1,gL 76 75,gN 77 76,gB 78 .lss 70 77] (.cond 78 .skip (.exit 2))) (.seq (.block 3 (sO [gF 81 8 3,gL 82 81,gM 83 10,gI 84 2 82 83,gF 85 84 1,gL 86 85,gM 87 14,gI 88 4 86 87,gF 89 88 0,gL 90 89,gM 91 2,gB 92 .gtr 90 91] (.cond 92 (.drw [0,1,0,4,0,28,60,124,0,508,1020,2044,4095,8191,16383] [gF 93 11 1,gL 94 93,gF 95 8 3,gL 96 95,gM 97 10,gI 98 2 96 97,gF 99 98 1,gL 100 99,gM 101 14,gI 102 4 100 101,gU 103 4 102,O1 (.bsl 104 125 4 (.agg [(.int .i64 0),(.int .i64 0),(.str []),(.bool false)]) 1 [(0,103)]),O1 (.app 105 125 4 40 94 104),gF 106 11 1,gS 1 106 105]) .skip))) (.ops [gM 79 14,gB 80 .add 79 (cI 1),gA 14 80])))))) (sO [gF 107 11 1,gL 108 107,gN 109 108,gB 110 .gtr 109 (cI 0)] (.cond 110 (.ops [gM 111 9,O1 (.loadF 112 true 2 11),O1 (.bsl 113 130 2 (.agg [(.str []),(.list [])]) 1 [(0,112)]),O1 (.app 114 130 2 40 111 113),gA 9 114]) .skip))))))) (.ops [gM 43 10,gB 44 .add 43 (cI 1),gA 10 44])))))) (sO [gM 115 2,gM 116 9,gF 117 8 2,gS 1 117 115,gF 118 8 3,gS 1 118 116] (.seq (.drw [0,1,3,7,0,0,63,127] [gM 119 0,O1 (.nchk 120 119),gF 121 120 0,gL 122 121,gM 123 7,gU 124 4 8,gI 125 4 122 123,gS 4 125 124]) (sO [gA 6 (cI 0)] .ret))))))))))))
theorem Lu:OF 82 126 Rv [.t 6]:=oF Tryd.func82 rfl Tryd.ntmps82 (by kernel_rfl) (by kernel_rfl)
def Vg:Stm:=(sO [gA 4 (cI 0)] (.seq (sO [gM 8 1,gC 9 73 [nL 8],gT 10 9] (cR 10 [gA 4 (cI 5)])) (.seq (sO [gM 11 0,gM 12 1,gC 13 74 [(true,11),nL 12],gB 14 .geq 13 (cI 0)] (cR 14 [gA 4 (cI 15)])) (.seq (sO [gM 15 0,O1 (.nchk 16 15),gF 17 16 0,gL 18 17,gN 19 18,gB 20 .geq 19 (cI 8)] (cR 20 [gA 4 (cI 17)])) (sO [O1 (.empty 21 50 4),gA 5 21] (sO [gA 6 cF] (.seq (sO [gA 7 (cI 0)] (.block 0 (.loop [22,23,24,25,26,27,28,29,30,31,32,33,34,35,36,37,38,39,40,41,42,43,44,45,46,47,48,49,50,51,52,53,54,55,56,57,58,59,62,68] (.seq (sO [gM 22 7,gM 23 0,O1 (.nchk 24 23),gF 25 24 0,gL 26 25,gN 27 26,gB 28 .lss 22 27] (.cond 28 .skip (.exit 0))) (.seq (.block 1 (.seq (sO [gM 31 6,gT 32 31,gM 33 32,qt 33 (iM 34 1),qt 33 (iM 35 0),qt 33 (.nchk 36 35),qt 33 (iG 37 36 0 0),qt 33 (iL 38 37),qt 33 (iM 39 7),qt 33 (iI 40 4 38 39),qt 33 (iG 41 40 0 0),qt 33 (iL 42 41),qt 33 (iB 43 .lss 34 42),gP 44 33 43 cF] (.cond 44 (sO [gM 45 5,gM 46 1,O1 (.build 47 [(.str []),(.int .i64 0),(.int .i64 0),(.list [])] [(0,46)]),O1 (.bsl 48 50 4 (.agg [(.str []),(.int .i64 0),(.int .i64 0),(.list [])]) 1 [(0,47)]),O1 (.app 49 50 4 56 45 48),gA 5 49] (.ops [gA 6 cT])) .skip)) (.ops [gM 50 5,gM 51 0,O1 (.nchk 52 51),gF 53 52 0,gL 54 53,gM 55 7,gI 56 4 54 55,gU 57 4 56,O1 (.bsl 58 50 4 (.agg [(.str []),(.int .i64 0),(.int .i64 0),(.list [])]) 1 [(0,57)]),O1 (.app 59 50 4 56 50 58),gA 5 59]))) (.ops [gM 29 7,gB 30 .add 29 (cI 1),gA 7 30])))))) (.seq (sO [gM 60 6,gT 61 60] (.cond 61 (.ops [gM 62 5,gM 63 1,O1 (.build 64 [(.str []),(.int .i64 0),(.int .i64 0),(.list [])] [(0,63)]),O1 (.bsl 65 50 4 (.agg [(.str []),(.int .i64 0),(.int .i64 0),(.list [])]) 1 [(0,64)]),O1 (.app 66 50 4 56 62 65),gA 5 66]) .skip)) (sO [gM 67 0,O1 (.movD 68 5),O1 (.nchk 69 67),gF 70 69 0,gS 1 70 68] (sO [gA 4 (cI 0)] .ret))))))))))
theorem Vu:OF 25 71 Vg [.t 4]:=oF Tryd.func25 rfl Tryd.ntmps25 (by kernel_rfl) (by kernel_rfl)

open Go.Proofs
def rcE(p:Spc)(rev:Int):Int:=if rev<0 then 1 else if p.rev<rev then 13 else if rev<p.floor then 14 else 0
def Sg(rev:Int):List Ver→List Ver→List Ver
 | [],out=>out
 |w::r,out=>Sg rev r (if rev<w.rev then out++[w]else out)
def rcVs(rev:Int)(vs:List Ver):List Ver:=Sg rev vs (if(Hr rev vs Aj).gone=true then[]else[Hr rev vs Aj])
def rcGo(rev:Int):List Kv→List Kv→List Kv
 | [],out=>out
 |h::r,out=>rcGo rev r (if rcVs rev h.vs=[]then out else out++[⟨h.key,rcVs rev h.vs⟩])
theorem Amr(R:List Spc)(n:Az)(rev:Int)(hl:R.length≤100000)(hf:Jd n R 0= -1):
 Fn Tryd.prog Nf [rT R,.v (.str n),.v (ti rev)] (Is (.v (ti 16)) [rT R,.no,.no]):=by
 refine Lu ?_ (by simp)
 have hfi:=Lf R n hl;rw[hf]at hfi;repeat'((conv=>whnf);first|((with_reducible refine Ax (by first|((with_reducible refine decide_eq_true ?_);omega)|(with_reducible rfl)) (fun hb=>?_));(try rw[hb]);(try simp only[Aa]at hb))|((with_reducible refine Exists.intro ?_ ?_);focus (and_intros<;>first|kernel_rfl|(intro _ hh;cases hh;done)|(simp;done)|decide))|((with_reducible refine CallWp.mk ?_);refine⟨_,hfi,?_⟩;rintro _ _ ⟨rfl,rfl⟩))
 all_goals(try(conv=>whnf))
 (apply dKq<;>kernel_rfl)
theorem Am6(R:List Spc)(n:Az)(rev:Int)(hl:R.length≤100000)(i:Nat)(p:Spc)(hf:Jd n R 0=(i:Int))(he:R[i]?=some p)(hE:rcE p rev≠0):
 Fn Tryd.prog Nf [rT R,.v (.str n),.v (ti rev)] (Is (.v (ti (rcE p rev))) [rT R,.no,.no]):=by
 refine Lu ?_ (by simp)
 have hfi:=Lf R n hl;rw[hf]at hfi;have hil:=(List.getElem?_eq_some_iff.1 he).1;have hlm:((R.map Spc.toI).map D.it).length=R.length:=by simp
 obtain⟨pn,pr,pf,pk⟩:=p;unfold rcE at hE ⊢;dsimp only at hE ⊢;by_cases h1:rev<0
 ·rw[if_pos h1];repeat'((conv=>whnf);first|((with_reducible refine Ax (by first|((with_reducible refine decide_eq_true ?_);(with_reducible assumption))|(with_reducible rfl)) (fun hb=>?_));(try rw[hb]);(try simp only[Aa]at hb))|((with_reducible refine Aw (by first|((with_reducible refine decide_eq_false ?_);omega)|(with_reducible rfl)) (fun hb=>?_));(try rw[hb]);(try simp only[Aa]at hb))|((with_reducible refine Exists.intro ?_ ?_);focus (and_intros<;>first|omega|(with_reducible rfl)|kernel_rfl|(intro _ hh;cases hh;done)|(simp;done)|decide))|((with_reducible refine CallWp.mk ?_);refine⟨_,hfi,?_⟩;rintro _ _ ⟨rfl,rfl⟩)|(((with_reducible apply A3));(focus rfl);(focus (simp only[D.at,D.put,D.kid,D.setKid,mkSt,Ap,D.toI,toIs,Ak,Af,he,hlm]<;>exact rfl));(try(focus exact rfl))))
  all_goals(try(conv=>whnf))
  all_goals((apply dKq<;>kernel_rfl))
 rw[if_neg h1]at hE ⊢;by_cases h2:pr<rev
 ·rw[if_pos h2];repeat'((conv=>whnf);first|((with_reducible refine Ax (by first|((with_reducible refine decide_eq_true ?_);(with_reducible assumption))|(with_reducible rfl)) (fun hb=>?_));(try rw[hb]);(try simp only[Aa]at hb))|((with_reducible refine Aw (by first|((with_reducible refine decide_eq_false ?_);first|(with_reducible assumption)|omega)|(with_reducible rfl)) (fun hb=>?_));(try rw[hb]);(try simp only[Aa]at hb))|((with_reducible refine Exists.intro ?_ ?_);focus (and_intros<;>first|omega|(with_reducible rfl)|kernel_rfl|(intro _ hh;cases hh;done)|(simp;done)|decide))|((with_reducible refine CallWp.mk ?_);refine⟨_,hfi,?_⟩;rintro _ _ ⟨rfl,rfl⟩)|(((with_reducible apply A3));(focus rfl);(focus (simp only[D.at,D.put,D.kid,D.setKid,mkSt,Ap,D.toI,toIs,Ak,Af,he,hlm]<;>exact rfl));(try(focus exact rfl))))
  all_goals(try(conv=>whnf))
  all_goals((apply dKq<;>kernel_rfl))
 rw[if_neg h2]at hE ⊢;by_cases h3:rev<pf
 ·rw[if_pos h3];repeat'((conv=>whnf);first|((with_reducible refine Ax (by first|((with_reducible refine decide_eq_true ?_);(with_reducible assumption))|(with_reducible rfl)) (fun hb=>?_));(try rw[hb]);(try simp only[Aa]at hb))|((with_reducible refine Aw (by first|((with_reducible refine decide_eq_false ?_);first|(with_reducible assumption)|omega)|(with_reducible rfl)) (fun hb=>?_));(try rw[hb]);(try simp only[Aa]at hb))|((with_reducible refine Exists.intro ?_ ?_);focus (and_intros<;>first|omega|(with_reducible rfl)|kernel_rfl|(intro _ hh;cases hh;done)|(simp;done)|decide))|((with_reducible refine CallWp.mk ?_);refine⟨_,hfi,?_⟩;rintro _ _ ⟨rfl,rfl⟩)|(((with_reducible apply A3));(focus rfl);(focus (simp only[D.at,D.put,D.kid,D.setKid,mkSt,Ap,D.toI,toIs,Ak,Af,he,hlm]<;>exact rfl));(try(focus exact rfl))))
  all_goals(try(conv=>whnf))
  all_goals((apply dKq<;>kernel_rfl))
 ·rw[if_neg h3]at hE;exact absurd rfl hE
theorem Ane(R:List Spc)(n:Az)(rev:Int)(hl:R.length≤100000)(i:Nat)(p:Spc)(hf:Jd n R 0=(i:Int))(he:R[i]?=some p)(hE:0≤rev∧rev≤p.rev∧p.floor≤rev)(hkl:KL 100000 p.keys):
 Fn Tryd.prog Nf [rT R,.v (.str n),.v (ti rev)] (Is (.v (ti 0)) [rT (R.set i ⟨p.name,p.rev,rev,rcGo rev p.keys []⟩),.no,.no]):=by
 refine Lu ?_ (by simp)
 have hfi:=Lf R n hl;rw[hf]at hfi;have hil:=(List.getElem?_eq_some_iff.1 he).1;have hlm:((R.map Spc.toI).map D.it).length=R.length:=by simp
 obtain⟨pn,pr,pf,ks⟩:=p;obtain⟨e1,e2,e3⟩:=hE;dsimp only at e2 e3 hkl ⊢;obtain⟨hk1,hk2⟩:=hkl;obtain⟨RES,hRES⟩:∃X,rcGo rev ks []=X:=⟨_,rfl⟩;rw[hRES];have hks:(ks.map Kv.toI).length=ks.length:=List.length_map _;repeat'((conv=>whnf);first|((with_reducible refine Aw (by first|((with_reducible refine decide_eq_false ?_);omega)|(with_reducible rfl)) (fun hb=>?_));(try rw[hb]);(try simp only[Aa]at hb))|((with_reducible refine And.intro (fun hb=>?_) (fun hb=>?_))<;>first|(exfalso;((simp only[Bu]at hb<;>omega)))|((try rw[hb]);(try simp only[Aa]at hb)))|((with_reducible refine Exists.intro ?_ ?_);focus (and_intros<;>first|omega|(with_reducible rfl)|kernel_rfl|(intro _ hh;cases hh;done)|(simp;done)|decide))|((with_reducible refine CallWp.mk ?_);refine⟨_,hfi,?_⟩;rintro _ _ ⟨rfl,rfl⟩)|(((with_reducible apply A3));(focus rfl);(focus (simp only[D.at,D.put,D.kid,D.setKid,mkSt,Ap,D.toI,toIs,Ak,Af,he,hlm]<;>exact rfl));(try(focus exact rfl))))
 all_goals(try(conv=>whnf))
 refine LoopWq.by (X:=Nat × List Kv) (fun y=>[(10,.v (ti (y.1:Int))),(9,.vec 130 2 (y.2.map Kv.toI))]) (fun y=>y.1≤ks.length∧y.2.length≤y.1∧rcGo rev (ks.drop y.1) y.2=RES) (fun y=>ks.length - y.1) (0,[]) (by kernel_rfl) ⟨Nat.zero_le _,Nat.zero_le _,hRES⟩ ?_
 rintro⟨j,out⟩ ⟨hj,hol,hR⟩;dsimp only at hj hol hR ⊢;have hw:IntKind.i64.wrap ((j:Int)+1)=((j+1:Nat):Int):=(Bf (by omega)).trans (by omega)
 have hol2:(out.map Kv.toI).length≤100000:=by rw[List.length_map];omega
 by_cases hjl:j<ks.length
 case neg=>
  have h3:¬decide ((j:Int)<((ks.map Kv.toI).length:Int))=true:=by simp;omega
  have h4:¬decide ((j:Int)<(ks.length:Int))=true:=by simp;omega
  rw[List.drop_eq_nil_of_le (by omega)]at hR
  have hR:out=RES:=hR;subst hR;have hfin:rT (R.set i ⟨pn,pr,rev,out⟩)= .own [] (.ptr (.st [.vec 50 4 (((R.map Spc.toI).map D.it).set i (.it (Spc.mk pn pr rev out).toI))])):=by simp only[rT,List.map_set]
  rw[hfin];repeat'((conv=>whnf);first|((with_reducible refine Aw (by(with_reducible exact Bool.of_not_eq_true (by assumption))) (fun hb=>?_));(try rw[hb]);(try simp only[Aa]at hb))|((with_reducible refine Exists.intro ?_ ?_);focus (and_intros<;>first|omega|(with_reducible rfl)|kernel_rfl|(simp;done)))|(with_reducible intro hfact)|((with_reducible refine Drawn.mkV ?_ ?_ ?_ (fun hfact=>?_));(focus (as_aux_lemma=>kernel_rfl));(focus (as_aux_lemma=>kernel_rfl));(focus (as_aux_lemma=>kernel_rfl));(try simp only[dRS]at hfact))|(((with_reducible apply Ba));(focus (simp only[D.at,D.put,D.kid,D.setKid,mkSt,Ap,D.toI,toIs,Ak,Af,he,hlm]<;>exact rfl))))
  all_goals(try(conv=>whnf))
  (apply dKq<;>kernel_rfl)
 obtain⟨h,hh⟩:∃x,ks[j]?=some x:=⟨_,List.getElem?_eq_getElem hjl⟩;have h3:¬decide ((j:Int)<((ks.map Kv.toI).length:Int))=false:=by simp;omega
 have h4:¬decide ((j:Int)<(ks.length:Int))=false:=by simp;omega
 have hdr:ks.drop j=h::ks.drop (j+1):=by rw[List.drop_eq_getElem_cons hjl];rw[List.getElem?_eq_getElem hjl]at hh;cases hh;rfl
 rw[hdr]at hR;simp only[rcGo]at hR;have hvl:=hk2 h (List.mem_of_getElem? hh);have hat:=Akh h.vs rev hvl;obtain⟨hk,vs⟩:=h;dsimp only at hR hvl hat;unfold rcVs at hR;have hvs:(vs.map Ver.toI).length=vs.length:=List.length_map _;generalize Hr rev vs Aj=v0 at hat hR;obtain⟨vr,vm,vv,vg⟩:=v0;obtain⟨RV,hRV⟩:∃X,Sg rev vs (if vg=true then[]else[⟨vr,vm,vv,vg⟩])=X:=⟨_,rfl⟩
 rw[hRV]at hR;cases vg with
 |true=>
  simp only[if_true]at hRV;repeat'((conv=>whnf);first|((with_reducible refine Ax (by(with_reducible exact Bool.of_not_eq_false (by assumption))) (fun hb=>?_));(try rw[hb]);(try simp only[Aa]at hb))|((with_reducible refine And.intro (fun hb=>?_) (fun hb=>?_))<;>(((try rw[hb]);(try simp only[Aa]at hb))))|((with_reducible refine Exists.intro ?_ ?_);focus (and_intros<;>first|omega|(with_reducible rfl)|kernel_rfl|(intro _ hh;cases hh;done)|(simp;done)|decide))|(with_reducible intro hfact)|((try dsimp only);(rw[B6 hh]))|((with_reducible refine CallWp.mk ?_);refine⟨_,hat,?_⟩;rintro _ _ ⟨rfl,rfl⟩))
  all_goals(try(conv=>whnf))
  refine LoopWq.by (X:=Nat × List Ver) (fun y=>[(14,.v (ti (y.1:Int))),(11,.own [] (.ptr (.st [.it (.str hk),.vec 125 4 ((y.2.map Ver.toI).map D.it)])))]) (fun y=>y.1≤vs.length∧y.2.length≤y.1+1∧Sg rev (vs.drop y.1) y.2=RV) (fun y=>vs.length - y.1) (0,[]) (by kernel_rfl) ⟨Nat.zero_le _,by simp,hRV⟩ ?_
  rintro⟨q,acc⟩ ⟨hq,hql,hQ⟩;dsimp only at hq hql hQ ⊢;have hwq:IntKind.i64.wrap ((q:Int)+1)=((q+1:Nat):Int):=(Bf (by omega)).trans (by omega)
  have haccl:(((acc.map Ver.toI).map D.it).length)=acc.length:=by simp
  by_cases hqv:q<vs.length
  ·obtain⟨w,hwv⟩:∃x,vs[q]?=some x:=⟨_,List.getElem?_eq_getElem hqv⟩;have h5:¬decide ((q:Int)<((vs.map Ver.toI).length:Int))=false:=by simp;omega
   have h6:¬decide ((q:Int)<(vs.length:Int))=false:=by simp;omega
   have hdq:vs.drop q=w::vs.drop (q+1):=by rw[List.drop_eq_getElem_cons hqv];rw[List.getElem?_eq_getElem hqv]at hwv;cases hwv;rfl
   rw[hdq]at hQ;simp only[Sg]at hQ;obtain⟨wr,wm,wv,wg⟩:=w;dsimp only at hQ;by_cases hlt:rev<wr
   ·rw[if_pos hlt]at hQ;have e7:¬decide (rev<wr)=false:=by simpa using hlt
    repeat'((conv=>whnf);first|((with_reducible refine Ax (by(with_reducible exact Bool.of_not_eq_false (by assumption))) (fun hb=>?_));(try rw[hb]);(try simp only[Aa]at hb))|((with_reducible refine Exists.intro ?_ ?_);focus (and_intros<;>first|omega|(with_reducible rfl)|kernel_rfl|exact Ah (by rfl)|exact Ag rfl|(simp only[Bu];omega)|(simp;done)))|(with_reducible intro hfact)|((with_reducible refine Drawn.mkV ?_ ?_ ?_ (fun hfact=>?_));(focus (as_aux_lemma=>kernel_rfl));(focus (as_aux_lemma=>kernel_rfl));(focus (as_aux_lemma=>kernel_rfl));(try simp only[dRS]at hfact))|((try dsimp only);(rw[B6 hh]))|((try dsimp only);(rw[B6 hwv]))|(skip;rw[hwq]))
    all_goals(try(conv=>whnf))
    refine Round.by (q+1,acc++[⟨wr,wm,wv,wg⟩]) ?_ ⟨by omega,by simp;omega,hQ⟩ (by dsimp only;omega)
    try dsimp only
    simp only[List.map_append,List.map_cons,List.map_nil];show norm _ _=upd _ _
    kernel_rfl
   ·rw[if_neg hlt]at hQ;have e7:¬decide (rev<wr)=true:=by simpa using hlt
    repeat'((conv=>whnf);first|((with_reducible refine Ax (by(with_reducible exact Bool.of_not_eq_false (by assumption))) (fun hb=>?_));(try rw[hb]);(try simp only[Aa]at hb))|((with_reducible refine Aw (by(with_reducible exact Bool.of_not_eq_true (by assumption))) (fun hb=>?_));(try rw[hb]);(try simp only[Aa]at hb))|((with_reducible refine Exists.intro ?_ ?_);focus (and_intros<;>first|omega|(with_reducible rfl)|kernel_rfl|(simp;done)))|(with_reducible intro hfact)|((try dsimp only);(rw[B6 hh]))|((try dsimp only);(rw[B6 hwv]))|((try dsimp only);rw[hwq]))
    all_goals(try(conv=>whnf))
    refine Round.by (q+1,acc) ?_ ⟨by omega,by dsimp only;omega,hQ⟩ (by dsimp only;omega)
    try dsimp only
    show norm _ _=upd _ _
    kernel_rfl
  have h5:¬decide ((q:Int)<((vs.map Ver.toI).length:Int))=true:=by simp;omega
  have h6:¬decide ((q:Int)<(vs.length:Int))=true:=by simp;omega
  rw[List.drop_eq_nil_of_le (by omega)]at hQ
  have hQ:acc=RV:=hQ;subst hQ;have hti:toIs ((acc.map Ver.toI).map D.it)=some (acc.map Ver.toI):=Ak _;cases acc with
  |nil=>
   rw[if_pos rfl]at hR;repeat'((conv=>whnf);first|((with_reducible refine Aw (by(with_reducible exact Bool.of_not_eq_true (by assumption))) (fun hb=>?_));(try rw[hb]);(try simp only[Aa]at hb))|((with_reducible refine And.intro (fun hb=>?_) (fun hb=>?_))<;>first|(exact absurd hb (by decide))|((try rw[hb]);(try simp only[Aa]at hb)))|((with_reducible refine Exists.intro ?_ ?_);focus (and_intros<;>first|omega|(with_reducible rfl)|kernel_rfl|(simp;done)))|(with_reducible intro hfact)|((try dsimp only);(rw[B6 hh]))|((try dsimp only);rw[hw]))
   all_goals(try(conv=>whnf))
   refine Round.by (j+1,out) ?_ ⟨by omega,by dsimp only;omega,hR⟩ (by dsimp only;omega)
   try dsimp only
   show norm _ _=upd _ _
   kernel_rfl
  |cons a0 ar=>
   rw[if_neg (by simp)]at hR
   have h7:¬decide ((0:Int)<(((((a0::ar).map Ver.toI).map D.it).length:Nat):Int))=false:=by first|(simp;done)|(simp;omega)
   have h8:¬decide ((0:Int)<(((a0::ar).length:Nat):Int))=false:=by first|(simp;done)|(simp;omega)
   repeat'((conv=>whnf);first|((with_reducible refine Ax (by(with_reducible exact Bool.of_not_eq_false (by assumption))) (fun hb=>?_));(try rw[hb]);(try simp only[Aa]at hb))|((with_reducible refine Aw (by(with_reducible exact Bool.of_not_eq_true (by assumption))) (fun hb=>?_));(try rw[hb]);(try simp only[Aa]at hb))|((with_reducible refine Exists.intro ?_ ?_);focus (and_intros<;>first|omega|(with_reducible rfl)|kernel_rfl|exact Ah (by rfl)|(simp only[Bu];omega)|(simp;done)))|(with_reducible intro hfact)|((try dsimp only);(rw[B6 hh]))|((try dsimp only);rw[hw])|(((with_reducible apply A9));(focus (simp only[D.at,D.put,D.kid,D.setKid,mkSt,Ap,D.toI,toIs,Ak,Af,haccl,hti]<;>exact rfl))))
   all_goals(try(conv=>whnf))
   refine Round.by (j+1,out++[⟨hk,a0::ar⟩]) ?_ ⟨by omega,by simp;omega,hR⟩ (by dsimp only;omega)
   try dsimp only
   simp only[List.map_append,List.map_cons,List.map_nil];show norm _ _=upd _ _
   kernel_rfl
 |false=>
  simp only[Bool.false_eq_true,if_false]at hRV;repeat'((conv=>whnf);first|((with_reducible refine Ax (by(with_reducible exact Bool.of_not_eq_false (by assumption))) (fun hb=>?_));(try rw[hb]);(try simp only[Aa]at hb))|((with_reducible refine And.intro (fun hb=>?_) (fun hb=>?_))<;>(((try rw[hb]);(try simp only[Aa]at hb))))|((with_reducible refine Exists.intro ?_ ?_);focus (and_intros<;>first|omega|(with_reducible rfl)|kernel_rfl|(intro _ hh;cases hh;done)|exact Ah (by rfl)|exact Ag rfl|(simp only[Bu];omega)|(simp;done)|decide))|(with_reducible intro hfact)|((try dsimp only);(rw[B6 hh]))|((with_reducible refine CallWp.mk ?_);refine⟨_,hat,?_⟩;rintro _ _ ⟨rfl,rfl⟩))
  all_goals(try(conv=>whnf))
  refine LoopWq.by (X:=Nat × List Ver) (fun y=>[(14,.v (ti (y.1:Int))),(11,.own [] (.ptr (.st [.it (.str hk),.vec 125 4 ((y.2.map Ver.toI).map D.it)])))]) (fun y=>y.1≤vs.length∧y.2.length≤y.1+1∧Sg rev (vs.drop y.1) y.2=RV) (fun y=>vs.length - y.1) (0,[⟨vr,vm,vv,false⟩]) (by kernel_rfl) ⟨Nat.zero_le _,by simp,hRV⟩ ?_
  rintro⟨q,acc⟩ ⟨hq,hql,hQ⟩;dsimp only at hq hql hQ ⊢;have hwq:IntKind.i64.wrap ((q:Int)+1)=((q+1:Nat):Int):=(Bf (by omega)).trans (by omega)
  have haccl:(((acc.map Ver.toI).map D.it).length)=acc.length:=by simp
  by_cases hqv:q<vs.length
  ·obtain⟨w,hwv⟩:∃x,vs[q]?=some x:=⟨_,List.getElem?_eq_getElem hqv⟩;have h5:¬decide ((q:Int)<((vs.map Ver.toI).length:Int))=false:=by simp;omega
   have h6:¬decide ((q:Int)<(vs.length:Int))=false:=by simp;omega
   have hdq:vs.drop q=w::vs.drop (q+1):=by rw[List.drop_eq_getElem_cons hqv];rw[List.getElem?_eq_getElem hqv]at hwv;cases hwv;rfl
   rw[hdq]at hQ;simp only[Sg]at hQ;obtain⟨wr,wm,wv,wg⟩:=w;dsimp only at hQ;by_cases hlt:rev<wr
   ·rw[if_pos hlt]at hQ;have e7:¬decide (rev<wr)=false:=by simpa using hlt
    repeat'((conv=>whnf);first|((with_reducible refine Ax (by(with_reducible exact Bool.of_not_eq_false (by assumption))) (fun hb=>?_));(try rw[hb]);(try simp only[Aa]at hb))|((with_reducible refine Exists.intro ?_ ?_);focus (and_intros<;>first|omega|(with_reducible rfl)|kernel_rfl|exact Ah (by rfl)|exact Ag rfl|(simp only[Bu];omega)|(simp;done)))|(with_reducible intro hfact)|((with_reducible refine Drawn.mkV ?_ ?_ ?_ (fun hfact=>?_));(focus (as_aux_lemma=>kernel_rfl));(focus (as_aux_lemma=>kernel_rfl));(focus (as_aux_lemma=>kernel_rfl));(try simp only[dRS]at hfact))|((try dsimp only);(rw[B6 hh]))|((try dsimp only);(rw[B6 hwv]))|(skip;rw[hwq]))
    all_goals(try(conv=>whnf))
    refine Round.by (q+1,acc++[⟨wr,wm,wv,wg⟩]) ?_ ⟨by omega,by simp;omega,hQ⟩ (by dsimp only;omega)
    try dsimp only
    simp only[List.map_append,List.map_cons,List.map_nil];show norm _ _=upd _ _
    kernel_rfl
   ·rw[if_neg hlt]at hQ;have e7:¬decide (rev<wr)=true:=by simpa using hlt
    repeat'((conv=>whnf);first|((with_reducible refine Ax (by(with_reducible exact Bool.of_not_eq_false (by assumption))) (fun hb=>?_));(try rw[hb]);(try simp only[Aa]at hb))|((with_reducible refine Aw (by(with_reducible exact Bool.of_not_eq_true (by assumption))) (fun hb=>?_));(try rw[hb]);(try simp only[Aa]at hb))|((with_reducible refine Exists.intro ?_ ?_);focus (and_intros<;>first|omega|(with_reducible rfl)|kernel_rfl|(simp;done)))|(with_reducible intro hfact)|((try dsimp only);(rw[B6 hh]))|((try dsimp only);(rw[B6 hwv]))|((try dsimp only);rw[hwq]))
    all_goals(try(conv=>whnf))
    refine Round.by (q+1,acc) ?_ ⟨by omega,by dsimp only;omega,hQ⟩ (by dsimp only;omega)
    try dsimp only
    show norm _ _=upd _ _
    kernel_rfl
  have h5:¬decide ((q:Int)<((vs.map Ver.toI).length:Int))=true:=by simp;omega
  have h6:¬decide ((q:Int)<(vs.length:Int))=true:=by simp;omega
  rw[List.drop_eq_nil_of_le (by omega)]at hQ
  have hQ:acc=RV:=hQ;subst hQ;have hti:toIs ((acc.map Ver.toI).map D.it)=some (acc.map Ver.toI):=Ak _;cases acc with
  |nil=>
   rw[if_pos rfl]at hR;repeat'((conv=>whnf);first|((with_reducible refine Aw (by(with_reducible exact Bool.of_not_eq_true (by assumption))) (fun hb=>?_));(try rw[hb]);(try simp only[Aa]at hb))|((with_reducible refine And.intro (fun hb=>?_) (fun hb=>?_))<;>first|(exact absurd hb (by decide))|((try rw[hb]);(try simp only[Aa]at hb)))|((with_reducible refine Exists.intro ?_ ?_);focus (and_intros<;>first|omega|(with_reducible rfl)|kernel_rfl|(simp;done)))|(with_reducible intro hfact)|((try dsimp only);(rw[B6 hh]))|((try dsimp only);rw[hw]))
   all_goals(try(conv=>whnf))
   refine Round.by (j+1,out) ?_ ⟨by omega,by dsimp only;omega,hR⟩ (by dsimp only;omega)
   try dsimp only
   show norm _ _=upd _ _
   kernel_rfl
  |cons a0 ar=>
   rw[if_neg (by simp)]at hR
   have h7:¬decide ((0:Int)<(((((a0::ar).map Ver.toI).map D.it).length:Nat):Int))=false:=by first|(simp;done)|(simp;omega)
   have h8:¬decide ((0:Int)<(((a0::ar).length:Nat):Int))=false:=by first|(simp;done)|(simp;omega)
   repeat'((conv=>whnf);first|((with_reducible refine Ax (by(with_reducible exact Bool.of_not_eq_false (by assumption))) (fun hb=>?_));(try rw[hb]);(try simp only[Aa]at hb))|((with_reducible refine Aw (by(with_reducible exact Bool.of_not_eq_true (by assumption))) (fun hb=>?_));(try rw[hb]);(try simp only[Aa]at hb))|((with_reducible refine Exists.intro ?_ ?_);focus (and_intros<;>first|omega|(with_reducible rfl)|kernel_rfl|exact Ah (by rfl)|(simp only[Bu];omega)|(simp;done)))|(with_reducible intro hfact)|((try dsimp only);(rw[B6 hh]))|((try dsimp only);rw[hw])|(((with_reducible apply A9));(focus (simp only[D.at,D.put,D.kid,D.setKid,mkSt,Ap,D.toI,toIs,Ak,Af,haccl,hti]<;>exact rfl))))
   all_goals(try(conv=>whnf))
   refine Round.by (j+1,out++[⟨hk,a0::ar⟩]) ?_ ⟨by omega,by simp;omega,hR⟩ (by dsimp only;omega)
   try dsimp only
   simp only[List.map_append,List.map_cons,List.map_nil];show norm _ _=upd _ _
   kernel_rfl
end Go.Ab
