/- Lemmas -/
import Derived.Test.YtkpojedpcabojaaGreatDoorY7
set_option linter.unusedVariables false
set_option linter.unusedSimpArgs false
set_option maxRecDepth 100000
set_option maxHeartbeats 40000000
namespace Go.Ab
open Go.Proofs
theorem Bgd(R:List Cv)(n:A1)(cs:List Ce)(hl:R.length≤100000)(Kr:cs.length≤1000)(i:Nat)(p:Cv)(hf:Jz n R 0=(i:Int))(he:R[i]?=some p)(L8:KL 90000 p.keys)(Aih:0≤p.rev∧p.rev≤2000000000000)(E3:Bool)(Ao1:E3=true)(Hj:Aa3 cs=E3)(Z:Cv)(hZ:Mn p cs p=Z):
 Fn Tryz.prog Jq [rT R,.v (.str n),.v (.list (cs.map Ce.Ap))] (Is (.F4 [.i (ti Z.rev),.i (ti 0)]) [rT (R.set i Z),.no,.no]):=by
 refine Mm ?_ (by simp)
 have H6:=Lh R n hl;rw[hf]at H6;have Pv:=(Ak.1 he).1;have Fk:((R.map Cv.Ap).map D.it).length=R.length:=by simp
 have Eh:(cs.map Ce.Ap).length=cs.length:=An _;repeat'((conv=>whnf);first|(with_reducible refine Bq (by first|refine decide_eq_false ?_;omega|rfl) fun hb=>?_);(try rw[hb]);try simp only[Am]at hb|(with_reducible refine Aa ?_ ?_);focus (and_intros<;>first|kernel_rfl|intro _ hh;cases hh;done|simp;done|decide)|(with_reducible refine A5.mk ?_);refine⟨_,H6,?_⟩;rintro _ _ ⟨rfl,rfl⟩)
 all_goals(try(conv=>whnf))
 refine Ep.by (X:=Nat) (fun j=>[(9,.v (ti (j:Int)))]) (fun j=>j≤cs.length∧Aa3 (cs.drop j)=E3) (fun j=>cs.length - j) 0 (by kernel_rfl) ⟨A3 _,Hj⟩ ?_
 rintro j ⟨hj,hR⟩
 (try dsimp only at hj hR ⊢)
 have hw:=zwj (j:=j) (by omega)
 by_cases E6:j<cs.length
 ·skip
  obtain⟨c,hc⟩:∃c,cs[j]?=some c:=⟨_,Ac E6⟩;have h3:¬decide ((j:Int)<(cs.length:Int))=false:=by simp;omega
  have h4:¬decide ((j:Int)<((cs.map Ce.Ap).length:Int))=false:=by simp;omega
  have K9:cs.drop j=c::cs.drop (j+1):=by rw[A7 E6];rw[Ac E6]at hc;cases hc;rfl
  rw[K9]at hR;simp only[Aa3]at hR;obtain⟨ck,cv,cg⟩:=c;by_cases Dj:(Ce.mk ck cv cg).ok
  case neg=>
   rw[if_neg Dj]at hR;rw[←hR]at Ao1;cases Ao1
  rw[if_pos Dj]at hR;obtain⟨Tt,Vc⟩:=Dj;dsimp only at Tt Vc;cases cg with
  |true=>
   repeat'((conv=>whnf);first|(with_reducible first|refine Bv (by first|assumption|exact Ae (by assumption)) fun hb=>?_|refine Bq (by rfl) fun hb=>?_);(try rw[hb]);try simp only[Am]at hb|((with_reducible refine Ai (fun hb=>?_) fun hb=>?_)<;>first|exfalso;((simp only[Eu]at hb<;>omega))|(try rw[hb]);try simp only[Am]at hb)|(with_reducible refine Aa ?_ ?_);focus (and_intros<;>first|omega|with_reducible rfl|kernel_rfl)|with_reducible intro Av|(try dsimp only);(first|rw[Be hc]|rw[hw]))
   all_goals(try(conv=>whnf))
   refine Round.by (j+1) ?_ ⟨by omega,hR⟩ (by omega)
   try dsimp only
   show norm _ _=Dy _ _
   kernel_rfl
  |false=>
   have Vc:cv.length≤256:=by simpa using Vc
   repeat'((conv=>whnf);first|(with_reducible first|refine Bv (by first|assumption|exact Ae (by assumption)|rfl) fun hb=>?_|refine Bq (by rfl) fun hb=>?_);(try rw[hb]);try simp only[Am]at hb|((with_reducible refine Ai (fun hb=>?_) fun hb=>?_)<;>first|exfalso;((simp only[Eu]at hb<;>omega))|(try rw[hb]);try simp only[Am]at hb)|(with_reducible refine Aa ?_ ?_);focus (and_intros<;>first|omega|with_reducible rfl|kernel_rfl)|with_reducible intro Av|(try dsimp only);(first|rw[Be hc]|rw[hw]))
   all_goals(try(conv=>whnf))
   refine Round.by (j+1) ?_ ⟨by omega,hR⟩ (by omega)
   try dsimp only
   show norm _ _=Dy _ _
   kernel_rfl
 have h3:¬decide ((j:Int)<(cs.length:Int))=true:=by simp;omega
 have h4:¬decide ((j:Int)<((cs.map Ce.Ap).length:Int))=true:=by simp;omega
 repeat'((conv=>whnf);first|(with_reducible refine Bq (by exact Ag (by assumption)) fun hb=>?_);(try rw[hb]);try simp only[Am]at hb|(with_reducible refine Aa ?_ ?_);focus (and_intros<;>first|omega|with_reducible rfl|kernel_rfl|simp;done)|with_reducible intro Av|(with_reducible apply Dh);(focus rfl);(focus (simp only[D.at,D.put,D.Cr,D.Bc,B7,Bw,D.Ap,B8,A4,Dq,he,Fk]<;>exact rfl));(try(focus exact rfl)))
 all_goals(try(conv=>whnf))
 clear hR Hj Ao1;refine Ep.by (X:=Nat × Cv) (fun y=>[(12,.v (ti (y.1:Int))),(11,.box (T.one (F.i y.2.Ap)))]) (fun y=>y.1≤cs.length∧KL (90000+y.1) y.2.keys∧Mn p (cs.drop y.1) y.2=Z) (fun y=>cs.length - y.1) (0,p) (by kernel_rfl) ⟨A3 _,L8,hZ⟩ ?_
 rintro⟨q,nx⟩ ⟨hq,hkq,hQ⟩;dsimp only at hq hkq hQ ⊢;have Tx:=zwj (j:=q) (by omega)
 by_cases Sv:q<cs.length
 case neg=>
  have h5:¬decide ((q:Int)<(cs.length:Int))=true:=by simp;omega
  have h6:¬decide ((q:Int)<((cs.map Ce.Ap).length:Int))=true:=by simp;omega
  rw[Bo (by omega)]at hQ
  have hQ:nx=Z:=hQ;subst hQ;obtain⟨nn,nr,nf,nk⟩:=nx;have Rv:rT (R.set i ⟨nn,nr,nf,nk⟩)= .own [] (.ptr (.st [.vec 52 4 (((R.map Cv.Ap).map D.it).set i (.it (Cv.mk nn nr nf nk).Ap))])):=by simp only[rT,Gi]
  rw[Rv];repeat'((conv=>whnf);first|(with_reducible refine Bq (by exact Ag (by assumption)) fun hb=>?_);(try rw[hb]);try simp only[Am]at hb|(with_reducible refine Aa ?_ ?_);focus (and_intros<;>first|omega|with_reducible rfl|kernel_rfl|simp;done)|with_reducible intro Av|(with_reducible refine Dw.Gx ?_ ?_ ?_ fun Av=>?_);(iterate 3 focus (as_aux_lemma=>kernel_rfl));try simp only[zRL]at Av|(with_reducible apply L1);(focus (simp only[D.at,D.put,D.Cr,D.Bc,B7,Bw,D.Ap,B8,A4,Dq,he,Fk]<;>exact rfl)))
  all_goals(try(conv=>whnf))
  (apply D6<;>kernel_rfl)
 obtain⟨c,hc⟩:∃c,cs[q]?=some c:=⟨_,Ac Sv⟩;have h5:¬decide ((q:Int)<(cs.length:Int))=false:=by simp;omega
 have h6:¬decide ((q:Int)<((cs.map Ce.Ap).length:Int))=false:=by simp;omega
 have hdq:cs.drop q=c::cs.drop (q+1):=by rw[A7 Sv];rw[Ac Sv]at hc;cases hc;rfl
 rw[hdq]at hQ;simp only[Mn]at hQ;have hkn:KL (90000+(q+1)) (Qb p c (cs.drop (q+1)) nx).keys:=Bgc hkq;have N3:∀nx',nx'=Qb p c (cs.drop (q+1)) nx→q+1≤cs.length∧KL (90000+(q+1)) nx'.keys∧Mn p (cs.drop (q+1)) nx'=Z:=fun nx' e=>by subst e;exact⟨by omega,hkn,hQ⟩
 clear hQ hkn;obtain⟨LA,hLA⟩:∃b,Xd c.key (cs.drop (q+1)) true=b:=⟨_,rfl⟩;obtain⟨WA,hWA⟩:∃v,Vs c.key p.rev p.keys Fx=v:=⟨_,rfl⟩;unfold Qb at N3;rw[hLA,hWA]at N3;obtain⟨ck,cv,cg⟩:=c;dsimp only at hLA hWA N3;repeat'((conv=>whnf);first|(with_reducible refine Bv (by exact Ae (by assumption)) fun hb=>?_);(try rw[hb]);try simp only[Am]at hb|(with_reducible refine Aa ?_ ?_);focus (and_intros<;>(with_reducible rfl))|with_reducible intro Av|(try dsimp only);rw[Tx])
 all_goals(try(conv=>whnf))
 refine Ep.by (X:=Nat × Bool) (fun y=>[(14,.v (ti (y.1:Int))),(13,.v (.bool y.2))]) (fun y=>(q+1≤y.1∧y.1≤cs.length)∧Xd ck (cs.drop y.1) y.2=LA) (fun y=>cs.length - y.1) (q+1,true) (by kernel_rfl) ⟨⟨Ay _,by omega⟩,hLA⟩ ?_
 rintro⟨k,b⟩ ⟨⟨Ts,hk⟩,hK⟩;dsimp only at Ts hk hK ⊢;have hwk:=zwj (j:=k) (by omega)
 by_cases Bip:k<cs.length
 ·obtain⟨e,hke⟩:∃c,cs[k]?=some c:=⟨_,Ac Bip⟩;have h7:¬decide ((k:Int)<(cs.length:Int))=false:=by simp;omega
  have h8:¬decide ((k:Int)<((cs.map Ce.Ap).length:Int))=false:=by simp;omega
  have hdk:cs.drop k=e::cs.drop (k+1):=by rw[A7 Bip];rw[Ac Bip]at hke;cases hke;rfl
  rw[hdk]at hK;simp only[Xd]at hK;obtain⟨ek,ev,eg⟩:=e;dsimp only at hK;cases b with
  |true=>
   repeat'((conv=>whnf);first|(with_reducible refine Bv (by first|exact Ae (by assumption)|rfl) fun hb=>?_);(try rw[hb]);try simp only[Am]at hb|(with_reducible refine Aa ?_ ?_);focus (and_intros<;>first|omega|with_reducible rfl|kernel_rfl)|with_reducible intro Av|(with_reducible refine Dw.Gx ?_ ?_ ?_ fun Av=>?_);(iterate 3 focus (as_aux_lemma=>kernel_rfl));try simp only[zRL]at Av|(try dsimp only);(first|rw[Be hke]|rw[Be hc]|rw[hwk]))
   all_goals(try(conv=>whnf))
   refine Round.by (k+1,true&& !decide (ek=ck)) ?_ ⟨⟨by omega,by omega⟩,hK⟩ (by dsimp only;omega)
   try dsimp only
   show norm _ _=Dy _ _
   kernel_rfl
  |false=>
   repeat'((conv=>whnf);first|(with_reducible first|refine Bv (by exact Ae (by assumption)) fun hb=>?_|refine Bq (by first|exact Ag (by assumption)|rfl) fun hb=>?_);(try rw[hb]);try simp only[Am]at hb|(with_reducible refine Aa ?_ ?_);focus (and_intros<;>(with_reducible rfl))|with_reducible intro Av|(with_reducible refine Dw.Gx ?_ ?_ ?_ fun Av=>?_);(iterate 3 focus (as_aux_lemma=>kernel_rfl));try simp only[zRL]at Av|skip;rw[hwk])
   all_goals(try(conv=>whnf))
   refine Round.by (k+1,false&& !decide (ek=ck)) ?_ ⟨⟨by omega,by omega⟩,hK⟩ (by dsimp only;omega)
   try dsimp only
   show norm _ _=Dy _ _
   kernel_rfl
 have h7:¬decide ((k:Int)<(cs.length:Int))=true:=by simp;omega
 have h8:¬decide ((k:Int)<((cs.map Ce.Ap).length:Int))=true:=by simp;omega
 rw[Bo (by omega)]at hK
 have hK:b=LA:=hK;subst hK;repeat'((conv=>whnf);first|(with_reducible refine Bq (by exact Ag (by assumption)) fun hb=>?_);(try rw[hb]);try simp only[Am]at hb|(with_reducible refine Aa ?_ ?_);focus (and_intros<;>first|omega|with_reducible rfl|kernel_rfl)|with_reducible intro Av)
 all_goals(try(conv=>whnf))
 obtain⟨pn,pr,pf,pk⟩:=p;dsimp only at L8 Aih hWA N3;have hpk:(pk.map Kv.Ap).length=pk.length:=An _;have B2d:=L8.1;refine Ep.by (X:=Nat × Bt) (fun y=>[(16,.v (ti (y.1:Int))),(15,.box (T.one (F.i y.2.Ap)))]) (fun y=>y.1≤pk.length∧Vs ck pr (pk.drop y.1) y.2=WA) (fun y=>pk.length - y.1) (0,Fx) (by kernel_rfl) ⟨A3 _,hWA⟩ ?_
 rintro⟨m,w⟩ ⟨hm,hM⟩;dsimp only at hm hM ⊢;have Wc:=zwj (j:=m) (by omega)
 by_cases hml:m<pk.length
 ·obtain⟨h,hmh⟩:∃c,pk[m]?=some c:=⟨_,Ac hml⟩;have h9:¬decide ((m:Int)<(pk.length:Int))=false:=by simp;omega
  have h10:¬decide ((m:Int)<((pk.map Kv.Ap).length:Int))=false:=by simp;omega
  have hdm:pk.drop m=h::pk.drop (m+1):=by rw[A7 hml];rw[Ac hml]at hmh;cases hmh;rfl
  rw[hdm]at hM;simp only[Vs]at hM;have Dd:=Awy h.vs pr (by have:=L8.2 h (Aw hmh);omega)
  obtain⟨Jn,Na⟩:=h;dsimp only at hM Dd;by_cases Vd:Jn=ck
  ·rw[if_pos Vd]at hM;have e1:¬decide (Jn=ck)=false:=by simpa using Vd
   generalize Js pr Na Fx=u at Dd hM;repeat'((conv=>whnf);first|(with_reducible refine Bv (by exact Ae (by assumption)) fun hb=>?_);(try rw[hb]);(try simp only[Am]at hb);try subst hb|(with_reducible refine Aa ?_ ?_);focus (and_intros<;>first|omega|with_reducible rfl|kernel_rfl|intro _ hh;cases hh;done|simp;done|decide)|with_reducible intro Av|(with_reducible refine Dw.Gx ?_ ?_ ?_ fun Av=>?_);(iterate 3 focus (as_aux_lemma=>kernel_rfl));try simp only[zRL]at Av|(try dsimp only);(first|rw[Be hmh]|rw[Be hc])|(with_reducible refine Fv.mk ?_);refine⟨_,_,Dd,?_⟩|(try dsimp only);rw[Wc])
   all_goals(try(conv=>whnf))
   refine Round.by (m+1,u) ?_ ⟨by omega,hM⟩ (by dsimp only;omega)
   try dsimp only
   show norm _ _=Dy _ _
   kernel_rfl
  ·rw[if_neg Vd]at hM;have e1:¬decide (Jn=ck)=true:=by simpa using Vd
   repeat'((conv=>whnf);first|(with_reducible first|refine Bv (by exact Ae (by assumption)) fun hb=>?_|refine Bq (by exact Ag (by assumption)) fun hb=>?_);(try rw[hb]);try simp only[Am]at hb|(with_reducible refine Aa ?_ ?_);focus (and_intros<;>first|omega|with_reducible rfl|kernel_rfl|simp;done)|with_reducible intro Av|(with_reducible refine Dw.Gx ?_ ?_ ?_ fun Av=>?_);(iterate 3 focus (as_aux_lemma=>kernel_rfl));try simp only[zRL]at Av|(try dsimp only);(first|rw[Be hmh]|rw[Be hc]|rw[Wc]))
   all_goals(try(conv=>whnf))
   refine Round.by (m+1,w) ?_ ⟨by omega,hM⟩ (by dsimp only;omega)
   try dsimp only
   show norm _ _=Dy _ _
   kernel_rfl
 have h9:¬decide ((m:Int)<(pk.length:Int))=true:=by simp;omega
 have h10:¬decide ((m:Int)<((pk.map Kv.Ap).length:Int))=true:=by simp;omega
 rw[Bo (by omega)]at hM
 have hM:w=WA:=hM;subst hM;obtain⟨wr,wm,wv,wg⟩:=w;have hpr:IntKind.i64.wrap (pr+1)=pr+1:=Cd (by omega)
 have G8:=fun v=>Bck nx ck v (by have:=hkq.1;omega) (fun h hh=>by have:=hkq.2 h hh;omega)
 dsimp only at N3;obtain⟨nn,nr,nf,nk⟩:=nx;dsimp only at G8 N3;cases b with
 |false=>
  repeat'((conv=>whnf);first|(with_reducible first|refine Bv (by first|exact Ae (by assumption)|rfl) fun hb=>?_|refine Bq (by first|assumption|exact Ag (by assumption)) fun hb=>?_);(try rw[hb]);try simp only[Am]at hb|((with_reducible refine Ai (fun hb=>?_) fun hb=>?_)<;>first|exact absurd hb (by decide)|(try rw[hb]);try simp only[Am]at hb)|(with_reducible refine Aa ?_ ?_);focus (and_intros<;>first|omega|with_reducible rfl|kernel_rfl|simp;done)|with_reducible intro Av|(try dsimp only);rw[Tx])
  all_goals(try(conv=>whnf))
  refine Round.by (q+1,⟨nn,nr,nf,nk⟩) ?_ (N3 _ (by rw[if_pos (.inl rfl)])) (by dsimp only;omega)
  try dsimp only
  show norm _ _=Dy _ _
  kernel_rfl
 |true=>
  cases cg with
  |true=>
   cases wg with
   |true=>
    repeat'((conv=>whnf);first|(with_reducible first|refine Bv (by first|assumption|rfl) fun hb=>?_|refine Bq (by first|exact Ag (by assumption)|rfl) fun hb=>?_);(try rw[hb]);try simp only[Am]at hb|((with_reducible refine Ai (fun hb=>?_) fun hb=>?_)<;>first|exact absurd hb (by decide)|(try rw[hb]);try simp only[Am]at hb)|(with_reducible refine Aa ?_ ?_);focus (and_intros<;>first|omega|with_reducible rfl|kernel_rfl|simp;done)|with_reducible intro Av|(try dsimp only);rw[Be hc]|skip;rw[Tx])
    all_goals(try(conv=>whnf))
    refine Round.by (q+1,⟨nn,nr,nf,nk⟩) ?_ (N3 _ (by rw[if_pos (.inr ⟨rfl,rfl⟩)])) (by dsimp only;omega)
    try dsimp only
    show norm _ _=Dy _ _
    kernel_rfl
   |false=>
    have G8:=G8 ⟨pr+1,0,[],true⟩;repeat'((conv=>whnf);first|(with_reducible first|refine Bv (by first|assumption|rfl) fun hb=>?_|refine Bq (by first|exact Ag (by assumption)|rfl) fun hb=>?_);(try rw[hb]);try simp only[Am]at hb|((with_reducible refine Ai (fun hb=>?_) fun hb=>?_)<;>first|exact absurd hb (by decide)|(try rw[hb]);try simp only[Am]at hb)|(with_reducible refine Aa ?_ ?_);focus (and_intros<;>first|omega|with_reducible rfl|kernel_rfl|intro _ hh;cases hh;done|simp;done|decide)|with_reducible intro Av|(with_reducible refine Dw.Gx ?_ ?_ ?_ fun Av=>?_);(iterate 3 focus (as_aux_lemma=>kernel_rfl));try simp only[zRL]at Av|(try dsimp only);rw[Be hc]|(with_reducible refine Fv.mk ?_);refine⟨_,_,G8,?_⟩|(try dsimp only);rw[hpr]|skip;rw[Tx])
    all_goals(try(conv=>whnf))
    refine Round.by (q+1,⟨nn,pr+1,nf,N5 ck ⟨pr+1,0,[],true⟩ nk [] false⟩) ?_ (N3 _ (by rw[if_neg (by simp)];simp[Abc])) (by dsimp only;omega)
    try dsimp only
    show norm _ _=Dy _ _
    kernel_rfl
  |false=>
   cases wg with
   |true=>
    have G8:=G8 ⟨pr+1,pr+1,cv,false⟩;repeat'((conv=>whnf);first|(with_reducible refine Bq (by first|exact Ag (by assumption)|rfl) fun hb=>?_);(try rw[hb]);try simp only[Am]at hb|((with_reducible refine Ai (fun hb=>?_) fun hb=>?_)<;>first|exact absurd hb (by decide)|(try rw[hb]);try simp only[Am]at hb)|(with_reducible refine Aa ?_ ?_);focus (and_intros<;>first|omega|with_reducible rfl|kernel_rfl|intro _ hh;cases hh;done|simp;done|decide)|with_reducible intro Av|(with_reducible refine Dw.Gx ?_ ?_ ?_ fun Av=>?_);(iterate 3 focus (as_aux_lemma=>kernel_rfl));try simp only[zRL]at Av|(try dsimp only);rw[Be hc]|(with_reducible refine Fv.mk ?_);refine⟨_,_,G8,?_⟩|(try dsimp only);rw[hpr]|skip;rw[Tx])
    all_goals(try(conv=>whnf))
    refine Round.by (q+1,⟨nn,pr+1,nf,N5 ck ⟨pr+1,pr+1,cv,false⟩ nk [] false⟩) ?_ (N3 _ (by rw[if_neg (by simp)];simp[Abc])) (by dsimp only;omega)
    try dsimp only
    show norm _ _=Dy _ _
    kernel_rfl
   |false=>
    have G8:=G8 ⟨pr+1,wm,cv,false⟩;repeat'((conv=>whnf);first|(with_reducible refine Bq (by first|exact Ag (by assumption)|rfl) fun hb=>?_);(try rw[hb]);try simp only[Am]at hb|((with_reducible refine Ai (fun hb=>?_) fun hb=>?_)<;>first|exact absurd hb (by decide)|(try rw[hb]);try simp only[Am]at hb)|(with_reducible refine Aa ?_ ?_);focus (and_intros<;>first|omega|with_reducible rfl|kernel_rfl|intro _ hh;cases hh;done|simp;done|decide)|with_reducible intro Av|(with_reducible refine Dw.Gx ?_ ?_ ?_ fun Av=>?_);(iterate 3 focus (as_aux_lemma=>kernel_rfl));try simp only[zRL]at Av|(try dsimp only);rw[Be hc]|(with_reducible refine Fv.mk ?_);refine⟨_,_,G8,?_⟩|(try dsimp only);rw[hpr]|skip;rw[Tx])
    all_goals(try(conv=>whnf))
    refine Round.by (q+1,⟨nn,pr+1,nf,N5 ck ⟨pr+1,wm,cv,false⟩ nk [] false⟩) ?_ (N3 _ (by rw[if_neg (by simp)];simp[Abc])) (by dsimp only;omega)
    try dsimp only
    show norm _ _=Dy _ _
    kernel_rfl

open Go.Proofs
def V0:Ee:=(sO [gA 6 (cI 0)] (sO [gM 15 0,gM 16 1,gC 17 35 [(true,15),nL 16],gA 7 17] (.seq (sO [gM 18 7,gB 19 .lss 18 (cI 0)] (cR 19 [gA 6 (cI 16)])) (sO [gM 20 0,O1 (.Es 21 20),gF 22 21 0,gL 23 22,gM 24 7,gI 25 4 23 24,gU 26 4 25,O1 (.Zn 8 (.st [(.it (.str [])),(.it (.int .i64 0)),(.it (.int .i64 0)),(.vec 55 2 [])])),gS 4 8 26] (.seq (sO [gM 27 2,gB 28 .lss 27 (cI 0)] (cR 28 [gA 6 (cI 1)])) (.seq (sO [gM 29 2,gF 30 8 1,gL 31 30,gB 32 .gtr 29 31] (cR 32 [gA 6 (cI 13)])) (.seq (sO [gM 33 2,gF 34 8 2,gL 35 34,gB 36 .lss 33 35] (cR 36 [gA 6 (cI 14)])) (sO [O1 (.empty 37 55 2),gA 9 37] (.seq (sO [gA 10 (cI 0)] (.block 0 (.loop [11,12,13,14,38,39,40,41,42,43,44,45,46,47,48,49,50,51,52,53,54,55,56,57,58,59,60,61,62,63,64,65,66,67,68,69,70,71,72,73,74,75,76,77,78,79,80,81,82,83,84,85,86,87,88,89,90,91,92,93,94,95,96,97,98,99,100,101,102,103,104,105,106,107,108,109,110,111,112,113,114,116] (.seq (sO [gM 38 10,gF 39 8 3,gL 40 39,gN 41 40,gB 42 .lss 38 41] (.cond 42 .skip (.exit 0))) (.seq (.block 1 (sO [gF 45 8 3,gL 46 45,gM 47 10,gI 48 2 46 47,gF 49 48 0,gL 50 49,O1 (.U7 51 [(.it (.str [])),(.vec 104 4 [])] [(0,50)]),O1 (.Zn 11 (.st [(.it (.str [])),(.vec 104 4 [])])),gS 2 11 51] (sO [gF 53 8 3,gL 54 53,gM 55 10,gI 56 2 54 55,gF 57 56 1,gL 58 57,gM 59 2,gC 60 65 [nL 58,nL 59],gA 52 60,gE 61 52 0,gE 62 52 1,O1 (.alloc 12 (.one (.i (.agg [(.int .i64 0),(.int .i64 0),(.str []),(.bool false)])))),gS 4 12 61,gA 13 62] (.seq (sO [gM 63 13] (.cond 63 (.ops [gF 64 11 1,gL 65 64,gU 66 4 12,O1 (.Td 67 104 4 (.agg [(.int .i64 0),(.int .i64 0),(.str []),(.bool false)]) 1 [(0,66)]),O1 (.app 68 104 4 40 65 67),gF 69 11 1,gS 1 69 68]) .skip)) (.seq (sO [gA 14 (cI 0)] (.block 2 (.loop [70,71,72,73,74,75,76,77,78,79,80,81,82,83,84,85,86,87,88,89,90,91,92,93,94,95,96,97,98,99,100,101,102,103,104,105,106,111,116] (.seq (sO [gM 70 14,gF 71 8 3,gL 72 71,gM 73 10,gI 74 2 72 73,gF 75 74 1,gL 76 75,gN 77 76,gB 78 .lss 70 77] (.cond 78 .skip (.exit 2))) (.seq (.block 3 (sO [gF 81 8 3,gL 82 81,gM 83 10,gI 84 2 82 83,gF 85 84 1,gL 86 85,gM 87 14,gI 88 4 86 87,gF 89 88 0,gL 90 89,gM 91 2,gB 92 .gtr 90 91] (.cond 92 (.Kf [0,1,0,4,0,28,60,124,0,508,1020,2044,4095,8191,16383] [gF 93 11 1,gL 94 93,gF 95 8 3,gL 96 95,gM 97 10,gI 98 2 96 97,gF 99 98 1,gL 100 99,gM 101 14,gI 102 4 100 101,gU 103 4 102,O1 (.Td 104 104 4 (.agg [(.int .i64 0),(.int .i64 0),(.str []),(.bool false)]) 1 [(0,103)]),O1 (.app 105 104 4 40 94 104),gF 106 11 1,gS 1 106 105]) .skip))) (.ops [gM 79 14,gB 80 .add 79 (cI 1),gA 14 80])))))) (sO [gF 107 11 1,gL 108 107,gN 109 108,gB 110 .gtr 109 (cI 0)] (.cond 110 (.ops [gM 111 9,O1 (.At8 112 true 2 11),O1 (.Td 113 55 2 (.agg [(.str []),(.list [])]) 1 [(0,112)]),O1 (.app 114 55 2 40 111 113),gA 9 114]) .skip))))))) (.ops [gM 43 10,gB 44 .add 43 (cI 1),gA 10 44])))))) (sO [gM 115 2,gM 116 9,gF 117 8 2,gS 1 117 115,gF 118 8 3,gS 1 118 116] (.seq (.Kf [0,1,3,7,0,0,63,127] [gM 119 0,O1 (.Es 120 119),gF 121 120 0,gL 122 121,gM 123 7,gU 124 4 8,gI 125 4 122 123,gS 4 125 124]) (sO [gA 6 (cI 0)] .ret))))))))))))
theorem Lp:OF 29 126 V0 [.t 6]:=oF Tryz.func29 rfl Tryz.ntmps29
def Xz:Ee:=(sO [gA 4 (cI 0)] (.seq (sO [gM 8 1,gC 9 52 [nL 8],gT 10 9] (cR 10 [gA 4 (cI 5)])) (.seq (sO [gM 11 0,gM 12 1,gC 13 35 [(true,11),nL 12],gB 14 .geq 13 (cI 0)] (cR 14 [gA 4 (cI 15)])) (.seq (sO [gM 15 0,O1 (.Es 16 15),gF 17 16 0,gL 18 17,gN 19 18,gB 20 .geq 19 (cI 8)] (cR 20 [gA 4 (cI 17)])) (sO [O1 (.empty 21 52 4),gA 5 21] (sO [gA 6 cF] (.seq (sO [gA 7 (cI 0)] (.block 0 (.loop [22,23,24,25,26,27,28,29,30,31,32,33,34,35,36,37,38,39,40,41,42,43,44,45,46,47,48,49,50,51,52,53,54,55,56,57,58,59,62,68] (.seq (sO [gM 22 7,gM 23 0,O1 (.Es 24 23),gF 25 24 0,gL 26 25,gN 27 26,gB 28 .lss 22 27] (.cond 28 .skip (.exit 0))) (.seq (.block 1 (.seq (sO [gM 31 6,gT 32 31,gM 33 32,qt 33 (iM 34 1),qt 33 (iM 35 0),qt 33 (.Es 36 35),qt 33 (iG 37 36 0 0),qt 33 (iL 38 37),qt 33 (iM 39 7),qt 33 (iI 40 4 38 39),qt 33 (iG 41 40 0 0),qt 33 (iL 42 41),qt 33 (iB 43 .lss 34 42),gP 44 33 43 cF] (.cond 44 (sO [gM 45 5,gM 46 1,O1 (.build 47 [(.str []),(.int .i64 0),(.int .i64 0),(.list [])] [(0,46)]),O1 (.Td 48 52 4 (.agg [(.str []),(.int .i64 0),(.int .i64 0),(.list [])]) 1 [(0,47)]),O1 (.app 49 52 4 56 45 48),gA 5 49] (.ops [gA 6 cT])) .skip)) (.ops [gM 50 5,gM 51 0,O1 (.Es 52 51),gF 53 52 0,gL 54 53,gM 55 7,gI 56 4 54 55,gU 57 4 56,O1 (.Td 58 52 4 (.agg [(.str []),(.int .i64 0),(.int .i64 0),(.list [])]) 1 [(0,57)]),O1 (.app 59 52 4 56 50 58),gA 5 59]))) (.ops [gM 29 7,gB 30 .add 29 (cI 1),gA 7 30])))))) (.seq (sO [gM 60 6,gT 61 60] (.cond 61 (.ops [gM 62 5,gM 63 1,O1 (.build 64 [(.str []),(.int .i64 0),(.int .i64 0),(.list [])] [(0,63)]),O1 (.Td 65 52 4 (.agg [(.str []),(.int .i64 0),(.int .i64 0),(.list [])]) 1 [(0,64)]),O1 (.app 66 52 4 56 62 65),gA 5 66]) .skip)) (sO [gM 67 0,O1 (.Uy 68 5),O1 (.Es 69 67),gF 70 69 0,gS 1 70 68] (sO [gA 4 (cI 0)] .ret))))))))))
theorem X4:OF 26 71 Xz [.t 4]:=oF Tryz.func26 rfl Tryz.ntmps26

open Go.Proofs
def rcE(p:Cv)(rev:Int):Int:=if rev<0 then 1 else if p.rev<rev then 13 else if rev<p.floor then 14 else 0
def Wq(rev:Int):List Bt→List Bt→List Bt
 | [],out=>out
 |w::r,out=>Wq rev r (if rev<w.rev then out++[w]else out)
def Ac6(rev:Int)(vs:List Bt):List Bt:=Wq rev vs (if(Js rev vs Fx).gone=true then[]else[Js rev vs Fx])
def Ac5(rev:Int):List Kv→List Kv→List Kv
 | [],out=>out
 |h::r,out=>Ac5 rev r (if Ac6 rev h.vs=[]then out else out++[⟨h.key,Ac6 rev h.vs⟩])
theorem Bbe(R:List Cv)(n:A1)(rev:Int)(hl:R.length≤100000)(hf:Jz n R 0= -1):
 Fn Tryz.prog H0 [rT R,.v (.str n),.v (ti rev)] (Is (.v (ti 16)) [rT R,.no,.no]):=by
 refine Lp ?_ (by simp)
 have H6:=Lh R n hl;rw[hf]at H6;repeat'((conv=>whnf);first|(with_reducible refine Bv (by first|refine decide_eq_true ?_;omega|rfl) fun hb=>?_);(try rw[hb]);try simp only[Am]at hb|(with_reducible refine Aa ?_ ?_);focus (and_intros<;>first|kernel_rfl|intro _ hh;cases hh;done|simp;done|decide)|(with_reducible refine A5.mk ?_);refine⟨_,H6,?_⟩;rintro _ _ ⟨rfl,rfl⟩)
 all_goals(try(conv=>whnf))
 (apply D6<;>kernel_rfl)
theorem Bf5(R:List Cv)(n:A1)(rev:Int)(hl:R.length≤100000)(i:Nat)(p:Cv)(hf:Jz n R 0=(i:Int))(he:R[i]?=some p)(hE:rcE p rev≠0):
 Fn Tryz.prog H0 [rT R,.v (.str n),.v (ti rev)] (Is (.v (ti (rcE p rev))) [rT R,.no,.no]):=by
 refine Lp ?_ (by simp)
 have H6:=Lh R n hl;rw[hf]at H6;have Pv:=(Ak.1 he).1;have Fk:((R.map Cv.Ap).map D.it).length=R.length:=by simp
 obtain⟨pn,pr,pf,pk⟩:=p;unfold rcE at hE ⊢;dsimp only at hE ⊢;by_cases h1:rev<0
 ·rw[if_pos h1];repeat'((conv=>whnf);first|(with_reducible first|refine Bv (by first|refine decide_eq_true ?_;assumption|rfl) fun hb=>?_|refine Bq (by first|refine decide_eq_false ?_;omega|rfl) fun hb=>?_);(try rw[hb]);try simp only[Am]at hb|(with_reducible refine Aa ?_ ?_);focus (and_intros<;>first|omega|with_reducible rfl|kernel_rfl|intro _ hh;cases hh;done|simp;done|decide)|(with_reducible refine A5.mk ?_);refine⟨_,H6,?_⟩;rintro _ _ ⟨rfl,rfl⟩|(with_reducible apply Dh);(focus rfl);(focus (simp only[D.at,D.put,D.Cr,D.Bc,B7,Bw,D.Ap,B8,A4,Dq,he,Fk]<;>exact rfl));(try(focus exact rfl)))
  all_goals(try(conv=>whnf))
  all_goals((apply D6<;>kernel_rfl))
 rw[if_neg h1]at hE ⊢;by_cases h2:pr<rev
 ·rw[if_pos h2];repeat'((conv=>whnf);first|(with_reducible first|refine Bv (by first|refine decide_eq_true ?_;assumption|rfl) fun hb=>?_|refine Bq (by first|((refine decide_eq_false ?_);first|assumption|omega)|rfl) fun hb=>?_);(try rw[hb]);try simp only[Am]at hb|(with_reducible refine Aa ?_ ?_);focus (and_intros<;>first|omega|with_reducible rfl|kernel_rfl|intro _ hh;cases hh;done|simp;done|decide)|(with_reducible refine A5.mk ?_);refine⟨_,H6,?_⟩;rintro _ _ ⟨rfl,rfl⟩|(with_reducible apply Dh);(focus rfl);(focus (simp only[D.at,D.put,D.Cr,D.Bc,B7,Bw,D.Ap,B8,A4,Dq,he,Fk]<;>exact rfl));(try(focus exact rfl)))
  all_goals(try(conv=>whnf))
  all_goals((apply D6<;>kernel_rfl))
 rw[if_neg h2]at hE ⊢;by_cases h3:rev<pf
 ·rw[if_pos h3];repeat'((conv=>whnf);first|(with_reducible first|refine Bv (by first|refine decide_eq_true ?_;assumption|rfl) fun hb=>?_|refine Bq (by first|((refine decide_eq_false ?_);first|assumption|omega)|rfl) fun hb=>?_);(try rw[hb]);try simp only[Am]at hb|(with_reducible refine Aa ?_ ?_);focus (and_intros<;>first|omega|with_reducible rfl|kernel_rfl|intro _ hh;cases hh;done|simp;done|decide)|(with_reducible refine A5.mk ?_);refine⟨_,H6,?_⟩;rintro _ _ ⟨rfl,rfl⟩|(with_reducible apply Dh);(focus rfl);(focus (simp only[D.at,D.put,D.Cr,D.Bc,B7,Bw,D.Ap,B8,A4,Dq,he,Fk]<;>exact rfl));(try(focus exact rfl)))
  all_goals(try(conv=>whnf))
  all_goals((apply D6<;>kernel_rfl))
 ·rw[if_neg h3]at hE;exact absurd rfl hE
theorem Bj0(R:List Cv)(n:A1)(rev:Int)(hl:R.length≤100000)(i:Nat)(p:Cv)(hf:Jz n R 0=(i:Int))(he:R[i]?=some p)(hE:0≤rev∧rev≤p.rev∧p.floor≤rev)(L8:KL 100000 p.keys):
 Fn Tryz.prog H0 [rT R,.v (.str n),.v (ti rev)] (Is (.v (ti 0)) [rT (R.set i ⟨p.name,p.rev,rev,Ac5 rev p.keys []⟩),.no,.no]):=by
 refine Lp ?_ (by simp)
 have H6:=Lh R n hl;rw[hf]at H6;have Pv:=(Ak.1 he).1;have Fk:((R.map Cv.Ap).map D.it).length=R.length:=by simp
 obtain⟨pn,pr,pf,ks⟩:=p;obtain⟨e1,e2,e3⟩:=hE;dsimp only at e2 e3 L8 ⊢;obtain⟨Tt,Vc⟩:=L8;obtain⟨E3,Hj⟩:∃X,Ac5 rev ks []=X:=⟨_,rfl⟩;rw[Hj];have Pw:(ks.map Kv.Ap).length=ks.length:=An _;repeat'((conv=>whnf);first|(with_reducible refine Bq (by first|refine decide_eq_false ?_;omega|rfl) fun hb=>?_);(try rw[hb]);try simp only[Am]at hb|((with_reducible refine Ai (fun hb=>?_) fun hb=>?_)<;>first|exfalso;((simp only[Eu]at hb<;>omega))|(try rw[hb]);try simp only[Am]at hb)|(with_reducible refine Aa ?_ ?_);focus (and_intros<;>first|omega|with_reducible rfl|kernel_rfl|intro _ hh;cases hh;done|simp;done|decide)|(with_reducible refine A5.mk ?_);refine⟨_,H6,?_⟩;rintro _ _ ⟨rfl,rfl⟩|(with_reducible apply Dh);(focus rfl);(focus (simp only[D.at,D.put,D.Cr,D.Bc,B7,Bw,D.Ap,B8,A4,Dq,he,Fk]<;>exact rfl));(try(focus exact rfl)))
 all_goals(try(conv=>whnf))
 refine Ep.by (X:=Nat × List Kv) (fun y=>[(10,.v (ti (y.1:Int))),(9,.vec 55 2 (y.2.map Kv.Ap))]) (fun y=>y.1≤ks.length∧y.2.length≤y.1∧Ac5 rev (ks.drop y.1) y.2=E3) (fun y=>ks.length - y.1) (0,[]) (by kernel_rfl) ⟨A3 _,A3 _,Hj⟩ ?_
 rintro⟨j,out⟩ ⟨hj,hol,hR⟩;dsimp only at hj hol hR ⊢;have hw:=zwj (j:=j) (by omega)
 have Biy:(out.map Kv.Ap).length≤100000:=by rw[An];omega
 by_cases E6:j<ks.length
 case neg=>
  have h3:¬decide ((j:Int)<((ks.map Kv.Ap).length:Int))=true:=by simp;omega
  have h4:¬decide ((j:Int)<(ks.length:Int))=true:=by simp;omega
  rw[Bo (by omega)]at hR
  have hR:out=E3:=hR;subst hR;have Rv:rT (R.set i ⟨pn,pr,rev,out⟩)= .own [] (.ptr (.st [.vec 52 4 (((R.map Cv.Ap).map D.it).set i (.it (Cv.mk pn pr rev out).Ap))])):=by simp only[rT,Gi]
  rw[Rv];repeat'((conv=>whnf);first|(with_reducible refine Bq (by exact Ag (by assumption)) fun hb=>?_);(try rw[hb]);try simp only[Am]at hb|(with_reducible refine Aa ?_ ?_);focus (and_intros<;>first|omega|with_reducible rfl|kernel_rfl|simp;done)|with_reducible intro Av|(with_reducible refine Dw.Gx ?_ ?_ ?_ fun Av=>?_);(iterate 3 focus (as_aux_lemma=>kernel_rfl));try simp only[zRL]at Av|(with_reducible apply L1);(focus (simp only[D.at,D.put,D.Cr,D.Bc,B7,Bw,D.Ap,B8,A4,Dq,he,Fk]<;>exact rfl)))
  all_goals(try(conv=>whnf))
  (apply D6<;>kernel_rfl)
 obtain⟨h,hh⟩:∃x,ks[j]?=some x:=⟨_,Ac E6⟩;have h3:¬decide ((j:Int)<((ks.map Kv.Ap).length:Int))=false:=by simp;omega
 have h4:¬decide ((j:Int)<(ks.length:Int))=false:=by simp;omega
 have K9:ks.drop j=h::ks.drop (j+1):=by rw[A7 E6];rw[Ac E6]at hh;cases hh;rfl
 rw[K9]at hR;simp only[Ac5]at hR;have Qy:=Vc h (Aw hh);have Dd:=Awy h.vs rev Qy;obtain⟨hk,vs⟩:=h;dsimp only at hR Qy Dd;unfold Ac6 at hR;have Ko:(vs.map Bt.Ap).length=vs.length:=An _;generalize Js rev vs Fx=v0 at Dd hR;obtain⟨vr,vm,vv,vg⟩:=v0;obtain⟨RV,hRV⟩:∃X,Wq rev vs (if vg=true then[]else[⟨vr,vm,vv,vg⟩])=X:=⟨_,rfl⟩
 rw[hRV]at hR;cases vg with
 |true=>
  simp only[if_true]at hRV;repeat'((conv=>whnf);first|(with_reducible refine Bv (by exact Ae (by assumption)) fun hb=>?_);(try rw[hb]);try simp only[Am]at hb|(with_reducible refine Ai (fun hb=>?_) fun hb=>?_)<;>(((try rw[hb]);(try simp only[Am]at hb)))|(with_reducible refine Aa ?_ ?_);focus (and_intros<;>first|omega|with_reducible rfl|kernel_rfl|intro _ hh;cases hh;done|simp;done|decide)|with_reducible intro Av|(try dsimp only);rw[Be hh]|(with_reducible refine A5.mk ?_);refine⟨_,Dd,?_⟩;rintro _ _ ⟨rfl,rfl⟩)
  all_goals(try(conv=>whnf))
  refine Ep.by (X:=Nat × List Bt) (fun y=>[(14,.v (ti (y.1:Int))),(11,.own [] (.ptr (.st [.it (.str hk),.vec 104 4 ((y.2.map Bt.Ap).map D.it)])))]) (fun y=>y.1≤vs.length∧y.2.length≤y.1+1∧Wq rev (vs.drop y.1) y.2=RV) (fun y=>vs.length - y.1) (0,[]) (by kernel_rfl) ⟨A3 _,by simp,hRV⟩ ?_
  rintro⟨q,acc⟩ ⟨hq,Sv,hQ⟩;dsimp only at hq Sv hQ ⊢;have Tx:=zwj (j:=q) (by omega)
  have A9z:(((acc.map Bt.Ap).map D.it).length)=acc.length:=by simp
  by_cases hqv:q<vs.length
  ·obtain⟨w,Sw⟩:∃x,vs[q]?=some x:=⟨_,Ac hqv⟩;have h5:¬decide ((q:Int)<((vs.map Bt.Ap).length:Int))=false:=by simp;omega
   have h6:¬decide ((q:Int)<(vs.length:Int))=false:=by simp;omega
   have hdq:vs.drop q=w::vs.drop (q+1):=by rw[A7 hqv];rw[Ac hqv]at Sw;cases Sw;rfl
   rw[hdq]at hQ;simp only[Wq]at hQ;obtain⟨wr,wm,wv,wg⟩:=w;dsimp only at hQ;by_cases Di:rev<wr
   ·rw[if_pos Di]at hQ;have e7:¬decide (rev<wr)=false:=by simpa using Di
    repeat'((conv=>whnf);first|(with_reducible refine Bv (by exact Ae (by assumption)) fun hb=>?_);(try rw[hb]);try simp only[Am]at hb|(with_reducible refine Aa ?_ ?_);focus (and_intros<;>first|omega|with_reducible rfl|kernel_rfl|exact F0 (by rfl)|exact Jm rfl|simp only[Eu];omega|simp;done)|with_reducible intro Av|(with_reducible refine Dw.Gx ?_ ?_ ?_ fun Av=>?_);(iterate 3 focus (as_aux_lemma=>kernel_rfl));try simp only[zRL]at Av|(try dsimp only);(first|rw[Be hh]|rw[Be Sw])|skip;rw[Tx])
    all_goals(try(conv=>whnf))
    refine Round.by (q+1,acc++[⟨wr,wm,wv,wg⟩]) ?_ ⟨by omega,by simp;omega,hQ⟩ (by dsimp only;omega)
    try dsimp only
    simp only[B5,A0,C5];show norm _ _=Dy _ _
    kernel_rfl
   ·rw[if_neg Di]at hQ;have e7:¬decide (rev<wr)=true:=by simpa using Di
    repeat'((conv=>whnf);first|(with_reducible first|refine Bv (by exact Ae (by assumption)) fun hb=>?_|refine Bq (by exact Ag (by assumption)) fun hb=>?_);(try rw[hb]);try simp only[Am]at hb|(with_reducible refine Aa ?_ ?_);focus (and_intros<;>first|omega|with_reducible rfl|kernel_rfl|simp;done)|with_reducible intro Av|(try dsimp only);(first|rw[Be hh]|rw[Be Sw]|rw[Tx]))
    all_goals(try(conv=>whnf))
    refine Round.by (q+1,acc) ?_ ⟨by omega,by dsimp only;omega,hQ⟩ (by dsimp only;omega)
    try dsimp only
    show norm _ _=Dy _ _
    kernel_rfl
  have h5:¬decide ((q:Int)<((vs.map Bt.Ap).length:Int))=true:=by simp;omega
  have h6:¬decide ((q:Int)<(vs.length:Int))=true:=by simp;omega
  rw[Bo (by omega)]at hQ
  have hQ:acc=RV:=hQ;subst hQ;have hti:B8 ((acc.map Bt.Ap).map D.it)=some (acc.map Bt.Ap):=A4 _;cases acc with
  |nil=>
   rw[if_pos rfl]at hR;repeat'((conv=>whnf);first|(with_reducible refine Bq (by exact Ag (by assumption)) fun hb=>?_);(try rw[hb]);try simp only[Am]at hb|((with_reducible refine Ai (fun hb=>?_) fun hb=>?_)<;>first|exact absurd hb (by decide)|(try rw[hb]);try simp only[Am]at hb)|(with_reducible refine Aa ?_ ?_);focus (and_intros<;>first|omega|with_reducible rfl|kernel_rfl|simp;done)|with_reducible intro Av|(try dsimp only);(first|rw[Be hh]|rw[hw]))
   all_goals(try(conv=>whnf))
   refine Round.by (j+1,out) ?_ ⟨by omega,by dsimp only;omega,hR⟩ (by dsimp only;omega)
   try dsimp only
   show norm _ _=Dy _ _
   kernel_rfl
  |cons a0 ar=>
   rw[if_neg (by simp)]at hR
   have h7:¬decide ((0:Int)<(((((a0::ar).map Bt.Ap).map D.it).length:Nat):Int))=false:=by first|(simp;done)|(simp;omega)
   have h8:¬decide ((0:Int)<(((a0::ar).length:Nat):Int))=false:=by first|(simp;done)|(simp;omega)
   repeat'((conv=>whnf);first|(with_reducible first|refine Bv (by exact Ae (by assumption)) fun hb=>?_|refine Bq (by exact Ag (by assumption)) fun hb=>?_);(try rw[hb]);try simp only[Am]at hb|(with_reducible refine Aa ?_ ?_);focus (and_intros<;>first|omega|with_reducible rfl|kernel_rfl|exact F0 (by rfl)|simp only[Eu];omega|simp;done)|with_reducible intro Av|(try dsimp only);(first|rw[Be hh]|rw[hw])|(with_reducible apply Ed);(focus (simp only[D.at,D.put,D.Cr,D.Bc,B7,Bw,D.Ap,B8,A4,Dq,A9z,hti]<;>exact rfl)))
   all_goals(try(conv=>whnf))
   refine Round.by (j+1,out++[⟨hk,a0::ar⟩]) ?_ ⟨by omega,by simp;omega,hR⟩ (by dsimp only;omega)
   try dsimp only
   simp only[B5,A0,C5];show norm _ _=Dy _ _
   kernel_rfl
 |false=>
  simp only[D0,if_false]at hRV;repeat'((conv=>whnf);first|(with_reducible refine Bv (by exact Ae (by assumption)) fun hb=>?_);(try rw[hb]);try simp only[Am]at hb|(with_reducible refine Ai (fun hb=>?_) fun hb=>?_)<;>(((try rw[hb]);(try simp only[Am]at hb)))|(with_reducible refine Aa ?_ ?_);focus (and_intros<;>first|omega|with_reducible rfl|kernel_rfl|intro _ hh;cases hh;done|exact F0 (by rfl)|exact Jm rfl|simp only[Eu];omega|simp;done|decide)|with_reducible intro Av|(try dsimp only);rw[Be hh]|(with_reducible refine A5.mk ?_);refine⟨_,Dd,?_⟩;rintro _ _ ⟨rfl,rfl⟩)
  all_goals(try(conv=>whnf))
  refine Ep.by (X:=Nat × List Bt) (fun y=>[(14,.v (ti (y.1:Int))),(11,.own [] (.ptr (.st [.it (.str hk),.vec 104 4 ((y.2.map Bt.Ap).map D.it)])))]) (fun y=>y.1≤vs.length∧y.2.length≤y.1+1∧Wq rev (vs.drop y.1) y.2=RV) (fun y=>vs.length - y.1) (0,[⟨vr,vm,vv,false⟩]) (by kernel_rfl) ⟨A3 _,by simp,hRV⟩ ?_
  rintro⟨q,acc⟩ ⟨hq,Sv,hQ⟩;dsimp only at hq Sv hQ ⊢;have Tx:=zwj (j:=q) (by omega)
  have A9z:(((acc.map Bt.Ap).map D.it).length)=acc.length:=by simp
  by_cases hqv:q<vs.length
  ·obtain⟨w,Sw⟩:∃x,vs[q]?=some x:=⟨_,Ac hqv⟩;have h5:¬decide ((q:Int)<((vs.map Bt.Ap).length:Int))=false:=by simp;omega
   have h6:¬decide ((q:Int)<(vs.length:Int))=false:=by simp;omega
   have hdq:vs.drop q=w::vs.drop (q+1):=by rw[A7 hqv];rw[Ac hqv]at Sw;cases Sw;rfl
   rw[hdq]at hQ;simp only[Wq]at hQ;obtain⟨wr,wm,wv,wg⟩:=w;dsimp only at hQ;by_cases Di:rev<wr
   ·rw[if_pos Di]at hQ;have e7:¬decide (rev<wr)=false:=by simpa using Di
    repeat'((conv=>whnf);first|(with_reducible refine Bv (by exact Ae (by assumption)) fun hb=>?_);(try rw[hb]);try simp only[Am]at hb|(with_reducible refine Aa ?_ ?_);focus (and_intros<;>first|omega|with_reducible rfl|kernel_rfl|exact F0 (by rfl)|exact Jm rfl|simp only[Eu];omega|simp;done)|with_reducible intro Av|(with_reducible refine Dw.Gx ?_ ?_ ?_ fun Av=>?_);(iterate 3 focus (as_aux_lemma=>kernel_rfl));try simp only[zRL]at Av|(try dsimp only);(first|rw[Be hh]|rw[Be Sw])|skip;rw[Tx])
    all_goals(try(conv=>whnf))
    refine Round.by (q+1,acc++[⟨wr,wm,wv,wg⟩]) ?_ ⟨by omega,by simp;omega,hQ⟩ (by dsimp only;omega)
    try dsimp only
    simp only[B5,A0,C5];show norm _ _=Dy _ _
    kernel_rfl
   ·rw[if_neg Di]at hQ;have e7:¬decide (rev<wr)=true:=by simpa using Di
    repeat'((conv=>whnf);first|(with_reducible first|refine Bv (by exact Ae (by assumption)) fun hb=>?_|refine Bq (by exact Ag (by assumption)) fun hb=>?_);(try rw[hb]);try simp only[Am]at hb|(with_reducible refine Aa ?_ ?_);focus (and_intros<;>first|omega|with_reducible rfl|kernel_rfl|simp;done)|with_reducible intro Av|(try dsimp only);(first|rw[Be hh]|rw[Be Sw]|rw[Tx]))
    all_goals(try(conv=>whnf))
    refine Round.by (q+1,acc) ?_ ⟨by omega,by dsimp only;omega,hQ⟩ (by dsimp only;omega)
    try dsimp only
    show norm _ _=Dy _ _
    kernel_rfl
  have h5:¬decide ((q:Int)<((vs.map Bt.Ap).length:Int))=true:=by simp;omega
  have h6:¬decide ((q:Int)<(vs.length:Int))=true:=by simp;omega
  rw[Bo (by omega)]at hQ
  have hQ:acc=RV:=hQ;subst hQ;have hti:B8 ((acc.map Bt.Ap).map D.it)=some (acc.map Bt.Ap):=A4 _;cases acc with
  |nil=>
   rw[if_pos rfl]at hR;repeat'((conv=>whnf);first|(with_reducible refine Bq (by exact Ag (by assumption)) fun hb=>?_);(try rw[hb]);try simp only[Am]at hb|((with_reducible refine Ai (fun hb=>?_) fun hb=>?_)<;>first|exact absurd hb (by decide)|(try rw[hb]);try simp only[Am]at hb)|(with_reducible refine Aa ?_ ?_);focus (and_intros<;>first|omega|with_reducible rfl|kernel_rfl|simp;done)|with_reducible intro Av|(try dsimp only);(first|rw[Be hh]|rw[hw]))
   all_goals(try(conv=>whnf))
   refine Round.by (j+1,out) ?_ ⟨by omega,by dsimp only;omega,hR⟩ (by dsimp only;omega)
   try dsimp only
   show norm _ _=Dy _ _
   kernel_rfl
  |cons a0 ar=>
   rw[if_neg (by simp)]at hR
   have h7:¬decide ((0:Int)<(((((a0::ar).map Bt.Ap).map D.it).length:Nat):Int))=false:=by first|(simp;done)|(simp;omega)
   have h8:¬decide ((0:Int)<(((a0::ar).length:Nat):Int))=false:=by first|(simp;done)|(simp;omega)
   repeat'((conv=>whnf);first|(with_reducible first|refine Bv (by exact Ae (by assumption)) fun hb=>?_|refine Bq (by exact Ag (by assumption)) fun hb=>?_);(try rw[hb]);try simp only[Am]at hb|(with_reducible refine Aa ?_ ?_);focus (and_intros<;>first|omega|with_reducible rfl|kernel_rfl|exact F0 (by rfl)|simp only[Eu];omega|simp;done)|with_reducible intro Av|(try dsimp only);(first|rw[Be hh]|rw[hw])|(with_reducible apply Ed);(focus (simp only[D.at,D.put,D.Cr,D.Bc,B7,Bw,D.Ap,B8,A4,Dq,A9z,hti]<;>exact rfl)))
   all_goals(try(conv=>whnf))
   refine Round.by (j+1,out++[⟨hk,a0::ar⟩]) ?_ ⟨by omega,by simp;omega,hR⟩ (by dsimp only;omega)
   try dsimp only
   simp only[B5,A0,C5];show norm _ _=Dy _ _
   kernel_rfl
end Go.Ab
