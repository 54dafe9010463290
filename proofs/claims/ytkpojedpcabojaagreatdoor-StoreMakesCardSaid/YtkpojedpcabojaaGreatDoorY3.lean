/- Lemmas -/
import Derived.Test.YtkpojedpcabojaaGreatDoorWBD
set_option linter.unusedVariables false
set_option linter.unusedSimpArgs false
set_option maxRecDepth 100000
set_option maxHeartbeats 40000000
namespace Go.Ab
open Go.Proofs
def Wy(n:A1):List C0→List Kv→List Kv
 | [],out=>out
 |h::r,out=>if(Cz h.at_).1≠n then out else Wy n r (out++[⟨(Cz h.at_).2.1,h.vs⟩])
def A6.Ad5(s:A6)(n:A1):Cv:=⟨n,(s.De n).rev,(s.De n).floor,Wy n (s.l.drop (Gm (Fe (Cp n [])) s.l)) []⟩
def Kv.Dp(h:Kv):D:=.st [.it (.str h.key),.vec Ft 4 ((h.vs.map Bt.Ap).map D.it)]
theorem Kv.Avi(h:Kv):h.Dp.Ap=some h.Ap:=by
 simp only[Kv.Dp,Kv.Ap,D.Ap,B8,A4]
theorem Bng(l:List Kv):B8 (l.map Kv.Dp)=some (l.map Kv.Ap):=Ar7 Kv.Avi l
theorem Aqo:∀l:List Bt,Fs (l.map Bt.Ap)=l.map Bt.Ap
 | []=>rfl
 |x::l=>by simp only[A0,Fs,Aqo l];rfl
theorem Bdk(hof:Asm)(s:A6)(hB:s.Bd)(NM:List A1)(Qe:∀n∈NM,n.length≤1000∧(s.fi n).isSome=true)(hNl:NM.length≤1000)
 (Mx:Fn Tryz.prog Wn [sP s] (Is (.v (.list (NM.map I.str))) [sP s])):
 Fn Tryz.prog Zk [sP s] (Is (.v (.list ((NM.map s.Ad5).map Cv.Ap))) [sP s]):=by
 obtain⟨T1,T2,hof⟩:=hof;refine Ai1 ?_ (by simp)
 repeat'((conv=>whnf);first|(with_reducible refine Aa ?_ ?_);focus (and_intros<;>first|omega|with_reducible rfl|kernel_rfl|intro _ hh;cases hh;done|simp;done|decide)|with_reducible intro Av|(with_reducible refine A5.mk ?_);refine⟨_,Mx,?_⟩;rintro _ _ ⟨rfl,rfl⟩)
 all_goals(try(conv=>whnf))
 refine Ep.by (X:=Nat × List I) (fun y=>[(13,.v (ti (y.1:Int))),(3,.vec 52 4 y.2)]) (fun y=>y.1≤NM.length∧y.2=((NM.take y.1).map s.Ad5).map Cv.Ap) (fun y=>NM.length - y.1) (0,[]) (by kernel_rfl) ⟨A3 _,rfl⟩ ?_
 rintro⟨j,OUT⟩ ⟨hj,hO⟩;dsimp only at hj hO ⊢;have hw:=zwj (j:=j) (by omega)
 have hOl:OUT.length≤1000:=by rw[hO];simp;omega
 by_cases E6:j<NM.length
 case neg=>
  have Di:¬decide ((j:Int)<((NM.map I.str).length:Int))=true:=by simp;omega
  have Awc:¬decide ((j:Int)<(NM.length:Int))=true:=by simp;omega
  rw[C9 (by omega)]at hO
  rw[←hO];repeat'((conv=>whnf);first|(with_reducible refine Bq (by exact Ag (by assumption)) fun hb=>?_);(try rw[hb]);try simp only[Am]at hb|(with_reducible refine Aa ?_ ?_);focus (and_intros<;>first|omega|with_reducible rfl|simp;done))
  all_goals(try(conv=>whnf))
  (apply D6<;>kernel_rfl)
 obtain⟨n,hn⟩:∃x,NM[j]?=some x:=⟨_,Ac E6⟩;have Di:¬decide ((j:Int)<((NM.map I.str).length:Int))=false:=by simp;omega
 have Awc:¬decide ((j:Int)<(NM.length:Int))=false:=by simp;omega
 obtain⟨hn1,Vf⟩:=Qe n (Aw hn);obtain⟨i,hi⟩:=Jr.1 Vf;obtain⟨h1,h2,h3⟩:=A6.Jt hi;have hI:=Atm s.l;have Xb:=Xs n [] (by omega) (by simp)
 have N1:=Abd s.l (Cp n []) (by have:=hB.len;omega)
 obtain⟨A,hA⟩:∃A,A=Gm (Fe (Cp n [])) s.l:=⟨_,rfl⟩;obtain⟨B,hB'⟩:∃B,B=U6 (Fe (Cp n [])) (Su (Cp n [])) s.l:=⟨_,rfl⟩;rw[←hA, ←hB']at N1;repeat'((conv=>whnf);first|(with_reducible refine Bv (by first|assumption|exact Ae (by assumption)) fun hb=>?_);(try rw[hb]);try simp only[Am]at hb|(with_reducible refine Aa ?_ ?_);focus (and_intros<;>first|omega|with_reducible rfl|kernel_rfl|intro _ hh;cases hh;done|simp;done|decide)|with_reducible intro Av|(with_reducible refine Ai ?_ ?_);focus (first|with_reducible rfl|decide)|(with_reducible refine Dw.Gx ?_ ?_ ?_ fun Av=>?_);(iterate 3 focus (as_aux_lemma=>kernel_rfl));try simp only[zRL]at Av|(try dsimp only);rw[Be hn]|refine A22 hof ?_|(with_reducible refine A5.mk ?_);refine⟨_,Xb,?_⟩;rintro _ _ ⟨rfl,rfl⟩|refine Hc ?_ (by decide)|(with_reducible refine A5.mk ?_);refine⟨_,N1,?_⟩;rintro _ _ ⟨rfl,rfl⟩|(with_reducible apply Ed);(focus (simp only[D.at,D.put,D.Cr,D.Bc,B7,Bw,D.Ap,B8,A4,Dq,h1,h3,hI,A6.Dp,Ef.Ap]<;>exact rfl))|(with_reducible apply Dh);(focus rfl);(focus (simp only[D.at,D.put,D.Cr,D.Bc,B7,Bw,D.Ap,B8,A4,Dq,h1,h3,hI,A6.Dp,Ef.Ap]<;>exact rfl));(try(focus exact rfl)))
 all_goals(try(conv=>whnf))
 have hAl:A≤s.l.length:=by rw[hA];exact Wx _ _
 obtain⟨E3,Hj⟩:∃R,Wy n (s.l.drop A) []=R:=⟨_,rfl⟩;have hDS:s.Ad5 n=⟨n,(s.De n).rev,(s.De n).floor,E3⟩:=by unfold A6.Ad5;rw[←hA,Hj]
 refine Ep.by (X:=Nat × List Kv) (fun y=>[(5,.v (ti (y.1:Int))),(57,.own [] (.ptr (.st [.it (.str n),.it (ti (s.De n).rev),.it (ti (s.De n).floor),.vec 55 2 (y.2.map Kv.Dp)])))]) (fun y=>y.1≤s.l.length∧y.2.length≤y.1∧Wy n (s.l.drop y.1) y.2=E3) (fun y=>s.l.length - y.1) (A,[]) (by kernel_rfl) ⟨hAl,A3 _,Hj⟩ ?_
 rintro⟨q,KV⟩ ⟨hq,L8,hR⟩;dsimp only at hq L8 hR ⊢;have hlen:=hB.len;have Fk:(s.l.map C0.Dp).length=s.l.length:=An _;have Tx:=zwj (j:=q) (by omega)
 by_cases Sv:q<s.l.length
 case neg=>
  have Di:¬decide ((q:Int)<(s.l.length:Int))=true:=by simp;omega
  rw[Bo (by omega)]at hR
  have hR:KV=E3:=hR;subst hR;have hKI:=Bng KV;repeat'((conv=>whnf);first|(with_reducible refine Bq (by first|exact Ag (by assumption)|refine decide_eq_false ?_;omega) fun hb=>?_);(try rw[hb]);try simp only[Am]at hb|(with_reducible refine Aa ?_ ?_);focus (and_intros<;>first|omega|with_reducible rfl|kernel_rfl|exact F0 (by rfl)|simp only[Eu];omega|simp;done)|with_reducible intro Av|(with_reducible refine Ai ?_ ?_);focus ((with_reducible rfl))|(try dsimp only);rw[hw]|(with_reducible apply Ed);(focus (simp only[D.at,D.put,D.Cr,D.Bc,B7,Bw,D.Ap,B8,A4,Dq,A6.Dp,Fk,hKI]<;>exact rfl)))
  all_goals(try(conv=>whnf))
  have Bh9:OUT++[Cv.Ap ⟨n,(s.De n).rev,(s.De n).floor,KV⟩]=((NM.take (j+1)).map s.Ad5).map Cv.Ap:=by
   rw[D5,hn,hO, ←hDS];simp
  refine Round.by (j+1,OUT++[Cv.Ap ⟨n,(s.De n).rev,(s.De n).floor,KV⟩]) ?_ ⟨by omega,Bh9⟩ (by dsimp only;omega)
  try dsimp only
  show norm _ _=Dy _ _
  kernel_rfl
 obtain⟨h,he⟩:∃h,s.l[q]?=some h:=⟨_,Ac Sv⟩;have Di:¬decide ((q:Int)<(s.l.length:Int))=false:=by simp;omega
 obtain⟨Jx,Ku,Nq⟩:=hB.held h (Aw he);have Ns:=Abe h.at_ Jx;have K9:s.l.drop q=h::s.l.drop (q+1):=by rw[A7 Sv];rw[Ac Sv]at he;cases he;rfl
 rw[K9]at hR;simp only[Wy]at hR;generalize Cz h.at_=wk at Ns hR;obtain⟨w,k,z⟩:=wk;dsimp only at Ns hR;by_cases Qf:w=n
 case neg=>
  have Th:¬(!decide (w=n))=false:=by simpa using Qf
  have Are:¬decide (w=n)=true:=by simpa using Qf
  rw[if_pos Qf]at hR;subst hR;have hKI:=Bng KV;repeat'((conv=>whnf);first|(with_reducible refine Bv (by first|assumption|exact Ae (by assumption)|refine decide_eq_true ?_;omega|rfl) fun hb=>?_);(try rw[hb]);try simp only[Am]at hb|(with_reducible refine Aa ?_ ?_);focus (and_intros<;>first|omega|with_reducible rfl|kernel_rfl|intro _ hh;cases hh;done|exact F0 (by rfl)|simp only[Eu];omega|simp;done|decide)|with_reducible intro Av|(with_reducible refine Ai ?_ ?_);focus ((with_reducible rfl))|(with_reducible refine A5.mk ?_);refine⟨_,Ns,?_⟩;rintro _ _ ⟨rfl,rfl⟩|(try dsimp only);rw[hw]|(with_reducible apply Ed);(focus (simp only[D.at,D.put,D.Cr,D.Bc,B7,Bw,D.Ap,B8,A4,Dq,A6.Dp,Fk,he,hKI]<;>exact rfl))|(with_reducible apply Dh);(focus rfl);(focus (simp only[D.at,D.put,D.Cr,D.Bc,B7,Bw,D.Ap,B8,A4,Dq,A6.Dp,Fk,he,hKI]<;>exact rfl));(try(focus exact rfl)))
  all_goals(try(conv=>whnf))
  have Bh9:OUT++[Cv.Ap ⟨n,(s.De n).rev,(s.De n).floor,KV⟩]=((NM.take (j+1)).map s.Ad5).map Cv.Ap:=by
   rw[D5,hn,hO, ←hDS];simp
  refine Round.by (j+1,OUT++[Cv.Ap ⟨n,(s.De n).rev,(s.De n).floor,KV⟩]) ?_ ⟨by omega,Bh9⟩ (by dsimp only;omega)
  try dsimp only
  show norm _ _=Dy _ _
  kernel_rfl
 subst Qf;rw[if_neg (by simp)]at hR
 have Th:¬(!decide (w=w))=true:=by simp
 have Are:¬decide (w=w)=false:=by simp
 have Eh:=Vr (h.vs.map Bt.Ap) (fun u hu=>by obtain⟨v,_,rfl⟩:=Cs.1 hu;rfl) (by simp;omega)
 obtain⟨a,vs⟩:=h;dsimp only at Eh hR Nq;repeat'((conv=>whnf);first|(with_reducible first|refine Bv (by first|assumption|refine decide_eq_true ?_;omega) fun hb=>?_|refine Bq (by first|exact Ag (by assumption)|rfl) fun hb=>?_);(try rw[hb]);try simp only[Am]at hb|((with_reducible refine Ai (fun hb=>?_) fun hb=>?_)<;>first|exact absurd hb (by decide)|(try rw[hb]);try simp only[Am]at hb)|(with_reducible refine Aa ?_ ?_);focus (and_intros<;>first|omega|with_reducible rfl|kernel_rfl|intro _ hh;cases hh;done|exact Jm rfl|simp only[Eu];omega|simp;done|decide)|with_reducible intro Av|(with_reducible refine Ai ?_ ?_);focus (first|with_reducible rfl|exact rfl)|(with_reducible refine Dw.Gx ?_ ?_ ?_ fun Av=>?_);(iterate 3 focus (as_aux_lemma=>kernel_rfl));try simp only[zRL]at Av|(with_reducible refine A5.mk ?_);refine⟨_,Ns,?_⟩;rintro _ _ ⟨rfl,rfl⟩|(with_reducible refine Fv.mk ?_);refine⟨_,_,Eh,?_⟩|(try dsimp only);rw[Tx]|(with_reducible apply L1);(focus (simp only[D.at,D.put,D.Cr,D.Bc,B7,Bw,D.Ap,B8,A4,Dq,A6.Dp,C0.Dp,Fk,he]<;>exact rfl))|(with_reducible apply Dh);(focus rfl);(focus (simp only[D.at,D.put,D.Cr,D.Bc,B7,Bw,D.Ap,B8,A4,Dq,A6.Dp,C0.Dp,Fk,he]<;>exact rfl));(try(focus exact rfl)))
 all_goals(try(conv=>whnf))
 refine Round.by (q+1,KV++[⟨k,vs⟩]) ?_ ⟨by omega,by simp;omega,hR⟩ (by dsimp only;omega)
 try dsimp only
 have hap:(KV++[(⟨k,vs⟩:Kv)]).map Kv.Dp=KV.map Kv.Dp++[.st [.it (.str k),.vec Ft 4 ((vs.map Bt.Ap).map D.it)]]:=by simp[Kv.Dp]
 rw[hap];simp only[Aqo];show norm _ _=Dy _ _
 kernel_rfl

open Go.Proofs
def Js(rev:Int):List Bt→Bt→Bt
 | [],v=>v
 |w::r,v=>Js rev r (if w.rev≤rev then w else v)
theorem Awy(vs:List Bt)(rev:Int)(hl:vs.length≤100000):Fn Tryz.prog Aks [.v (.list (vs.map Bt.Ap)),.v (ti rev)] (Is (.F4 [.i (Js rev vs Fx).Ap,.i (.bool (!(Js rev vs Fx).gone))]) [.no,.no]):=by
 refine Aiz ?_ (by simp)
 obtain⟨E3,Hj⟩:∃R,Js rev vs Fx=R:=⟨_,rfl⟩;rw[Hj];repeat'((conv=>whnf);((with_reducible refine Aa ?_ ?_);focus (and_intros<;>first|omega|kernel_rfl)))
 all_goals(try(conv=>whnf))
 refine Ep.by (X:=Nat × Bt) (fun y=>[(7,.v (ti (y.1:Int))),(6,.box (T.one (F.i y.2.Ap)))]) (fun y=>y.1≤vs.length∧Js rev (vs.drop y.1) y.2=E3) (fun y=>vs.length - y.1) (0,Fx) (by kernel_rfl) ⟨A3 _,Hj⟩ ?_
 rintro⟨j,v⟩ ⟨hj,hR⟩;dsimp only at hj hR ⊢;have hw:=zwj (j:=j) (by omega)
 by_cases E6:j<vs.length
 case neg=>
  have h3:¬decide ((j:Int)<((vs.map Bt.Ap).length:Int))=true:=by simp;omega
  have h4:¬decide ((j:Int)<(vs.length:Int))=true:=by simp;omega
  rw[Bo (by omega)]at hR
  have hR:v=E3:=hR;subst hR;obtain⟨vr,vm,vv,vg⟩:=v;repeat'((conv=>whnf);first|(with_reducible refine Bq (by exact Ag (by assumption)) fun hb=>?_);(try rw[hb]);try simp only[Am]at hb|(with_reducible refine Aa ?_ ?_);focus (and_intros<;>first|omega|with_reducible rfl|kernel_rfl|simp;done)|with_reducible intro Av|(with_reducible refine Dw.Gx ?_ ?_ ?_ fun Av=>?_);(iterate 3 focus (as_aux_lemma=>kernel_rfl));try simp only[zRL]at Av)
  all_goals(try(conv=>whnf))
  (apply D6<;>kernel_rfl)
 obtain⟨w,Sw⟩:∃x,vs[j]?=some x:=⟨_,Ac E6⟩;have h3:¬decide ((j:Int)<((vs.map Bt.Ap).length:Int))=false:=by simp;omega
 have h4:¬decide ((j:Int)<(vs.length:Int))=false:=by simp;omega
 have K9:vs.drop j=w::vs.drop (j+1):=by rw[A7 E6];rw[Ac E6]at Sw;cases Sw;rfl
 rw[K9]at hR;simp only[Js]at hR;by_cases hle:w.rev≤rev
 ·rw[if_pos hle]at hR;have hb:¬decide (w.rev≤rev)=false:=by simpa using hle
  repeat'((conv=>whnf);first|(with_reducible refine Bv (by exact Ae (by assumption)) fun hb=>?_);(try rw[hb]);try simp only[Am]at hb|(with_reducible refine Aa ?_ ?_);focus (and_intros<;>first|omega|with_reducible rfl|kernel_rfl)|with_reducible intro Av|(try dsimp only);rw[Be Sw]|skip;rw[hw])
  all_goals(try(conv=>whnf))
  refine Round.by (j+1,w) ?_ ⟨by omega,hR⟩ (by dsimp only;omega)
  try dsimp only
  show norm _ _=Dy _ _
  kernel_rfl
 ·rw[if_neg hle]at hR;have hb:¬decide (w.rev≤rev)=true:=by simpa using hle
  repeat'((conv=>whnf);first|(with_reducible first|refine Bv (by exact Ae (by assumption)) fun hb=>?_|refine Bq (by exact Ag (by assumption)) fun hb=>?_);(try rw[hb]);try simp only[Am]at hb|(with_reducible refine Aa ?_ ?_);focus (and_intros<;>first|omega|with_reducible rfl|kernel_rfl)|with_reducible intro Av|(try dsimp only);rw[Be Sw]|skip;rw[hw])
  all_goals(try(conv=>whnf))
  refine Round.by (j+1,v) ?_ ⟨by omega,hR⟩ (by dsimp only;omega)
  try dsimp only
  show norm _ _=Dy _ _
  kernel_rfl
def Kp(x:Sp)(rev:Int):List Kv→List Pr→List Pr
 | [],out=>out
 |h::r,out=>if(Js rev h.vs Fx).gone=false∧R8 x h.key then Kp x rev r (out++[⟨h.key,(Js rev h.vs Fx).val,(Js rev h.vs Fx).made,(Js rev h.vs Fx).rev⟩])else Kp x rev r out
theorem A45(p:Cv)(x:Sp)(rev:Int)(hl:p.keys.length≤100000)(hv:∀h∈p.keys,h.vs.length≤100000):Fn Tryz.prog Aho [.v p.Ap,.v x.Ap,.v (ti rev)] (Is (.v (.list ((Kp x rev p.keys []).map Pr.Ap))) [.no,.no,.no]):=by
 refine Ag1 ?_ (by simp)
 obtain⟨E3,Hj⟩:∃R,Kp x rev p.keys []=R:=⟨_,rfl⟩;rw[Hj];obtain⟨pn,Lm,L4,ks⟩:=p;dsimp only at hl hv Hj;repeat'((conv=>whnf);((with_reducible refine Aa ?_ ?_);focus (and_intros<;>omega)))
 all_goals(try(conv=>whnf))
 refine Ep.by (X:=Nat × List Pr) (fun y=>[(8,.v (ti (y.1:Int))),(7,.vec 98 4 (y.2.map Pr.Ap))]) (fun y=>y.1≤ks.length∧y.2.length≤y.1∧Kp x rev (ks.drop y.1) y.2=E3) (fun y=>ks.length - y.1) (0,[]) (by kernel_rfl) ⟨A3 _,A3 _,Hj⟩ ?_
 rintro⟨j,out⟩ ⟨hj,hol,hR⟩;dsimp only at hj hol hR ⊢;have hw:=zwj (j:=j) (by omega)
 have Biy:(out.map Pr.Ap).length≤100000:=by rw[An];omega
 have Pw:(ks.map Kv.Ap).length=ks.length:=An _;by_cases E6:j<ks.length
 case neg=>
  have h3:¬decide ((j:Int)<((ks.map Kv.Ap).length:Int))=true:=by simp;omega
  have h4:¬decide ((j:Int)<(ks.length:Int))=true:=by simp;omega
  rw[Bo (by omega)]at hR
  have hR:out=E3:=hR;subst hR;repeat'((conv=>whnf);first|(with_reducible refine Bq (by exact Ag (by assumption)) fun hb=>?_);(try rw[hb]);try simp only[Am]at hb|(with_reducible refine Aa ?_ ?_);focus (and_intros<;>first|omega|with_reducible rfl|kernel_rfl|simp;done)|with_reducible intro Av)
  all_goals(try(conv=>whnf))
  (apply D6<;>kernel_rfl)
 obtain⟨h,he⟩:∃x,ks[j]?=some x:=⟨_,Ac E6⟩;have h3:¬decide ((j:Int)<((ks.map Kv.Ap).length:Int))=false:=by simp;omega
 have h4:¬decide ((j:Int)<(ks.length:Int))=false:=by simp;omega
 have K9:ks.drop j=h::ks.drop (j+1):=by rw[A7 E6];rw[Ac E6]at he;cases he;rfl
 rw[K9]at hR;simp only[Kp]at hR;have Dd:=Awy h.vs rev (hv h (Aw he));have Sa:=Bcn x h.key;generalize Js rev h.vs Fx=v at Dd hR;obtain⟨vr,vm,vv,vg⟩:=v;obtain⟨hk,Ko⟩:=h;dsimp only at Dd Sa hR;by_cases hx:R8 x hk
 ·rw[decide_eq_true hx]at Sa;cases vg with
  |false=>
   rw[if_pos ⟨rfl,hx⟩]at hR;repeat'((conv=>whnf);first|(with_reducible refine Bv (by first|exact Ae (by assumption)|rfl) fun hb=>?_);(try rw[hb]);try simp only[Am]at hb|((with_reducible refine Ai (fun hb=>?_) fun hb=>?_)<;>first|exact absurd hb (by decide)|(try rw[hb]);try simp only[Am]at hb)|(with_reducible refine Aa ?_ ?_);focus (and_intros<;>first|omega|with_reducible rfl|kernel_rfl|intro _ hh;cases hh;done|exact F0 (by rfl)|simp only[Eu];omega|simp;done|decide)|with_reducible intro Av|(with_reducible refine Dw.Gx ?_ ?_ ?_ fun Av=>?_);(iterate 3 focus (as_aux_lemma=>kernel_rfl));try simp only[zRL]at Av|(try dsimp only);rw[Be he]|(with_reducible refine A5.mk ?_);refine⟨_,Dd,?_⟩;rintro _ _ ⟨rfl,rfl⟩|(with_reducible refine Fv.mk ?_);refine⟨_,_,Sa,?_⟩|(try dsimp only);rw[hw])
   all_goals(try(conv=>whnf))
   refine Round.by (j+1,out++[⟨hk,vv,vm,vr⟩]) ?_ ⟨by omega,by simp;omega,hR⟩ (by dsimp only;omega)
   try dsimp only
   simp only[B5,A0,C5];show norm _ _=Dy _ _
   kernel_rfl
  |true=>
   rw[if_neg (fun c=>by cases c.1)]at hR
   repeat'((conv=>whnf);first|(with_reducible first|refine Bv (by exact Ae (by assumption)) fun hb=>?_|refine Bq (by rfl) fun hb=>?_);(try rw[hb]);try simp only[Am]at hb|((with_reducible refine Ai (fun hb=>?_) fun hb=>?_)<;>first|exact absurd hb (by decide)|(try rw[hb]);try simp only[Am]at hb)|(with_reducible refine Aa ?_ ?_);focus (and_intros<;>first|omega|with_reducible rfl|kernel_rfl|intro _ hh;cases hh;done|simp;done|decide)|with_reducible intro Av|(with_reducible refine Dw.Gx ?_ ?_ ?_ fun Av=>?_);(iterate 3 focus (as_aux_lemma=>kernel_rfl));try simp only[zRL]at Av|(try dsimp only);rw[Be he]|(with_reducible refine A5.mk ?_);refine⟨_,Dd,?_⟩;rintro _ _ ⟨rfl,rfl⟩|(try dsimp only);rw[hw])
   all_goals(try(conv=>whnf))
   refine Round.by (j+1,out) ?_ ⟨by omega,by dsimp only;omega,hR⟩ (by dsimp only;omega)
   try dsimp only
   show norm _ _=Dy _ _
   kernel_rfl
 ·rw[decide_eq_false hx]at Sa;rw[if_neg (fun c=>hx c.2)]at hR
  cases vg with
  |false=>
   repeat'((conv=>whnf);first|(with_reducible first|refine Bv (by first|exact Ae (by assumption)|rfl) fun hb=>?_|refine Bq (by rfl) fun hb=>?_);(try rw[hb]);try simp only[Am]at hb|((with_reducible refine Ai (fun hb=>?_) fun hb=>?_)<;>first|exact absurd hb (by decide)|(try rw[hb]);try simp only[Am]at hb)|(with_reducible refine Aa ?_ ?_);focus (and_intros<;>first|omega|with_reducible rfl|kernel_rfl|intro _ hh;cases hh;done|simp;done|decide)|with_reducible intro Av|(with_reducible refine Dw.Gx ?_ ?_ ?_ fun Av=>?_);(iterate 3 focus (as_aux_lemma=>kernel_rfl));try simp only[zRL]at Av|(try dsimp only);rw[Be he]|(with_reducible refine A5.mk ?_);refine⟨_,Dd,?_⟩;rintro _ _ ⟨rfl,rfl⟩|(with_reducible refine Fv.mk ?_);refine⟨_,_,Sa,?_⟩|(try dsimp only);rw[hw])
   all_goals(try(conv=>whnf))
   refine Round.by (j+1,out) ?_ ⟨by omega,by dsimp only;omega,hR⟩ (by dsimp only;omega)
   try dsimp only
   show norm _ _=Dy _ _
   kernel_rfl
  |true=>
   repeat'((conv=>whnf);first|(with_reducible first|refine Bv (by exact Ae (by assumption)) fun hb=>?_|refine Bq (by rfl) fun hb=>?_);(try rw[hb]);try simp only[Am]at hb|((with_reducible refine Ai (fun hb=>?_) fun hb=>?_)<;>first|exact absurd hb (by decide)|(try rw[hb]);try simp only[Am]at hb)|(with_reducible refine Aa ?_ ?_);focus (and_intros<;>first|omega|with_reducible rfl|kernel_rfl|intro _ hh;cases hh;done|simp;done|decide)|with_reducible intro Av|(with_reducible refine Dw.Gx ?_ ?_ ?_ fun Av=>?_);(iterate 3 focus (as_aux_lemma=>kernel_rfl));try simp only[zRL]at Av|(try dsimp only);rw[Be he]|(with_reducible refine A5.mk ?_);refine⟨_,Dd,?_⟩;rintro _ _ ⟨rfl,rfl⟩|(try dsimp only);rw[hw])
   all_goals(try(conv=>whnf))
   refine Round.by (j+1,out) ?_ ⟨by omega,by dsimp only;omega,hR⟩ (by dsimp only;omega)
   try dsimp only
   show norm _ _=Dy _ _
   kernel_rfl

open Go.Proofs
def Ai9:List Pr→Int→Int
 | [],a=>a
 |p::r,a=>Ai9 r (a+(p.key.length:Int)+(p.val.length:Int))
def Zh:List Kv→Int→Int
 | [],a=>a
 |h::r,a=>Zh r (a+(h.vs.length:Int))
def Bhf(ks:List Kv):Prop:=ks.length≤100000∧∀h∈ks,h.key.length≤1000∧h.vs.length≤100000∧∀v∈h.vs,v.val.length≤1000
theorem Aqx{rev:Int}:∀{vs:List Bt} {v:Bt},Js rev vs v=v∨Js rev vs v∈vs
 | [],v=>.inl rfl
 |w::r,v=>by
  unfold Js;split
  ·rcases Aqx (rev:=rev) (vs:=r) (v:=w)with h|h
   ·rw[h];exact .inr (Ar ..)
   ·exact .inr (Au _ h)
  ·rcases Aqx (rev:=rev) (vs:=r) (v:=v)with h|h
   ·exact .inl h
   ·exact .inr (Au _ h)
theorem Aqw{x:Sp}{rev:Int}:∀{ks:List Kv} {out:List Pr},(∀h∈ks,h.key.length≤1000∧h.vs.length≤100000∧∀v∈h.vs,v.val.length≤1000)→(∀p∈out,p.key.length≤1000∧p.val.length≤1000)→
 (∀p∈Kp x rev ks out,p.key.length≤1000∧p.val.length≤1000)∧(Kp x rev ks out).length≤out.length+ks.length
 | [],out,_,h=>⟨h,by simp[Kp]⟩
 |h::r,out,hk,ho=>by
  obtain⟨a1,a2,a3⟩:=hk h (Ar ..);have Jn:=fun x hx=>hk x (Au _ hx)
  unfold Kp;split
  ·rename_i hc;obtain⟨i1,i2⟩:=Aqw (x:=x) (rev:=rev) (ks:=r) (out:=out++[⟨h.key,(Js rev h.vs Fx).val,(Js rev h.vs Fx).made,(Js rev h.vs Fx).rev⟩]) Jn (fun p hp=>by
    rcases Aj.1 hp with hp|hp
    ·exact ho p hp
    ·simp only[Cx]at hp;subst hp;refine⟨a1,?_⟩;rcases Aqx (rev:=rev) (vs:=h.vs) (v:=Fx)with e|e
     ·dsimp only;rw[e];simp[Fx]
     ·exact a3 _ e)
   refine⟨i1,?_⟩;simp only[Cw,Cg,Fb]at i2 ⊢;omega
  ·obtain⟨i1,i2⟩:=Aqw (x:=x) (rev:=rev) (ks:=r) (out:=out) Jn ho;refine⟨i1,?_⟩;simp only[Cg];omega
theorem A6v(p:Cv)(hb:Bhf p.keys):Fn Tryz.prog Adk [.v p.Ap] (Is (.F4 [.i (ti ((Kp ⟨[],[]⟩ p.rev p.keys []).length:Int)),.i (ti (Ai9 (Kp ⟨[],[]⟩ p.rev p.keys []) 0)),.i (ti (Zh p.keys 0))]) [.no]):=by
 refine Acz ?_ (by simp)
 have X7:=A45 p ⟨[],[]⟩ p.rev hb.1 fun h hh=>(hb.2 h hh).2.1
 obtain⟨q1,q2⟩:=Aqw (x:=⟨[],[]⟩) (rev:=p.rev) (ks:=p.keys) (out:=[]) hb.2 (by intro p hp;cases hp)
 obtain⟨Tt,Vc⟩:=hb;simp only[Fb,Bm]at q2;generalize Kp ⟨[],[]⟩ p.rev p.keys []=l at*;obtain⟨pn,Lm,L4,ks⟩:=p;dsimp only at Tt Vc q2 X7 ⊢;obtain⟨R1,hR1⟩:∃R,Ai9 l 0=R:=⟨_,rfl⟩;obtain⟨R2,hR2⟩:∃R,Zh ks 0=R:=⟨_,rfl⟩;rw[hR1,hR2];have hll:(l.map Pr.Ap).length=l.length:=An _;have Vd:(ks.map Kv.Ap).length=ks.length:=An _;repeat'((conv=>whnf);first|(with_reducible refine Aa ?_ ?_);focus (and_intros<;>first|omega|kernel_rfl|intro _ hh;cases hh;done|simp;done|decide)|(with_reducible refine A5.mk ?_);refine⟨_,X7,?_⟩;rintro _ _ ⟨rfl,rfl⟩)
 all_goals(try(conv=>whnf))
 refine Ep.by (X:=Nat × Int) (fun y=>[(8,.v (ti (y.1:Int))),(6,.v (ti y.2))]) (fun y=>y.1≤l.length∧(0≤y.2∧y.2≤3000*(y.1:Int))∧Ai9 (l.drop y.1) y.2=R1) (fun y=>l.length - y.1) (0,0) (by kernel_rfl) ⟨A3 _,⟨by decide,by decide⟩,hR1⟩ ?_
 rintro⟨j,a⟩ ⟨hj,ha,hR⟩;dsimp only at hj ha hR ⊢;have hw:=zwj (j:=j) (by omega)
 by_cases E6:j<l.length
 ·obtain⟨e,he⟩:∃x,l[j]?=some x:=⟨_,Ac E6⟩;have h3:¬decide ((j:Int)<((l.map Pr.Ap).length:Int))=false:=by simp;omega
  have h4:¬decide ((j:Int)<(l.length:Int))=false:=by simp;omega
  have K9:l.drop j=e::l.drop (j+1):=by rw[A7 E6];rw[Ac E6]at he;cases he;rfl
  rw[K9]at hR;simp only[Ai9]at hR;obtain⟨b1,b2⟩:=q1 e (Aw he);obtain⟨pk,pv,pm,pr⟩:=e;dsimp only at b1 b2 hR;have Bxq:IntKind.i64.wrap (a+(pk.length:Int))=a+(pk.length:Int):=Cd (by omega)
  have Bxr:IntKind.i64.wrap (a+(pk.length:Int)+(pv.length:Int))=a+(pk.length:Int)+(pv.length:Int):=Cd (by omega)
  repeat'((conv=>whnf);first|(with_reducible refine Bv (by exact Ae (by assumption)) fun hb=>?_);(try rw[hb]);try simp only[Am]at hb|(with_reducible refine Aa ?_ ?_);focus (and_intros<;>first|omega|with_reducible rfl|kernel_rfl)|with_reducible intro Av|(with_reducible refine Dw.Gx ?_ ?_ ?_ fun Av=>?_);(iterate 3 focus (as_aux_lemma=>kernel_rfl));try simp only[zRL]at Av|(try dsimp only);(first|rw[Be he]|rw[Bxq])|skip;rw[Bxr]|skip;rw[hw])
  all_goals(try(conv=>whnf))
  refine Round.by (j+1,a+(pk.length:Int)+(pv.length:Int)) ?_ ⟨by omega,⟨by dsimp only;omega,by dsimp only;omega⟩,hR⟩ (by dsimp only;omega)
  try dsimp only
  show norm _ _=Dy _ _
  kernel_rfl
 have h3:¬decide ((j:Int)<((l.map Pr.Ap).length:Int))=true:=by simp;omega
 have h4:¬decide ((j:Int)<(l.length:Int))=true:=by simp;omega
 rw[Bo (by omega)]at hR
 have hR:a=R1:=hR;subst hR;repeat'((conv=>whnf);first|(with_reducible refine Bq (by exact Ag (by assumption)) fun hb=>?_);(try rw[hb]);try simp only[Am]at hb|(with_reducible refine Aa ?_ ?_);focus (and_intros<;>(with_reducible rfl))|with_reducible intro Av)
 all_goals(try(conv=>whnf))
 refine Ep.by (X:=Nat × Int) (fun y=>[(9,.v (ti (y.1:Int))),(7,.v (ti y.2))]) (fun y=>y.1≤ks.length∧(0≤y.2∧y.2≤100000*(y.1:Int))∧Zh (ks.drop y.1) y.2=R2) (fun y=>ks.length - y.1) (0,0) (by kernel_rfl) ⟨A3 _,⟨by decide,by decide⟩,hR2⟩ ?_
 rintro⟨q,c⟩ ⟨hq,hc,hQ⟩;dsimp only at hq hc hQ ⊢;have Sb:=zwj (j:=q) (by omega)
 by_cases Sv:q<ks.length
 ·obtain⟨h,he⟩:∃x,ks[q]?=some x:=⟨_,Ac Sv⟩;have h5:¬decide ((q:Int)<((ks.map Kv.Ap).length:Int))=false:=by simp;omega
  have h6:¬decide ((q:Int)<(ks.length:Int))=false:=by simp;omega
  have hdq:ks.drop q=h::ks.drop (q+1):=by rw[A7 Sv];rw[Ac Sv]at he;cases he;rfl
  rw[hdq]at hQ;simp only[Zh]at hQ;obtain⟨_,b2,_⟩:=Vc h (Aw he);obtain⟨hk,Ko⟩:=h;dsimp only at b2 hQ;have Qy:(Ko.map Bt.Ap).length=Ko.length:=An _;have hwc:IntKind.i64.wrap (c+(((Ko.map Bt.Ap).length:Nat):Int))=c+(Ko.length:Int):=by rw[Qy];exact Cd (by omega)
  have B2e:IntKind.i64.wrap (c+(Ko.length:Int))=c+(Ko.length:Int):=Cd (by omega)
  repeat'((conv=>whnf);first|(with_reducible refine Bv (by exact Ae (by assumption)) fun hb=>?_);(try rw[hb]);try simp only[Am]at hb|(with_reducible refine Aa ?_ ?_);focus (and_intros<;>first|omega|with_reducible rfl|kernel_rfl|simp;done)|with_reducible intro Av|(try dsimp only);(first|rw[Be he]|rw[hwc])|skip;rw[Sb])
  all_goals(try(conv=>whnf))
  refine Round.by (q+1,c+(Ko.length:Int)) ?_ ⟨by omega,⟨by dsimp only;omega,by dsimp only;omega⟩,hQ⟩ (by dsimp only;omega)
  try dsimp only
  show norm _ _=Dy _ _
  kernel_rfl
 have h5:¬decide ((q:Int)<((ks.map Kv.Ap).length:Int))=true:=by simp;omega
 have h6:¬decide ((q:Int)<(ks.length:Int))=true:=by simp;omega
 rw[Bo (by omega)]at hQ
 have hQ:c=R2:=hQ;subst hQ;repeat'((conv=>whnf);first|(with_reducible refine Bq (by exact Ag (by assumption)) fun hb=>?_);(try rw[hb]);try simp only[Am]at hb|(with_reducible refine Aa ?_ ?_);focus (and_intros<;>first|omega|with_reducible rfl|kernel_rfl|simp;done)|with_reducible intro Av)
 all_goals(try(conv=>whnf))
 exact Gg.mk ⟨by rw[←hll];kernel_rfl,by kernel_rfl⟩ (by kernel_rfl)

open Go.Proofs
def N5(key:A1)(v:Bt):List Kv→List Kv→Bool→List Kv
 | [],out,d=>if d=true then out else out++[⟨key,[v]⟩]
 |h::r,out,d=>
  if h.key=key then N5 key v r ((if d=false∧key<h.key then out++[⟨key,[v]⟩]else out)++[⟨h.key,h.vs++[v]⟩]) true
  else N5 key v r ((if d=false∧key<h.key then out++[⟨key,[v]⟩]else out)++[h]) (if d=false∧key<h.key then true else d)
theorem Kv.Ai5(key:A1)(v:Bt):Kv.Ap ⟨key,[v]⟩= .agg [.str key,.list [v.Ap]]:=rfl
theorem Kv.Aha(key:A1)(vs:List Bt)(v:Bt):Kv.Ap ⟨key,vs++[v]⟩= .agg [.str key,.list (vs.map Bt.Ap++[v.Ap])]:=by simp[Kv.Ap]
theorem Bck(p:Cv)(key:A1)(v:Bt)(hl:p.keys.length≤100000)(hv:∀h∈p.keys,h.vs.length≤100000):
 Fn Tryz.prog Ahp [.v p.Ap,.v (.str key),.v v.Ap] (Is (.v (⟨p.name,p.rev,p.floor,N5 key v p.keys [] false⟩:Cv).Ap) [.no,.no,.no]):=by
 refine Ag2 ?_ (by simp)
 obtain⟨pn,Lm,L4,ks⟩:=p;dsimp only at hl hv ⊢;obtain⟨E3,Hj⟩:∃R,N5 key v ks [] false=R:=⟨_,rfl⟩;rw[Hj];have Pw:(ks.map Kv.Ap).length=ks.length:=An _;repeat'((conv=>whnf);((with_reducible refine Aa ?_ ?_);focus (and_intros<;>omega)))
 all_goals(try(conv=>whnf))
 refine Ep.by (X:=Nat × List Kv × Bool) (fun y=>[(9,.v (ti (y.1:Int))),(7,.vec 55 2 (y.2.1.map Kv.Ap)),(8,.v (.bool y.2.2))]) (fun y=>y.1≤ks.length∧y.2.1.length≤2*y.1∧N5 key v (ks.drop y.1) y.2.1 y.2.2=E3) (fun y=>ks.length - y.1) (0,[],false) (by kernel_rfl) ⟨A3 _,A3 _,Hj⟩ ?_
 rintro⟨j,out,d⟩ ⟨hj,hol,hR⟩;dsimp only at hj hol hR ⊢;have hw:=zwj (j:=j) (by omega)
 have Biy:(out.map Kv.Ap).length≤200000:=by rw[An];omega
 by_cases E6:j<ks.length
 case neg=>
  have h3:¬decide ((j:Int)<((ks.map Kv.Ap).length:Int))=true:=by simp;omega
  have h4:¬decide ((j:Int)<(ks.length:Int))=true:=by simp;omega
  rw[Bo (by omega)]at hR
  cases d with
  |true=>
   have hR:out=E3:=hR;subst hR;repeat'((conv=>whnf);first|(with_reducible refine Bq (by exact Ag (by assumption)) fun hb=>?_);(try rw[hb]);try simp only[Am]at hb|((with_reducible refine Ai (fun hb=>?_) fun hb=>?_)<;>first|exact absurd hb (by decide)|(try rw[hb]);try simp only[Am]at hb)|(with_reducible refine Aa ?_ ?_);focus (and_intros<;>first|omega|with_reducible rfl|kernel_rfl|simp;done)|with_reducible intro Av)
   all_goals(try(conv=>whnf))
   (apply D6<;>kernel_rfl)
  |false=>
   have hR:out++[⟨key,[v]⟩]=E3:=hR;subst hR;repeat'((conv=>whnf);first|(with_reducible refine Bq (by exact Ag (by assumption)) fun hb=>?_);(try rw[hb]);try simp only[Am]at hb|((with_reducible refine Ai (fun hb=>?_) fun hb=>?_)<;>first|exact absurd hb (by decide)|(try rw[hb]);try simp only[Am]at hb)|(with_reducible refine Aa ?_ ?_);focus (and_intros<;>first|omega|with_reducible rfl|kernel_rfl|exact F0 (by rfl)|simp only[Eu];omega|simp;done)|with_reducible intro Av)
   all_goals(try(conv=>whnf))
   refine Gg.mk ⟨?_,by kernel_rfl⟩ (by kernel_rfl)
   simp only[Cv.Ap,B5,A0,C5,Kv.Ai5]
   kernel_rfl
 obtain⟨h,he⟩:∃x,ks[j]?=some x:=⟨_,Ac E6⟩;have h3:¬decide ((j:Int)<((ks.map Kv.Ap).length:Int))=false:=by simp;omega
 have h4:¬decide ((j:Int)<(ks.length:Int))=false:=by simp;omega
 have K9:ks.drop j=h::ks.drop (j+1):=by rw[A7 E6];rw[Ac E6]at he;cases he;rfl
 rw[K9]at hR;simp only[N5]at hR;have Qy:=hv h (Aw he);obtain⟨hk,Ko⟩:=h;dsimp only at hR Qy;have Ux:(Ko.map Bt.Ap).length≤100000:=by rw[An];exact Qy
 by_cases heq:hk=key
 ·rw[if_pos heq]at hR;have hnl:¬key<hk:=by rw[heq];exact Dt _
  rw[if_neg (fun c=>hnl c.2)]at hR
  have e1:¬decide (hk=key)=false:=by simpa using heq
  have c1:¬Op.bytesLess key hk=true:=by rw[Kq];simpa using hnl
  cases d with
  |true=>
   repeat'((conv=>whnf);first|(with_reducible refine Bv (by exact Ae (by assumption)) fun hb=>?_);(try rw[hb]);(try simp only[Am]at hb);try subst hb|(with_reducible refine Bq (by first|exact Ag (by assumption)|rfl) fun hb=>?_);(try rw[hb]);try simp only[Am]at hb|((with_reducible refine Ai (fun hb=>?_) fun hb=>?_)<;>first|exact absurd hb (by decide)|(try rw[hb]);try simp only[Am]at hb)|(with_reducible refine Aa ?_ ?_);focus (and_intros<;>first|omega|with_reducible rfl|kernel_rfl|exact F0 (by rfl)|exact size_map (fun _=>rfl)|simp only[Eu];omega|simp;done)|with_reducible intro Av|(with_reducible refine Dw.Gx ?_ ?_ ?_ fun Av=>?_);(iterate 3 focus (as_aux_lemma=>kernel_rfl));try simp only[zRL]at Av|(try dsimp only);(first|rw[Be he]|rw[hw]))
   all_goals(try(conv=>whnf))
   refine Round.by (j+1,out++[⟨hk,Ko++[v]⟩],true) ?_ ⟨by omega,by simp;omega,hR⟩ (by dsimp only;omega)
   try dsimp only
   simp only[B5,A0,C5,Kv.Ai5,Kv.Aha];show norm _ _=Dy _ _
   kernel_rfl
  |false=>
   repeat'((conv=>whnf);first|(with_reducible refine Bv (by first|exact Ae (by assumption)|rfl) fun hb=>?_);(try rw[hb]);(try simp only[Am]at hb);try subst hb|(with_reducible refine Bq (by exact Ag (by assumption)) fun hb=>?_);(try rw[hb]);try simp only[Am]at hb|((with_reducible refine Ai (fun hb=>?_) fun hb=>?_)<;>first|exact absurd hb (by decide)|(try rw[hb]);try simp only[Am]at hb)|(with_reducible refine Aa ?_ ?_);focus (and_intros<;>first|omega|with_reducible rfl|kernel_rfl|exact F0 (by rfl)|exact size_map (fun _=>rfl)|simp only[Eu];omega|simp;done)|with_reducible intro Av|(with_reducible refine Dw.Gx ?_ ?_ ?_ fun Av=>?_);(iterate 3 focus (as_aux_lemma=>kernel_rfl));try simp only[zRL]at Av|(try dsimp only);(first|rw[Be he]|rw[hw]))
   all_goals(try(conv=>whnf))
   refine Round.by (j+1,out++[⟨hk,Ko++[v]⟩],true) ?_ ⟨by omega,by simp;omega,hR⟩ (by dsimp only;omega)
   try dsimp only
   simp only[B5,A0,C5,Kv.Ai5,Kv.Aha];show norm _ _=Dy _ _
   kernel_rfl
 ·rw[if_neg heq]at hR;have e1:¬decide (hk=key)=true:=by simpa using heq
  by_cases Di:key<hk
  ·have c1:¬Op.bytesLess key hk=false:=by rw[Kq];simpa using Di
   cases d with
   |true=>
    rw[if_neg (fun c=>by cases c.1),if_neg (fun c=>by cases c.1)]at hR
    repeat'((conv=>whnf);first|(with_reducible first|refine Bv (by exact Ae (by assumption)) fun hb=>?_|refine Bq (by first|exact Ag (by assumption)|rfl) fun hb=>?_);(try rw[hb]);try simp only[Am]at hb|((with_reducible refine Ai (fun hb=>?_) fun hb=>?_)<;>first|exact absurd hb (by decide)|(try rw[hb]);try simp only[Am]at hb)|(with_reducible refine Aa ?_ ?_);focus (and_intros<;>first|omega|with_reducible rfl|kernel_rfl|exact F0 (by rfl)|simp only[Eu];omega|simp;done)|with_reducible intro Av|(try dsimp only);(first|rw[Be he]|rw[hw]))
    all_goals(try(conv=>whnf))
    refine Round.by (j+1,out++[⟨hk,Ko⟩],true) ?_ ⟨by omega,by simp;omega,hR⟩ (by dsimp only;omega)
    try dsimp only
    simp only[B5,A0,C5,Kv.Ai5,Kv.Aha];show norm _ _=Dy _ _
    kernel_rfl
   |false=>
    rw[if_pos ⟨rfl,Di⟩,if_pos ⟨rfl,Di⟩]at hR;repeat'((conv=>whnf);first|(with_reducible first|refine Bv (by first|exact Ae (by assumption)|rfl) fun hb=>?_|refine Bq (by exact Ag (by assumption)) fun hb=>?_);(try rw[hb]);try simp only[Am]at hb|((with_reducible refine Ai (fun hb=>?_) fun hb=>?_)<;>first|exact absurd hb (by decide)|(try rw[hb]);try simp only[Am]at hb)|(with_reducible refine Aa ?_ ?_);focus (and_intros<;>first|omega|with_reducible rfl|kernel_rfl|exact F0 (by rfl)|simp only[Eu];omega|simp;done)|with_reducible intro Av|(try dsimp only);(first|rw[Be he]|rw[hw]))
    all_goals(try(conv=>whnf))
    refine Round.by (j+1,out++[⟨key,[v]⟩]++[⟨hk,Ko⟩],true) ?_ ⟨by omega,by simp;omega,hR⟩ (by dsimp only;omega)
    try dsimp only
    simp only[B5,A0,C5,Kv.Ai5,Kv.Aha];show norm _ _=Dy _ _
    kernel_rfl
  ·have c1:¬Op.bytesLess key hk=true:=by rw[Kq];simpa using Di
   rw[if_neg (fun c=>Di c.2),if_neg (fun c=>Di c.2)]at hR
   cases d with
   |true=>
    repeat'((conv=>whnf);first|(with_reducible first|refine Bv (by exact Ae (by assumption)) fun hb=>?_|refine Bq (by first|exact Ag (by assumption)|rfl) fun hb=>?_);(try rw[hb]);try simp only[Am]at hb|((with_reducible refine Ai (fun hb=>?_) fun hb=>?_)<;>first|exact absurd hb (by decide)|(try rw[hb]);try simp only[Am]at hb)|(with_reducible refine Aa ?_ ?_);focus (and_intros<;>first|omega|with_reducible rfl|kernel_rfl|exact F0 (by rfl)|simp only[Eu];omega|simp;done)|with_reducible intro Av|(try dsimp only);(first|rw[Be he]|rw[hw]))
    all_goals(try(conv=>whnf))
    refine Round.by (j+1,out++[⟨hk,Ko⟩],true) ?_ ⟨by omega,by simp;omega,hR⟩ (by dsimp only;omega)
    try dsimp only
    simp only[B5,A0,C5,Kv.Ai5,Kv.Aha];show norm _ _=Dy _ _
    kernel_rfl
   |false=>
    repeat'((conv=>whnf);first|(with_reducible first|refine Bv (by first|exact Ae (by assumption)|rfl) fun hb=>?_|refine Bq (by exact Ag (by assumption)) fun hb=>?_);(try rw[hb]);try simp only[Am]at hb|((with_reducible refine Ai (fun hb=>?_) fun hb=>?_)<;>first|exact absurd hb (by decide)|(try rw[hb]);try simp only[Am]at hb)|(with_reducible refine Aa ?_ ?_);focus (and_intros<;>first|omega|with_reducible rfl|kernel_rfl|exact F0 (by rfl)|simp only[Eu];omega|simp;done)|with_reducible intro Av|(try dsimp only);(first|rw[Be he]|rw[hw]))
    all_goals(try(conv=>whnf))
    refine Round.by (j+1,out++[⟨hk,Ko⟩],false) ?_ ⟨by omega,by simp;omega,hR⟩ (by dsimp only;omega)
    try dsimp only
    simp only[B5,A0,C5,Kv.Ai5,Kv.Aha];show norm _ _=Dy _ _
    kernel_rfl
end Go.Ab
