/- Lemmas -/
import Derived.Test.YtkpojedpcabojaaGreatDoorW7
set_option linter.unusedVariables false
set_option linter.unusedSimpArgs false
set_option maxRecDepth 100000
set_option maxHeartbeats 40000000
namespace Go.Ab
open Go.Proofs
def N6(n:A1)(x:Sp)(rev most:Int):List C0→List Pr→List Pr × Bool
 | [],out=>(out,false)
 |h::r,out=>if(Cz h.at_).1≠n then(out,false)else if ¬R8 x (Cz h.at_).2.1 then N6 n x rev most r out else
  if(Ks h.vs rev).2=false then N6 n x rev most r out else if(out.length:Int)=most then(out,true)else
  N6 n x rev most r (out++[⟨(Cz h.at_).2.1,(Ks h.vs rev).1.val,(Ks h.vs rev).1.made,(Ks h.vs rev).1.rev⟩])
def Asm:Prop:=∃T1 T2,OfC Tryz.prog Aqv Ak7 T1 T2
structure A6.Bd(s:A6):Prop where
 len:s.l.length≤90000
 held:∀h∈s.l,h.at_.length≤1000000∧h.vs≠[]∧h.vs.length≤90000
theorem Aya(hof:Asm)(s:A6)(hB:s.Bd)(n:A1)(hn:n.length≤100000)(x:Sp)(rev most:Int)(i:Nat)(hf:s.fi n=some i)(hx:Wo x)(hr:0<rev∧rev≤(s.De n).rev∧(s.De n).floor≤rev∧rev≤9000000000000000000)(hm:1≤most∧most≤16)(E3:List Pr × Bool)(Hj:N6 n x rev most (s.l.drop (Gm (Fe (Cp n [])) s.l)) []=E3):
 Fn Tryz.prog G4 [sP s,.v (.str n),.v x.Ap,.v (ti rev),.v (ti most)] (Is (.F4 [.i (.list (E3.1.map Pr.Ap)),.i (.bool E3.2),.i (ti 0)]) [sP s,.no,.no,.no,.no]):=by
 obtain⟨T1,T2,hof⟩:=hof;refine K2 ?_ (by simp)
 obtain⟨h1,h2,h3⟩:=A6.Jt hf;have hs:=Vh x;rw[decide_eq_true hx]at hs;have hI:=Atm s.l;have Xb:=Xs n [] hn (by simp)
 have N1:=Abd s.l (Cp n []) (by have:=hB.len;omega)
 obtain⟨A,hA⟩:∃A,A=Gm (Fe (Cp n [])) s.l:=⟨_,rfl⟩;obtain⟨B,hB'⟩:∃B,B=U6 (Fe (Cp n [])) (Su (Cp n [])) s.l:=⟨_,rfl⟩;rw[←hA, ←hB']at N1;repeat'((conv=>whnf);first|(with_reducible first|refine Bv (by first|refine decide_eq_true ?_;omega|rfl) fun hb=>?_|refine Bq (by first|refine decide_eq_false ?_;omega|rfl) fun hb=>?_);(try rw[hb]);try simp only[Am]at hb|((with_reducible refine Ai (fun hb=>?_) fun hb=>?_)<;>first|exact absurd hb (by decide)|(try rw[hb]);try simp only[Am]at hb)|(with_reducible refine Aa ?_ ?_);focus (and_intros<;>first|omega|with_reducible rfl|kernel_rfl|intro _ hh;cases hh;done|simp;done|decide)|with_reducible intro Av|(with_reducible refine Ai ?_ ?_);focus (first|with_reducible rfl|decide)|(with_reducible refine Dw.Gx ?_ ?_ ?_ fun Av=>?_);(iterate 3 focus kernel_rfl);try simp only[zRL]at Av|refine Ch ?_|(with_reducible refine A5.mk ?_);refine⟨_,hs,?_⟩;rintro _ _ ⟨rfl,rfl⟩|refine A22 hof ?_|(with_reducible refine A5.mk ?_);refine⟨_,Xb,?_⟩;rintro _ _ ⟨rfl,rfl⟩|refine Hc ?_ (by decide)|(with_reducible refine A5.mk ?_);refine⟨_,N1,?_⟩;rintro _ _ ⟨rfl,rfl⟩|(with_reducible apply Ed);(focus (simp only[D.at,D.put,D.Cr,D.Bc,B7,Bw,D.Ap,B8,A4,Dq,h1,h3,hI,A6.Dp,Ef.Ap]<;>exact rfl))|(with_reducible apply Dh);(focus rfl);(focus (simp only[D.at,D.put,D.Cr,D.Bc,B7,Bw,D.Ap,B8,A4,Dq,h1,h3,hI,A6.Dp,Ef.Ap]<;>exact rfl));(try(focus exact rfl)))
 all_goals(try(conv=>whnf))
 have hAl:A≤s.l.length:=by rw[hA];exact Wx _ _
 rw[←hA]at Hj;refine Ep.by (X:=Nat × List Pr) (fun y=>[(5,.v (ti (y.1:Int))),(65,.own [] (.ptr (.vec 98 4 ((y.2.map Pr.Ap).map D.it))))]) (fun y=>y.1≤s.l.length∧(y.2.length:Int)≤most∧N6 n x rev most (s.l.drop y.1) y.2=E3) (fun y=>s.l.length - y.1) (A,[]) (by kernel_rfl) ⟨hAl,by simp;omega,Hj⟩ ?_
 rintro⟨j,out⟩ ⟨hj,ho,hR⟩;dsimp only at hj ho hR ⊢;have hlen:=hB.len;have Fk:(s.l.map C0.Dp).length=s.l.length:=An _;have hw:IntKind.i64.wrap ((j:Int)+1)=((j+1:Nat):Int):=Mj (n:=100000) (by omega) (by simp only[maxLen];omega)
 by_cases E6:j<s.l.length
 case neg=>
  have Di:¬decide ((j:Int)<(s.l.length:Int))=true:=by simp;omega
  rw[Bo (by omega)]at hR
  have hR:(out,false)=E3:=hR;subst hR;repeat'((conv=>whnf);first|(with_reducible refine Bq (by first|exact Ag (by assumption)|refine decide_eq_false ?_;omega) fun hb=>?_);(try rw[hb]);try simp only[Am]at hb|(with_reducible refine Aa ?_ ?_);focus (and_intros<;>first|omega|with_reducible rfl|kernel_rfl|simp;done)|with_reducible intro Av|(with_reducible refine Ai ?_ ?_);focus ((with_reducible rfl))|(with_reducible apply Ed);(focus (simp only[D.at,D.put,D.Cr,D.Bc,B7,Bw,D.Ap,B8,A4,Dq,A6.Dp,Fk]<;>exact rfl)))
  all_goals(try(conv=>whnf))
  (apply D6<;>kernel_rfl)
 obtain⟨h,he⟩:∃h,s.l[j]?=some h:=⟨_,Ac E6⟩;have Di:¬decide ((j:Int)<(s.l.length:Int))=false:=by simp;omega
 obtain⟨Jx,Ku,Nq⟩:=hB.held h (Aw he);have Ns:=Abe h.at_ Jx;have K9:s.l.drop j=h::s.l.drop (j+1):=by rw[A7 E6];rw[Ac E6]at he;cases he;rfl
 rw[K9]at hR;simp only[N6]at hR;have Qm:=Aof h.at_ h.vs rev (by omega) (by omega)
 have Sa:=Ay4 x (Cz h.at_).2.1;generalize Cz h.at_=wk at Ns hR Sa;obtain⟨w,k,z⟩:=wk;generalize Ks h.vs rev=vb at Qm hR;obtain⟨v,b⟩:=vb;dsimp only at Ns hR Sa Qm;have hDI:=C0.Avi h;simp only[C0.Ap]at hDI;by_cases Qf:w=n
 case neg=>
  have Th:¬(!decide (w=n))=false:=by simpa using Qf
  have Are:¬decide (w=n)=true:=by simpa using Qf
  rw[if_pos Qf]at hR;subst hR;repeat'((conv=>whnf);first|(with_reducible refine Bv (by first|exact Ae (by assumption)|refine decide_eq_true ?_;omega|rfl) fun hb=>?_);(try rw[hb]);try simp only[Am]at hb|(with_reducible refine Aa ?_ ?_);focus (and_intros<;>first|omega|with_reducible rfl|kernel_rfl|intro _ hh;cases hh;done|simp;done|decide)|with_reducible intro Av|(with_reducible refine Ai ?_ ?_);focus ((with_reducible rfl))|(with_reducible refine A5.mk ?_);refine⟨_,Ns,?_⟩;rintro _ _ ⟨rfl,rfl⟩|(with_reducible apply Ed);(focus (simp only[D.at,D.put,D.Cr,D.Bc,B7,Bw,D.Ap,B8,A4,Dq,A6.Dp,Fk,he]<;>exact rfl))|(with_reducible apply Dh);(focus rfl);(focus (simp only[D.at,D.put,D.Cr,D.Bc,B7,Bw,D.Ap,B8,A4,Dq,A6.Dp,Fk,he]<;>exact rfl));(try(focus exact rfl)))
  all_goals(try(conv=>whnf))
  (apply D6<;>kernel_rfl)
 subst Qf;rw[if_neg (by simp)]at hR
 have Th:¬(!decide (w=w))=true:=by simp
 have Are:¬decide (w=w)=false:=by simp
 by_cases hxk:R8 x k
 case neg=>
  rw[if_pos hxk]at hR;rw[decide_eq_false hxk]at Sa;repeat'((conv=>whnf);first|(with_reducible first|refine Bv (by first|assumption|exact Ae (by assumption)|refine decide_eq_true ?_;omega) fun hb=>?_|refine Bq (by first|exact Ag (by assumption)|rfl) fun hb=>?_);(try rw[hb]);try simp only[Am]at hb|((with_reducible refine Ai (fun hb=>?_) fun hb=>?_)<;>first|exact absurd hb (by decide)|(try rw[hb]);try simp only[Am]at hb)|(with_reducible refine Aa ?_ ?_);focus (and_intros<;>first|omega|with_reducible rfl|kernel_rfl|intro _ hh;cases hh;done|simp;done|decide)|with_reducible intro Av|(with_reducible refine Ai ?_ ?_);focus (first|with_reducible rfl|exact rfl)|(with_reducible refine A5.mk ?_);(first|refine⟨_,Ns,?_⟩|refine⟨_,Sa,?_⟩);rintro _ _ ⟨rfl,rfl⟩|(try dsimp only);rw[hw]|(with_reducible apply Dh);(focus rfl);(focus (simp only[D.at,D.put,D.Cr,D.Bc,B7,Bw,D.Ap,B8,A4,Dq,A6.Dp,Fk,he]<;>exact rfl));(try(focus exact rfl)))
  all_goals(try(conv=>whnf))
  refine Round.by (j+1,out) ?_ ⟨by omega,ho,hR⟩ (by dsimp only;omega)
  try dsimp only
  show norm _ _=Dy _ _
  kernel_rfl
 rw[if_neg (by simpa using hxk)]at hR
 rw[decide_eq_true hxk]at Sa;cases b with
 |false=>
  rw[if_pos rfl]at hR;repeat'((conv=>whnf);first|(with_reducible first|refine Bv (by first|assumption|exact Ae (by assumption)|refine decide_eq_true ?_;omega) fun hb=>?_|refine Bq (by first|exact Ag (by assumption)|rfl) fun hb=>?_);(try rw[hb]);try simp only[Am]at hb|((with_reducible refine Ai (fun hb=>?_) fun hb=>?_)<;>first|exact absurd hb (by decide)|(try rw[hb]);try simp only[Am]at hb)|(with_reducible refine Aa ?_ ?_);focus (and_intros<;>first|omega|with_reducible rfl|kernel_rfl|intro _ hh;cases hh;done|simp;done|decide)|with_reducible intro Av|(with_reducible refine Ai ?_ ?_);focus (first|with_reducible rfl|exact rfl)|(with_reducible refine Dw.Gx ?_ ?_ ?_ fun Av=>?_);(iterate 3 focus kernel_rfl);try simp only[zRL]at Av|(with_reducible refine A5.mk ?_);(first|refine⟨_,Ns,?_⟩|refine⟨_,Sa,?_⟩);rintro _ _ ⟨rfl,rfl⟩|(with_reducible refine Fv.mk ?_);refine⟨_,_,Qm,?_⟩|(try dsimp only);(first|rw[hw]|rw[hDI])|(with_reducible apply L1);(focus (simp only[D.at,D.put,D.Cr,D.Bc,B7,Bw,D.Ap,B8,A4,Dq,A6.Dp,Fk,he]<;>exact rfl))|(with_reducible apply Dh);(focus rfl);(focus (simp only[D.at,D.put,D.Cr,D.Bc,B7,Bw,D.Ap,B8,A4,Dq,A6.Dp,Fk,he]<;>exact rfl));(try(focus exact rfl)))
  all_goals(try(conv=>whnf))
  refine Round.by (j+1,out) ?_ ⟨by omega,ho,hR⟩ (by dsimp only;omega)
  try dsimp only
  show norm _ _=Dy _ _
  kernel_rfl
 |true=>
  rw[if_neg (by simp)]at hR
  have hlo:((out.map Pr.Ap).map D.it).length=out.length:=by simp
  by_cases hom:(out.length:Int)=most
  ·rw[if_pos hom]at hR;subst hR;have Biz:decide ((((out.map Pr.Ap).map D.it).length:Int)=most)=true:=by rw[hlo];exact decide_eq_true hom
   repeat'((conv=>whnf);first|(with_reducible refine Bv (by first|assumption|refine decide_eq_true ?_;omega) fun hb=>?_);(try rw[hb]);(try simp only[Am]at hb);try subst hb|(with_reducible refine Bq (by first|assumption|exact Ag (by assumption)|rfl) fun hb=>?_);(try rw[hb]);try simp only[Am]at hb|((with_reducible refine Ai (fun hb=>?_) fun hb=>?_)<;>first|exact absurd hb (by decide)|(try rw[hb]);try simp only[Am]at hb)|(with_reducible refine Aa ?_ ?_);focus (and_intros<;>first|omega|with_reducible rfl|kernel_rfl|intro _ hh;cases hh;done|simp;done|decide)|with_reducible intro Av|(with_reducible refine Ai ?_ ?_);focus (first|with_reducible rfl|exact rfl)|(with_reducible refine Dw.Gx ?_ ?_ ?_ fun Av=>?_);(iterate 3 focus kernel_rfl);try simp only[zRL]at Av|(with_reducible refine A5.mk ?_);(first|refine⟨_,Ns,?_⟩|refine⟨_,Sa,?_⟩);rintro _ _ ⟨rfl,rfl⟩|(with_reducible refine Fv.mk ?_);refine⟨_,_,Qm,?_⟩|(try dsimp only);rw[hDI]|(first|with_reducible apply Ed|with_reducible apply L1);(focus (simp only[D.at,D.put,D.Cr,D.Bc,B7,Bw,D.Ap,B8,A4,Dq,A6.Dp,Fk,he]<;>exact rfl))|(with_reducible apply Dh);(focus rfl);(focus (simp only[D.at,D.put,D.Cr,D.Bc,B7,Bw,D.Ap,B8,A4,Dq,A6.Dp,Fk,he]<;>exact rfl));(try(focus exact rfl)))
   all_goals(try(conv=>whnf))
   (apply D6<;>kernel_rfl)
  ·rw[if_neg hom]at hR;have Biz:decide ((((out.map Pr.Ap).map D.it).length:Int)=most)=false:=by rw[hlo];exact decide_eq_false hom
   repeat'((conv=>whnf);first|(with_reducible first|refine Bv (by first|assumption|exact Ae (by assumption)|refine decide_eq_true ?_;omega) fun hb=>?_|refine Bq (by first|assumption|exact Ag (by assumption)|rfl) fun hb=>?_);(try rw[hb]);try simp only[Am]at hb|((with_reducible refine Ai (fun hb=>?_) fun hb=>?_)<;>first|exact absurd hb (by decide)|(try rw[hb]);try simp only[Am]at hb)|(with_reducible refine Aa ?_ ?_);focus (and_intros<;>first|omega|with_reducible rfl|kernel_rfl|intro _ hh;cases hh;done|exact F0 (by rfl)|exact Jm rfl|simp only[Eu];omega|simp;done|decide)|with_reducible intro Av|(with_reducible refine Ai ?_ ?_);focus (first|with_reducible rfl|exact rfl)|(with_reducible refine Dw.Gx ?_ ?_ ?_ fun Av=>?_);(iterate 3 focus kernel_rfl);try simp only[zRL]at Av|(with_reducible refine A5.mk ?_);(first|refine⟨_,Ns,?_⟩|refine⟨_,Sa,?_⟩);rintro _ _ ⟨rfl,rfl⟩|(with_reducible refine Fv.mk ?_);refine⟨_,_,Qm,?_⟩|(try dsimp only);(first|rw[hw]|rw[hDI])|(with_reducible apply L1);(focus (simp only[D.at,D.put,D.Cr,D.Bc,B7,Bw,D.Ap,B8,A4,Dq,A6.Dp,Fk,he]<;>exact rfl))|(with_reducible apply Dh);(focus rfl);(focus (simp only[D.at,D.put,D.Cr,D.Bc,B7,Bw,D.Ap,B8,A4,Dq,A6.Dp,Fk,he]<;>exact rfl));(try(focus exact rfl)))
   all_goals(try(conv=>whnf))
   refine Round.by (j+1,out++[⟨k,v.val,v.made,v.rev⟩]) ?_ ⟨by omega,by simp;omega,hR⟩ (by dsimp only;omega)
   try dsimp only
   simp only[B5,A0,C5];show norm _ _=Dy _ _
   kernel_rfl

open Go.Proofs
theorem range_zero(hof:Asm)(s:A6)(hB:s.Bd)(n:A1)(hn:n.length≤100000)(x:Sp)(rev most:Int)(i:Nat)(hf:s.fi n=some i)(hx:Wo x)(hr:(s.De n).rev=rev∧0≤rev∧rev≤9000000000000000000)(hm:1≤most∧most≤16)(E3:List Pr × Bool)(Hj:N6 n x rev most (s.l.drop (Gm (Fe (Cp n [])) s.l)) []=E3):
 Fn Tryz.prog G4 [sP s,.v (.str n),.v x.Ap,.v (ti 0),.v (ti most)] (Is (.F4 [.i (.list (E3.1.map Pr.Ap)),.i (.bool E3.2),.i (ti 0)]) [sP s,.no,.no,.no,.no]):=by
 obtain⟨T1,T2,hof⟩:=hof;refine K2 ?_ (by simp)
 obtain⟨h1,h2,h3⟩:=A6.Jt hf;have hs:=Vh x;rw[decide_eq_true hx]at hs;have hI:=Atm s.l;have Xb:=Xs n [] hn (by simp)
 have N1:=Abd s.l (Cp n []) (by have:=hB.len;omega)
 obtain⟨A,hA⟩:∃A,A=Gm (Fe (Cp n [])) s.l:=⟨_,rfl⟩;obtain⟨B,hB'⟩:∃B,B=U6 (Fe (Cp n [])) (Su (Cp n [])) s.l:=⟨_,rfl⟩;rw[←hA, ←hB']at N1;obtain⟨hr0,hr⟩:=hr;subst hr0;repeat'((conv=>whnf);first|(with_reducible first|refine Bv (by first|refine decide_eq_true ?_;omega|rfl) fun hb=>?_|refine Bq (by first|((refine decide_eq_false ?_);first|assumption|omega)|rfl) fun hb=>?_);(try rw[hb]);try simp only[Am]at hb|((with_reducible refine Ai (fun hb=>?_) fun hb=>?_)<;>first|exact absurd hb (by decide)|(try rw[hb]);try simp only[Am]at hb)|(with_reducible refine Aa ?_ ?_);focus (and_intros<;>first|omega|with_reducible rfl|kernel_rfl|intro _ hh;cases hh;done|simp;done|decide)|with_reducible intro Av|(with_reducible refine Ai ?_ ?_);focus (first|with_reducible rfl|decide)|(with_reducible refine Dw.Gx ?_ ?_ ?_ fun Av=>?_);(iterate 3 focus kernel_rfl);try simp only[zRL]at Av|refine Ch ?_|(with_reducible refine A5.mk ?_);refine⟨_,hs,?_⟩;rintro _ _ ⟨rfl,rfl⟩|refine A22 hof ?_|(with_reducible refine A5.mk ?_);refine⟨_,Xb,?_⟩;rintro _ _ ⟨rfl,rfl⟩|refine Hc ?_ (by decide)|(with_reducible refine A5.mk ?_);refine⟨_,N1,?_⟩;rintro _ _ ⟨rfl,rfl⟩|(with_reducible apply Ed);(focus (simp only[D.at,D.put,D.Cr,D.Bc,B7,Bw,D.Ap,B8,A4,Dq,h1,h3,hI,A6.Dp,Ef.Ap]<;>exact rfl))|(with_reducible apply Dh);(focus rfl);(focus (simp only[D.at,D.put,D.Cr,D.Bc,B7,Bw,D.Ap,B8,A4,Dq,h1,h3,hI,A6.Dp,Ef.Ap]<;>exact rfl));(try(focus exact rfl)))
 all_goals(try(conv=>whnf))
 have hAl:A≤s.l.length:=by rw[hA];exact Wx _ _
 rw[←hA]at Hj;refine Ep.by (X:=Nat × List Pr) (fun y=>[(5,.v (ti (y.1:Int))),(65,.own [] (.ptr (.vec 98 4 ((y.2.map Pr.Ap).map D.it))))]) (fun y=>y.1≤s.l.length∧(y.2.length:Int)≤most∧N6 n x (s.De n).rev most (s.l.drop y.1) y.2=E3) (fun y=>s.l.length - y.1) (A,[]) (by kernel_rfl) ⟨hAl,by simp;omega,Hj⟩ ?_
 rintro⟨j,out⟩ ⟨hj,ho,hR⟩;dsimp only at hj ho hR ⊢;have hlen:=hB.len;have Fk:(s.l.map C0.Dp).length=s.l.length:=An _;have hw:IntKind.i64.wrap ((j:Int)+1)=((j+1:Nat):Int):=Mj (n:=100000) (by omega) (by simp only[maxLen];omega)
 by_cases E6:j<s.l.length
 case neg=>
  have Di:¬decide ((j:Int)<(s.l.length:Int))=true:=by simp;omega
  rw[Bo (by omega)]at hR
  have hR:(out,false)=E3:=hR;subst hR;repeat'((conv=>whnf);first|(with_reducible refine Bq (by first|exact Ag (by assumption)|refine decide_eq_false ?_;omega) fun hb=>?_);(try rw[hb]);try simp only[Am]at hb|(with_reducible refine Aa ?_ ?_);focus (and_intros<;>first|omega|with_reducible rfl|kernel_rfl|simp;done)|with_reducible intro Av|(with_reducible refine Ai ?_ ?_);focus ((with_reducible rfl))|(with_reducible apply Ed);(focus (simp only[D.at,D.put,D.Cr,D.Bc,B7,Bw,D.Ap,B8,A4,Dq,A6.Dp,Fk]<;>exact rfl)))
  all_goals(try(conv=>whnf))
  (apply D6<;>kernel_rfl)
 obtain⟨h,he⟩:∃h,s.l[j]?=some h:=⟨_,Ac E6⟩;have Di:¬decide ((j:Int)<(s.l.length:Int))=false:=by simp;omega
 obtain⟨Jx,Ku,Nq⟩:=hB.held h (Aw he);have Ns:=Abe h.at_ Jx;have K9:s.l.drop j=h::s.l.drop (j+1):=by rw[A7 E6];rw[Ac E6]at he;cases he;rfl
 rw[K9]at hR;simp only[N6]at hR;have Qm:=Aof h.at_ h.vs (s.De n).rev (by omega) (by omega)
 have Sa:=Ay4 x (Cz h.at_).2.1;generalize Cz h.at_=wk at Ns hR Sa;obtain⟨w,k,z⟩:=wk;generalize Ks h.vs (s.De n).rev=vb at Qm hR;obtain⟨v,b⟩:=vb;dsimp only at Ns hR Sa Qm;have hDI:=C0.Avi h;simp only[C0.Ap]at hDI;by_cases Qf:w=n
 case neg=>
  have Th:¬(!decide (w=n))=false:=by simpa using Qf
  have Are:¬decide (w=n)=true:=by simpa using Qf
  rw[if_pos Qf]at hR;subst hR;repeat'((conv=>whnf);first|(with_reducible refine Bv (by first|exact Ae (by assumption)|refine decide_eq_true ?_;omega|rfl) fun hb=>?_);(try rw[hb]);try simp only[Am]at hb|(with_reducible refine Aa ?_ ?_);focus (and_intros<;>first|omega|with_reducible rfl|kernel_rfl|intro _ hh;cases hh;done|simp;done|decide)|with_reducible intro Av|(with_reducible refine Ai ?_ ?_);focus ((with_reducible rfl))|(with_reducible refine A5.mk ?_);refine⟨_,Ns,?_⟩;rintro _ _ ⟨rfl,rfl⟩|(with_reducible apply Ed);(focus (simp only[D.at,D.put,D.Cr,D.Bc,B7,Bw,D.Ap,B8,A4,Dq,A6.Dp,Fk,he]<;>exact rfl))|(with_reducible apply Dh);(focus rfl);(focus (simp only[D.at,D.put,D.Cr,D.Bc,B7,Bw,D.Ap,B8,A4,Dq,A6.Dp,Fk,he]<;>exact rfl));(try(focus exact rfl)))
  all_goals(try(conv=>whnf))
  (apply D6<;>kernel_rfl)
 subst Qf;rw[if_neg (by simp)]at hR
 have Th:¬(!decide (w=w))=true:=by simp
 have Are:¬decide (w=w)=false:=by simp
 by_cases hxk:R8 x k
 case neg=>
  rw[if_pos hxk]at hR;rw[decide_eq_false hxk]at Sa;repeat'((conv=>whnf);first|(with_reducible first|refine Bv (by first|assumption|exact Ae (by assumption)|refine decide_eq_true ?_;omega) fun hb=>?_|refine Bq (by first|exact Ag (by assumption)|rfl) fun hb=>?_);(try rw[hb]);try simp only[Am]at hb|((with_reducible refine Ai (fun hb=>?_) fun hb=>?_)<;>first|exact absurd hb (by decide)|(try rw[hb]);try simp only[Am]at hb)|(with_reducible refine Aa ?_ ?_);focus (and_intros<;>first|omega|with_reducible rfl|kernel_rfl|intro _ hh;cases hh;done|simp;done|decide)|with_reducible intro Av|(with_reducible refine Ai ?_ ?_);focus (first|with_reducible rfl|exact rfl)|(with_reducible refine A5.mk ?_);(first|refine⟨_,Ns,?_⟩|refine⟨_,Sa,?_⟩);rintro _ _ ⟨rfl,rfl⟩|(try dsimp only);rw[hw]|(with_reducible apply Dh);(focus rfl);(focus (simp only[D.at,D.put,D.Cr,D.Bc,B7,Bw,D.Ap,B8,A4,Dq,A6.Dp,Fk,he]<;>exact rfl));(try(focus exact rfl)))
  all_goals(try(conv=>whnf))
  refine Round.by (j+1,out) ?_ ⟨by omega,ho,hR⟩ (by dsimp only;omega)
  try dsimp only
  show norm _ _=Dy _ _
  kernel_rfl
 rw[if_neg (by simpa using hxk)]at hR
 rw[decide_eq_true hxk]at Sa;cases b with
 |false=>
  rw[if_pos rfl]at hR;repeat'((conv=>whnf);first|(with_reducible first|refine Bv (by first|assumption|exact Ae (by assumption)|refine decide_eq_true ?_;omega) fun hb=>?_|refine Bq (by first|exact Ag (by assumption)|rfl) fun hb=>?_);(try rw[hb]);try simp only[Am]at hb|((with_reducible refine Ai (fun hb=>?_) fun hb=>?_)<;>first|exact absurd hb (by decide)|(try rw[hb]);try simp only[Am]at hb)|(with_reducible refine Aa ?_ ?_);focus (and_intros<;>first|omega|with_reducible rfl|kernel_rfl|intro _ hh;cases hh;done|simp;done|decide)|with_reducible intro Av|(with_reducible refine Ai ?_ ?_);focus (first|with_reducible rfl|exact rfl)|(with_reducible refine Dw.Gx ?_ ?_ ?_ fun Av=>?_);(iterate 3 focus kernel_rfl);try simp only[zRL]at Av|(with_reducible refine A5.mk ?_);(first|refine⟨_,Ns,?_⟩|refine⟨_,Sa,?_⟩);rintro _ _ ⟨rfl,rfl⟩|(with_reducible refine Fv.mk ?_);refine⟨_,_,Qm,?_⟩|(try dsimp only);(first|rw[hw]|rw[hDI])|(with_reducible apply L1);(focus (simp only[D.at,D.put,D.Cr,D.Bc,B7,Bw,D.Ap,B8,A4,Dq,A6.Dp,Fk,he]<;>exact rfl))|(with_reducible apply Dh);(focus rfl);(focus (simp only[D.at,D.put,D.Cr,D.Bc,B7,Bw,D.Ap,B8,A4,Dq,A6.Dp,Fk,he]<;>exact rfl));(try(focus exact rfl)))
  all_goals(try(conv=>whnf))
  refine Round.by (j+1,out) ?_ ⟨by omega,ho,hR⟩ (by dsimp only;omega)
  try dsimp only
  show norm _ _=Dy _ _
  kernel_rfl
 |true=>
  rw[if_neg (by simp)]at hR
  have hlo:((out.map Pr.Ap).map D.it).length=out.length:=by simp
  by_cases hom:(out.length:Int)=most
  ·rw[if_pos hom]at hR;subst hR;have Biz:decide ((((out.map Pr.Ap).map D.it).length:Int)=most)=true:=by rw[hlo];exact decide_eq_true hom
   repeat'((conv=>whnf);first|(with_reducible refine Bv (by first|assumption|refine decide_eq_true ?_;omega) fun hb=>?_);(try rw[hb]);(try simp only[Am]at hb);try subst hb|(with_reducible refine Bq (by first|assumption|exact Ag (by assumption)|rfl) fun hb=>?_);(try rw[hb]);try simp only[Am]at hb|((with_reducible refine Ai (fun hb=>?_) fun hb=>?_)<;>first|exact absurd hb (by decide)|(try rw[hb]);try simp only[Am]at hb)|(with_reducible refine Aa ?_ ?_);focus (and_intros<;>first|omega|with_reducible rfl|kernel_rfl|intro _ hh;cases hh;done|simp;done|decide)|with_reducible intro Av|(with_reducible refine Ai ?_ ?_);focus (first|with_reducible rfl|exact rfl)|(with_reducible refine Dw.Gx ?_ ?_ ?_ fun Av=>?_);(iterate 3 focus kernel_rfl);try simp only[zRL]at Av|(with_reducible refine A5.mk ?_);(first|refine⟨_,Ns,?_⟩|refine⟨_,Sa,?_⟩);rintro _ _ ⟨rfl,rfl⟩|(with_reducible refine Fv.mk ?_);refine⟨_,_,Qm,?_⟩|(try dsimp only);rw[hDI]|(first|with_reducible apply Ed|with_reducible apply L1);(focus (simp only[D.at,D.put,D.Cr,D.Bc,B7,Bw,D.Ap,B8,A4,Dq,A6.Dp,Fk,he]<;>exact rfl))|(with_reducible apply Dh);(focus rfl);(focus (simp only[D.at,D.put,D.Cr,D.Bc,B7,Bw,D.Ap,B8,A4,Dq,A6.Dp,Fk,he]<;>exact rfl));(try(focus exact rfl)))
   all_goals(try(conv=>whnf))
   (apply D6<;>kernel_rfl)
  ·rw[if_neg hom]at hR;have Biz:decide ((((out.map Pr.Ap).map D.it).length:Int)=most)=false:=by rw[hlo];exact decide_eq_false hom
   repeat'((conv=>whnf);first|(with_reducible first|refine Bv (by first|assumption|exact Ae (by assumption)|refine decide_eq_true ?_;omega) fun hb=>?_|refine Bq (by first|assumption|exact Ag (by assumption)|rfl) fun hb=>?_);(try rw[hb]);try simp only[Am]at hb|((with_reducible refine Ai (fun hb=>?_) fun hb=>?_)<;>first|exact absurd hb (by decide)|(try rw[hb]);try simp only[Am]at hb)|(with_reducible refine Aa ?_ ?_);focus (and_intros<;>first|omega|with_reducible rfl|kernel_rfl|intro _ hh;cases hh;done|exact F0 (by rfl)|exact Jm rfl|simp only[Eu];omega|simp;done|decide)|with_reducible intro Av|(with_reducible refine Ai ?_ ?_);focus (first|with_reducible rfl|exact rfl)|(with_reducible refine Dw.Gx ?_ ?_ ?_ fun Av=>?_);(iterate 3 focus kernel_rfl);try simp only[zRL]at Av|(with_reducible refine A5.mk ?_);(first|refine⟨_,Ns,?_⟩|refine⟨_,Sa,?_⟩);rintro _ _ ⟨rfl,rfl⟩|(with_reducible refine Fv.mk ?_);refine⟨_,_,Qm,?_⟩|(try dsimp only);(first|rw[hw]|rw[hDI])|(with_reducible apply L1);(focus (simp only[D.at,D.put,D.Cr,D.Bc,B7,Bw,D.Ap,B8,A4,Dq,A6.Dp,Fk,he]<;>exact rfl))|(with_reducible apply Dh);(focus rfl);(focus (simp only[D.at,D.put,D.Cr,D.Bc,B7,Bw,D.Ap,B8,A4,Dq,A6.Dp,Fk,he]<;>exact rfl));(try(focus exact rfl)))
   all_goals(try(conv=>whnf))
   refine Round.by (j+1,out++[⟨k,v.val,v.made,v.rev⟩]) ?_ ⟨by omega,by simp;omega,hR⟩ (by dsimp only;omega)
   try dsimp only
   simp only[B5,A0,C5];show norm _ _=Dy _ _
   kernel_rfl
def A6.Nw(s:A6)(n:A1)(x:Sp)(rev most:Int):List Pr × Bool × Int:=
 if(s.fi n).isNone=true then([],false,16)else if ¬(Wo x∧0≤rev∧1≤most∧most≤16)then([],false,1)else if(s.De n).rev<rev then([],false,13)else if 0<rev∧rev<(s.De n).floor then([],false,14)else
 ((N6 n x (if rev=0 then(s.De n).rev else rev) most (s.l.drop (Gm (Fe (Cp n [])) s.l)) []).1,(N6 n x (if rev=0 then(s.De n).rev else rev) most (s.l.drop (Gm (Fe (Cp n [])) s.l)) []).2,0)
theorem Bbb(s:A6)(n:A1)(x:Sp)(rev most:Int)(hf:s.fi n=none):
 Fn Tryz.prog G4 [sP s,.v (.str n),.v x.Ap,.v (ti rev),.v (ti most)] (Is (.F4 [.i (.list []),.i (.bool false),.i (ti 16)]) [sP s,.no,.no,.no,.no]):=by
 refine K2 ?_ (by simp)
 obtain⟨h1,h2⟩:=A6.P1 hf;repeat'((conv=>whnf);first|(with_reducible first|refine Bv (by rfl) fun hb=>?_|refine Bq (by rfl) fun hb=>?_);(try rw[hb]);try simp only[Am]at hb|((with_reducible refine Ai (fun hb=>?_) fun hb=>?_)<;>first|exact absurd hb (by decide)|(try rw[hb]);try simp only[Am]at hb)|(with_reducible refine Aa ?_ ?_);focus (and_intros<;>first|omega|with_reducible rfl|kernel_rfl|simp;done)|refine Ch ?_|(with_reducible apply Ed);(focus (simp only[D.at,D.put,D.Cr,D.Bc,B7,Bw,D.Ap,B8,A4,Dq,h1,A6.Dp]<;>exact rfl)))
 all_goals(try(conv=>whnf))
 (apply D6<;>kernel_rfl)
theorem Bf4(s:A6)(n:A1)(x:Sp)(rev most:Int)(i:Nat)(hf:s.fi n=some i)(hb:¬(Wo x∧0≤rev∧1≤most∧most≤16)):
 Fn Tryz.prog G4 [sP s,.v (.str n),.v x.Ap,.v (ti rev),.v (ti most)] (Is (.F4 [.i (.list []),.i (.bool false),.i (ti 1)]) [sP s,.no,.no,.no,.no]):=by
 refine K2 ?_ (by simp)
 have hs:=Vh x;by_cases hx:Wo x
 case neg=>
  rw[decide_eq_false hx]at hs;obtain⟨h1,h2,h3⟩:=A6.Jt hf;repeat'((conv=>whnf);first|(with_reducible refine Bv (by rfl) fun hb=>?_);(try rw[hb]);try simp only[Am]at hb|((with_reducible refine Ai (fun hb=>?_) fun hb=>?_)<;>first|exact absurd hb (by decide)|(try rw[hb]);try simp only[Am]at hb)|(with_reducible refine Aa ?_ ?_);focus (and_intros<;>first|omega|with_reducible rfl|kernel_rfl|intro _ hh;cases hh;done|simp;done|decide)|(with_reducible refine Ai ?_ ?_);focus (decide)|refine Ch ?_|(with_reducible refine A5.mk ?_);refine⟨_,hs,?_⟩;rintro _ _ ⟨rfl,rfl⟩|(with_reducible apply Ed);(focus (simp only[D.at,D.put,D.Cr,D.Bc,B7,Bw,D.Ap,B8,A4,Dq,h1,h3,A6.Dp,Ef.Ap]<;>exact rfl)))
  all_goals(try(conv=>whnf))
  (apply D6<;>kernel_rfl)
 rw[decide_eq_true hx]at hs;by_cases h1:rev<0
 case pos=>
  obtain⟨h1,h2,h3⟩:=A6.Jt hf;repeat'((conv=>whnf);first|(with_reducible first|refine Bv (by first|refine decide_eq_true ?_;assumption|rfl) fun hb=>?_|refine Bq (by rfl) fun hb=>?_);(try rw[hb]);try simp only[Am]at hb|((with_reducible refine Ai (fun hb=>?_) fun hb=>?_)<;>first|exact absurd hb (by decide)|(try rw[hb]);try simp only[Am]at hb)|(with_reducible refine Aa ?_ ?_);focus (and_intros<;>first|omega|with_reducible rfl|kernel_rfl|intro _ hh;cases hh;done|simp;done|decide)|(with_reducible refine Ai ?_ ?_);focus (decide)|refine Ch ?_|(with_reducible refine A5.mk ?_);refine⟨_,hs,?_⟩;rintro _ _ ⟨rfl,rfl⟩|(with_reducible apply Ed);(focus (simp only[D.at,D.put,D.Cr,D.Bc,B7,Bw,D.Ap,B8,A4,Dq,h1,h3,A6.Dp,Ef.Ap]<;>exact rfl)))
  all_goals(try(conv=>whnf))
  (apply D6<;>kernel_rfl)
 by_cases h2:most<1
 case pos=>
  obtain⟨h1,h2,h3⟩:=A6.Jt hf;repeat'((conv=>whnf);first|(with_reducible first|refine Bv (by first|refine decide_eq_true ?_;assumption|rfl) fun hb=>?_|refine Bq (by first|refine decide_eq_false ?_;assumption|rfl) fun hb=>?_);(try rw[hb]);try simp only[Am]at hb|((with_reducible refine Ai (fun hb=>?_) fun hb=>?_)<;>first|exact absurd hb (by decide)|(try rw[hb]);try simp only[Am]at hb)|(with_reducible refine Aa ?_ ?_);focus (and_intros<;>first|omega|with_reducible rfl|kernel_rfl|intro _ hh;cases hh;done|simp;done|decide)|(with_reducible refine Ai ?_ ?_);focus (decide)|refine Ch ?_|(with_reducible refine A5.mk ?_);refine⟨_,hs,?_⟩;rintro _ _ ⟨rfl,rfl⟩|(with_reducible apply Ed);(focus (simp only[D.at,D.put,D.Cr,D.Bc,B7,Bw,D.Ap,B8,A4,Dq,h1,h3,A6.Dp,Ef.Ap]<;>exact rfl)))
  all_goals(try(conv=>whnf))
  (apply D6<;>kernel_rfl)
 have h3:most>16:=by
  by_cases h:most>16
  ·exact h
  ·exact absurd ⟨hx,by omega,by omega,by omega⟩ hb
 obtain⟨h1,h2,h3⟩:=A6.Jt hf;repeat'((conv=>whnf);first|(with_reducible first|refine Bv (by first|refine decide_eq_true ?_;assumption|rfl) fun hb=>?_|refine Bq (by first|refine decide_eq_false ?_;assumption|rfl) fun hb=>?_);(try rw[hb]);try simp only[Am]at hb|((with_reducible refine Ai (fun hb=>?_) fun hb=>?_)<;>first|exact absurd hb (by decide)|(try rw[hb]);try simp only[Am]at hb)|(with_reducible refine Aa ?_ ?_);focus (and_intros<;>first|omega|with_reducible rfl|kernel_rfl|intro _ hh;cases hh;done|simp;done|decide)|(with_reducible refine Ai ?_ ?_);focus (decide)|refine Ch ?_|(with_reducible refine A5.mk ?_);refine⟨_,hs,?_⟩;rintro _ _ ⟨rfl,rfl⟩|(with_reducible apply Ed);(focus (simp only[D.at,D.put,D.Cr,D.Bc,B7,Bw,D.Ap,B8,A4,Dq,h1,h3,A6.Dp,Ef.Ap]<;>exact rfl)))
 all_goals(try(conv=>whnf))
 (apply D6<;>kernel_rfl)
theorem A3y(s:A6)(n:A1)(x:Sp)(rev most:Int)(i:Nat)(hf:s.fi n=some i)(hb:Wo x∧0≤rev∧1≤most∧most≤16)(hr:(s.De n).rev<rev):
 Fn Tryz.prog G4 [sP s,.v (.str n),.v x.Ap,.v (ti rev),.v (ti most)] (Is (.F4 [.i (.list []),.i (.bool false),.i (ti 13)]) [sP s,.no,.no,.no,.no]):=by
 refine K2 ?_ (by simp)
 obtain⟨hx,hm1,hm2,hm3⟩:=hb;have hs:=Vh x;rw[decide_eq_true hx]at hs;obtain⟨h1,h2,h3⟩:=A6.Jt hf;repeat'((conv=>whnf);first|(with_reducible first|refine Bv (by first|refine decide_eq_true ?_;assumption|rfl) fun hb=>?_|refine Bq (by first|refine decide_eq_false ?_;omega|rfl) fun hb=>?_);(try rw[hb]);try simp only[Am]at hb|((with_reducible refine Ai (fun hb=>?_) fun hb=>?_)<;>first|exact absurd hb (by decide)|(try rw[hb]);try simp only[Am]at hb)|(with_reducible refine Aa ?_ ?_);focus (and_intros<;>first|omega|with_reducible rfl|kernel_rfl|intro _ hh;cases hh;done|simp;done|decide)|(with_reducible refine Ai ?_ ?_);focus (decide)|(with_reducible refine Dw.Gx ?_ ?_ ?_ fun Av=>?_);(iterate 3 focus kernel_rfl);try simp only[zRL]at Av|refine Ch ?_|(with_reducible refine A5.mk ?_);refine⟨_,hs,?_⟩;rintro _ _ ⟨rfl,rfl⟩|(with_reducible apply Ed);(focus (simp only[D.at,D.put,D.Cr,D.Bc,B7,Bw,D.Ap,B8,A4,Dq,h1,h3,A6.Dp,Ef.Ap]<;>exact rfl))|(with_reducible apply Dh);(focus rfl);(focus (simp only[D.at,D.put,D.Cr,D.Bc,B7,Bw,D.Ap,B8,A4,Dq,h1,h3,A6.Dp,Ef.Ap]<;>exact rfl));(try(focus exact rfl)))
 all_goals(try(conv=>whnf))
 (apply D6<;>kernel_rfl)
theorem Bbc(s:A6)(n:A1)(x:Sp)(rev most:Int)(i:Nat)(hf:s.fi n=some i)(hb:Wo x∧0≤rev∧1≤most∧most≤16)(hr:¬(s.De n).rev<rev)(Kn:0<rev∧rev<(s.De n).floor):
 Fn Tryz.prog G4 [sP s,.v (.str n),.v x.Ap,.v (ti rev),.v (ti most)] (Is (.F4 [.i (.list []),.i (.bool false),.i (ti 14)]) [sP s,.no,.no,.no,.no]):=by
 refine K2 ?_ (by simp)
 obtain⟨hx,hm1,hm2,hm3⟩:=hb;have hs:=Vh x;rw[decide_eq_true hx]at hs;obtain⟨h1,h2,h3⟩:=A6.Jt hf;repeat'((conv=>whnf);first|(with_reducible first|refine Bv (by first|refine decide_eq_true ?_;omega|rfl) fun hb=>?_|refine Bq (by first|((refine decide_eq_false ?_);first|assumption|omega)|rfl) fun hb=>?_);(try rw[hb]);try simp only[Am]at hb|((with_reducible refine Ai (fun hb=>?_) fun hb=>?_)<;>first|exact absurd hb (by decide)|(try rw[hb]);try simp only[Am]at hb)|(with_reducible refine Aa ?_ ?_);focus (and_intros<;>first|omega|with_reducible rfl|kernel_rfl|intro _ hh;cases hh;done|simp;done|decide)|(with_reducible refine Ai ?_ ?_);focus (decide)|(with_reducible refine Dw.Gx ?_ ?_ ?_ fun Av=>?_);(iterate 3 focus kernel_rfl);try simp only[zRL]at Av|refine Ch ?_|(with_reducible refine A5.mk ?_);refine⟨_,hs,?_⟩;rintro _ _ ⟨rfl,rfl⟩|(with_reducible apply Ed);(focus (simp only[D.at,D.put,D.Cr,D.Bc,B7,Bw,D.Ap,B8,A4,Dq,h1,h3,A6.Dp,Ef.Ap]<;>exact rfl))|(with_reducible apply Dh);(focus rfl);(focus (simp only[D.at,D.put,D.Cr,D.Bc,B7,Bw,D.Ap,B8,A4,Dq,h1,h3,A6.Dp,Ef.Ap]<;>exact rfl));(try(focus exact rfl)))
 all_goals(try(conv=>whnf))
 (apply D6<;>kernel_rfl)
theorem Bcm(hof:Asm)(s:A6)(hB:s.Bd)(n:A1)(hn:n.length≤100000)(x:Sp)(rev most:Int)(ht:0≤(s.De n).rev∧(s.De n).rev≤9000000000000000000):
 Fn Tryz.prog G4 [sP s,.v (.str n),.v x.Ap,.v (ti rev),.v (ti most)] (Is (.F4 [.i (.list ((s.Nw n x rev most).1.map Pr.Ap)),.i (.bool (s.Nw n x rev most).2.1),.i (ti (s.Nw n x rev most).2.2)]) [sP s,.no,.no,.no,.no]):=by
 unfold A6.Nw;cases hf:s.fi n with
 |none=>exact Bbb s n x rev most hf
 |some i=>
  simp only[Option.isNone_some,D0,if_false];by_cases hb:Wo x∧0≤rev∧1≤most∧most≤16
  case neg=>simp only[hb,not_false_eq_true,if_true];exact Bf4 s n x rev most i hf hb
  by_cases hr:(s.De n).rev<rev
  case pos=>simp only[hb,hr,not_true_eq_false,if_false,if_true,and_self];exact A3y s n x rev most i hf hb hr
  by_cases Kn:0<rev∧rev<(s.De n).floor
  case pos=>simp only[hb,hr,Kn,not_true_eq_false,if_false,if_true,and_self];exact Bbc s n x rev most i hf hb hr Kn
  by_cases h0:rev=0
  ·subst h0;simp only[hb,hr,Kn,not_true_eq_false,if_false,if_true,and_self];exact range_zero hof s hB n hn x _ most i hf hb.1 ⟨rfl,by omega⟩ hb.2.2 _ rfl
  ·simp only[hb,hr,Kn,h0,not_true_eq_false,if_false,if_true,and_self];exact Aya hof s hB n hn x rev most i hf hb.1 ⟨by omega,by omega,by omega,by omega⟩ hb.2.2 _ rfl
end Go.Ab
