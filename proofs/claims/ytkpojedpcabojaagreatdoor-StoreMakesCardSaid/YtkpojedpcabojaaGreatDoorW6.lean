/- Lemmas -/
import Derived.Test.YtkpojedpcabojaaGreatDoorWC
import Derived.Test.YtkpojedpcabojaaGreatDoorW9
set_option linter.unusedVariables false
set_option linter.unusedSimpArgs false
set_option maxRecDepth 100000
set_option maxHeartbeats 40000000
namespace Go.Ab
open Go.Proofs
abbrev Ad1:FuncId:=Rp
theorem A05(s:A6)(n:A1)(rev:Int)(hf:s.fi n=none):
 Fn Tryz.prog Ad1 [sP s,.v (.str n),.v (ti rev)] (Is (.v (ti 16)) [sP s,.no,.no]):=by
 refine Rc ?_ (by simp)
 obtain⟨h1,h2⟩:=A6.P1 hf;repeat'((conv=>whnf);first|(with_reducible first|refine Bv (by rfl) fun hb=>?_|refine Bq (by rfl) fun hb=>?_);(try rw[hb]);try simp only[Am]at hb|((with_reducible refine Ai (fun hb=>?_) fun hb=>?_)<;>first|exact absurd hb (by decide)|(try rw[hb]);try simp only[Am]at hb)|(with_reducible refine Aa ?_ ?_);focus (and_intros<;>first|omega|with_reducible rfl|kernel_rfl|simp;done)|refine Ch ?_|(with_reducible apply Ed);(focus (simp only[D.at,D.put,D.Cr,D.Bc,B7,Bw,D.Ap,B8,A4,Dq,h1,A6.Dp]<;>exact rfl)))
 all_goals(try(conv=>whnf))
 (apply D6<;>kernel_rfl)
def A6.Vo(s:A6)(n:A1)(rev:Int):Int:=if rev<0 then 1 else if(s.De n).rev<rev then 13 else if rev<(s.De n).floor then 14 else 0
theorem A5w(s:A6)(n:A1)(rev:Int)(i:Nat)(hf:s.fi n=some i)(he:s.Vo n rev≠0):
 Fn Tryz.prog Ad1 [sP s,.v (.str n),.v (ti rev)] (Is (.v (ti (s.Vo n rev))) [sP s,.no,.no]):=by
 refine Rc ?_ (by simp)
 obtain⟨h1,h2,h3⟩:=A6.Jt hf;unfold A6.Vo at he ⊢;by_cases g1:rev<0
 ·rw[if_pos g1];repeat'((conv=>whnf);first|(with_reducible refine Bv (by first|refine decide_eq_true ?_;assumption|rfl) fun hb=>?_);(try rw[hb]);try simp only[Am]at hb|((with_reducible refine Ai (fun hb=>?_) fun hb=>?_)<;>first|exact absurd hb (by decide)|(try rw[hb]);try simp only[Am]at hb)|(with_reducible refine Aa ?_ ?_);focus (and_intros<;>first|omega|with_reducible rfl|kernel_rfl|simp;done)|(with_reducible refine Ai ?_ ?_);focus (decide)|refine Ch ?_|(with_reducible apply Ed);(focus (simp only[D.at,D.put,D.Cr,D.Bc,B7,Bw,D.Ap,B8,A4,Dq,h1,h3,A6.Dp,Ef.Ap]<;>exact rfl)))
  all_goals(try(conv=>whnf))
  (apply D6<;>kernel_rfl)
 rw[if_neg g1]at he ⊢;by_cases g2:(s.De n).rev<rev
 ·rw[if_pos g2];repeat'((conv=>whnf);first|(with_reducible first|refine Bv (by first|refine decide_eq_true ?_;assumption|rfl) fun hb=>?_|refine Bq (by first|refine decide_eq_false ?_;assumption|rfl) fun hb=>?_);(try rw[hb]);try simp only[Am]at hb|((with_reducible refine Ai (fun hb=>?_) fun hb=>?_)<;>first|exact absurd hb (by decide)|(try rw[hb]);try simp only[Am]at hb)|(with_reducible refine Aa ?_ ?_);focus (and_intros<;>first|omega|with_reducible rfl|kernel_rfl|simp;done)|(with_reducible refine Ai ?_ ?_);focus (decide)|refine Ch ?_|(with_reducible apply Ed);(focus (simp only[D.at,D.put,D.Cr,D.Bc,B7,Bw,D.Ap,B8,A4,Dq,h1,h3,A6.Dp,Ef.Ap]<;>exact rfl))|(with_reducible apply Dh);(focus rfl);(focus (simp only[D.at,D.put,D.Cr,D.Bc,B7,Bw,D.Ap,B8,A4,Dq,h1,h3,A6.Dp,Ef.Ap]<;>exact rfl));(try(focus exact rfl)))
  all_goals(try(conv=>whnf))
  (apply D6<;>kernel_rfl)
 rw[if_neg g2]at he ⊢;by_cases g3:rev<(s.De n).floor
 ·rw[if_pos g3];repeat'((conv=>whnf);first|(with_reducible first|refine Bv (by first|refine decide_eq_true ?_;assumption|rfl) fun hb=>?_|refine Bq (by first|refine decide_eq_false ?_;assumption|rfl) fun hb=>?_);(try rw[hb]);try simp only[Am]at hb|((with_reducible refine Ai (fun hb=>?_) fun hb=>?_)<;>first|exact absurd hb (by decide)|(try rw[hb]);try simp only[Am]at hb)|(with_reducible refine Aa ?_ ?_);focus (and_intros<;>first|omega|with_reducible rfl|kernel_rfl|simp;done)|(with_reducible refine Ai ?_ ?_);focus (decide)|refine Ch ?_|(with_reducible apply Ed);(focus (simp only[D.at,D.put,D.Cr,D.Bc,B7,Bw,D.Ap,B8,A4,Dq,h1,h3,A6.Dp,Ef.Ap]<;>exact rfl))|(with_reducible apply Dh);(focus rfl);(focus (simp only[D.at,D.put,D.Cr,D.Bc,B7,Bw,D.Ap,B8,A4,Dq,h1,h3,A6.Dp,Ef.Ap]<;>exact rfl));(try(focus exact rfl)))
  all_goals(try(conv=>whnf))
  (apply D6<;>kernel_rfl)
 ·rw[if_neg g3]at he;exact absurd rfl he
theorem Ki(l:List Bt)(K:Nat):Fs ((l.map Bt.Ap).drop K)=(l.map Bt.Ap).drop K:=by
 rw[←List.map_drop];generalize l.drop K=l;induction l with
 |nil=>rfl
 |cons x l ih=>simp only[A0,Fs,ih];rfl
theorem Ami(s:A6)(n:A1)(rev:Int)(i:Nat)(hf:s.fi n=some i)(hL:U3 80000 s.l)(hr:0≤rev∧rev≤(s.De n).rev∧(s.De n).floor≤rev∧rev≤2000000000000)(Z:CSt)(hZ:Ls n rev s.l ⟨[],0⟩=Z):
 Fn Tryz.prog Ad1 [sP s,.v (.str n),.v (ti rev)] (Is (.v (ti 0)) [sP ⟨s.sp.set i (n,{s.De n with floor:=rev,Jk:=Z.c}),Z.l⟩,.no,.no]):=by
 refine Rc ?_ (by simp)
 obtain⟨h1,h2,h3⟩:=A6.Jt hf;obtain⟨Hr,Kn,hr3,hr4⟩:=hr;repeat'((conv=>whnf);first|(with_reducible first|refine Bv (by rfl) fun hb=>?_|refine Bq (by first|refine decide_eq_false ?_;omega|rfl) fun hb=>?_);(try rw[hb]);try simp only[Am]at hb|((with_reducible refine Ai (fun hb=>?_) fun hb=>?_)<;>first|exact absurd hb (by decide)|(try rw[hb]);try simp only[Am]at hb)|(with_reducible refine Aa ?_ ?_);focus (and_intros<;>first|omega|with_reducible rfl|kernel_rfl|simp;done)|with_reducible intro Av|(with_reducible refine Ai ?_ ?_);focus (decide)|refine Ch ?_|(with_reducible apply Ed);(focus (simp only[D.at,D.put,D.Cr,D.Bc,B7,Bw,D.Ap,B8,A4,Dq,h1,h3,A6.Dp,Ef.Ap]<;>exact rfl))|(with_reducible apply Dh);(focus rfl);(focus (simp only[D.at,D.put,D.Cr,D.Bc,B7,Bw,D.Ap,B8,A4,Dq,h1,h3,A6.Dp,Ef.Ap]<;>exact rfl));(try(focus exact rfl)))
 all_goals(try(conv=>whnf))
 generalize htt:s.De n=t at*;have Fk:(s.l.map C0.Dp).length=s.l.length:=An _;have hlen:=hL.len;obtain⟨VS0,Aq8⟩:∃V,V=s.sp.map fun x=>D.ptr (.it x.2.Ap):=⟨_,rfl⟩
 obtain⟨KS0,Aq7⟩:∃V,V=s.sp.map fun x=>I.str x.1:=⟨_,rfl⟩
 have hi:i<VS0.length:=by rw[Aq8];exact(Ak.1 h2).1
 refine Ep.by (X:=Nat × List C0 × Int × List D × List D) (fun y=>[(55,.v (ti (y.1:Int))),(9,.own [] (.vec 116 2 (y.2.1.map C0.Dp))),(132,.own [] (.ptr (stD KS0 y.2.2.2.1 y.2.2.2.2)))])
  (fun y=>y.1≤s.l.length∧y.2.2.2.1=VS0.set i (.ptr (.it (Ef.mk t.rev rev t.bytes t.keys y.2.2.1).Ap))∧(y.2.2.2.2.length=s.l.length∧∀q,y.1≤q→y.2.2.2.2[q]?=(s.l.map C0.Dp)[q]?)∧(0≤y.2.2.1∧y.2.2.1≤100000*y.1)∧y.2.1.length≤y.1∧Ls n rev (s.l.drop y.1) ⟨y.2.1,y.2.2.1⟩=Z)
  (fun y=>s.l.length - y.1) (0,[],0,(s.sp.map fun x=>D.ptr (.it x.2.Ap)).set i (.ptr (.it (Ef.mk t.rev rev t.bytes t.keys 0).Ap)),s.l.map C0.Dp) (by rw[Aq7];kernel_rfl)
  ⟨A3 _,by rw[Aq8],⟨Fk,fun _ _=>rfl⟩,⟨by simp,by simp⟩,by simp,hZ⟩ ?_
 rintro⟨j,rest,c,VS,Ld⟩ ⟨hj,e1,⟨e2,e3⟩,hc,hrl,hR⟩;dsimp only at hj e1 e2 e3 hc hrl hR ⊢;have hw:IntKind.i64.wrap ((j:Int)+1)=((j+1:Nat):Int):=Mj (n:=100000) (by omega) (by simp only[maxLen];omega)
 have Mw:VS[i]?=some (.ptr (.it (Ef.mk t.rev rev t.bytes t.keys c).Ap)):=by rw[e1,E7 hi]
 by_cases E6:j<s.l.length
 case neg=>
  have Di:¬decide ((j:Int)<(s.l.length:Int))=true:=by simp;omega
  have Awc:¬decide ((j:Int)<((s.l.map C0.Dp).length:Int))=true:=by simp;omega
  rw[Bo (by omega)]at hR
  have hR:⟨rest,c⟩=Z:=hR;subst hR;have Rv:sP ⟨s.sp.set i (n,{t with floor:=rev,Jk:=c}),rest⟩= .own [] (.ptr (stD KS0 VS (rest.map C0.Dp))):=by
   simp only[sP,A6.Dp,Gi];rw[←Aq8, ←Aq7,e1];rw[List.set_getElem?_self' (l:=KS0) (by rw[Aq7,B2,h3];rfl)]
  rw[Rv];repeat'((conv=>whnf);first|(with_reducible refine Bq (by exact Ag (by assumption)) fun hb=>?_);(try rw[hb]);try simp only[Am]at hb|(with_reducible refine Aa ?_ ?_);focus (and_intros<;>first|kernel_rfl|simp;done))
  all_goals(try(conv=>whnf))
  (apply D6<;>kernel_rfl)
 obtain⟨h,he⟩:∃h,s.l[j]?=some h:=⟨_,Ac E6⟩;have Di:¬decide ((j:Int)<(s.l.length:Int))=false:=by simp;omega
 have Awc:¬decide ((j:Int)<((s.l.map C0.Dp).length:Int))=false:=by simp;omega
 obtain⟨Jx,Ku,Nq,hb4⟩:=hL.held h (Aw he);have Dd:Ld[j]?=some h.Dp:=by rw[e3 j (Ay _),B2,he];rfl
 have Ns:=Abe h.at_ Jx;have K9:s.l.drop j=h::s.l.drop (j+1):=by rw[A7 E6];rw[Ac E6]at he;cases he;rfl
 rw[K9]at hR;simp only[Ls]at hR;have hsk:(Ld.set j (.it (.agg [.Ln,.Ln]))).length=s.l.length∧∀q,j+1≤q→(Ld.set j (.it (.agg [.Ln,.Ln])))[q]?=(s.l.map C0.Dp)[q]?:=
  ⟨by rw[List.length_set,e2],fun q hq=>by rw[Az (by omega)];exact e3 q (by omega)⟩
 unfold Tn at hR;dsimp only at hR;generalize hwk:Cz h.at_=wk at Ns hR;obtain⟨w,kk,z⟩:=wk;dsimp only at Ns hR;have B2b:Ld.length=s.l.length:=e2;by_cases Qf:w=n
 case neg=>
  rw[if_neg Qf]at hR;have Are:¬decide (w=n)=true:=by simpa using Qf
  repeat'((conv=>whnf);first|(with_reducible first|refine Bv (by exact Ae (by assumption)) fun hb=>?_|refine Bq (by exact Ag (by assumption)) fun hb=>?_);(try rw[hb]);try simp only[Am]at hb|(with_reducible refine Aa ?_ ?_);focus (and_intros<;>first|omega|with_reducible rfl|kernel_rfl|intro _ hh;cases hh;done|exact Jm rfl|simp only[Eu];omega|simp;done|decide)|(with_reducible refine A5.mk ?_);refine⟨_,Ns,?_⟩;rintro _ _ ⟨rfl,rfl⟩|(try dsimp only);rw[hw]|(with_reducible apply Ed);(focus (simp only[D.at,D.put,D.Cr,D.Bc,B7,Bw,D.Ap,B8,A4,Dq,Dd,C0.Dp,Ug,D.Uw,Mw]<;>exact rfl))|(with_reducible apply Dh);(focus rfl);(focus (simp only[D.at,D.put,D.Cr,D.Bc,B7,Bw,D.Ap,B8,A4,Dq,Dd,C0.Dp,Ug,D.Uw,Mw]<;>exact rfl));(try(focus exact rfl)))
  all_goals(try(conv=>whnf))
  refine Round.by (j+1,rest++[h],c,VS,Ld.set j (.it (.agg [.Ln,.Ln]))) ?_ ⟨by omega,e1,hsk,⟨by dsimp only;omega,by dsimp only;omega⟩,by simp;omega,hR⟩ (by dsimp only;omega)
  try dsimp only
  rw[B5,A0,C5];show norm _ _=Dy _ _
  kernel_rfl
 subst Qf;rw[if_pos rfl]at hR;have Are:¬decide (w=w)=false:=by simp
 obtain⟨a,Ev⟩:=h;dsimp only at Jx Ku Nq hb4 Dd Ns hR hwk;have Dd:Ld[j]?=some (.st [.it (.str a),.vec Ft 4 ((Ev.map Bt.Ap).map D.it)]):=Dd;obtain⟨KA,hKA⟩:∃K,K=Nh rev Ev:=⟨_,rfl⟩;have hKl:KA<Ev.length:=by rw[hKA];exact Aro rev Ev Ku
 repeat'((conv=>whnf);first|(with_reducible refine Bv (by exact Ae (by assumption)) fun hb=>?_);(try rw[hb]);try simp only[Am]at hb|(with_reducible refine Aa ?_ ?_);focus (and_intros<;>first|omega|with_reducible rfl|kernel_rfl|intro _ hh;cases hh;done|simp;done|decide)|(with_reducible refine A5.mk ?_);refine⟨_,Ns,?_⟩;rintro _ _ ⟨rfl,rfl⟩|(with_reducible apply Ed);(focus (simp only[D.at,D.put,D.Cr,D.Bc,B7,Bw,D.Ap,B8,A4,Dq,Dd,C0.Dp,Ug,D.Uw,Mw]<;>exact rfl))|(with_reducible apply Dh);(focus rfl);(focus (simp only[D.at,D.put,D.Cr,D.Bc,B7,Bw,D.Ap,B8,A4,Dq,Dd,C0.Dp,Ug,D.Uw,Mw]<;>exact rfl));(try(focus exact rfl)))
 all_goals(try(conv=>whnf))
 refine Ep.by (X:=Nat) (fun k=>[(15,.v (ti (k:Int)))]) (fun k=>k<Ev.length∧Nh rev (Ev.drop k)+k=KA) (fun k=>Ev.length - k) 0 (by kernel_rfl) ⟨by omega,hKA.symm⟩ ?_
 rintro k ⟨hk,hka⟩;dsimp only at hk hka ⊢;have Qy:(Ev.map Bt.Ap).length=Ev.length:=An _;have Ux:((Ev.map Bt.Ap).map D.it).length=Ev.length:=by simp
 have Qn:IntKind.i64.wrap ((k:Int)+1)=((k+1:Nat):Int):=Mj (n:=100000) (by omega) (by simp only[maxLen];omega)
 rw[Baq hk]at hka;by_cases Tt:k+1<Ev.length
 ·obtain⟨v1,Mi⟩:∃v,Ev[k+1]?=some v:=⟨_,Ac Tt⟩;rw[Mi]at hka;dsimp only at hka;have A2h:¬decide (((k+1:Nat):Int)<(Ev.length:Int))=false:=by simp;omega
  have Awd:¬decide (IntKind.i64.wrap ((k:Int)+1)<(Ev.length:Int))=false:=by rw[Qn];exact A2h
  have Bw8:¬decide (IntKind.i64.wrap ((k:Int)+1)<(((Ev.map Bt.Ap).map D.it).length:Int))=false:=by rw[Ux];exact Awd
  by_cases hv2:v1.rev≤rev
  ·rw[if_pos hv2]at hka;have Bw3:Nh rev (Ev.drop (k+1))+(k+1)=KA:=by omega
   repeat'((conv=>whnf);first|(with_reducible refine Bv (by first|exact Ae (by assumption)|refine decide_eq_true ?_;assumption|rfl) fun hb=>?_);(try rw[hb]);try simp only[Am]at hb|(with_reducible refine Aa ?_ ?_);focus (and_intros<;>first|omega|with_reducible rfl|kernel_rfl|simp;done)|with_reducible intro Av|(with_reducible apply Dh);(focus rfl);(focus (simp only[D.at,D.put,D.Cr,D.Bc,B7,Bw,D.Ap,B8,A4,Dq,Mi,Bt.Ap,Qn,Ux]<;>exact rfl));(try(focus exact rfl)))
   all_goals(try(conv=>whnf))
   refine Round.by (k+1) ?_ ⟨Tt,Bw3⟩ (by omega)
   try dsimp only
   rw[Qn];show norm _ _=Dy _ _
   kernel_rfl
  ·rw[if_neg hv2]at hka;obtain rfl:k=KA:=by omega
   clear hka;obtain⟨va,H7⟩:∃v,Ev[k]?=some v:=⟨_,Ac hk⟩;have hKN:Mt rev Ev=if va.gone=true∧va.rev≤rev then k+1 else k:=by unfold Mt;rw[←hKA,H7]
   rw[hKN]at hR;obtain⟨vr,vm,vv,vg⟩:=va;dsimp only at hR;have Cq:∀K,∀u∈(Ev.map Bt.Ap).drop K,u.size=4:=fun K u hu=>by obtain⟨v,_,rfl⟩:=Cs.1 (Er hu);rfl
   have Eh:∀K,_:=fun K=>Vr ((Ev.map Bt.Ap).drop K) (Cq K) (by simp;omega)
   clear hKN K9 Cq;by_cases Qv:vg=true∧vr≤rev
   case neg=>
    rw[if_neg Qv,if_neg (by omega)]at hR
    have Eh:=Eh k;have hz:¬decide (((Fs ((Ev.map Bt.Ap).drop (k))).length:Int)=0)=true:=by rw[Ki];simp;omega
    have hz2:¬decide ((((Ev.map Bt.Ap).drop (k)).length:Int)=0)=true:=by simp;omega
    have hz3:¬decide (((Fs (Fs ((Ev.map Bt.Ap).drop (k)))).length:Int)=0)=true:=by rw[Ki];exact hz
    have hz4:¬decide ((((Fs ((Ev.map Bt.Ap).drop (k))).map D.it).length:Int)=0)=true:=by rw[An];exact hz
    have hz5:¬decide ((((Fs (Fs ((Ev.map Bt.Ap).drop (k)))).map D.it).length:Int)=0)=true:=by rw[An];exact hz3
    cases vg with
    |false=>
     repeat'((conv=>whnf);first|(with_reducible first|refine Bv (by first|exact Ae (by assumption)|rfl) fun hb=>?_|refine Bq (by first|exact Ag (by assumption)|refine decide_eq_false ?_;assumption|rfl) fun hb=>?_);(try rw[hb]);try simp only[Am]at hb|(with_reducible refine Aa ?_ ?_);focus (and_intros<;>first|omega|with_reducible rfl|kernel_rfl|exact Jm rfl|simp only[Eu];omega|simp;done)|with_reducible intro Av|(with_reducible refine Dw.Gx ?_ ?_ ?_ fun Av=>?_);(iterate 3 focus kernel_rfl);try simp only[zRL]at Av|(with_reducible refine A5.mk ?_);refine⟨_,Eh,?_⟩;rintro _ _ ⟨rfl,rfl⟩|(first|with_reducible apply Ed|with_reducible apply L1);(focus (simp only[D.at,D.put,D.Cr,D.Bc,B7,Bw,D.Ap,B8,A4,Dq,Qn,Mi,H7,Bt.Ap,Ux,K7,Mw,Ef.Ap]<;>exact rfl))|(with_reducible apply Dh);(focus rfl);(focus (simp only[D.at,D.put,D.Cr,D.Bc,B7,Bw,D.Ap,B8,A4,Dq,Qn,Mi,H7,Bt.Ap,Ux,K7,Mw,Ef.Ap]<;>exact rfl));(try(focus exact rfl)))
     all_goals(try(conv=>whnf))
     have hcw:IntKind.i64.wrap (c+(((Ev.map Bt.Ap).drop (k)).length:Int))=c+(Ev.length - (k):Nat):=by rw[Br,An,Cd (by omega)]
     refine Round.by (j+1,rest++[⟨a,Ev.drop (k)⟩],c+(Ev.length - (k):Nat),VS.set i (.ptr (.it (Ef.mk t.rev rev t.bytes t.keys (IntKind.i64.wrap (c+(((Ev.map Bt.Ap).drop (k)).length:Int)))).Ap)),Ld.set j (.it (.agg [.Ln,.Ln]))) ?_ ⟨by omega,by rw[e1,Gj,hcw],hsk,⟨by dsimp only;omega,by dsimp only;omega⟩,by simp;omega,hR⟩ (by dsimp only;omega)
     try dsimp only
     rw[B5,A0,C5,show C0.Dp ⟨a,Ev.drop (k)⟩= .st [.it (.str a),.vec Ft 4 (((Ev.map Bt.Ap).drop (k)).map D.it)]from by simp[C0.Dp,List.map_drop]]
     simp only[Ki,hw,Qn];show norm _ _=Dy _ _
     kernel_rfl
    |true=>
     have hvr:¬vr≤rev:=fun h=>Qv ⟨rfl,h⟩
     repeat'((conv=>whnf);first|(with_reducible first|refine Bv (by first|exact Ae (by assumption)|rfl) fun hb=>?_|refine Bq (by first|exact Ag (by assumption)|refine decide_eq_false ?_;assumption) fun hb=>?_);(try rw[hb]);try simp only[Am]at hb|(with_reducible refine Aa ?_ ?_);focus (and_intros<;>first|omega|with_reducible rfl|kernel_rfl|exact Jm rfl|simp only[Eu];omega|simp;done)|with_reducible intro Av|(with_reducible refine Dw.Gx ?_ ?_ ?_ fun Av=>?_);(iterate 3 focus kernel_rfl);try simp only[zRL]at Av|(with_reducible refine A5.mk ?_);refine⟨_,Eh,?_⟩;rintro _ _ ⟨rfl,rfl⟩|(first|with_reducible apply Ed|with_reducible apply L1);(focus (simp only[D.at,D.put,D.Cr,D.Bc,B7,Bw,D.Ap,B8,A4,Dq,Qn,Mi,H7,Bt.Ap,Ux,K7,Mw,Ef.Ap]<;>exact rfl))|(with_reducible apply Dh);(focus rfl);(focus (simp only[D.at,D.put,D.Cr,D.Bc,B7,Bw,D.Ap,B8,A4,Dq,Qn,Mi,H7,Bt.Ap,Ux,K7,Mw,Ef.Ap]<;>exact rfl));(try(focus exact rfl)))
     all_goals(try(conv=>whnf))
     have hcw:IntKind.i64.wrap (c+(((Ev.map Bt.Ap).drop (k)).length:Int))=c+(Ev.length - (k):Nat):=by rw[Br,An,Cd (by omega)]
     refine Round.by (j+1,rest++[⟨a,Ev.drop (k)⟩],c+(Ev.length - (k):Nat),VS.set i (.ptr (.it (Ef.mk t.rev rev t.bytes t.keys (IntKind.i64.wrap (c+(((Ev.map Bt.Ap).drop (k)).length:Int)))).Ap)),Ld.set j (.it (.agg [.Ln,.Ln]))) ?_ ⟨by omega,by rw[e1,Gj,hcw],hsk,⟨by dsimp only;omega,by dsimp only;omega⟩,by simp;omega,hR⟩ (by dsimp only;omega)
     try dsimp only
     rw[B5,A0,C5,show C0.Dp ⟨a,Ev.drop (k)⟩= .st [.it (.str a),.vec Ft 4 (((Ev.map Bt.Ap).drop (k)).map D.it)]from by simp[C0.Dp,List.map_drop]]
     simp only[Ki,hw,Qn];show norm _ _=Dy _ _
     kernel_rfl
   obtain⟨rfl,hvr⟩:=Qv;have hKK:(if true=true∧vr≤rev then k+1 else k)=k+1:=if_pos ⟨rfl,hvr⟩
   rw[hKK]at hR;have Eh:=Eh (k+1);have hke:¬Ev.length≤k+1:=by omega
   rw[if_neg hke]at hR;have hz:¬decide (((Fs ((Ev.map Bt.Ap).drop (k+1))).length:Int)=0)=true:=by rw[Ki];simp;omega
   have hz2:¬decide ((((Ev.map Bt.Ap).drop (k+1)).length:Int)=0)=true:=by simp;omega
   have hz3:¬decide (((Fs (Fs ((Ev.map Bt.Ap).drop (k+1)))).length:Int)=0)=true:=by rw[Ki];exact hz
   have hz4:¬decide ((((Fs ((Ev.map Bt.Ap).drop (k+1))).map D.it).length:Int)=0)=true:=by rw[An];exact hz
   have hz5:¬decide ((((Fs (Fs ((Ev.map Bt.Ap).drop (k+1)))).map D.it).length:Int)=0)=true:=by rw[An];exact hz3
   repeat'((conv=>whnf);first|(with_reducible first|refine Bv (by first|exact Ae (by assumption)|refine decide_eq_true ?_;assumption|rfl) fun hb=>?_|refine Bq (by first|exact Ag (by assumption)|refine decide_eq_false ?_;assumption) fun hb=>?_);(try rw[hb]);try simp only[Am]at hb|(with_reducible refine Aa ?_ ?_);focus (and_intros<;>first|omega|with_reducible rfl|kernel_rfl|exact Jm rfl|simp only[Eu];omega|simp;done)|with_reducible intro Av|(with_reducible refine Dw.Gx ?_ ?_ ?_ fun Av=>?_);(iterate 3 focus kernel_rfl);try simp only[zRL]at Av|(with_reducible refine A5.mk ?_);refine⟨_,Eh,?_⟩;rintro _ _ ⟨rfl,rfl⟩|(first|with_reducible apply Ed|with_reducible apply L1);(focus (simp only[D.at,D.put,D.Cr,D.Bc,B7,Bw,D.Ap,B8,A4,Dq,Qn,Mi,H7,Bt.Ap,Ux,K7,Mw,Ef.Ap]<;>exact rfl))|(with_reducible apply Dh);(focus rfl);(focus (simp only[D.at,D.put,D.Cr,D.Bc,B7,Bw,D.Ap,B8,A4,Dq,Qn,Mi,H7,Bt.Ap,Ux,K7,Mw,Ef.Ap]<;>exact rfl));(try(focus exact rfl)))
   all_goals(try(conv=>whnf))
   have hcw:IntKind.i64.wrap (c+(((Ev.map Bt.Ap).drop (k+1)).length:Int))=c+(Ev.length - (k+1):Nat):=by rw[Br,An,Cd (by omega)]
   refine Round.by (j+1,rest++[⟨a,Ev.drop (k+1)⟩],c+(Ev.length - (k+1):Nat),VS.set i (.ptr (.it (Ef.mk t.rev rev t.bytes t.keys (IntKind.i64.wrap (c+(((Ev.map Bt.Ap).drop (k+1)).length:Int)))).Ap)),Ld.set j (.it (.agg [.Ln,.Ln]))) ?_ ⟨by omega,by rw[e1,Gj,hcw],hsk,⟨by dsimp only;omega,by dsimp only;omega⟩,by simp;omega,hR⟩ (by dsimp only;omega)
   try dsimp only
   rw[B5,A0,C5,show C0.Dp ⟨a,Ev.drop (k+1)⟩= .st [.it (.str a),.vec Ft 4 (((Ev.map Bt.Ap).drop (k+1)).map D.it)]from by simp[C0.Dp,List.map_drop]]
   simp only[Ki,hw,Qn];show norm _ _=Dy _ _
   kernel_rfl
 ·have A2h:¬decide (((k+1:Nat):Int)<(Ev.length:Int))=true:=by simp;omega
  have Awd:¬decide (IntKind.i64.wrap ((k:Int)+1)<(Ev.length:Int))=true:=by rw[Qn];exact A2h
  have Bw8:¬decide (IntKind.i64.wrap ((k:Int)+1)<(((Ev.map Bt.Ap).map D.it).length:Int))=true:=by rw[Ux];exact Awd
  rw[D9 (by omega)]at hka
  have hka:0+k=KA:=hka;obtain rfl:k=KA:=by omega
  have Mi:Ev[k+1]?=none:=D9 (by omega)
  obtain⟨va,H7⟩:∃v,Ev[k]?=some v:=⟨_,Ac hk⟩;have hKN:Mt rev Ev=if va.gone=true∧va.rev≤rev then k+1 else k:=by unfold Mt;rw[←hKA,H7]
  rw[hKN]at hR;obtain⟨vr,vm,vv,vg⟩:=va;dsimp only at hR;have Cq:∀K,∀u∈(Ev.map Bt.Ap).drop K,u.size=4:=fun K u hu=>by obtain⟨v,_,rfl⟩:=Cs.1 (Er hu);rfl
  have Eh:∀K,_:=fun K=>Vr ((Ev.map Bt.Ap).drop K) (Cq K) (by simp;omega)
  clear hKN K9 Cq;by_cases Qv:vg=true∧vr≤rev
  case neg=>
   rw[if_neg Qv,if_neg (by omega)]at hR
   have Eh:=Eh k;have hz:¬decide (((Fs ((Ev.map Bt.Ap).drop (k))).length:Int)=0)=true:=by rw[Ki];simp;omega
   have hz2:¬decide ((((Ev.map Bt.Ap).drop (k)).length:Int)=0)=true:=by simp;omega
   have hz3:¬decide (((Fs (Fs ((Ev.map Bt.Ap).drop (k)))).length:Int)=0)=true:=by rw[Ki];exact hz
   have hz4:¬decide ((((Fs ((Ev.map Bt.Ap).drop (k))).map D.it).length:Int)=0)=true:=by rw[An];exact hz
   have hz5:¬decide ((((Fs (Fs ((Ev.map Bt.Ap).drop (k)))).map D.it).length:Int)=0)=true:=by rw[An];exact hz3
   cases vg with
   |false=>
    repeat'((conv=>whnf);first|(with_reducible refine Bq (by first|exact Ag (by assumption)|rfl) fun hb=>?_);(try rw[hb]);try simp only[Am]at hb|(with_reducible refine Aa ?_ ?_);focus (and_intros<;>first|omega|with_reducible rfl|kernel_rfl|exact Jm rfl|simp only[Eu];omega|simp;done)|with_reducible intro Av|(with_reducible refine Dw.Gx ?_ ?_ ?_ fun Av=>?_);(iterate 3 focus kernel_rfl);try simp only[zRL]at Av|(with_reducible refine A5.mk ?_);refine⟨_,Eh,?_⟩;rintro _ _ ⟨rfl,rfl⟩|(first|with_reducible apply Ed|with_reducible apply L1);(focus (simp only[D.at,D.put,D.Cr,D.Bc,B7,Bw,D.Ap,B8,A4,Dq,Qn,Mi,H7,Bt.Ap,Ux,K7,Mw,Ef.Ap]<;>exact rfl))|(with_reducible apply Dh);(focus rfl);(focus (simp only[D.at,D.put,D.Cr,D.Bc,B7,Bw,D.Ap,B8,A4,Dq,Qn,Mi,H7,Bt.Ap,Ux,K7,Mw,Ef.Ap]<;>exact rfl));(try(focus exact rfl)))
    all_goals(try(conv=>whnf))
    have hcw:IntKind.i64.wrap (c+(((Ev.map Bt.Ap).drop (k)).length:Int))=c+(Ev.length - (k):Nat):=by rw[Br,An,Cd (by omega)]
    refine Round.by (j+1,rest++[⟨a,Ev.drop (k)⟩],c+(Ev.length - (k):Nat),VS.set i (.ptr (.it (Ef.mk t.rev rev t.bytes t.keys (IntKind.i64.wrap (c+(((Ev.map Bt.Ap).drop (k)).length:Int)))).Ap)),Ld.set j (.it (.agg [.Ln,.Ln]))) ?_ ⟨by omega,by rw[e1,Gj,hcw],hsk,⟨by dsimp only;omega,by dsimp only;omega⟩,by simp;omega,hR⟩ (by dsimp only;omega)
    try dsimp only
    rw[B5,A0,C5,show C0.Dp ⟨a,Ev.drop (k)⟩= .st [.it (.str a),.vec Ft 4 (((Ev.map Bt.Ap).drop (k)).map D.it)]from by simp[C0.Dp,List.map_drop]]
    simp only[Ki,hw,Qn];show norm _ _=Dy _ _
    kernel_rfl
   |true=>
    have hvr:¬vr≤rev:=fun h=>Qv ⟨rfl,h⟩
    repeat'((conv=>whnf);first|(with_reducible first|refine Bv (by first|exact Ae (by assumption)|rfl) fun hb=>?_|refine Bq (by first|exact Ag (by assumption)|refine decide_eq_false ?_;assumption|rfl) fun hb=>?_);(try rw[hb]);try simp only[Am]at hb|(with_reducible refine Aa ?_ ?_);focus (and_intros<;>first|omega|with_reducible rfl|kernel_rfl|exact Jm rfl|simp only[Eu];omega|simp;done)|with_reducible intro Av|(with_reducible refine Dw.Gx ?_ ?_ ?_ fun Av=>?_);(iterate 3 focus kernel_rfl);try simp only[zRL]at Av|(with_reducible refine A5.mk ?_);refine⟨_,Eh,?_⟩;rintro _ _ ⟨rfl,rfl⟩|(first|with_reducible apply Ed|with_reducible apply L1);(focus (simp only[D.at,D.put,D.Cr,D.Bc,B7,Bw,D.Ap,B8,A4,Dq,Qn,Mi,H7,Bt.Ap,Ux,K7,Mw,Ef.Ap]<;>exact rfl))|(with_reducible apply Dh);(focus rfl);(focus (simp only[D.at,D.put,D.Cr,D.Bc,B7,Bw,D.Ap,B8,A4,Dq,Qn,Mi,H7,Bt.Ap,Ux,K7,Mw,Ef.Ap]<;>exact rfl));(try(focus exact rfl)))
    all_goals(try(conv=>whnf))
    have hcw:IntKind.i64.wrap (c+(((Ev.map Bt.Ap).drop (k)).length:Int))=c+(Ev.length - (k):Nat):=by rw[Br,An,Cd (by omega)]
    refine Round.by (j+1,rest++[⟨a,Ev.drop (k)⟩],c+(Ev.length - (k):Nat),VS.set i (.ptr (.it (Ef.mk t.rev rev t.bytes t.keys (IntKind.i64.wrap (c+(((Ev.map Bt.Ap).drop (k)).length:Int)))).Ap)),Ld.set j (.it (.agg [.Ln,.Ln]))) ?_ ⟨by omega,by rw[e1,Gj,hcw],hsk,⟨by dsimp only;omega,by dsimp only;omega⟩,by simp;omega,hR⟩ (by dsimp only;omega)
    try dsimp only
    rw[B5,A0,C5,show C0.Dp ⟨a,Ev.drop (k)⟩= .st [.it (.str a),.vec Ft 4 (((Ev.map Bt.Ap).drop (k)).map D.it)]from by simp[C0.Dp,List.map_drop]]
    simp only[Ki,hw,Qn];show norm _ _=Dy _ _
    kernel_rfl
  obtain⟨rfl,hvr⟩:=Qv;have hKK:(if true=true∧vr≤rev then k+1 else k)=k+1:=if_pos ⟨rfl,hvr⟩
  rw[hKK]at hR;have Eh:=Eh (k+1);have hke:Ev.length≤k+1:=by omega
  rw[if_pos hke]at hR;have hz:¬decide (((Fs ((Ev.map Bt.Ap).drop (k+1))).length:Int)=0)=false:=by rw[Ki];simp;omega
  have hz2:¬decide ((((Ev.map Bt.Ap).drop (k+1)).length:Int)=0)=false:=by simp;omega
  have hz3:¬decide (((Fs (Fs ((Ev.map Bt.Ap).drop (k+1)))).length:Int)=0)=false:=by rw[Ki];exact hz
  have hz4:¬decide ((((Fs ((Ev.map Bt.Ap).drop (k+1))).map D.it).length:Int)=0)=false:=by rw[An];exact hz
  have hz5:¬decide ((((Fs (Fs ((Ev.map Bt.Ap).drop (k+1)))).map D.it).length:Int)=0)=false:=by rw[An];exact hz3
  repeat'((conv=>whnf);first|(with_reducible first|refine Bv (by first|exact Ae (by assumption)|refine decide_eq_true ?_;assumption|rfl) fun hb=>?_|refine Bq (by first|exact Ag (by assumption)|rfl) fun hb=>?_);(try rw[hb]);try simp only[Am]at hb|(with_reducible refine Aa ?_ ?_);focus (and_intros<;>first|omega|with_reducible rfl|kernel_rfl|simp;done)|with_reducible intro Av|(with_reducible refine Dw.Gx ?_ ?_ ?_ fun Av=>?_);(iterate 3 focus kernel_rfl);try simp only[zRL]at Av|(with_reducible refine A5.mk ?_);refine⟨_,Eh,?_⟩;rintro _ _ ⟨rfl,rfl⟩|(first|with_reducible apply Ed|with_reducible apply L1);(focus (simp only[D.at,D.put,D.Cr,D.Bc,B7,Bw,D.Ap,B8,A4,Dq,Qn,Mi,H7,Bt.Ap,Ux,K7,Mw,Ef.Ap]<;>exact rfl))|(with_reducible apply Dh);(focus rfl);(focus (simp only[D.at,D.put,D.Cr,D.Bc,B7,Bw,D.Ap,B8,A4,Dq,Qn,Mi,H7,Bt.Ap,Ux,K7,Mw,Ef.Ap]<;>exact rfl));(try(focus exact rfl)))
  all_goals(try(conv=>whnf))
  have hcw:IntKind.i64.wrap (c+(((Ev.map Bt.Ap).drop (k+1)).length:Int))=c:=by rw[Br,An,Cd (by omega)];omega
  refine Round.by (j+1,rest,c,VS.set i (.ptr (.it (Ef.mk t.rev rev t.bytes t.keys (IntKind.i64.wrap (c+(((Ev.map Bt.Ap).drop (k+1)).length:Int)))).Ap)),Ld.set j (.it (.agg [.Ln,.Ln]))) ?_ ⟨by omega,by rw[e1,Gj,hcw],hsk,⟨by dsimp only;omega,by dsimp only;omega⟩,by dsimp only;omega,hR⟩ (by dsimp only;omega)
  try dsimp only
  simp only[Ki,hw,Qn];show norm _ _=Dy _ _
  kernel_rfl

theorem Amf{lt:Nat→Bool}(hm:∀a b,a≤b→lt b=true→lt a=true):∀f i j,i≤j→j - i≤f→
 (∀q,i≤q→q<Ur lt f i j→lt q=true)∧(∀q,Ur lt f i j≤q→q<j→lt q=false)
 |0,i,j,h1,h2=>by
  unfold Ur;exact⟨fun q a b=>by omega,fun q a b=>by omega⟩
 |f+1,i,j,h1,h2=>by
  unfold Ur;by_cases L7:i<j
  ·rw[if_pos L7];by_cases hl:lt ((i+j) / 2)=true
   ·rw[if_pos hl];obtain⟨a,b⟩:=Amf hm f ((i+j) / 2+1) j (by omega) (by omega)
    refine⟨fun q c d=>?_,b⟩
    by_cases hq:(i+j) / 2+1≤q
    ·exact a q hq d
    ·exact hm q _ (by omega) hl
   ·rw[if_neg hl];obtain⟨a,b⟩:=Amf hm f i ((i+j) / 2) (by omega) (by omega)
    refine⟨a,fun q c d=>?_⟩
    by_cases hq:q<(i+j) / 2
    ·exact b q c hq
    ·cases hlq:lt q with
     |false=>rfl
     |true=>exact absurd (hm _ q (by omega) hlq) hl
  ·rw[if_neg L7];exact⟨fun q a b=>by omega,fun q a b=>by omega⟩
theorem Yj{α:Type}{lt:α→Bool}{l:List α}(hs:l.Pairwise fun x y=>lt y=true→lt x=true):
 (∀x∈l.take (Gm lt l),lt x=true)∧(∀x∈l.drop (Gm lt l),lt x=false):=by
 have hm:∀a b:Nat,a≤b→(l[b]?).any lt=true→(l[a]?).any lt=true:=by
  intro a b Te hb;cases hlb:l[b]? with
  |none=>rw[hlb]at hb;cases hb
  |some y=>
   rw[hlb]at hb;obtain⟨hbl,e⟩:=Ak.1 hlb;rcases Nat.lt_or_eq_of_le Te with h|h
   ·have:=Jf.1 hs a b (by omega) hbl h
    rw[Ac (by omega)]
    exact this (by rw[e];exact hb)
   ·subst h;rw[hlb];exact hb
 obtain⟨h1,h2⟩:=Amf hm l.length 0 l.length (A3 _) (by omega)
 constructor
 ·intro x hx;obtain⟨i,hi,rfl⟩:=Hi.1 hx;rw[Ck]at hi;have:=h1 i (A3 _) (show i<Gm lt l by omega)
  rw[Ac (by omega)]at this
  rw[List.getElem_take];exact this
 ·intro x hx;obtain⟨i,hi,rfl⟩:=Hi.1 hx;rw[Br]at hi;have:=h2 (Gm lt l+i) (show Gm lt l≤_ by omega) (by omega)
  rw[Ac (by omega)]at this
  rw[List.getElem_drop];exact this
abbrev U4(vs:List Bt):Prop:=vs.Pairwise fun a b=>a.rev<b.rev
def Bnu:Option Bt→Bt × Bool
 |some v=>if v.gone=true then(Aoo,false)else(v,true)
 |none=>(Aoo,false)
theorem Ahi{vs:List Bt}(h:U4 vs)(rev:Int):Ks vs rev=Bnu (vs.filter fun v=>decide (v.rev≤rev)).getLast? :=by
 have hp:=Yj (lt:=Yc (rev+1)) (l:=vs) (h.imp fun {a b} Te hb=>by simp only[Yc,decide_eq_true_eq]at*;omega)
 have hf:vs.filter (fun v=>decide (v.rev≤rev))=vs.take (Gm (Yc (rev+1)) vs):=by
  conv=>lhs;rw[←B3 (Gm (Yc (rev+1)) vs) vs]
  rw[List.filter_append,K5.2,List.filter_eq_nil_iff.2,Dk]
  ·intro v hv;have:=hp.2 v hv;simp only[Yc,decide_eq_false_iff_not,decide_eq_true_eq]at*;omega
  ·intro v hv;have:=hp.1 v hv;simp only[Yc,decide_eq_true_eq]at*;omega
 rw[hf];unfold Ks;have hle:=Wx (Yc (rev+1)) vs;generalize Gm (Yc (rev+1)) vs=p at hle;cases p with
 |zero=>rfl
 |succ i=>
  obtain⟨v,hv⟩:∃v,vs[i]?=some v:=⟨_,Ac (by omega)⟩
  rw[D5,hv];simp only[Avm,hv,Option.toList,List.getLast?_append,List.getLast?_singleton,Option.some_or,Bnu]
theorem U4.drop{vs:List Bt}(h:U4 vs)(k:Nat):U4 (vs.drop k):=List.Pairwise.sublist (List.drop_sublist k vs) h
def gV(n:A1)(rev:Int)(h:C0):Option (A1 × Bt):=if(Cz h.at_).1=n∧(Ks h.vs rev).2=true then some ((Cz h.at_).2.1,(Ks h.vs rev).1)else none
def N9(n:A1)(rev:Int)(l:List C0):List (A1 × Bt):=l.filterMap (gV n rev)
def Ai8(x:A1 × Bt):Pr:=⟨x.1,x.2.val,x.2.made,x.2.rev⟩
def Zz(x:Sp)(most:Int):List (A1 × Bt)→List Pr→List Pr × Bool
 | [],out=>(out,false)
 |p::r,out=>if ¬R8 x p.1 then Zz x most r out else if(out.length:Int)=most then(out,true)else Zz x most r (out++[Ai8 p])
abbrev P6(l:List C0):Prop:=(l.map C0.at_).Pairwise (· < ·)
theorem Aus{n:A1}{x:Sp}{rev most:Int}:∀{d:List C0} {out:List Pr},(d.Pairwise fun a b=>(Cz b.at_).1=n→(Cz a.at_).1=n)→N6 n x rev most d out=Zz x most (N9 n rev d) out
 | [],out,_=>rfl
 |h::r,out,hp=>by
  obtain⟨h1,h2⟩:=B1.1 hp;have ih:=fun out=>Aus (x:=x) (rev:=rev) (most:=most) (out:=out) h2
  unfold N6;by_cases hn:(Cz h.at_).1=n
  ·rw[if_neg (by simpa using hn),ih,ih]
   unfold N9;rw[Cc];by_cases hv:(Ks h.vs rev).2=true
   ·rw[show gV n rev h=some ((Cz h.at_).2.1,(Ks h.vs rev).1)by unfold gV;rw[if_pos ⟨hn,hv⟩]]
    simp only[Zz,hv,Ai8,Bool.true_eq_false,if_false]
   ·rw[show gV n rev h=none by unfold gV;rw[if_neg (fun c=>hv c.2)]]
    simp only[Bool.not_eq_true]at hv;simp only[hv,if_true,ite_self]
  ·rw[if_pos hn];have:N9 n rev (h::r)=[]:=by
    unfold N9;rw[List.filterMap_eq_nil_iff];intro a ha;have:(Cz a.at_).1≠n:=by
     rcases Ah.1 ha with rfl|ha
     ·exact hn
     ·exact fun e=>hn (h1 a ha e)
    unfold gV;rw[if_neg (fun c=>this c.1)]
   rw[this];rfl
theorem Aqe:∀{p a k:A1},¬a<p→a<p++k→p<+:a
 | [],a,k,_,_=>List.nil_prefix
 |c::p,[],k,h,_=>absurd (List.nil_lt_cons c p) h
 |c::p,x::a,k,h1,h2=>by
  simp only[C4]at h2;rw[List.cons_lt_cons_iff]at h1 h2;have hxc:x=c:=by
   rcases h2 with h2|h2
   ·exact absurd (.inl h2) h1
   ·exact h2.1
  subst hxc;rw[List.cons_prefix_cons];refine⟨rfl,Aqe (k:=k) (fun h=>h1 (.inr ⟨rfl,h⟩)) ?_⟩
  rcases h2 with h2|h2
  ·exact absurd h2 (X6 _)
  ·exact h2.2
def Sg(a:A1):Prop:=∃n k,a=Cp n k∧n.length<256
theorem Sg.whose{a:A1}(h:Sg a):a=Cp (Cz a).1 (Cz a).2.1∧(Cz a).1.length<256:=by
 obtain⟨n,k,rfl,hn⟩:=h;rw[D3 hn];exact⟨rfl,hn⟩
theorem P0(n k:A1):Cp n k=Cp n []++k:=by simp[Cp]
theorem Aqd{l:List C0}{n:A1}{rev:Int}(hn:n.length<256)(hl:P6 l)(hv:∀h∈l,Sg h.at_):
 N9 n rev (l.take (Gm (Fe (Cp n [])) l))=[]∧(l.drop (Gm (Fe (Cp n [])) l)).Pairwise fun a b=>(Cz b.at_).1=n→(Cz a.at_).1=n:=by
 rw[P6,List.pairwise_map]at hl;obtain⟨h1,h2⟩:=Yj (lt:=Fe (Cp n [])) (l:=l) (hl.imp fun {a b} Te hb=>by simp only[Fe,decide_eq_true_eq]at*;exact E2 Te hb)
 constructor
 ·unfold N9;rw[List.filterMap_eq_nil_iff];intro a ha;unfold gV;rw[if_neg];rintro⟨e,_⟩;have h3:=(hv a (C6 ha)).whose.1;have h4:=h1 a ha;simp only[Fe,decide_eq_true_eq]at h4;rw[e]at h3;rw[h3,P0]at h4;exact absurd h4 (List.not_lt.2 (by
   have:=List.prefix_append (Cp n []) (Cz a.at_).2.1;exact List.IsPrefix.le this))
 ·refine(List.Pairwise.sublist (List.drop_sublist _ _) hl).imp_of_mem fun {a b} ha hb Te e=>?_
  have h3:=(hv b (Er hb)).whose.1;rw[e,P0]at h3;have h4:=h2 a ha;simp only[Fe,decide_eq_false_iff_not]at h4;rw[h3]at Te;obtain⟨k,hk⟩:=Aqe h4 Te;rw[←hk, ←P0,D3 hn]
theorem Bbd{l:List C0}{n:A1}{x:Sp}{rev most:Int}(hn:n.length<256)(hl:P6 l)(hv:∀h∈l,Sg h.at_):
 N6 n x rev most (l.drop (Gm (Fe (Cp n [])) l)) []=Zz x most (N9 n rev l) []:=by
 obtain⟨h1,h2⟩:=Aqd (rev:=rev) hn hl hv;rw[Aus h2]
 congr 1
 conv=>rhs;rw[←B3 (Gm (Fe (Cp n [])) l) l]
 unfold N9 at h1 ⊢;rw[Fh,h1,Cu]
theorem Azj{β:Type}{g:C0→Option β}{l:List C0}{a:A1}{v:Bt}(h0:g ⟨a,[v]⟩=none)(h1:∀h∈l,h.at_=a→g ⟨h.at_,h.vs++[v]⟩=g h):(Pf l a v).filterMap g=l.filterMap g:=by
 unfold Pf Afx;split
 ·rename_i hf;obtain⟨e,h2,h3⟩:=Ww hf;rw[Sm h2];have hi:=(Ak.1 h2).1;generalize Gm (Fe a) l=p at*;have h4:=h1 e (Aw h2) (by simpa[Su]using h3)
  rw[List.set_eq_take_append_cons_drop,if_pos hi]
  conv=>rhs;rw[←B3 p l,A7 hi]
  rw[Fh,Fh,Cc,Cc];rw[Ac hi]at h2;simp only[Af]at h2;rw[h2,h4]
 ·rw[Fh,Cc,h0];dsimp only;rw[←Fh,B3]

open Go.Proofs
def A6.J4(s:A6)(nm:Bool)(n:A1):A6 × Int:=
 if nm=false then(s,5)else if(s.fi n).isSome=true then(s,15)else if 8≤s.sp.length then(s,17)else({s with sp:=s.sp++[(n,Ny)]},0)
theorem Au9(s:A6)(n:A1)(nm:Bool)(Qe:Fn Tryz.prog Ak5 [.v (.str n)] (Is (.v (.bool nm)) [.no])):
 Fn Tryz.prog Qq [sP s,.v (.str n)] (Is (.v (ti (s.J4 nm n).2)) [sP (s.J4 nm n).1,.no]):=by
 refine Ak2 ?_ (by simp)
 have L8:(s.sp.map fun x=>I.str x.1).length=s.sp.length:=An _
 cases nm with
 |false=>
  have hM:s.J4 false n=(s,5):=by simp[A6.J4]
  rw[hM];cases hf:s.fi n with
  |none=>
   obtain⟨h1,h2⟩:=A6.P1 hf;repeat'((conv=>whnf);first|(with_reducible first|refine Bv (by rfl) fun hb=>?_|refine Bq (by rfl) fun hb=>?_);(try rw[hb]);try simp only[Am]at hb|((with_reducible refine Ai (fun hb=>?_) fun hb=>?_)<;>first|exact absurd hb (by decide)|(try rw[hb]);try simp only[Am]at hb)|(with_reducible refine Aa ?_ ?_);focus (and_intros<;>first|omega|with_reducible rfl|kernel_rfl|intro _ hh;cases hh;done|simp;done|decide)|refine Ch ?_|(with_reducible refine A5.mk ?_);refine⟨_,Qe,?_⟩;rintro _ _ ⟨rfl,rfl⟩|(with_reducible apply Ed);(focus (simp only[D.at,D.put,D.Cr,D.Bc,B7,Bw,D.Ap,B8,A4,Dq,h1,A6.Dp]<;>exact rfl)))
   all_goals(try(conv=>whnf))
   (apply D6<;>kernel_rfl)
  |some i=>
   obtain⟨h1,h2,h3⟩:=A6.Jt hf;repeat'((conv=>whnf);first|(with_reducible first|refine Bv (by rfl) fun hb=>?_|refine Bq (by rfl) fun hb=>?_);(try rw[hb]);try simp only[Am]at hb|((with_reducible refine Ai (fun hb=>?_) fun hb=>?_)<;>first|exact absurd hb (by decide)|(try rw[hb]);try simp only[Am]at hb)|(with_reducible refine Aa ?_ ?_);focus (and_intros<;>first|omega|with_reducible rfl|kernel_rfl|intro _ hh;cases hh;done|simp;done|decide)|(with_reducible refine Ai ?_ ?_);focus (decide)|refine Ch ?_|(with_reducible refine A5.mk ?_);refine⟨_,Qe,?_⟩;rintro _ _ ⟨rfl,rfl⟩|(with_reducible apply Ed);(focus (simp only[D.at,D.put,D.Cr,D.Bc,B7,Bw,D.Ap,B8,A4,Dq,h1,h3,A6.Dp,Ef.Ap]<;>exact rfl)))
   all_goals(try(conv=>whnf))
   (apply D6<;>kernel_rfl)
 |true=>
  cases hf:s.fi n with
  |some i=>
   have hM:s.J4 true n=(s,15):=by simp[A6.J4,hf]
   rw[hM];obtain⟨h1,h2,h3⟩:=A6.Jt hf;repeat'((conv=>whnf);first|(with_reducible first|refine Bv (by rfl) fun hb=>?_|refine Bq (by rfl) fun hb=>?_);(try rw[hb]);try simp only[Am]at hb|((with_reducible refine Ai (fun hb=>?_) fun hb=>?_)<;>first|exact absurd hb (by decide)|(try rw[hb]);try simp only[Am]at hb)|(with_reducible refine Aa ?_ ?_);focus (and_intros<;>first|omega|with_reducible rfl|kernel_rfl|intro _ hh;cases hh;done|simp;done|decide)|(with_reducible refine Ai ?_ ?_);focus (decide)|refine Ch ?_|(with_reducible refine A5.mk ?_);refine⟨_,Qe,?_⟩;rintro _ _ ⟨rfl,rfl⟩|(with_reducible apply Ed);(focus (simp only[D.at,D.put,D.Cr,D.Bc,B7,Bw,D.Ap,B8,A4,Dq,h1,h3,A6.Dp,Ef.Ap]<;>exact rfl)))
   all_goals(try(conv=>whnf))
   (apply D6<;>kernel_rfl)
  |none=>
   obtain⟨h1,h2⟩:=A6.P1 hf;by_cases hl:8≤s.sp.length
   ·have hM:s.J4 true n=(s,17):=by simp[A6.J4,hf,hl]
    have hb8:¬decide ((8:Int)≤(s.sp.length:Int))=false:=by simp;omega
    rw[hM];repeat'((conv=>whnf);first|(with_reducible first|refine Bv (by first|exact Ae (by assumption)|refine decide_eq_true ?_;omega|rfl) fun hb=>?_|refine Bq (by rfl) fun hb=>?_);(try rw[hb]);try simp only[Am]at hb|((with_reducible refine Ai (fun hb=>?_) fun hb=>?_)<;>first|exact absurd hb (by decide)|(try rw[hb]);try simp only[Am]at hb)|(with_reducible refine Aa ?_ ?_);focus (and_intros<;>first|omega|with_reducible rfl|kernel_rfl|intro _ hh;cases hh;done|simp;done|decide)|refine Ch ?_|(with_reducible refine A5.mk ?_);refine⟨_,Qe,?_⟩;rintro _ _ ⟨rfl,rfl⟩|(with_reducible apply Ed);(focus (simp only[D.at,D.put,D.Cr,D.Bc,B7,Bw,D.Ap,B8,A4,Dq,h1,L8,A6.Dp]<;>exact rfl)))
    all_goals(try(conv=>whnf))
    (apply D6<;>kernel_rfl)
   ·have hM:s.J4 true n=({s with sp:=s.sp++[(n,Ny)]},0):=by simp[A6.J4,hf,hl]
    have hb8:¬decide ((8:Int)≤(s.sp.length:Int))=true:=by simp;omega
    have Rv:sP {s with sp:=s.sp++[(n,Ny)]}= .own [] (.ptr (.st [.map ((s.sp.map fun x=>.str x.1)++[.str n]) ((s.sp.map fun x=>.ptr (.it x.2.Ap))++[.ptr (.it Ny.Ap)]),.vec Np 2 (s.l.map C0.Dp)])):=by
     simp only[sP,A6.Dp,B5,A0,C5]
    rw[hM];repeat'((conv=>whnf);first|(with_reducible first|refine Bv (by rfl) fun hb=>?_|refine Bq (by first|exact Ag (by assumption)|refine decide_eq_false ?_;omega|rfl) fun hb=>?_);(try rw[hb]);try simp only[Am]at hb|((with_reducible refine Ai (fun hb=>?_) fun hb=>?_)<;>first|exact absurd hb (by decide)|(try rw[hb]);try simp only[Am]at hb)|(with_reducible refine Aa ?_ ?_);focus (and_intros<;>first|omega|with_reducible rfl|kernel_rfl|intro _ hh;cases hh;done|simp;done|decide)|refine Ch ?_|(with_reducible refine A5.mk ?_);refine⟨_,Qe,?_⟩;rintro _ _ ⟨rfl,rfl⟩|(with_reducible apply Ed);(focus (simp only[D.at,D.put,D.Cr,D.Bc,B7,Bw,D.Ap,B8,A4,Dq,h1,L8,A6.Dp,Jh]<;>exact rfl)))
    all_goals(try(conv=>whnf))
    refine Gg.mk ⟨by kernel_rfl,?_⟩ (by kernel_rfl)
    rw[show sP (({s with sp:=s.sp++[(n,Ny)]},0):A6 × Int).1=_ from Rv]
    kernel_rfl
end Go.Ab
