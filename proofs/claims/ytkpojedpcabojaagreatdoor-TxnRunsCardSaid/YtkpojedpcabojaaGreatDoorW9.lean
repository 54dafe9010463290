/- Lemmas -/
import Derived.Test.YtkpojedpcabojaaGreatDoorW7
set_option linter.unusedVariables false
set_option linter.unusedSimpArgs false
set_option maxRecDepth 100000
set_option maxHeartbeats 40000000
namespace Go.Ab
open Go.Proofs
def Ep(n:Az)(x:Sp)(rev most:Int):List Zk→List Pr→List Pr × Bool
 | [],out=>(out,false)
 |h::r,out=>if(C1 h.at_).1≠n then(out,false)else if ¬Bw x (C1 h.at_).2.1 then Ep n x rev most r out else
  if(D1 h.vs rev).2=false then Ep n x rev most r out else if(out.length:Int)=most then(out,true)else
  Ep n x rev most r (out++[⟨(C1 h.at_).2.1,(D1 h.vs rev).1.val,(D1 h.vs rev).1.made,(D1 h.vs rev).1.rev⟩])
def Zb:Prop:=∃T1 T2,OfC Tryz.prog Pw Mu T1 T2
structure Cn.Bd(s:Cn):Prop where
 len:s.l.length≤90000
 held:∀h∈s.l,h.at_.length≤1000000∧h.vs≠[]∧h.vs.length≤90000
theorem Ab6(hof:Zb)(s:Cn)(hB:s.Bd)(n:Az)(hn:n.length≤100000)(x:Sp)(rev most:Int)(i:Nat)(hf:s.fi n=some i)(hx:SpR x)(hr:0<rev∧rev≤(s.Zp n).rev∧(s.Zp n).floor≤rev∧rev≤9000000000000000000)(hm:1≤most∧most≤16)(C4:List Pr × Bool)(Ajz:Ep n x rev most (s.l.drop (Km (Kh (B7 n [])) s.l)) []=C4):
 Fn Tryz.prog C9 [sP s,.v (.str n),.v x.Bx,.v (ti rev),.v (ti most)] (Is (.tup [.i (.list (C4.1.map Pr.Bx)),.i (.bool C4.2),.i (ti 0)]) [sP s,.no,.no,.no,.no]):=by
 obtain⟨T1,T2,hof⟩:=hof;refine D0 ?_ (by simp)
 obtain⟨h1,h2,h3⟩:=Cn.Ari hf;have hs:=Pu x;rw[decide_eq_true hx]at hs;have hI:=U8 s.l;have hwh:=L1 n [] hn (by simp)
 have hbs:=L0 s.l (B7 n []) (by have:=hB.len;omega)
 obtain⟨A,hA⟩:∃A,A=Km (Kh (B7 n [])) s.l:=⟨_,rfl⟩;obtain⟨B,hB'⟩:∃B,B=bsF (Kh (B7 n [])) (eqH (B7 n [])) s.l:=⟨_,rfl⟩;rw[←hA, ←hB']at hbs;repeat'((conv=>whnf);first|(with_reducible first|refine Ax (by first|refine decide_eq_true ?_;omega|rfl) fun hb=>?_|refine Aw (by first|refine decide_eq_false ?_;omega|rfl) fun hb=>?_);(try rw[hb]);try simp only[Aa]at hb|((with_reducible refine A5 (fun hb=>?_) fun hb=>?_)<;>first|exact absurd hb (by decide)|(try rw[hb]);try simp only[Aa]at hb)|(with_reducible refine Ac ?_ ?_);focus (and_intros<;>first|omega|with_reducible rfl|kernel_rfl|intro _ hh;cases hh;done|simp;done|decide)|with_reducible intro Cq|(with_reducible refine A5 ?_ ?_);focus (first|with_reducible rfl|decide)|(with_reducible refine Ai2.mkV ?_ ?_ ?_ fun Cq=>?_);(iterate 3 focus kernel_rfl);try simp only[zRL]at Cq|refine Au ?_|(with_reducible refine Ct.mk ?_);refine⟨_,hs,?_⟩;rintro _ _ ⟨rfl,rfl⟩|refine Abo hof ?_|(with_reducible refine Ct.mk ?_);refine⟨_,hwh,?_⟩;rintro _ _ ⟨rfl,rfl⟩|refine Bj ?_ (by decide)|(with_reducible refine Ct.mk ?_);refine⟨_,hbs,?_⟩;rintro _ _ ⟨rfl,rfl⟩|(with_reducible apply A9);(focus (simp only[D.at,D.put,D.Xw,D.Fh,Mg,Jo,D.Bx,Js,Ad,Af,h1,h3,hI,Cn.toD,Tal.Bx]<;>exact rfl))|(with_reducible apply A3);(focus rfl);(focus (simp only[D.at,D.put,D.Xw,D.Fh,Mg,Jo,D.Bx,Js,Ad,Af,h1,h3,hI,Cn.toD,Tal.Bx]<;>exact rfl));(try(focus exact rfl)))
 all_goals(try(conv=>whnf))
 have hAl:A≤s.l.length:=by rw[hA];exact Hp _ _
 rw[←hA]at Ajz;refine Afm.by (X:=Nat × List Pr) (fun y=>[(5,.v (ti (y.1:Int))),(65,.own [] (.ptr (.vec 98 4 ((y.2.map Pr.Bx).map D.it))))]) (fun y=>y.1≤s.l.length∧(y.2.length:Int)≤most∧Ep n x rev most (s.l.drop y.1) y.2=C4) (fun y=>s.l.length - y.1) (A,[]) (by kernel_rfl) ⟨hAl,by simp;omega,Ajz⟩ ?_
 rintro⟨j,out⟩ ⟨hj,ho,hR⟩;dsimp only at hj ho hR ⊢;have hlen:=hB.len;have hlm:(s.l.map Zk.toD).length=s.l.length:=Bh _;have hw:IntKind.i64.wrap ((j:Int)+1)=((j+1:Nat):Int):=Dk (n:=100000) (by omega) (by simp only[maxLen];omega)
 by_cases hjl:j<s.l.length
 case neg=>
  have Ze:¬decide ((j:Int)<(s.l.length:Int))=true:=by simp;omega
  rw[Db (by omega)]at hR
  have hR:(out,false)=C4:=hR;subst hR;repeat'((conv=>whnf);first|(with_reducible refine Aw (by first|exact Ak (by assumption)|refine decide_eq_false ?_;omega) fun hb=>?_);(try rw[hb]);try simp only[Aa]at hb|(with_reducible refine Ac ?_ ?_);focus (and_intros<;>first|omega|with_reducible rfl|kernel_rfl|simp;done)|with_reducible intro Cq|(with_reducible refine A5 ?_ ?_);focus ((with_reducible rfl))|(with_reducible apply A9);(focus (simp only[D.at,D.put,D.Xw,D.Fh,Mg,Jo,D.Bx,Js,Ad,Af,Cn.toD,hlm]<;>exact rfl)))
  all_goals(try(conv=>whnf))
  (apply Dj<;>kernel_rfl)
 obtain⟨h,he⟩:∃h,s.l[j]?=some h:=⟨_,Ae hjl⟩;have Ze:¬decide ((j:Int)<(s.l.length:Int))=false:=by simp;omega
 obtain⟨hb1,hb2,hb3⟩:=hB.held h (Cb he);have Aum:=L2 h.at_ hb1;have hdr:s.l.drop j=h::s.l.drop (j+1):=by rw[Cc hjl];rw[Ae hjl]at he;cases he;rfl
 rw[hdr]at hR;simp only[Ep]at hR;have At9:=Ns h.at_ h.vs rev (by omega) (by omega)
 have hsh:=Tu x (C1 h.at_).2.1;generalize C1 h.at_=wk at Aum hR hsh;obtain⟨w,k,z⟩:=wk;generalize D1 h.vs rev=vb at At9 hR;obtain⟨v,b⟩:=vb;dsimp only at Aum hR hsh At9;have hDI:=Zk.A96 h;simp only[Zk.Bx]at hDI;by_cases hwn:w=n
 case neg=>
  have hnb:¬(!decide (w=n))=false:=by simpa using hwn
  have Bbf:¬decide (w=n)=true:=by simpa using hwn
  rw[if_pos hwn]at hR;subst hR;repeat'((conv=>whnf);first|(with_reducible refine Ax (by first|exact Ai (by assumption)|refine decide_eq_true ?_;omega|rfl) fun hb=>?_);(try rw[hb]);try simp only[Aa]at hb|(with_reducible refine Ac ?_ ?_);focus (and_intros<;>first|omega|with_reducible rfl|kernel_rfl|intro _ hh;cases hh;done|simp;done|decide)|with_reducible intro Cq|(with_reducible refine A5 ?_ ?_);focus ((with_reducible rfl))|(with_reducible refine Ct.mk ?_);refine⟨_,Aum,?_⟩;rintro _ _ ⟨rfl,rfl⟩|(with_reducible apply A9);(focus (simp only[D.at,D.put,D.Xw,D.Fh,Mg,Jo,D.Bx,Js,Ad,Af,Cn.toD,hlm,he]<;>exact rfl))|(with_reducible apply A3);(focus rfl);(focus (simp only[D.at,D.put,D.Xw,D.Fh,Mg,Jo,D.Bx,Js,Ad,Af,Cn.toD,hlm,he]<;>exact rfl));(try(focus exact rfl)))
  all_goals(try(conv=>whnf))
  (apply Dj<;>kernel_rfl)
 subst hwn;rw[if_neg (by simp)]at hR
 have hnb:¬(!decide (w=w))=true:=by simp
 have Bbf:¬decide (w=w)=false:=by simp
 by_cases hxk:Bw x k
 case neg=>
  rw[if_pos hxk]at hR;rw[decide_eq_false hxk]at hsh;repeat'((conv=>whnf);first|(with_reducible first|refine Ax (by first|assumption|exact Ai (by assumption)|refine decide_eq_true ?_;omega) fun hb=>?_|refine Aw (by first|exact Ak (by assumption)|rfl) fun hb=>?_);(try rw[hb]);try simp only[Aa]at hb|((with_reducible refine A5 (fun hb=>?_) fun hb=>?_)<;>first|exact absurd hb (by decide)|(try rw[hb]);try simp only[Aa]at hb)|(with_reducible refine Ac ?_ ?_);focus (and_intros<;>first|omega|with_reducible rfl|kernel_rfl|intro _ hh;cases hh;done|simp;done|decide)|with_reducible intro Cq|(with_reducible refine A5 ?_ ?_);focus (first|with_reducible rfl|exact rfl)|(with_reducible refine Ct.mk ?_);(first|refine⟨_,Aum,?_⟩|refine⟨_,hsh,?_⟩);rintro _ _ ⟨rfl,rfl⟩|(try dsimp only);rw[hw]|(with_reducible apply A3);(focus rfl);(focus (simp only[D.at,D.put,D.Xw,D.Fh,Mg,Jo,D.Bx,Js,Ad,Af,Cn.toD,hlm,he]<;>exact rfl));(try(focus exact rfl)))
  all_goals(try(conv=>whnf))
  refine Round.by (j+1,out) ?_ ⟨by omega,ho,hR⟩ (by dsimp only;omega)
  try dsimp only
  show norm _ _=Cx _ _
  kernel_rfl
 rw[if_neg (by simpa using hxk)]at hR
 rw[decide_eq_true hxk]at hsh;cases b with
 |false=>
  rw[if_pos rfl]at hR;repeat'((conv=>whnf);first|(with_reducible first|refine Ax (by first|assumption|exact Ai (by assumption)|refine decide_eq_true ?_;omega) fun hb=>?_|refine Aw (by first|exact Ak (by assumption)|rfl) fun hb=>?_);(try rw[hb]);try simp only[Aa]at hb|((with_reducible refine A5 (fun hb=>?_) fun hb=>?_)<;>first|exact absurd hb (by decide)|(try rw[hb]);try simp only[Aa]at hb)|(with_reducible refine Ac ?_ ?_);focus (and_intros<;>first|omega|with_reducible rfl|kernel_rfl|intro _ hh;cases hh;done|simp;done|decide)|with_reducible intro Cq|(with_reducible refine A5 ?_ ?_);focus (first|with_reducible rfl|exact rfl)|(with_reducible refine Ai2.mkV ?_ ?_ ?_ fun Cq=>?_);(iterate 3 focus kernel_rfl);try simp only[zRL]at Cq|(with_reducible refine Ct.mk ?_);(first|refine⟨_,Aum,?_⟩|refine⟨_,hsh,?_⟩);rintro _ _ ⟨rfl,rfl⟩|(with_reducible refine Aq3.mk ?_);refine⟨_,_,At9,?_⟩|(try dsimp only);(first|rw[hw]|rw[hDI])|(with_reducible apply Ba);(focus (simp only[D.at,D.put,D.Xw,D.Fh,Mg,Jo,D.Bx,Js,Ad,Af,Cn.toD,hlm,he]<;>exact rfl))|(with_reducible apply A3);(focus rfl);(focus (simp only[D.at,D.put,D.Xw,D.Fh,Mg,Jo,D.Bx,Js,Ad,Af,Cn.toD,hlm,he]<;>exact rfl));(try(focus exact rfl)))
  all_goals(try(conv=>whnf))
  refine Round.by (j+1,out) ?_ ⟨by omega,ho,hR⟩ (by dsimp only;omega)
  try dsimp only
  show norm _ _=Cx _ _
  kernel_rfl
 |true=>
  rw[if_neg (by simp)]at hR
  have hlo:((out.map Pr.Bx).map D.it).length=out.length:=by simp
  by_cases hom:(out.length:Int)=most
  ·rw[if_pos hom]at hR;subst hR;have Bik:decide ((((out.map Pr.Bx).map D.it).length:Int)=most)=true:=by rw[hlo];exact decide_eq_true hom
   repeat'((conv=>whnf);first|(with_reducible refine Ax (by first|assumption|refine decide_eq_true ?_;omega) fun hb=>?_);(try rw[hb]);(try simp only[Aa]at hb);try subst hb|(with_reducible refine Aw (by first|assumption|exact Ak (by assumption)|rfl) fun hb=>?_);(try rw[hb]);try simp only[Aa]at hb|((with_reducible refine A5 (fun hb=>?_) fun hb=>?_)<;>first|exact absurd hb (by decide)|(try rw[hb]);try simp only[Aa]at hb)|(with_reducible refine Ac ?_ ?_);focus (and_intros<;>first|omega|with_reducible rfl|kernel_rfl|intro _ hh;cases hh;done|simp;done|decide)|with_reducible intro Cq|(with_reducible refine A5 ?_ ?_);focus (first|with_reducible rfl|exact rfl)|(with_reducible refine Ai2.mkV ?_ ?_ ?_ fun Cq=>?_);(iterate 3 focus kernel_rfl);try simp only[zRL]at Cq|(with_reducible refine Ct.mk ?_);(first|refine⟨_,Aum,?_⟩|refine⟨_,hsh,?_⟩);rintro _ _ ⟨rfl,rfl⟩|(with_reducible refine Aq3.mk ?_);refine⟨_,_,At9,?_⟩|(try dsimp only);rw[hDI]|(first|with_reducible apply A9|with_reducible apply Ba);(focus (simp only[D.at,D.put,D.Xw,D.Fh,Mg,Jo,D.Bx,Js,Ad,Af,Cn.toD,hlm,he]<;>exact rfl))|(with_reducible apply A3);(focus rfl);(focus (simp only[D.at,D.put,D.Xw,D.Fh,Mg,Jo,D.Bx,Js,Ad,Af,Cn.toD,hlm,he]<;>exact rfl));(try(focus exact rfl)))
   all_goals(try(conv=>whnf))
   (apply Dj<;>kernel_rfl)
  ·rw[if_neg hom]at hR;have Bik:decide ((((out.map Pr.Bx).map D.it).length:Int)=most)=false:=by rw[hlo];exact decide_eq_false hom
   repeat'((conv=>whnf);first|(with_reducible first|refine Ax (by first|assumption|exact Ai (by assumption)|refine decide_eq_true ?_;omega) fun hb=>?_|refine Aw (by first|assumption|exact Ak (by assumption)|rfl) fun hb=>?_);(try rw[hb]);try simp only[Aa]at hb|((with_reducible refine A5 (fun hb=>?_) fun hb=>?_)<;>first|exact absurd hb (by decide)|(try rw[hb]);try simp only[Aa]at hb)|(with_reducible refine Ac ?_ ?_);focus (and_intros<;>first|omega|with_reducible rfl|kernel_rfl|intro _ hh;cases hh;done|exact Ah (by rfl)|exact Ag rfl|simp only[An];omega|simp;done|decide)|with_reducible intro Cq|(with_reducible refine A5 ?_ ?_);focus (first|with_reducible rfl|exact rfl)|(with_reducible refine Ai2.mkV ?_ ?_ ?_ fun Cq=>?_);(iterate 3 focus kernel_rfl);try simp only[zRL]at Cq|(with_reducible refine Ct.mk ?_);(first|refine⟨_,Aum,?_⟩|refine⟨_,hsh,?_⟩);rintro _ _ ⟨rfl,rfl⟩|(with_reducible refine Aq3.mk ?_);refine⟨_,_,At9,?_⟩|(try dsimp only);(first|rw[hw]|rw[hDI])|(with_reducible apply Ba);(focus (simp only[D.at,D.put,D.Xw,D.Fh,Mg,Jo,D.Bx,Js,Ad,Af,Cn.toD,hlm,he]<;>exact rfl))|(with_reducible apply A3);(focus rfl);(focus (simp only[D.at,D.put,D.Xw,D.Fh,Mg,Jo,D.Bx,Js,Ad,Af,Cn.toD,hlm,he]<;>exact rfl));(try(focus exact rfl)))
   all_goals(try(conv=>whnf))
   refine Round.by (j+1,out++[⟨k,v.val,v.made,v.rev⟩]) ?_ ⟨by omega,by simp;omega,hR⟩ (by dsimp only;omega)
   try dsimp only
   simp only[F5,Cy,Kc];show norm _ _=Cx _ _
   kernel_rfl

open Go.Proofs
theorem range_zero(hof:Zb)(s:Cn)(hB:s.Bd)(n:Az)(hn:n.length≤100000)(x:Sp)(rev most:Int)(i:Nat)(hf:s.fi n=some i)(hx:SpR x)(hr:(s.Zp n).rev=rev∧0≤rev∧rev≤9000000000000000000)(hm:1≤most∧most≤16)(C4:List Pr × Bool)(Ajz:Ep n x rev most (s.l.drop (Km (Kh (B7 n [])) s.l)) []=C4):
 Fn Tryz.prog C9 [sP s,.v (.str n),.v x.Bx,.v (ti 0),.v (ti most)] (Is (.tup [.i (.list (C4.1.map Pr.Bx)),.i (.bool C4.2),.i (ti 0)]) [sP s,.no,.no,.no,.no]):=by
 obtain⟨T1,T2,hof⟩:=hof;refine D0 ?_ (by simp)
 obtain⟨h1,h2,h3⟩:=Cn.Ari hf;have hs:=Pu x;rw[decide_eq_true hx]at hs;have hI:=U8 s.l;have hwh:=L1 n [] hn (by simp)
 have hbs:=L0 s.l (B7 n []) (by have:=hB.len;omega)
 obtain⟨A,hA⟩:∃A,A=Km (Kh (B7 n [])) s.l:=⟨_,rfl⟩;obtain⟨B,hB'⟩:∃B,B=bsF (Kh (B7 n [])) (eqH (B7 n [])) s.l:=⟨_,rfl⟩;rw[←hA, ←hB']at hbs;obtain⟨hr0,hr⟩:=hr;subst hr0;repeat'((conv=>whnf);first|(with_reducible first|refine Ax (by first|refine decide_eq_true ?_;omega|rfl) fun hb=>?_|refine Aw (by first|((refine decide_eq_false ?_);first|assumption|omega)|rfl) fun hb=>?_);(try rw[hb]);try simp only[Aa]at hb|((with_reducible refine A5 (fun hb=>?_) fun hb=>?_)<;>first|exact absurd hb (by decide)|(try rw[hb]);try simp only[Aa]at hb)|(with_reducible refine Ac ?_ ?_);focus (and_intros<;>first|omega|with_reducible rfl|kernel_rfl|intro _ hh;cases hh;done|simp;done|decide)|with_reducible intro Cq|(with_reducible refine A5 ?_ ?_);focus (first|with_reducible rfl|decide)|(with_reducible refine Ai2.mkV ?_ ?_ ?_ fun Cq=>?_);(iterate 3 focus kernel_rfl);try simp only[zRL]at Cq|refine Au ?_|(with_reducible refine Ct.mk ?_);refine⟨_,hs,?_⟩;rintro _ _ ⟨rfl,rfl⟩|refine Abo hof ?_|(with_reducible refine Ct.mk ?_);refine⟨_,hwh,?_⟩;rintro _ _ ⟨rfl,rfl⟩|refine Bj ?_ (by decide)|(with_reducible refine Ct.mk ?_);refine⟨_,hbs,?_⟩;rintro _ _ ⟨rfl,rfl⟩|(with_reducible apply A9);(focus (simp only[D.at,D.put,D.Xw,D.Fh,Mg,Jo,D.Bx,Js,Ad,Af,h1,h3,hI,Cn.toD,Tal.Bx]<;>exact rfl))|(with_reducible apply A3);(focus rfl);(focus (simp only[D.at,D.put,D.Xw,D.Fh,Mg,Jo,D.Bx,Js,Ad,Af,h1,h3,hI,Cn.toD,Tal.Bx]<;>exact rfl));(try(focus exact rfl)))
 all_goals(try(conv=>whnf))
 have hAl:A≤s.l.length:=by rw[hA];exact Hp _ _
 rw[←hA]at Ajz;refine Afm.by (X:=Nat × List Pr) (fun y=>[(5,.v (ti (y.1:Int))),(65,.own [] (.ptr (.vec 98 4 ((y.2.map Pr.Bx).map D.it))))]) (fun y=>y.1≤s.l.length∧(y.2.length:Int)≤most∧Ep n x (s.Zp n).rev most (s.l.drop y.1) y.2=C4) (fun y=>s.l.length - y.1) (A,[]) (by kernel_rfl) ⟨hAl,by simp;omega,Ajz⟩ ?_
 rintro⟨j,out⟩ ⟨hj,ho,hR⟩;dsimp only at hj ho hR ⊢;have hlen:=hB.len;have hlm:(s.l.map Zk.toD).length=s.l.length:=Bh _;have hw:IntKind.i64.wrap ((j:Int)+1)=((j+1:Nat):Int):=Dk (n:=100000) (by omega) (by simp only[maxLen];omega)
 by_cases hjl:j<s.l.length
 case neg=>
  have Ze:¬decide ((j:Int)<(s.l.length:Int))=true:=by simp;omega
  rw[Db (by omega)]at hR
  have hR:(out,false)=C4:=hR;subst hR;repeat'((conv=>whnf);first|(with_reducible refine Aw (by first|exact Ak (by assumption)|refine decide_eq_false ?_;omega) fun hb=>?_);(try rw[hb]);try simp only[Aa]at hb|(with_reducible refine Ac ?_ ?_);focus (and_intros<;>first|omega|with_reducible rfl|kernel_rfl|simp;done)|with_reducible intro Cq|(with_reducible refine A5 ?_ ?_);focus ((with_reducible rfl))|(with_reducible apply A9);(focus (simp only[D.at,D.put,D.Xw,D.Fh,Mg,Jo,D.Bx,Js,Ad,Af,Cn.toD,hlm]<;>exact rfl)))
  all_goals(try(conv=>whnf))
  (apply Dj<;>kernel_rfl)
 obtain⟨h,he⟩:∃h,s.l[j]?=some h:=⟨_,Ae hjl⟩;have Ze:¬decide ((j:Int)<(s.l.length:Int))=false:=by simp;omega
 obtain⟨hb1,hb2,hb3⟩:=hB.held h (Cb he);have Aum:=L2 h.at_ hb1;have hdr:s.l.drop j=h::s.l.drop (j+1):=by rw[Cc hjl];rw[Ae hjl]at he;cases he;rfl
 rw[hdr]at hR;simp only[Ep]at hR;have At9:=Ns h.at_ h.vs (s.Zp n).rev (by omega) (by omega)
 have hsh:=Tu x (C1 h.at_).2.1;generalize C1 h.at_=wk at Aum hR hsh;obtain⟨w,k,z⟩:=wk;generalize D1 h.vs (s.Zp n).rev=vb at At9 hR;obtain⟨v,b⟩:=vb;dsimp only at Aum hR hsh At9;have hDI:=Zk.A96 h;simp only[Zk.Bx]at hDI;by_cases hwn:w=n
 case neg=>
  have hnb:¬(!decide (w=n))=false:=by simpa using hwn
  have Bbf:¬decide (w=n)=true:=by simpa using hwn
  rw[if_pos hwn]at hR;subst hR;repeat'((conv=>whnf);first|(with_reducible refine Ax (by first|exact Ai (by assumption)|refine decide_eq_true ?_;omega|rfl) fun hb=>?_);(try rw[hb]);try simp only[Aa]at hb|(with_reducible refine Ac ?_ ?_);focus (and_intros<;>first|omega|with_reducible rfl|kernel_rfl|intro _ hh;cases hh;done|simp;done|decide)|with_reducible intro Cq|(with_reducible refine A5 ?_ ?_);focus ((with_reducible rfl))|(with_reducible refine Ct.mk ?_);refine⟨_,Aum,?_⟩;rintro _ _ ⟨rfl,rfl⟩|(with_reducible apply A9);(focus (simp only[D.at,D.put,D.Xw,D.Fh,Mg,Jo,D.Bx,Js,Ad,Af,Cn.toD,hlm,he]<;>exact rfl))|(with_reducible apply A3);(focus rfl);(focus (simp only[D.at,D.put,D.Xw,D.Fh,Mg,Jo,D.Bx,Js,Ad,Af,Cn.toD,hlm,he]<;>exact rfl));(try(focus exact rfl)))
  all_goals(try(conv=>whnf))
  (apply Dj<;>kernel_rfl)
 subst hwn;rw[if_neg (by simp)]at hR
 have hnb:¬(!decide (w=w))=true:=by simp
 have Bbf:¬decide (w=w)=false:=by simp
 by_cases hxk:Bw x k
 case neg=>
  rw[if_pos hxk]at hR;rw[decide_eq_false hxk]at hsh;repeat'((conv=>whnf);first|(with_reducible first|refine Ax (by first|assumption|exact Ai (by assumption)|refine decide_eq_true ?_;omega) fun hb=>?_|refine Aw (by first|exact Ak (by assumption)|rfl) fun hb=>?_);(try rw[hb]);try simp only[Aa]at hb|((with_reducible refine A5 (fun hb=>?_) fun hb=>?_)<;>first|exact absurd hb (by decide)|(try rw[hb]);try simp only[Aa]at hb)|(with_reducible refine Ac ?_ ?_);focus (and_intros<;>first|omega|with_reducible rfl|kernel_rfl|intro _ hh;cases hh;done|simp;done|decide)|with_reducible intro Cq|(with_reducible refine A5 ?_ ?_);focus (first|with_reducible rfl|exact rfl)|(with_reducible refine Ct.mk ?_);(first|refine⟨_,Aum,?_⟩|refine⟨_,hsh,?_⟩);rintro _ _ ⟨rfl,rfl⟩|(try dsimp only);rw[hw]|(with_reducible apply A3);(focus rfl);(focus (simp only[D.at,D.put,D.Xw,D.Fh,Mg,Jo,D.Bx,Js,Ad,Af,Cn.toD,hlm,he]<;>exact rfl));(try(focus exact rfl)))
  all_goals(try(conv=>whnf))
  refine Round.by (j+1,out) ?_ ⟨by omega,ho,hR⟩ (by dsimp only;omega)
  try dsimp only
  show norm _ _=Cx _ _
  kernel_rfl
 rw[if_neg (by simpa using hxk)]at hR
 rw[decide_eq_true hxk]at hsh;cases b with
 |false=>
  rw[if_pos rfl]at hR;repeat'((conv=>whnf);first|(with_reducible first|refine Ax (by first|assumption|exact Ai (by assumption)|refine decide_eq_true ?_;omega) fun hb=>?_|refine Aw (by first|exact Ak (by assumption)|rfl) fun hb=>?_);(try rw[hb]);try simp only[Aa]at hb|((with_reducible refine A5 (fun hb=>?_) fun hb=>?_)<;>first|exact absurd hb (by decide)|(try rw[hb]);try simp only[Aa]at hb)|(with_reducible refine Ac ?_ ?_);focus (and_intros<;>first|omega|with_reducible rfl|kernel_rfl|intro _ hh;cases hh;done|simp;done|decide)|with_reducible intro Cq|(with_reducible refine A5 ?_ ?_);focus (first|with_reducible rfl|exact rfl)|(with_reducible refine Ai2.mkV ?_ ?_ ?_ fun Cq=>?_);(iterate 3 focus kernel_rfl);try simp only[zRL]at Cq|(with_reducible refine Ct.mk ?_);(first|refine⟨_,Aum,?_⟩|refine⟨_,hsh,?_⟩);rintro _ _ ⟨rfl,rfl⟩|(with_reducible refine Aq3.mk ?_);refine⟨_,_,At9,?_⟩|(try dsimp only);(first|rw[hw]|rw[hDI])|(with_reducible apply Ba);(focus (simp only[D.at,D.put,D.Xw,D.Fh,Mg,Jo,D.Bx,Js,Ad,Af,Cn.toD,hlm,he]<;>exact rfl))|(with_reducible apply A3);(focus rfl);(focus (simp only[D.at,D.put,D.Xw,D.Fh,Mg,Jo,D.Bx,Js,Ad,Af,Cn.toD,hlm,he]<;>exact rfl));(try(focus exact rfl)))
  all_goals(try(conv=>whnf))
  refine Round.by (j+1,out) ?_ ⟨by omega,ho,hR⟩ (by dsimp only;omega)
  try dsimp only
  show norm _ _=Cx _ _
  kernel_rfl
 |true=>
  rw[if_neg (by simp)]at hR
  have hlo:((out.map Pr.Bx).map D.it).length=out.length:=by simp
  by_cases hom:(out.length:Int)=most
  ·rw[if_pos hom]at hR;subst hR;have Bik:decide ((((out.map Pr.Bx).map D.it).length:Int)=most)=true:=by rw[hlo];exact decide_eq_true hom
   repeat'((conv=>whnf);first|(with_reducible refine Ax (by first|assumption|refine decide_eq_true ?_;omega) fun hb=>?_);(try rw[hb]);(try simp only[Aa]at hb);try subst hb|(with_reducible refine Aw (by first|assumption|exact Ak (by assumption)|rfl) fun hb=>?_);(try rw[hb]);try simp only[Aa]at hb|((with_reducible refine A5 (fun hb=>?_) fun hb=>?_)<;>first|exact absurd hb (by decide)|(try rw[hb]);try simp only[Aa]at hb)|(with_reducible refine Ac ?_ ?_);focus (and_intros<;>first|omega|with_reducible rfl|kernel_rfl|intro _ hh;cases hh;done|simp;done|decide)|with_reducible intro Cq|(with_reducible refine A5 ?_ ?_);focus (first|with_reducible rfl|exact rfl)|(with_reducible refine Ai2.mkV ?_ ?_ ?_ fun Cq=>?_);(iterate 3 focus kernel_rfl);try simp only[zRL]at Cq|(with_reducible refine Ct.mk ?_);(first|refine⟨_,Aum,?_⟩|refine⟨_,hsh,?_⟩);rintro _ _ ⟨rfl,rfl⟩|(with_reducible refine Aq3.mk ?_);refine⟨_,_,At9,?_⟩|(try dsimp only);rw[hDI]|(first|with_reducible apply A9|with_reducible apply Ba);(focus (simp only[D.at,D.put,D.Xw,D.Fh,Mg,Jo,D.Bx,Js,Ad,Af,Cn.toD,hlm,he]<;>exact rfl))|(with_reducible apply A3);(focus rfl);(focus (simp only[D.at,D.put,D.Xw,D.Fh,Mg,Jo,D.Bx,Js,Ad,Af,Cn.toD,hlm,he]<;>exact rfl));(try(focus exact rfl)))
   all_goals(try(conv=>whnf))
   (apply Dj<;>kernel_rfl)
  ·rw[if_neg hom]at hR;have Bik:decide ((((out.map Pr.Bx).map D.it).length:Int)=most)=false:=by rw[hlo];exact decide_eq_false hom
   repeat'((conv=>whnf);first|(with_reducible first|refine Ax (by first|assumption|exact Ai (by assumption)|refine decide_eq_true ?_;omega) fun hb=>?_|refine Aw (by first|assumption|exact Ak (by assumption)|rfl) fun hb=>?_);(try rw[hb]);try simp only[Aa]at hb|((with_reducible refine A5 (fun hb=>?_) fun hb=>?_)<;>first|exact absurd hb (by decide)|(try rw[hb]);try simp only[Aa]at hb)|(with_reducible refine Ac ?_ ?_);focus (and_intros<;>first|omega|with_reducible rfl|kernel_rfl|intro _ hh;cases hh;done|exact Ah (by rfl)|exact Ag rfl|simp only[An];omega|simp;done|decide)|with_reducible intro Cq|(with_reducible refine A5 ?_ ?_);focus (first|with_reducible rfl|exact rfl)|(with_reducible refine Ai2.mkV ?_ ?_ ?_ fun Cq=>?_);(iterate 3 focus kernel_rfl);try simp only[zRL]at Cq|(with_reducible refine Ct.mk ?_);(first|refine⟨_,Aum,?_⟩|refine⟨_,hsh,?_⟩);rintro _ _ ⟨rfl,rfl⟩|(with_reducible refine Aq3.mk ?_);refine⟨_,_,At9,?_⟩|(try dsimp only);(first|rw[hw]|rw[hDI])|(with_reducible apply Ba);(focus (simp only[D.at,D.put,D.Xw,D.Fh,Mg,Jo,D.Bx,Js,Ad,Af,Cn.toD,hlm,he]<;>exact rfl))|(with_reducible apply A3);(focus rfl);(focus (simp only[D.at,D.put,D.Xw,D.Fh,Mg,Jo,D.Bx,Js,Ad,Af,Cn.toD,hlm,he]<;>exact rfl));(try(focus exact rfl)))
   all_goals(try(conv=>whnf))
   refine Round.by (j+1,out++[⟨k,v.val,v.made,v.rev⟩]) ?_ ⟨by omega,by simp;omega,hR⟩ (by dsimp only;omega)
   try dsimp only
   simp only[F5,Cy,Kc];show norm _ _=Cx _ _
   kernel_rfl
def Cn.An4(s:Cn)(n:Az)(x:Sp)(rev most:Int):List Pr × Bool × Int:=
 if(s.fi n).isNone=true then([],false,16)else if ¬(SpR x∧0≤rev∧1≤most∧most≤16)then([],false,1)else if(s.Zp n).rev<rev then([],false,13)else if 0<rev∧rev<(s.Zp n).floor then([],false,14)else
 ((Ep n x (if rev=0 then(s.Zp n).rev else rev) most (s.l.drop (Km (Kh (B7 n [])) s.l)) []).1,(Ep n x (if rev=0 then(s.Zp n).rev else rev) most (s.l.drop (Km (Kh (B7 n [])) s.l)) []).2,0)
theorem Ai0(s:Cn)(n:Az)(x:Sp)(rev most:Int)(hf:s.fi n=none):
 Fn Tryz.prog C9 [sP s,.v (.str n),.v x.Bx,.v (ti rev),.v (ti most)] (Is (.tup [.i (.list []),.i (.bool false),.i (ti 16)]) [sP s,.no,.no,.no,.no]):=by
 refine D0 ?_ (by simp)
 obtain⟨h1,h2⟩:=Cn.Ayr hf;repeat'((conv=>whnf);first|(with_reducible first|refine Ax (by rfl) fun hb=>?_|refine Aw (by rfl) fun hb=>?_);(try rw[hb]);try simp only[Aa]at hb|((with_reducible refine A5 (fun hb=>?_) fun hb=>?_)<;>first|exact absurd hb (by decide)|(try rw[hb]);try simp only[Aa]at hb)|(with_reducible refine Ac ?_ ?_);focus (and_intros<;>first|omega|with_reducible rfl|kernel_rfl|simp;done)|refine Au ?_|(with_reducible apply A9);(focus (simp only[D.at,D.put,D.Xw,D.Fh,Mg,Jo,D.Bx,Js,Ad,Af,h1,Cn.toD]<;>exact rfl)))
 all_goals(try(conv=>whnf))
 (apply Dj<;>kernel_rfl)
theorem Ajb(s:Cn)(n:Az)(x:Sp)(rev most:Int)(i:Nat)(hf:s.fi n=some i)(hb:¬(SpR x∧0≤rev∧1≤most∧most≤16)):
 Fn Tryz.prog C9 [sP s,.v (.str n),.v x.Bx,.v (ti rev),.v (ti most)] (Is (.tup [.i (.list []),.i (.bool false),.i (ti 1)]) [sP s,.no,.no,.no,.no]):=by
 refine D0 ?_ (by simp)
 have hs:=Pu x;by_cases hx:SpR x
 case neg=>
  rw[decide_eq_false hx]at hs;obtain⟨h1,h2,h3⟩:=Cn.Ari hf;repeat'((conv=>whnf);first|(with_reducible refine Ax (by rfl) fun hb=>?_);(try rw[hb]);try simp only[Aa]at hb|((with_reducible refine A5 (fun hb=>?_) fun hb=>?_)<;>first|exact absurd hb (by decide)|(try rw[hb]);try simp only[Aa]at hb)|(with_reducible refine Ac ?_ ?_);focus (and_intros<;>first|omega|with_reducible rfl|kernel_rfl|intro _ hh;cases hh;done|simp;done|decide)|(with_reducible refine A5 ?_ ?_);focus (decide)|refine Au ?_|(with_reducible refine Ct.mk ?_);refine⟨_,hs,?_⟩;rintro _ _ ⟨rfl,rfl⟩|(with_reducible apply A9);(focus (simp only[D.at,D.put,D.Xw,D.Fh,Mg,Jo,D.Bx,Js,Ad,Af,h1,h3,Cn.toD,Tal.Bx]<;>exact rfl)))
  all_goals(try(conv=>whnf))
  (apply Dj<;>kernel_rfl)
 rw[decide_eq_true hx]at hs;by_cases h1:rev<0
 case pos=>
  obtain⟨h1,h2,h3⟩:=Cn.Ari hf;repeat'((conv=>whnf);first|(with_reducible first|refine Ax (by first|refine decide_eq_true ?_;assumption|rfl) fun hb=>?_|refine Aw (by rfl) fun hb=>?_);(try rw[hb]);try simp only[Aa]at hb|((with_reducible refine A5 (fun hb=>?_) fun hb=>?_)<;>first|exact absurd hb (by decide)|(try rw[hb]);try simp only[Aa]at hb)|(with_reducible refine Ac ?_ ?_);focus (and_intros<;>first|omega|with_reducible rfl|kernel_rfl|intro _ hh;cases hh;done|simp;done|decide)|(with_reducible refine A5 ?_ ?_);focus (decide)|refine Au ?_|(with_reducible refine Ct.mk ?_);refine⟨_,hs,?_⟩;rintro _ _ ⟨rfl,rfl⟩|(with_reducible apply A9);(focus (simp only[D.at,D.put,D.Xw,D.Fh,Mg,Jo,D.Bx,Js,Ad,Af,h1,h3,Cn.toD,Tal.Bx]<;>exact rfl)))
  all_goals(try(conv=>whnf))
  (apply Dj<;>kernel_rfl)
 by_cases h2:most<1
 case pos=>
  obtain⟨h1,h2,h3⟩:=Cn.Ari hf;repeat'((conv=>whnf);first|(with_reducible first|refine Ax (by first|refine decide_eq_true ?_;assumption|rfl) fun hb=>?_|refine Aw (by first|refine decide_eq_false ?_;assumption|rfl) fun hb=>?_);(try rw[hb]);try simp only[Aa]at hb|((with_reducible refine A5 (fun hb=>?_) fun hb=>?_)<;>first|exact absurd hb (by decide)|(try rw[hb]);try simp only[Aa]at hb)|(with_reducible refine Ac ?_ ?_);focus (and_intros<;>first|omega|with_reducible rfl|kernel_rfl|intro _ hh;cases hh;done|simp;done|decide)|(with_reducible refine A5 ?_ ?_);focus (decide)|refine Au ?_|(with_reducible refine Ct.mk ?_);refine⟨_,hs,?_⟩;rintro _ _ ⟨rfl,rfl⟩|(with_reducible apply A9);(focus (simp only[D.at,D.put,D.Xw,D.Fh,Mg,Jo,D.Bx,Js,Ad,Af,h1,h3,Cn.toD,Tal.Bx]<;>exact rfl)))
  all_goals(try(conv=>whnf))
  (apply Dj<;>kernel_rfl)
 have h3:most>16:=by
  by_cases h:most>16
  ·exact h
  ·exact absurd ⟨hx,by omega,by omega,by omega⟩ hb
 obtain⟨h1,h2,h3⟩:=Cn.Ari hf;repeat'((conv=>whnf);first|(with_reducible first|refine Ax (by first|refine decide_eq_true ?_;assumption|rfl) fun hb=>?_|refine Aw (by first|refine decide_eq_false ?_;assumption|rfl) fun hb=>?_);(try rw[hb]);try simp only[Aa]at hb|((with_reducible refine A5 (fun hb=>?_) fun hb=>?_)<;>first|exact absurd hb (by decide)|(try rw[hb]);try simp only[Aa]at hb)|(with_reducible refine Ac ?_ ?_);focus (and_intros<;>first|omega|with_reducible rfl|kernel_rfl|intro _ hh;cases hh;done|simp;done|decide)|(with_reducible refine A5 ?_ ?_);focus (decide)|refine Au ?_|(with_reducible refine Ct.mk ?_);refine⟨_,hs,?_⟩;rintro _ _ ⟨rfl,rfl⟩|(with_reducible apply A9);(focus (simp only[D.at,D.put,D.Xw,D.Fh,Mg,Jo,D.Bx,Js,Ad,Af,h1,h3,Cn.toD,Tal.Bx]<;>exact rfl)))
 all_goals(try(conv=>whnf))
 (apply Dj<;>kernel_rfl)
theorem Aig(s:Cn)(n:Az)(x:Sp)(rev most:Int)(i:Nat)(hf:s.fi n=some i)(hb:SpR x∧0≤rev∧1≤most∧most≤16)(hr:(s.Zp n).rev<rev):
 Fn Tryz.prog C9 [sP s,.v (.str n),.v x.Bx,.v (ti rev),.v (ti most)] (Is (.tup [.i (.list []),.i (.bool false),.i (ti 13)]) [sP s,.no,.no,.no,.no]):=by
 refine D0 ?_ (by simp)
 obtain⟨hx,hm1,hm2,hm3⟩:=hb;have hs:=Pu x;rw[decide_eq_true hx]at hs;obtain⟨h1,h2,h3⟩:=Cn.Ari hf;repeat'((conv=>whnf);first|(with_reducible first|refine Ax (by first|refine decide_eq_true ?_;assumption|rfl) fun hb=>?_|refine Aw (by first|refine decide_eq_false ?_;omega|rfl) fun hb=>?_);(try rw[hb]);try simp only[Aa]at hb|((with_reducible refine A5 (fun hb=>?_) fun hb=>?_)<;>first|exact absurd hb (by decide)|(try rw[hb]);try simp only[Aa]at hb)|(with_reducible refine Ac ?_ ?_);focus (and_intros<;>first|omega|with_reducible rfl|kernel_rfl|intro _ hh;cases hh;done|simp;done|decide)|(with_reducible refine A5 ?_ ?_);focus (decide)|(with_reducible refine Ai2.mkV ?_ ?_ ?_ fun Cq=>?_);(iterate 3 focus kernel_rfl);try simp only[zRL]at Cq|refine Au ?_|(with_reducible refine Ct.mk ?_);refine⟨_,hs,?_⟩;rintro _ _ ⟨rfl,rfl⟩|(with_reducible apply A9);(focus (simp only[D.at,D.put,D.Xw,D.Fh,Mg,Jo,D.Bx,Js,Ad,Af,h1,h3,Cn.toD,Tal.Bx]<;>exact rfl))|(with_reducible apply A3);(focus rfl);(focus (simp only[D.at,D.put,D.Xw,D.Fh,Mg,Jo,D.Bx,Js,Ad,Af,h1,h3,Cn.toD,Tal.Bx]<;>exact rfl));(try(focus exact rfl)))
 all_goals(try(conv=>whnf))
 (apply Dj<;>kernel_rfl)
theorem Ai1(s:Cn)(n:Az)(x:Sp)(rev most:Int)(i:Nat)(hf:s.fi n=some i)(hb:SpR x∧0≤rev∧1≤most∧most≤16)(hr:¬(s.Zp n).rev<rev)(hr2:0<rev∧rev<(s.Zp n).floor):
 Fn Tryz.prog C9 [sP s,.v (.str n),.v x.Bx,.v (ti rev),.v (ti most)] (Is (.tup [.i (.list []),.i (.bool false),.i (ti 14)]) [sP s,.no,.no,.no,.no]):=by
 refine D0 ?_ (by simp)
 obtain⟨hx,hm1,hm2,hm3⟩:=hb;have hs:=Pu x;rw[decide_eq_true hx]at hs;obtain⟨h1,h2,h3⟩:=Cn.Ari hf;repeat'((conv=>whnf);first|(with_reducible first|refine Ax (by first|refine decide_eq_true ?_;omega|rfl) fun hb=>?_|refine Aw (by first|((refine decide_eq_false ?_);first|assumption|omega)|rfl) fun hb=>?_);(try rw[hb]);try simp only[Aa]at hb|((with_reducible refine A5 (fun hb=>?_) fun hb=>?_)<;>first|exact absurd hb (by decide)|(try rw[hb]);try simp only[Aa]at hb)|(with_reducible refine Ac ?_ ?_);focus (and_intros<;>first|omega|with_reducible rfl|kernel_rfl|intro _ hh;cases hh;done|simp;done|decide)|(with_reducible refine A5 ?_ ?_);focus (decide)|(with_reducible refine Ai2.mkV ?_ ?_ ?_ fun Cq=>?_);(iterate 3 focus kernel_rfl);try simp only[zRL]at Cq|refine Au ?_|(with_reducible refine Ct.mk ?_);refine⟨_,hs,?_⟩;rintro _ _ ⟨rfl,rfl⟩|(with_reducible apply A9);(focus (simp only[D.at,D.put,D.Xw,D.Fh,Mg,Jo,D.Bx,Js,Ad,Af,h1,h3,Cn.toD,Tal.Bx]<;>exact rfl))|(with_reducible apply A3);(focus rfl);(focus (simp only[D.at,D.put,D.Xw,D.Fh,Mg,Jo,D.Bx,Js,Ad,Af,h1,h3,Cn.toD,Tal.Bx]<;>exact rfl));(try(focus exact rfl)))
 all_goals(try(conv=>whnf))
 (apply Dj<;>kernel_rfl)
theorem Ai5(hof:Zb)(s:Cn)(hB:s.Bd)(n:Az)(hn:n.length≤100000)(x:Sp)(rev most:Int)(ht:0≤(s.Zp n).rev∧(s.Zp n).rev≤9000000000000000000):
 Fn Tryz.prog C9 [sP s,.v (.str n),.v x.Bx,.v (ti rev),.v (ti most)] (Is (.tup [.i (.list ((s.An4 n x rev most).1.map Pr.Bx)),.i (.bool (s.An4 n x rev most).2.1),.i (ti (s.An4 n x rev most).2.2)]) [sP s,.no,.no,.no,.no]):=by
 unfold Cn.An4;cases hf:s.fi n with
 |none=>exact Ai0 s n x rev most hf
 |some i=>
  simp only[Option.isNone_some,Ado,if_false];by_cases hb:SpR x∧0≤rev∧1≤most∧most≤16
  case neg=>simp only[hb,not_false_eq_true,if_true];exact Ajb s n x rev most i hf hb
  by_cases hr:(s.Zp n).rev<rev
  case pos=>simp only[hb,hr,not_true_eq_false,if_false,if_true,and_self];exact Aig s n x rev most i hf hb hr
  by_cases hr2:0<rev∧rev<(s.Zp n).floor
  case pos=>simp only[hb,hr,hr2,not_true_eq_false,if_false,if_true,and_self];exact Ai1 s n x rev most i hf hb hr hr2
  by_cases h0:rev=0
  ·subst h0;simp only[hb,hr,hr2,not_true_eq_false,if_false,if_true,and_self];exact range_zero hof s hB n hn x _ most i hf hb.1 ⟨rfl,by omega⟩ hb.2.2 _ rfl
  ·simp only[hb,hr,hr2,h0,not_true_eq_false,if_false,if_true,and_self];exact Ab6 hof s hB n hn x rev most i hf hb.1 ⟨by omega,by omega,by omega,by omega⟩ hb.2.2 _ rfl
end Go.Ab
