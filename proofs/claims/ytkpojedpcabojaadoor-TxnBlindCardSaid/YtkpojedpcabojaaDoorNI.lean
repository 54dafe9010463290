/- Lemmas -/
import Derived.Test.YtkpojedpcabojaaDoorW8
import Derived.Shelf.SlGeneric
import Derived.Shelf.Spec.SlicesInsert
import Derived.Lib.AppendZerosOnto
set_option linter.unusedVariables false
set_option linter.unusedSimpArgs false
set_option maxRecDepth 100000
set_option maxHeartbeats 40000000
namespace Go.Ab
open Go.Proofs
theorem range_zero(hof:Zb)(s:Cn)(hB:s.Bd)(n:Az)(hn:n.length≤100000)(x:Sp)(rev most:Int)(i:Nat)(hf:s.fi n=some i)(hx:SpR x)(hr:(s.Zp n).rev=rev∧0≤rev∧rev≤9000000000000000000)(hm:1≤most∧most≤16)(RES:List Pr × Bool)(Ajz:Ep n x rev most (s.l.drop (Km (Kh (B7 n [])) s.l)) []=RES):
 Fn Tryd.prog C9 [sP s,.v (.str n),.v x.Bx,.v (ti 0),.v (ti most)] (Is (.tup [.i (.list (RES.1.map Pr.Bx)),.i (.bool RES.2),.i (ti 0)]) [sP s,.no,.no,.no,.no]):=by
 obtain⟨T1,T2,hof⟩:=hof;refine D0 ?_ (by simp)
 obtain⟨h1,h2,h3⟩:=Cn.Ari hf;have hs:=Pu x;rw[decide_eq_true hx]at hs;have hI:=U8 s.l;have hwh:=L1 n [] hn (by simp)
 have hbs:=L0 s.l (B7 n []) (by have:=hB.len;omega)
 obtain⟨A,hA⟩:∃A,A=Km (Kh (B7 n [])) s.l:=⟨_,rfl⟩;obtain⟨B,hB'⟩:∃B,B=bsF (Kh (B7 n [])) (eqH (B7 n [])) s.l:=⟨_,rfl⟩;rw[←hA, ←hB']at hbs;obtain⟨hr0,hr⟩:=hr;subst hr0;repeat'((conv=>whnf);first|((with_reducible refine Ax (by first|((with_reducible refine decide_eq_true ?_);omega)|(with_reducible rfl)) (fun hb=>?_));(try rw[hb]);(try simp only[Aa]at hb))|((with_reducible refine Aw (by first|((with_reducible refine decide_eq_false ?_);first|(with_reducible assumption)|omega)|(with_reducible rfl)) (fun hb=>?_));(try rw[hb]);(try simp only[Aa]at hb))|((with_reducible refine A5 (fun hb=>?_) (fun hb=>?_))<;>first|(exact absurd hb (by decide))|((try rw[hb]);(try simp only[Aa]at hb)))|((with_reducible refine Ac ?_ ?_);focus (and_intros<;>first|omega|(with_reducible rfl)|kernel_rfl|(intro _ hh;cases hh;done)|(simp;done)|decide))|(with_reducible intro Cq)|((with_reducible refine A5 ?_ ?_);focus (first|(with_reducible rfl)|decide))|((with_reducible refine Ai2.mkV ?_ ?_ ?_ (fun Cq=>?_));(focus kernel_rfl);(focus kernel_rfl);(focus kernel_rfl);(try simp only[Bv,Bg,Dg,or_false,false_or,or_assoc,forall_eq_or_imp,forall_eq,false_implies,implies_true,forall_const,and_true,true_and]at Cq))|((refine Au ?_))|((with_reducible refine Ct.mk ?_);refine⟨_,hs,?_⟩;rintro _ _ ⟨rfl,rfl⟩)|((refine Abo hof ?_))|((with_reducible refine Ct.mk ?_);refine⟨_,hwh,?_⟩;rintro _ _ ⟨rfl,rfl⟩)|((refine Bj ?_ (by decide)))|((with_reducible refine Ct.mk ?_);refine⟨_,hbs,?_⟩;rintro _ _ ⟨rfl,rfl⟩)|(((with_reducible apply A9));(focus (simp only[D.at,D.put,D.Xw,D.Fh,Mg,Jo,D.Bx,Js,Ad,Af,h1,h3,hI,Cn.toD,Tal.Bx]<;>exact rfl)))|(((with_reducible apply A3));(focus rfl);(focus (simp only[D.at,D.put,D.Xw,D.Fh,Mg,Jo,D.Bx,Js,Ad,Af,h1,h3,hI,Cn.toD,Tal.Bx]<;>exact rfl));(try(focus exact rfl))))
 all_goals(try(conv=>whnf))
 have hAl:A≤s.l.length:=by rw[hA];exact Hp _ _
 rw[←hA]at Ajz;refine Afm.by (X:=Nat × List Pr) (fun y=>[(5,.v (ti (y.1:Int))),(65,.own [] (.ptr (.vec 67 4 ((y.2.map Pr.Bx).map D.it))))]) (fun y=>y.1≤s.l.length∧(y.2.length:Int)≤most∧Ep n x (s.Zp n).rev most (s.l.drop y.1) y.2=RES) (fun y=>s.l.length - y.1) (A,[]) (by kernel_rfl) ⟨hAl,by simp;omega,Ajz⟩ ?_
 rintro⟨j,out⟩ ⟨hj,ho,hR⟩;dsimp only at hj ho hR ⊢;have hlen:=hB.len;have hlm:(s.l.map Zk.toD).length=s.l.length:=Bh _;have hw:IntKind.i64.wrap ((j:Int)+1)=((j+1:Nat):Int):=Dk (n:=100000) (by omega) (by simp only[maxLen];omega)
 by_cases hjl:j<s.l.length
 case neg=>
  have Ze:¬decide ((j:Int)<(s.l.length:Int))=true:=by simp;omega
  rw[Db (by omega)]at hR
  have hR:(out,false)=RES:=hR;subst hR;repeat'((conv=>whnf);first|((with_reducible refine Aw (by first|(with_reducible exact Ak (by assumption))|((with_reducible refine decide_eq_false ?_);omega)) (fun hb=>?_));(try rw[hb]);(try simp only[Aa]at hb))|((with_reducible refine Ac ?_ ?_);focus (and_intros<;>first|omega|(with_reducible rfl)|kernel_rfl|(simp;done)))|(with_reducible intro Cq)|((with_reducible refine A5 ?_ ?_);focus ((with_reducible rfl)))|(((with_reducible apply A9));(focus (simp only[D.at,D.put,D.Xw,D.Fh,Mg,Jo,D.Bx,Js,Ad,Af,Cn.toD,hlm]<;>exact rfl))))
  all_goals(try(conv=>whnf))
  (apply dKq<;>kernel_rfl)
 obtain⟨h,he⟩:∃h,s.l[j]?=some h:=⟨_,Ae hjl⟩;have Ze:¬decide ((j:Int)<(s.l.length:Int))=false:=by simp;omega
 obtain⟨hb1,hb2,hb3⟩:=hB.held h (Cb he);have Aum:=L2 h.at_ hb1;have hdr:s.l.drop j=h::s.l.drop (j+1):=by rw[Cc hjl];rw[Ae hjl]at he;cases he;rfl
 rw[hdr]at hR;simp only[Ep]at hR;have At9:=Ns h.at_ h.vs (s.Zp n).rev (by omega) (by omega)
 have hsh:=Tu x (C1 h.at_).2.1;generalize C1 h.at_=wk at Aum hR hsh;obtain⟨w,k,z⟩:=wk;generalize D1 h.vs (s.Zp n).rev=vb at At9 hR;obtain⟨v,b⟩:=vb;dsimp only at Aum hR hsh At9;have hDI:=Zk.A96 h;simp only[Zk.Bx]at hDI;by_cases hwn:w=n
 case neg=>
  have hnb:¬(!decide (w=n))=false:=by simpa using hwn
  have Bbf:¬decide (w=n)=true:=by simpa using hwn
  rw[if_pos hwn]at hR;subst hR;repeat'((conv=>whnf);first|((with_reducible refine Ax (by first|(with_reducible exact Ai (by assumption))|((with_reducible refine decide_eq_true ?_);omega)|(with_reducible rfl)) (fun hb=>?_));(try rw[hb]);(try simp only[Aa]at hb))|((with_reducible refine Ac ?_ ?_);focus (and_intros<;>first|omega|(with_reducible rfl)|kernel_rfl|(intro _ hh;cases hh;done)|(simp;done)|decide))|(with_reducible intro Cq)|((with_reducible refine A5 ?_ ?_);focus ((with_reducible rfl)))|((with_reducible refine Ct.mk ?_);refine⟨_,Aum,?_⟩;rintro _ _ ⟨rfl,rfl⟩)|(((with_reducible apply A9));(focus (simp only[D.at,D.put,D.Xw,D.Fh,Mg,Jo,D.Bx,Js,Ad,Af,Cn.toD,hlm,he]<;>exact rfl)))|(((with_reducible apply A3));(focus rfl);(focus (simp only[D.at,D.put,D.Xw,D.Fh,Mg,Jo,D.Bx,Js,Ad,Af,Cn.toD,hlm,he]<;>exact rfl));(try(focus exact rfl))))
  all_goals(try(conv=>whnf))
  (apply dKq<;>kernel_rfl)
 subst hwn;rw[if_neg (by simp)]at hR
 have hnb:¬(!decide (w=w))=true:=by simp
 have Bbf:¬decide (w=w)=false:=by simp
 by_cases hxk:Bw x k
 case neg=>
  rw[if_pos hxk]at hR;rw[decide_eq_false hxk]at hsh;repeat'((conv=>whnf);first|((with_reducible refine Ax (by first|(with_reducible assumption)|(with_reducible exact Ai (by assumption))|((with_reducible refine decide_eq_true ?_);omega)) (fun hb=>?_));(try rw[hb]);(try simp only[Aa]at hb))|((with_reducible refine Aw (by first|(with_reducible exact Ak (by assumption))|(with_reducible rfl)) (fun hb=>?_));(try rw[hb]);(try simp only[Aa]at hb))|((with_reducible refine A5 (fun hb=>?_) (fun hb=>?_))<;>first|(exact absurd hb (by decide))|((try rw[hb]);(try simp only[Aa]at hb)))|((with_reducible refine Ac ?_ ?_);focus (and_intros<;>first|omega|(with_reducible rfl)|kernel_rfl|(intro _ hh;cases hh;done)|(simp;done)|decide))|(with_reducible intro Cq)|((with_reducible refine A5 ?_ ?_);focus (first|(with_reducible rfl)|(exact rfl)))|((with_reducible refine Ct.mk ?_);refine⟨_,Aum,?_⟩;rintro _ _ ⟨rfl,rfl⟩)|((with_reducible refine Ct.mk ?_);refine⟨_,hsh,?_⟩;rintro _ _ ⟨rfl,rfl⟩)|((try dsimp only);rw[hw])|(((with_reducible apply A3));(focus rfl);(focus (simp only[D.at,D.put,D.Xw,D.Fh,Mg,Jo,D.Bx,Js,Ad,Af,Cn.toD,hlm,he]<;>exact rfl));(try(focus exact rfl))))
  all_goals(try(conv=>whnf))
  refine Round.by (j+1,out) ?_ ⟨by omega,ho,hR⟩ (by dsimp only;omega)
  try dsimp only
  show norm _ _=upd _ _
  kernel_rfl
 rw[if_neg (by simpa using hxk)]at hR
 rw[decide_eq_true hxk]at hsh;cases b with
 |false=>
  rw[if_pos rfl]at hR;repeat'((conv=>whnf);first|((with_reducible refine Ax (by first|(with_reducible assumption)|(with_reducible exact Ai (by assumption))|((with_reducible refine decide_eq_true ?_);omega)) (fun hb=>?_));(try rw[hb]);(try simp only[Aa]at hb))|((with_reducible refine Aw (by first|(with_reducible exact Ak (by assumption))|(with_reducible rfl)) (fun hb=>?_));(try rw[hb]);(try simp only[Aa]at hb))|((with_reducible refine A5 (fun hb=>?_) (fun hb=>?_))<;>first|(exact absurd hb (by decide))|((try rw[hb]);(try simp only[Aa]at hb)))|((with_reducible refine Ac ?_ ?_);focus (and_intros<;>first|omega|(with_reducible rfl)|kernel_rfl|(intro _ hh;cases hh;done)|(simp;done)|decide))|(with_reducible intro Cq)|((with_reducible refine A5 ?_ ?_);focus (first|(with_reducible rfl)|(exact rfl)))|((with_reducible refine Ai2.mkV ?_ ?_ ?_ (fun Cq=>?_));(focus kernel_rfl);(focus kernel_rfl);(focus kernel_rfl);(try simp only[Bv,Bg,Dg,or_false,false_or,or_assoc,forall_eq_or_imp,forall_eq,false_implies,implies_true,forall_const,and_true,true_and]at Cq))|((with_reducible refine Ct.mk ?_);refine⟨_,Aum,?_⟩;rintro _ _ ⟨rfl,rfl⟩)|((with_reducible refine Ct.mk ?_);refine⟨_,hsh,?_⟩;rintro _ _ ⟨rfl,rfl⟩)|((with_reducible refine Aq3.mk ?_);refine⟨_,_,At9,?_⟩)|((try dsimp only);rw[hw])|((try dsimp only);rw[hDI])|(((with_reducible apply Ba));(focus (simp only[D.at,D.put,D.Xw,D.Fh,Mg,Jo,D.Bx,Js,Ad,Af,Cn.toD,hlm,he]<;>exact rfl)))|(((with_reducible apply A3));(focus rfl);(focus (simp only[D.at,D.put,D.Xw,D.Fh,Mg,Jo,D.Bx,Js,Ad,Af,Cn.toD,hlm,he]<;>exact rfl));(try(focus exact rfl))))
  all_goals(try(conv=>whnf))
  refine Round.by (j+1,out) ?_ ⟨by omega,ho,hR⟩ (by dsimp only;omega)
  try dsimp only
  show norm _ _=upd _ _
  kernel_rfl
 |true=>
  rw[if_neg (by simp)]at hR
  have hlo:((out.map Pr.Bx).map D.it).length=out.length:=by simp
  by_cases hom:(out.length:Int)=most
  ·rw[if_pos hom]at hR;subst hR;have Bik:decide ((((out.map Pr.Bx).map D.it).length:Int)=most)=true:=by rw[hlo];exact decide_eq_true hom
   repeat'((conv=>whnf);first|((with_reducible refine Ax (by first|(with_reducible assumption)|((with_reducible refine decide_eq_true ?_);omega)) (fun hb=>?_));(try rw[hb]);(try simp only[Aa]at hb);(try subst hb))|((with_reducible refine Aw (by first|(with_reducible assumption)|(with_reducible exact Ak (by assumption))|(with_reducible rfl)) (fun hb=>?_));(try rw[hb]);(try simp only[Aa]at hb))|((with_reducible refine A5 (fun hb=>?_) (fun hb=>?_))<;>first|(exact absurd hb (by decide))|((try rw[hb]);(try simp only[Aa]at hb)))|((with_reducible refine Ac ?_ ?_);focus (and_intros<;>first|omega|(with_reducible rfl)|kernel_rfl|(intro _ hh;cases hh;done)|(simp;done)|decide))|(with_reducible intro Cq)|((with_reducible refine A5 ?_ ?_);focus (first|(with_reducible rfl)|(exact rfl)))|((with_reducible refine Ai2.mkV ?_ ?_ ?_ (fun Cq=>?_));(focus kernel_rfl);(focus kernel_rfl);(focus kernel_rfl);(try simp only[Bv,Bg,Dg,or_false,false_or,or_assoc,forall_eq_or_imp,forall_eq,false_implies,implies_true,forall_const,and_true,true_and]at Cq))|((with_reducible refine Ct.mk ?_);refine⟨_,Aum,?_⟩;rintro _ _ ⟨rfl,rfl⟩)|((with_reducible refine Ct.mk ?_);refine⟨_,hsh,?_⟩;rintro _ _ ⟨rfl,rfl⟩)|((with_reducible refine Aq3.mk ?_);refine⟨_,_,At9,?_⟩)|((try dsimp only);rw[hDI])|((first|with_reducible apply A9|with_reducible apply Ba);(focus (simp only[D.at,D.put,D.Xw,D.Fh,Mg,Jo,D.Bx,Js,Ad,Af,Cn.toD,hlm,he]<;>exact rfl)))|(((with_reducible apply A3));(focus rfl);(focus (simp only[D.at,D.put,D.Xw,D.Fh,Mg,Jo,D.Bx,Js,Ad,Af,Cn.toD,hlm,he]<;>exact rfl));(try(focus exact rfl))))
   all_goals(try(conv=>whnf))
   (apply dKq<;>kernel_rfl)
  ·rw[if_neg hom]at hR;have Bik:decide ((((out.map Pr.Bx).map D.it).length:Int)=most)=false:=by rw[hlo];exact decide_eq_false hom
   repeat'((conv=>whnf);first|((with_reducible refine Ax (by first|(with_reducible assumption)|(with_reducible exact Ai (by assumption))|((with_reducible refine decide_eq_true ?_);omega)) (fun hb=>?_));(try rw[hb]);(try simp only[Aa]at hb))|((with_reducible refine Aw (by first|(with_reducible assumption)|(with_reducible exact Ak (by assumption))|(with_reducible rfl)) (fun hb=>?_));(try rw[hb]);(try simp only[Aa]at hb))|((with_reducible refine A5 (fun hb=>?_) (fun hb=>?_))<;>first|(exact absurd hb (by decide))|((try rw[hb]);(try simp only[Aa]at hb)))|((with_reducible refine Ac ?_ ?_);focus (and_intros<;>first|omega|(with_reducible rfl)|kernel_rfl|(intro _ hh;cases hh;done)|exact Ah (by rfl)|exact Ag rfl|(simp only[An];omega)|(simp;done)|decide))|(with_reducible intro Cq)|((with_reducible refine A5 ?_ ?_);focus (first|(with_reducible rfl)|(exact rfl)))|((with_reducible refine Ai2.mkV ?_ ?_ ?_ (fun Cq=>?_));(focus kernel_rfl);(focus kernel_rfl);(focus kernel_rfl);(try simp only[Bv,Bg,Dg,or_false,false_or,or_assoc,forall_eq_or_imp,forall_eq,false_implies,implies_true,forall_const,and_true,true_and]at Cq))|((with_reducible refine Ct.mk ?_);refine⟨_,Aum,?_⟩;rintro _ _ ⟨rfl,rfl⟩)|((with_reducible refine Ct.mk ?_);refine⟨_,hsh,?_⟩;rintro _ _ ⟨rfl,rfl⟩)|((with_reducible refine Aq3.mk ?_);refine⟨_,_,At9,?_⟩)|((try dsimp only);rw[hw])|((try dsimp only);rw[hDI])|(((with_reducible apply Ba));(focus (simp only[D.at,D.put,D.Xw,D.Fh,Mg,Jo,D.Bx,Js,Ad,Af,Cn.toD,hlm,he]<;>exact rfl)))|(((with_reducible apply A3));(focus rfl);(focus (simp only[D.at,D.put,D.Xw,D.Fh,Mg,Jo,D.Bx,Js,Ad,Af,Cn.toD,hlm,he]<;>exact rfl));(try(focus exact rfl))))
   all_goals(try(conv=>whnf))
   refine Round.by (j+1,out++[⟨k,v.val,v.made,v.rev⟩]) ?_ ⟨by omega,by simp;omega,hR⟩ (by dsimp only;omega)
   try dsimp only
   simp only[F5,Cy,Kc];show norm _ _=upd _ _
   kernel_rfl
def Cn.An4(s:Cn)(n:Az)(x:Sp)(rev most:Int):List Pr × Bool × Int:=
 if(s.fi n).isNone=true then([],false,16)else if ¬(SpR x∧0≤rev∧1≤most∧most≤16)then([],false,1)else if(s.Zp n).rev<rev then([],false,13)else if 0<rev∧rev<(s.Zp n).floor then([],false,14)else
 ((Ep n x (if rev=0 then(s.Zp n).rev else rev) most (s.l.drop (Km (Kh (B7 n [])) s.l)) []).1,(Ep n x (if rev=0 then(s.Zp n).rev else rev) most (s.l.drop (Km (Kh (B7 n [])) s.l)) []).2,0)
theorem Ai0(s:Cn)(n:Az)(x:Sp)(rev most:Int)(hf:s.fi n=none):
 Fn Tryd.prog C9 [sP s,.v (.str n),.v x.Bx,.v (ti rev),.v (ti most)] (Is (.tup [.i (.list []),.i (.bool false),.i (ti 16)]) [sP s,.no,.no,.no,.no]):=by
 refine D0 ?_ (by simp)
 obtain⟨h1,h2⟩:=Cn.Ayr hf;repeat'((conv=>whnf);first|((with_reducible refine Ax (by(with_reducible rfl)) (fun hb=>?_));(try rw[hb]);(try simp only[Aa]at hb))|((with_reducible refine Aw (by(with_reducible rfl)) (fun hb=>?_));(try rw[hb]);(try simp only[Aa]at hb))|((with_reducible refine A5 (fun hb=>?_) (fun hb=>?_))<;>first|(exact absurd hb (by decide))|((try rw[hb]);(try simp only[Aa]at hb)))|((with_reducible refine Ac ?_ ?_);focus (and_intros<;>first|omega|(with_reducible rfl)|kernel_rfl|(simp;done)))|((refine Au ?_))|(((with_reducible apply A9));(focus (simp only[D.at,D.put,D.Xw,D.Fh,Mg,Jo,D.Bx,Js,Ad,Af,h1,Cn.toD]<;>exact rfl))))
 all_goals(try(conv=>whnf))
 (apply dKq<;>kernel_rfl)
theorem Ajb(s:Cn)(n:Az)(x:Sp)(rev most:Int)(i:Nat)(hf:s.fi n=some i)(hb:¬(SpR x∧0≤rev∧1≤most∧most≤16)):
 Fn Tryd.prog C9 [sP s,.v (.str n),.v x.Bx,.v (ti rev),.v (ti most)] (Is (.tup [.i (.list []),.i (.bool false),.i (ti 1)]) [sP s,.no,.no,.no,.no]):=by
 refine D0 ?_ (by simp)
 have hs:=Pu x;by_cases hx:SpR x
 case neg=>
  rw[decide_eq_false hx]at hs;obtain⟨h1,h2,h3⟩:=Cn.Ari hf;repeat'((conv=>whnf);first|((with_reducible refine Ax (by(with_reducible rfl)) (fun hb=>?_));(try rw[hb]);(try simp only[Aa]at hb))|((with_reducible refine A5 (fun hb=>?_) (fun hb=>?_))<;>first|(exact absurd hb (by decide))|((try rw[hb]);(try simp only[Aa]at hb)))|((with_reducible refine Ac ?_ ?_);focus (and_intros<;>first|omega|(with_reducible rfl)|kernel_rfl|(intro _ hh;cases hh;done)|(simp;done)|decide))|((with_reducible refine A5 ?_ ?_);focus (decide))|((refine Au ?_))|((with_reducible refine Ct.mk ?_);refine⟨_,hs,?_⟩;rintro _ _ ⟨rfl,rfl⟩)|(((with_reducible apply A9));(focus (simp only[D.at,D.put,D.Xw,D.Fh,Mg,Jo,D.Bx,Js,Ad,Af,h1,h3,Cn.toD,Tal.Bx]<;>exact rfl))))
  all_goals(try(conv=>whnf))
  (apply dKq<;>kernel_rfl)
 rw[decide_eq_true hx]at hs;by_cases h1:rev<0
 case pos=>
  obtain⟨h1,h2,h3⟩:=Cn.Ari hf;repeat'((conv=>whnf);first|((with_reducible refine Ax (by first|((with_reducible refine decide_eq_true ?_);(with_reducible assumption))|(with_reducible rfl)) (fun hb=>?_));(try rw[hb]);(try simp only[Aa]at hb))|((with_reducible refine Aw (by(with_reducible rfl)) (fun hb=>?_));(try rw[hb]);(try simp only[Aa]at hb))|((with_reducible refine A5 (fun hb=>?_) (fun hb=>?_))<;>first|(exact absurd hb (by decide))|((try rw[hb]);(try simp only[Aa]at hb)))|((with_reducible refine Ac ?_ ?_);focus (and_intros<;>first|omega|(with_reducible rfl)|kernel_rfl|(intro _ hh;cases hh;done)|(simp;done)|decide))|((with_reducible refine A5 ?_ ?_);focus (decide))|((refine Au ?_))|((with_reducible refine Ct.mk ?_);refine⟨_,hs,?_⟩;rintro _ _ ⟨rfl,rfl⟩)|(((with_reducible apply A9));(focus (simp only[D.at,D.put,D.Xw,D.Fh,Mg,Jo,D.Bx,Js,Ad,Af,h1,h3,Cn.toD,Tal.Bx]<;>exact rfl))))
  all_goals(try(conv=>whnf))
  (apply dKq<;>kernel_rfl)
 by_cases h2:most<1
 case pos=>
  obtain⟨h1,h2,h3⟩:=Cn.Ari hf;repeat'((conv=>whnf);first|((with_reducible refine Ax (by first|((with_reducible refine decide_eq_true ?_);(with_reducible assumption))|(with_reducible rfl)) (fun hb=>?_));(try rw[hb]);(try simp only[Aa]at hb))|((with_reducible refine Aw (by first|((with_reducible refine decide_eq_false ?_);(with_reducible assumption))|(with_reducible rfl)) (fun hb=>?_));(try rw[hb]);(try simp only[Aa]at hb))|((with_reducible refine A5 (fun hb=>?_) (fun hb=>?_))<;>first|(exact absurd hb (by decide))|((try rw[hb]);(try simp only[Aa]at hb)))|((with_reducible refine Ac ?_ ?_);focus (and_intros<;>first|omega|(with_reducible rfl)|kernel_rfl|(intro _ hh;cases hh;done)|(simp;done)|decide))|((with_reducible refine A5 ?_ ?_);focus (decide))|((refine Au ?_))|((with_reducible refine Ct.mk ?_);refine⟨_,hs,?_⟩;rintro _ _ ⟨rfl,rfl⟩)|(((with_reducible apply A9));(focus (simp only[D.at,D.put,D.Xw,D.Fh,Mg,Jo,D.Bx,Js,Ad,Af,h1,h3,Cn.toD,Tal.Bx]<;>exact rfl))))
  all_goals(try(conv=>whnf))
  (apply dKq<;>kernel_rfl)
 have h3:most>16:=by
  by_cases h:most>16
  ·exact h
  ·exact absurd ⟨hx,by omega,by omega,by omega⟩ hb
 obtain⟨h1,h2,h3⟩:=Cn.Ari hf;repeat'((conv=>whnf);first|((with_reducible refine Ax (by first|((with_reducible refine decide_eq_true ?_);(with_reducible assumption))|(with_reducible rfl)) (fun hb=>?_));(try rw[hb]);(try simp only[Aa]at hb))|((with_reducible refine Aw (by first|((with_reducible refine decide_eq_false ?_);(with_reducible assumption))|(with_reducible rfl)) (fun hb=>?_));(try rw[hb]);(try simp only[Aa]at hb))|((with_reducible refine A5 (fun hb=>?_) (fun hb=>?_))<;>first|(exact absurd hb (by decide))|((try rw[hb]);(try simp only[Aa]at hb)))|((with_reducible refine Ac ?_ ?_);focus (and_intros<;>first|omega|(with_reducible rfl)|kernel_rfl|(intro _ hh;cases hh;done)|(simp;done)|decide))|((with_reducible refine A5 ?_ ?_);focus (decide))|((refine Au ?_))|((with_reducible refine Ct.mk ?_);refine⟨_,hs,?_⟩;rintro _ _ ⟨rfl,rfl⟩)|(((with_reducible apply A9));(focus (simp only[D.at,D.put,D.Xw,D.Fh,Mg,Jo,D.Bx,Js,Ad,Af,h1,h3,Cn.toD,Tal.Bx]<;>exact rfl))))
 all_goals(try(conv=>whnf))
 (apply dKq<;>kernel_rfl)
theorem Aig(s:Cn)(n:Az)(x:Sp)(rev most:Int)(i:Nat)(hf:s.fi n=some i)(hb:SpR x∧0≤rev∧1≤most∧most≤16)(hr:(s.Zp n).rev<rev):
 Fn Tryd.prog C9 [sP s,.v (.str n),.v x.Bx,.v (ti rev),.v (ti most)] (Is (.tup [.i (.list []),.i (.bool false),.i (ti 13)]) [sP s,.no,.no,.no,.no]):=by
 refine D0 ?_ (by simp)
 obtain⟨hx,hm1,hm2,hm3⟩:=hb;have hs:=Pu x;rw[decide_eq_true hx]at hs;obtain⟨h1,h2,h3⟩:=Cn.Ari hf;repeat'((conv=>whnf);first|((with_reducible refine Ax (by first|((with_reducible refine decide_eq_true ?_);(with_reducible assumption))|(with_reducible rfl)) (fun hb=>?_));(try rw[hb]);(try simp only[Aa]at hb))|((with_reducible refine Aw (by first|((with_reducible refine decide_eq_false ?_);omega)|(with_reducible rfl)) (fun hb=>?_));(try rw[hb]);(try simp only[Aa]at hb))|((with_reducible refine A5 (fun hb=>?_) (fun hb=>?_))<;>first|(exact absurd hb (by decide))|((try rw[hb]);(try simp only[Aa]at hb)))|((with_reducible refine Ac ?_ ?_);focus (and_intros<;>first|omega|(with_reducible rfl)|kernel_rfl|(intro _ hh;cases hh;done)|(simp;done)|decide))|((with_reducible refine A5 ?_ ?_);focus (decide))|((with_reducible refine Ai2.mkV ?_ ?_ ?_ (fun Cq=>?_));(focus kernel_rfl);(focus kernel_rfl);(focus kernel_rfl);(try simp only[Bv,Bg,Dg,or_false,false_or,or_assoc,forall_eq_or_imp,forall_eq,false_implies,implies_true,forall_const,and_true,true_and]at Cq))|((refine Au ?_))|((with_reducible refine Ct.mk ?_);refine⟨_,hs,?_⟩;rintro _ _ ⟨rfl,rfl⟩)|(((with_reducible apply A9));(focus (simp only[D.at,D.put,D.Xw,D.Fh,Mg,Jo,D.Bx,Js,Ad,Af,h1,h3,Cn.toD,Tal.Bx]<;>exact rfl)))|(((with_reducible apply A3));(focus rfl);(focus (simp only[D.at,D.put,D.Xw,D.Fh,Mg,Jo,D.Bx,Js,Ad,Af,h1,h3,Cn.toD,Tal.Bx]<;>exact rfl));(try(focus exact rfl))))
 all_goals(try(conv=>whnf))
 (apply dKq<;>kernel_rfl)
theorem Ai1(s:Cn)(n:Az)(x:Sp)(rev most:Int)(i:Nat)(hf:s.fi n=some i)(hb:SpR x∧0≤rev∧1≤most∧most≤16)(hr:¬(s.Zp n).rev<rev)(hr2:0<rev∧rev<(s.Zp n).floor):
 Fn Tryd.prog C9 [sP s,.v (.str n),.v x.Bx,.v (ti rev),.v (ti most)] (Is (.tup [.i (.list []),.i (.bool false),.i (ti 14)]) [sP s,.no,.no,.no,.no]):=by
 refine D0 ?_ (by simp)
 obtain⟨hx,hm1,hm2,hm3⟩:=hb;have hs:=Pu x;rw[decide_eq_true hx]at hs;obtain⟨h1,h2,h3⟩:=Cn.Ari hf;repeat'((conv=>whnf);first|((with_reducible refine Ax (by first|((with_reducible refine decide_eq_true ?_);omega)|(with_reducible rfl)) (fun hb=>?_));(try rw[hb]);(try simp only[Aa]at hb))|((with_reducible refine Aw (by first|((with_reducible refine decide_eq_false ?_);first|(with_reducible assumption)|omega)|(with_reducible rfl)) (fun hb=>?_));(try rw[hb]);(try simp only[Aa]at hb))|((with_reducible refine A5 (fun hb=>?_) (fun hb=>?_))<;>first|(exact absurd hb (by decide))|((try rw[hb]);(try simp only[Aa]at hb)))|((with_reducible refine Ac ?_ ?_);focus (and_intros<;>first|omega|(with_reducible rfl)|kernel_rfl|(intro _ hh;cases hh;done)|(simp;done)|decide))|((with_reducible refine A5 ?_ ?_);focus (decide))|((with_reducible refine Ai2.mkV ?_ ?_ ?_ (fun Cq=>?_));(focus kernel_rfl);(focus kernel_rfl);(focus kernel_rfl);(try simp only[Bv,Bg,Dg,or_false,false_or,or_assoc,forall_eq_or_imp,forall_eq,false_implies,implies_true,forall_const,and_true,true_and]at Cq))|((refine Au ?_))|((with_reducible refine Ct.mk ?_);refine⟨_,hs,?_⟩;rintro _ _ ⟨rfl,rfl⟩)|(((with_reducible apply A9));(focus (simp only[D.at,D.put,D.Xw,D.Fh,Mg,Jo,D.Bx,Js,Ad,Af,h1,h3,Cn.toD,Tal.Bx]<;>exact rfl)))|(((with_reducible apply A3));(focus rfl);(focus (simp only[D.at,D.put,D.Xw,D.Fh,Mg,Jo,D.Bx,Js,Ad,Af,h1,h3,Cn.toD,Tal.Bx]<;>exact rfl));(try(focus exact rfl))))
 all_goals(try(conv=>whnf))
 (apply dKq<;>kernel_rfl)
theorem Ai5(hof:Zb)(s:Cn)(hB:s.Bd)(n:Az)(hn:n.length≤100000)(x:Sp)(rev most:Int)(ht:0≤(s.Zp n).rev∧(s.Zp n).rev≤9000000000000000000):
 Fn Tryd.prog C9 [sP s,.v (.str n),.v x.Bx,.v (ti rev),.v (ti most)] (Is (.tup [.i (.list ((s.An4 n x rev most).1.map Pr.Bx)),.i (.bool (s.An4 n x rev most).2.1),.i (ti (s.An4 n x rev most).2.2)]) [sP s,.no,.no,.no,.no]):=by
 unfold Cn.An4;cases hf:s.fi n with
 |none=>exact Ai0 s n x rev most hf
 |some i=>
  simp only[Option.isNone_some,Ado,if_false];by_cases hb:SpR x∧0≤rev∧1≤most∧most≤16
  case neg=>simp only[hb,not_false_eq_true,if_true];exact Ajb s n x rev most i hf hb
  by_cases hr:(s.Zp n).rev<rev
  case pos=>simp only[hb,hr,not_true_eq_false,if_false,if_true,and_self];exact Aig s n x rev most i hf hb hr
  by_cases hr2:0<rev∧rev<(s.Zp n).floor
  case pos=>simp only[hb,hr,hr2,not_true_eq_false,if_false,if_true,and_self];exact Ai1 s n x rev most i hf hb hr hr2
  by_cases h0:rev=0
  ·subst h0;simp only[hb,hr,hr2,not_true_eq_false,if_false,if_true,and_self];exact range_zero hof s hB n hn x _ most i hf hb.1 ⟨rfl,by omega⟩ hb.2.2 _ rfl
  ·simp only[hb,hr,hr2,h0,not_true_eq_false,if_false,if_true,and_self];exact Ab6 hof s hB n hn x rev most i hf hb.1 ⟨by omega,by omega,by omega,by omega⟩ hb.2.2 _ rfl

open Go.Shelf Go.RowKit Go.Lib Go.Proofs
variable{P:Program}{ρ:Ren}
structure Bab(P:Program)(ρ:Ren)(i0:TypeInfo)(zv:Value):Prop where
 mixed:P.follows .mixedOrders=true
 f22:Bears P (ρ.f 22) (Body2.n22 ρ)
 f29:∀(a:Array Value) (w:World) (v:Value),(Extern.SlicesOverlaps.overlaps #[(ρ.t 24),(ρ.t 24)] #[(ρ.t 4)] a).run P w= .ok v w→(callFunc (ρ.f 29) a).run P w= .ok (.value v) w
 t0:P.underlying (ρ.t 0)=some (TypeDesc.tuple #[])
 a0:∀w,(isAgg (ρ.t 0)).run P w= .ok false w
 z0:∀w,(Go.sizeOf (ρ.t 0)).run P w= .ok 1 w
 v0:∀w,(zeroValue (ρ.t 0)).run P w= .ok (Value.tuple #[]) w
 t3:P.underlying (ρ.t 3)=some (TypeDesc.int IntKind.i64)
 a3:∀w,(isAgg (ρ.t 3)).run P w= .ok false w
 z3:∀w,(Go.sizeOf (ρ.t 3)).run P w= .ok 1 w
 v3:∀w,(zeroValue (ρ.t 3)).run P w= .ok (Value.int IntKind.i64 0) w
 t4:P.underlying (ρ.t 4)=some (TypeDesc.bool)
 a4:∀w,(isAgg (ρ.t 4)).run P w= .ok false w
 z4:∀w,(Go.sizeOf (ρ.t 4)).run P w= .ok 1 w
 v4:∀w,(zeroValue (ρ.t 4)).run P w= .ok (Value.bool false) w
 t24:P.underlying (ρ.t 24)=some (TypeDesc.slice (ρ.t 9))
 a24:∀w,(isAgg (ρ.t 24)).run P w= .ok false w
 z24:∀w,(Go.sizeOf (ρ.t 24)).run P w= .ok 1 w
 v24:∀w,(zeroValue (ρ.t 24)).run P w= .ok (Value.slice none 0 0) w
 z9:∀w,(Go.sizeOf (ρ.t 9)).run P w= .ok i0.size w
 i9:P.info? (ρ.t 9)=some i0
 iz:i0.zero=some zv
 izs:zv.cells.size=i0.size
 Bbx:0<i0.size
 ib:i0.bytes≤100000
theorem G8(w:World)(dT sT ty elem:TypeId)(b o Bhv Bsw:Nat)(a:Addr)(Bjd Buv:Nat)(cs:List Value)(i:TypeInfo)
 (hu:P.underlying dT=some (.slice elem)) (hs:P.info? elem=some i) (hn:cs.length=Nat.min Bjd Bhv*i.size)
 (Bir:∀j v,cs[j]?=some v→w.cell? (a.add j)=some v) (hc:∀j,j<cs.length→(w.cell? ⟨b,o+j,none⟩).isSome=true) (hf:∀j,j<cs.length→w.frozen? ⟨b,o+j,none⟩=false) (h1:∀v∈cs,v.oneCell'=true):
 (Builtin.copy_ #[dT,sT] ty #[.slice (some ⟨b,o,none⟩) Bhv Bsw,.slice (some a) Bjd Buv]).run P w= .ok (goInt (Nat.min Bjd Bhv)) (w.setCells b o cs):=by
 have hl:=run_loadCells_list (P:=P) w a cs Bir;have hst:=run_storeCells_cells (P:=P) b o cs 0 w (by simpa using hc) (by simpa using hf) h1
 simp[Builtin.copy_,run_underlying hu,Builtin.lenOf,Builtin.firstCells,sizeOf,typeInfo,hs, ←hn,hl,hst]
set_option maxHeartbeats 4000000 in
set_option maxRecDepth 100000 in
theorem Abq{i0:TypeInfo}{zv:Value}(L:Bab P ρ i0 zv)(b n c i vb vc:Nat)(cs vs:List Value)(w:World)(hi:i<n)(A7j:n+1≤c)(By6:c≤9223372036854775807)(hvb:vb≠b)
 (hcl:cs.length=n*i0.size) (hvl:vs.length=1*i0.size)
 (hcs:∀j v,cs[j]?=some v→w.cell? ⟨b,j,none⟩=some v) (hsp:∀j,j<(n+1)*i0.size→(w.cell? ⟨b,j,none⟩).isSome=true) (hfz:∀j,j<(n+1)*i0.size→w.frozen? ⟨b,j,none⟩=false)
 (hvs:∀j v,vs[j]?=some v→w.cell? ⟨vb,j,none⟩=some v) (h1c:∀v∈cs,v.oneCell'=true) (h1v:∀v∈vs,v.oneCell'=true)
 (tA tB:TypeId) (kA kB:Nat) (hsa:w.shape? vb=some (tA,kA)) (hsb:w.shape? b=some (tB,kB)) (hkB:kB≠0) (hfa:w.frozen? ⟨vb,0,none⟩=false) (hfe:w.frozen? ⟨vb,kA,none⟩=false):
 Calls P (ρ.f 22) #[.slice (some ⟨b,0,none⟩) n c,.int .i64 i,.slice (some ⟨vb,0,none⟩) 1 vc] w fun e w'=>
  e= .returned (.slice (some ⟨b,0,none⟩) (n+1) c)∧w'=(w.drew.setCells b (i*i0.size+i0.size) (cs.drop (i*i0.size))).setCells b (i*i0.size) vs:=by
 have t0:=L.t0;have a0:=L.a0;have z0:=L.z0;have v0:=L.v0;have t3:=L.t3;have a3:=L.a3;have z3:=L.z3;have v3:=L.v3;have t4:=L.t4;have a4:=L.a4;have z4:=L.z4;have v4:=L.v4;have z9:=L.z9;have t24:=L.t24;have a24:=L.a24;have z24:=L.z24;have v24:=L.v24;have u0:=run_underlying L.t0;have u3:=run_underlying L.t3;have u4:=run_underlying L.t4;have u24:=run_underlying L.t24;have hz2:¬((i:Int)=(n:Int)):=by omega
 have hov:∀o lb cb,(callFunc (ρ.f 29) #[.slice (some ⟨vb,0,none⟩) 1 vc,.slice (some ⟨b,o,none⟩) lb cb]).run P w= .ok (.value (.bool false)) w:=fun o lb cb=>by
  exact L.f29 _ w _ (Lib.run_overlaps_apart w (ρ.t 24) (ρ.t 4) (ρ.t 9) L.t24 i0.size L.z9 ⟨vb,0,none⟩ ⟨b,o,none⟩ 1 vc lb cb hvb tA tB kA kB hsa hsb hkB hfa hfe)
 have hnk:(n+1)*i0.size=n*i0.size+i0.size:=Nat.succ_mul ..;have hik:(i+1)*i0.size=i*i0.size+i0.size:=Nat.succ_mul ..;have Bia:i*i0.size+i0.size≤n*i0.size:=by rw[←hik];exact Nat.mul_le_mul_right _ hi
 have hdl:(cs.drop (i*i0.size)).length=(n - i)*i0.size:=by rw[List.length_drop,hcl,Nat.sub_mul]
 have hni:(n - i)*i0.size=n*i0.size - i*i0.size:=Nat.sub_mul ..;have mixed:=L.mixed;have hw1:IntKind.i64.wrap ((i:Int)+(1:Int))=(i:Int)+(1:Int):=by rw[IntKind.wrap_i64];omega
 have hb1:(0:Int)≤(i:Int)+(1:Int):=by omega
 have hin:i≤n:=by omega
 have htn:((i:Int)+(1:Int)).toNat=i+1:=by omega
 have hb2:¬(c=i+1):=by omega
 have hb3:(i:Int)≤(n:Int)+(1:Int):=by omega
 have hb4:¬(c=i):=by omega
 have Bnr:∀ty dc sc,(Builtin.copy_ #[(ρ.t 24),(ρ.t 24)] ty #[.slice (some ⟨b,i*i0.size+i0.size,none⟩) (n - i) dc,.slice (some ⟨b,i*i0.size,none⟩) (n+1 - i) sc]).run P w.drew= .ok (goInt (Nat.min (n+1 - i) (n - i))) (w.drew.setCells b (i*i0.size+i0.size) (cs.drop (i*i0.size))):=fun ty dc sc=>
  G8 w.drew _ _ ty (ρ.t 9) b (i*i0.size+i0.size) (n - i) dc ⟨b,i*i0.size,none⟩ (n+1 - i) sc (cs.drop (i*i0.size)) i0 L.t24 L.i9 (by rw[hdl];congr 1;simp only[Nat.min_def];split<;>omega)
   (fun j v hj=>by rw[Addr.add_lit];exact hcs _ v (by rwa [List.getElem?_drop]at hj))
   (fun j hj=>hsp _ (by omega)) (fun j hj=>hfz _ (by omega)) (fun v hv=>h1c v (List.mem_of_mem_drop hv))
 obtain⟨W1,hW1⟩:∃W1,W1=w.drew.setCells b (i*i0.size+i0.size) (cs.drop (i*i0.size)):=⟨_,rfl⟩;have Biq:∀k,k<(n+1)*i0.size→(W1.cell? ⟨b,k,none⟩).isSome=true:=fun k hk=>by
  rw[hW1];exact isSome_setCells b _ _ _ (fun j hj=>by rw[hdl]at hj;exact hsp _ (by omega)) _ (hsp k hk)
 have Btj:∀(W:World),(∀x,W.cell? x=W1.cell? x)→(∀x,W.frozen? x=W1.frozen? x)→∀ty dc,(Builtin.copy_ #[(ρ.t 24),(ρ.t 24)] ty #[.slice (some ⟨b,i*i0.size,none⟩) (n+1 - i) dc,.slice (some ⟨vb,0,none⟩) 1 vc]).run P W= .ok (goInt (Nat.min 1 (n+1 - i))) (W.setCells b (i*i0.size) vs):=fun W hWc hWf ty dc=>
  G8 W _ _ ty (ρ.t 9) b (i*i0.size) (n+1 - i) dc ⟨vb,0,none⟩ 1 vc vs i0 L.t24 L.i9 (by rw[hvl];congr 1;simp only[Nat.min_def];split<;>omega)
   (fun j v hj=>by
     rw[Addr.add_lit,hWc,hW1,World.cell?_setCells_out b _ _ _ _ (fun h _=>absurd h hvb),Nat.zero_add]
     exact hvs j v hj)
   (fun j hj=>by rw[hWc];exact Biq _ (by omega)) (fun j hj=>by rw[hWf,hW1,World.frozen?_setCells];exact hfz _ (by omega)) h1v
 rw[←hW1]at Bnr;obtain⟨_,_,FG⟩:=L.f22
 go_enter FG,Body2.n22_ntmps ρ
 go_wp2_with (simp only[hov])
 go_region_law_o (refine step_copy_runI rfl _ _ (ρ.t 24) (ρ.t 24) rfl _ _ (by simp[Act.eval,Act.put]) (by simp[Act.eval,Act.put]) (Bnr _ _ _) ?_)
 go_wp2_with (at_builtin;refine wpList_copy_runI _ rfl _ _ (ρ.t 24) (ρ.t 24) rfl _ _ rfl rfl (Btj _ (fun _=>rfl) (fun _=>rfl) _ _) ?_)
 go_ret
 first|exact⟨rfl,rfl⟩|exact⟨rfl,by rw[hW1]⟩
set_option maxHeartbeats 4000000 in
set_option maxRecDepth 100000 in
theorem Yc{i0:TypeInfo}{zv:Value}(L:Bab P ρ i0 zv)(base:Option Addr)(n c vb vc:Nat)(w:World)(Au3:base=none→n=0∧c=0)(hnc:n≤c){v':Value}{w':World}
 (Aih:∀ty,(Builtin.append_ #[(ρ.t 24),(ρ.t 24)] ty #[.slice base n c,.slice (some ⟨vb,0,none⟩) 1 vc]).run P w= .ok v' w'):
 Calls P (ρ.f 22) #[.slice base n c,.int .i64 n,.slice (some ⟨vb,0,none⟩) 1 vc] w fun e w1=>e= .returned v'∧w1=w':=by
 have t0:=L.t0;have a0:=L.a0;have z0:=L.z0;have v0:=L.v0;have t3:=L.t3;have a3:=L.a3;have z3:=L.z3;have v3:=L.v3;have t4:=L.t4;have a4:=L.a4;have z4:=L.z4;have v4:=L.v4;have z9:=L.z9;have t24:=L.t24;have a24:=L.a24;have z24:=L.z24;have v24:=L.v24;have u0:=run_underlying L.t0;have u3:=run_underlying L.t3;have u4:=run_underlying L.t4;have u24:=run_underlying L.t24;have mixed:=L.mixed;obtain⟨_,_,FG⟩:=L.f22
 go_enter FG,Body2.n22_ntmps ρ
 cases base with
 |none=>
  obtain⟨rfl,rfl⟩:=Au3 rfl
  go_wp2_with (at_builtin;refine Lib.wpList_append_run _ rfl _ _ _ _ rfl _ _ rfl rfl _ _ (Aih _) ?_)
  go_ret
  exact⟨rfl,rfl⟩
 |some a=>
  obtain⟨ab,ao,asp⟩:=a
  go_wp2_with (at_builtin;refine Lib.wpList_append_run _ rfl _ _ _ _ rfl _ _ rfl rfl _ _ (Aih _) ?_)
  all_goals(go_ret;exact⟨rfl,rfl⟩)
set_option maxHeartbeats 4000000 in
set_option maxRecDepth 100000 in
theorem Ad1{i0:TypeInfo}{zv:Value}(L:Bab P ρ i0 zv)(b n c i vb vc:Nat)(cs vs:List Value)(w:World)(hi:i<n)(hnc:n≤c)(A7j:c<n+1)(Avd:(n+1)*i0.bytes≤140737488355328)(hn:n≤1000000000)
 (hcl:cs.length=n*i0.size) (hvl:vs.length=1*i0.size)
 (hcs:∀j v,cs[j]?=some v→w.cell? ⟨b,j,none⟩=some v)
 (hvs:∀j v,vs[j]?=some v→w.cell? ⟨vb,j,none⟩=some v) (h1c:∀v∈cs,v.oneCell'=true) (h1v:∀v∈vs,v.oneCell'=true):
 Calls P (ρ.f 22) #[.slice (some ⟨b,0,none⟩) n c,.int .i64 i,.slice (some ⟨vb,0,none⟩) 1 vc] w fun e w'=>
  e= .returned (.slice (some ⟨w.heap.size,0,none⟩) (n+1) (grownCap w (n+1) c (ρ.t 9)))∧
  w'=(((w.alloc (.cells ((cs.take (i*i0.size)).toArray++Builtin.zeroCells zv.cells (n+1 - i)++Builtin.zeroCells zv.cells (grownCap w (n+1) c (ρ.t 9) - (n+1))) (ρ.t 9))).drew.setCells w.heap.size (i*i0.size) vs).drew).setCells w.heap.size (i*i0.size+i0.size) (cs.drop (i*i0.size)):=by
 have t0:=L.t0;have a0:=L.a0;have z0:=L.z0;have v0:=L.v0;have t3:=L.t3;have a3:=L.a3;have z3:=L.z3;have v3:=L.v3;have t4:=L.t4;have a4:=L.a4;have z4:=L.z4;have v4:=L.v4;have z9:=L.z9;have t24:=L.t24;have a24:=L.a24;have z24:=L.z24;have v24:=L.v24;have u0:=run_underlying L.t0;have u3:=run_underlying L.t3;have u4:=run_underlying L.t4;have u24:=run_underlying L.t24;have mixed:=L.mixed;have Bub:=L.Bbx;have hz2:¬((i:Int)=(n:Int)):=by omega
 have hz3:(c:Int)<(n:Int)+(1:Int):=by omega
 have hnk:(n+1)*i0.size=n*i0.size+i0.size:=Nat.succ_mul ..;have Btw:(i+1)*i0.size=i*i0.size+i0.size:=Nat.succ_mul ..;have Bia:i*i0.size+i0.size≤n*i0.size:=by rw[←Btw];exact Nat.mul_le_mul_right _ hi
 have hdl:(cs.drop (i*i0.size)).length=(n - i)*i0.size:=by rw[List.length_drop,hcl,Nat.sub_mul]
 have hni:(n - i)*i0.size=n*i0.size - i*i0.size:=Nat.sub_mul ..;have Bzd:(n+1 - i)*i0.size=n*i0.size+i0.size - i*i0.size:=by rw[Nat.sub_mul,hnk]
 have hbw:b<w.heap.size:=block_lt_of_cell (hcs 0 _ (List.getElem?_eq_getElem (by omega)))
 have hvw:vb<w.heap.size:=block_lt_of_cell (hvs 0 _ (List.getElem?_eq_getElem (by omega)))
 have hkk:(n:Int)+(1:Int) - (i:Int)=((n+1 - i:Nat):Int):=by omega
 have hik:i+(n+1 - i)=n+1:=by omega
 have hold:(Builtin.firstCells i0.size i (.slice (some ⟨b,0,none⟩) i c)).run P w.drew= .ok (cs.take (i*i0.size)).toArray w.drew:=
  run_firstCells_some w.drew i0.size i ⟨b,0,none⟩ i c (cs.take (i*i0.size)) (by rw[List.length_take];omega) (fun j v hj=>by
   rw[Addr.add_lit,Nat.zero_add];rw[List.getElem?_take]at hj;split at hj
   ·exact hcs j v hj
   ·cases hj)
 have hrz:∀ty,(Builtin.append_ #[(ρ.t 24),(ρ.t 3)] ty #[.slice (some ⟨b,0,none⟩) i c,.int .i64 ((n:Int)+(1:Int) - (i:Int))]).run P w=
  .ok (.slice (some ⟨w.heap.size,0,none⟩) (n+1) (grownCap w (n+1) c (ρ.t 9))) (w.drew.alloc (.cells ((cs.take (i*i0.size)).toArray++Builtin.zeroCells zv.cells (n+1 - i)++Builtin.zeroCells zv.cells (grownCap w (n+1) c (ρ.t 9) - (n+1))) (ρ.t 9))):=fun ty=>by
  have h:=Lib.run_append_grow_zeros w (ρ.t 24) (ρ.t 3) ty (ρ.t 9) i0 _ .i64 .i64 L.t24 L.t3 L.i9 L.iz (some ⟨b,0,none⟩) i c (cs.take (i*i0.size)) hold (n+1 - i) (by omega) (by omega) (by omega) (by omega) (by
   have:(n+1 - i)*i0.bytes≤(n+1)*i0.bytes:=Nat.mul_le_mul_right _ (by omega)
   omega) (by rw[hik];exact growslice_fits A7j Avd)
  rw[hik]at h;rw[hkk];exact h
 obtain⟨G,hG⟩:∃G,G=grownCap w (n+1) c (ρ.t 9):=⟨_,rfl⟩;obtain⟨ROW,Bh1⟩:∃ROW:Array Value,ROW=(cs.take (i*i0.size)).toArray++Builtin.zeroCells zv.cells (n+1 - i)++Builtin.zeroCells zv.cells (G - (n+1)):=⟨_,rfl⟩;rw[←hG]at hrz ⊢;rw[←Bh1]at hrz ⊢;have hRl:(n+1)*i0.size≤ROW.size:=by
  rw[Bh1];have e1:(Builtin.zeroCells zv.cells (n+1 - i)).size=(n+1 - i)*i0.size:=by rw[←L.izs];simp[Builtin.zeroCells]
  simp only[Array.size_append,e1,List.size_toArray,List.length_take];omega
 obtain⟨W1,hW1⟩:∃W1,W1=w.drew.alloc (.cells ROW (ρ.t 9)):=⟨_,rfl⟩;rw[←hW1]at hrz;have hN:∀j,j<(n+1)*i0.size→(W1.cell? ⟨w.heap.size,j,none⟩).isSome=true:=fun j hj=>by
  rw[hW1,World.cell?_alloc_at (w:=w.drew) ROW _ w.heap.size j rfl,Array.getElem?_eq_getElem (by omega)];rfl
 have hNf:∀j,W1.frozen? ⟨w.heap.size,j,none⟩=false:=fun j=>by rw[hW1];exact World.frozen?_alloc_at (w:=w.drew) ROW _ w.heap.size j rfl
 have hOb:∀j v,w.cell? ⟨b,j,none⟩=some v→W1.cell? ⟨b,j,none⟩=some v:=fun j v h=>by rw[hW1,World.cell?_alloc_past (w:=w.drew) _ b j hbw];exact h
 have hOv:∀j v,w.cell? ⟨vb,j,none⟩=some v→W1.cell? ⟨vb,j,none⟩=some v:=fun j v h=>by rw[hW1,World.cell?_alloc_past (w:=w.drew) _ vb j hvw];exact h
 have Btk:∀(W:World),(∀x,W.cell? x=W1.cell? x)→(∀x,W.frozen? x=W1.frozen? x)→∀ty dc,(Builtin.copy_ #[(ρ.t 24),(ρ.t 24)] ty #[.slice (some ⟨w.heap.size,i*i0.size,none⟩) (n+1 - i) dc,.slice (some ⟨vb,0,none⟩) 1 vc]).run P W= .ok (goInt (Nat.min 1 (n+1 - i))) (W.setCells w.heap.size (i*i0.size) vs):=fun W hWc hWf ty dc=>
  G8 W _ _ ty (ρ.t 9) w.heap.size (i*i0.size) (n+1 - i) dc ⟨vb,0,none⟩ 1 vc vs i0 L.t24 L.i9 (by rw[hvl];congr 1;simp only[Nat.min_def];split<;>omega)
   (fun j v hj=>by rw[Addr.add_lit,hWc,Nat.zero_add];exact hOv _ v (hvs j v hj))
   (fun j hj=>by rw[hWc];exact hN _ (by omega)) (fun j hj=>by rw[hWf];exact hNf _) h1v
 have hGn:n+1≤G:=by rw[hG];exact grownCap_ge w _ _ _
 have By2:G≤9223372036854775807:=by
  have:=grownCap_le_maxLen w (n+1) c (ρ.t 9) (by unfold maxLen;omega)
  rw[←hG]at this;unfold maxLen at this;omega
 have hGi:¬(G=i):=by omega
 have By3:¬(G=i+1):=by omega
 have hci:¬(c=i):=by omega
 have hbN:b≠w.heap.size:=by omega
 have Bns:∀(W:World),(∀x,W.cell? x=(W1.setCells w.heap.size (i*i0.size) vs).cell? x)→(∀x,W.frozen? x=(W1.setCells w.heap.size (i*i0.size) vs).frozen? x)→∀ty dc sc,(Builtin.copy_ #[(ρ.t 24),(ρ.t 24)] ty #[.slice (some ⟨w.heap.size,i*i0.size+i0.size,none⟩) (n - i) dc,.slice (some ⟨b,i*i0.size,none⟩) (n - i) sc]).run P W= .ok (goInt (Nat.min (n - i) (n - i))) (W.setCells w.heap.size (i*i0.size+i0.size) (cs.drop (i*i0.size))):=fun W hWc hWf ty dc sc=>
  G8 W _ _ ty (ρ.t 9) w.heap.size (i*i0.size+i0.size) (n - i) dc ⟨b,i*i0.size,none⟩ (n - i) sc (cs.drop (i*i0.size)) i0 L.t24 L.i9 (by rw[hdl];congr 1;simp only[Nat.min_def];split<;>omega)
   (fun j v hj=>by
     rw[Addr.add_lit,hWc,World.cell?_setCells_out _ _ _ _ _ (fun h _=>absurd h hbN)]
     exact hOb _ v (hcs _ v (by rwa [List.getElem?_drop]at hj)))
   (fun j hj=>by rw[hWc];rw[hdl]at hj;exact isSome_setCells _ _ _ _ (fun t ht=>hN _ (by omega)) _ (hN _ (by omega)))
   (fun j hj=>by rw[hWf,World.frozen?_setCells];exact hNf _) (fun v hv=>h1c v (List.mem_of_mem_drop hv))
 subst hW1;have hE1:∀x,((w.alloc (.cells ROW (ρ.t 9))).drew).cell? x=(w.drew.alloc (.cells ROW (ρ.t 9))).cell? x:=fun x=>rfl
 have hE2:∀x,((w.alloc (.cells ROW (ρ.t 9))).drew).frozen? x=(w.drew.alloc (.cells ROW (ρ.t 9))).frozen? x:=fun x=>rfl
 have hF1:∀x,(((w.alloc (.cells ROW (ρ.t 9))).drew.setCells w.heap.size (i*i0.size) vs).drew).cell? x=((w.drew.alloc (.cells ROW (ρ.t 9))).setCells w.heap.size (i*i0.size) vs).cell? x:=fun x=>rfl
 have hF2:∀x,(((w.alloc (.cells ROW (ρ.t 9))).drew.setCells w.heap.size (i*i0.size) vs).drew).frozen? x=((w.drew.alloc (.cells ROW (ρ.t 9))).setCells w.heap.size (i*i0.size) vs).frozen? x:=fun x=>rfl
 have hw1:IntKind.i64.wrap ((i:Int)+(1:Int))=(i:Int)+(1:Int):=by rw[IntKind.wrap_i64];omega
 have hb1:(0:Int)≤(i:Int)+(1:Int):=by omega
 have hin:i≤n:=by omega
 have htn:((i:Int)+(1:Int)).toNat=i+1:=by omega
 have hb3:(i:Int)≤(n:Int):=by omega
 clear hkk hik hold Bh1 hG hRl;obtain⟨_,_,FG⟩:=L.f22
 go_enter FG,Body2.n22_ntmps ρ
 go_wp2_with (first
  |(at_builtin;refine Lib.wpList_append_run _ rfl _ _ _ _ rfl _ _ rfl rfl _ _ (hrz _) ?_)
  |(at_builtin;refine wpList_copy_runI _ rfl _ _ (ρ.t 24) (ρ.t 24) rfl _ _ rfl rfl (Btk _ hE1 hE2 _ _) ?_)
  |(at_builtin;refine wpList_copy_runI _ rfl _ _ (ρ.t 24) (ρ.t 24) rfl _ _ rfl rfl (Bns _ (fun _=>rfl) (fun _=>rfl) _ _ _) ?_))
 go_region_law_o (refine step_copy_runI rfl _ _ (ρ.t 24) (ρ.t 24) rfl (.slice (some ⟨w.heap.size,i*i0.size+i0.size,none⟩) (n - i) (G - (i+1))) (.slice (some ⟨b,i*i0.size,none⟩) (n - i) (c - i)) (by simp[Act.eval,Act.put]) (by simp[Act.eval,Act.put]) (Bns _ hF1 hF2 (ρ.t 3) (G - (i+1)) (c - i)) ?_)
 go_wp2
 go_ret
 exact⟨rfl,rfl⟩
end Go.Ab
