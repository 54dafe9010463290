/- Lemmas -/
import Derived.Test.YtkpojedpcabojaaDoorW4
set_option linter.unusedVariables false
set_option linter.unusedSimpArgs false
set_option maxRecDepth 100000
set_option maxHeartbeats 40000000
namespace Go.Ab
open Go.Proofs
def verN:Ver:=⟨0,0,[],false⟩
def Un(vs:List Ver):Nat→Ver × Bool
 |0=>(verN,false)
 |i+1=>match vs[i]? with
  |some v=>if v.gone=true then(verN,false)else(v,true)
  |none=>(verN,false)
def D1(vs:List Ver)(rev:Int):Ver × Bool:=Un vs (Km (ltV (rev+1)) vs)
theorem Ns(a:Az)(vs:List Ver)(rev:Int)(hr: -1≤rev∧rev≤9000000000000000000)(hl:vs.length≤100000):
 Fn Tryd.prog Ky [.v (.agg [.str a,.list (vs.map Ver.toI)]),.v (ti rev)] (Is (.tup [.i (D1 vs rev).1.toI,.i (.bool (D1 vs rev).2)]) [.no,.no]):=by
 refine Kn ?_ (by simp)
 have hw:IntKind.i64.wrap (rev+1)=rev+1:=Bf (by omega)
 have hbs:=Aay vs (rev+1) hl;have hle:=Hp (ltV (rev+1)) vs;obtain⟨A,hA⟩:∃A,A=Km (ltV (rev+1)) vs:=⟨_,rfl⟩;obtain⟨B,hB⟩:∃B,B=bsF (ltV (rev+1)) (eqV (rev+1)) vs:=⟨_,rfl⟩;have hM:D1 vs rev=Un vs A:=by rw[hA];rfl
 rw[←hA, ←hB]at hbs;rw[←hA]at hle;rw[hM];cases A with
 |zero=>
  have h0:¬decide (((0:Nat):Int)=0)=false:=by simp
  repeat'((conv=>whnf);first|((with_reducible refine Ax (by first|(with_reducible exact Bool.of_not_eq_false (by assumption))|(with_reducible rfl)) (fun hb=>?_));(try rw[hb]);(try simp only[Aa]at hb))|((with_reducible refine Exists.intro ?_ ?_);focus (and_intros<;>first|omega|kernel_rfl|(intro _ hh;cases hh;done)|(simp;done)|decide))|((try dsimp only);rw[hw])|((with_reducible refine CallWp.mk ?_);refine⟨_,hbs,?_⟩;rintro _ _ ⟨rfl,rfl⟩))
  all_goals(try(conv=>whnf))
  (apply dKq<;>kernel_rfl)
 |succ i=>
  obtain⟨v,hv⟩:∃v,vs[i]?=some v:=⟨_,List.getElem?_eq_getElem (by omega)⟩
  have h0:¬decide (((i+1:Nat):Int)=0)=true:=by simp;omega
  have hw2:IntKind.i64.wrap (((i+1:Nat):Int) - 1)=(i:Int):=by rw[Bf (by omega)];omega
  have hN:Un vs (i+1)=if v.gone=true then(verN,false)else(v,true):=by simp only[Un,hv]
  rw[hN];cases hg:v.gone with
  |true=>
   repeat'((conv=>whnf);first|((with_reducible refine Ax (by(with_reducible assumption)) (fun hb=>?_));(try rw[hb]))|((with_reducible refine Aw (by first|(with_reducible exact Bool.of_not_eq_true (by assumption))|(with_reducible rfl)) (fun hb=>?_));(try rw[hb]);(try simp only[Aa]at hb))|((with_reducible refine Exists.intro ?_ ?_);focus (and_intros<;>first|omega|kernel_rfl|(intro _ hh;cases hh;done)|(simp;done)|decide))|((try dsimp only);rw[hw])|((with_reducible refine CallWp.mk ?_);refine⟨_,hbs,?_⟩;rintro _ _ ⟨rfl,rfl⟩)|((try dsimp only);rw[hw2])|(skip;(rw[B6 hv])))
   all_goals(try(conv=>whnf))
   (apply dKq<;>kernel_rfl)
  |false=>
   repeat'((conv=>whnf);first|((with_reducible refine Aw (by first|(with_reducible assumption)|(with_reducible exact Bool.of_not_eq_true (by assumption))|(with_reducible rfl)) (fun hb=>?_));(try rw[hb]);(try simp only[Aa]at hb))|((with_reducible refine Exists.intro ?_ ?_);focus (and_intros<;>first|omega|kernel_rfl|(intro _ hh;cases hh;done)|(simp;done)|decide))|((try dsimp only);rw[hw])|((with_reducible refine CallWp.mk ?_);refine⟨_,hbs,?_⟩;rintro _ _ ⟨rfl,rfl⟩)|((try dsimp only);rw[hw2])|(skip;(rw[B6 hv])))
   all_goals(try(conv=>whnf))
   (apply dKq<;>kernel_rfl)

open Go.Proofs
def Ep(n:Az)(x:Sp)(rev most:Int):List Hld→List Pr→List Pr × Bool
 | [],out=>(out,false)
 |h::r,out=>if(C1 h.at_).1≠n then(out,false)else if ¬Bw x (C1 h.at_).2.1 then Ep n x rev most r out else
  if(D1 h.vs rev).2=false then Ep n x rev most r out else if(out.length:Int)=most then(out,true)else
  Ep n x rev most r (out++[⟨(C1 h.at_).2.1,(D1 h.vs rev).1.val,(D1 h.vs rev).1.made,(D1 h.vs rev).1.rev⟩])
def Zb:Prop:=∃T1 T2,OfC Tryd.prog Pw Mu T1 T2
structure Sto.Bd(s:Sto):Prop where
 len:s.l.length≤90000
 held:∀h∈s.l,h.at_.length≤1000000∧h.vs≠[]∧h.vs.length≤90000
theorem Ab6(hof:Zb)(s:Sto)(hB:s.Bd)(n:Az)(hn:n.length≤100000)(x:Sp)(rev most:Int)(i:Nat)(hf:s.fi n=some i)(hx:SpR x)(hr:0<rev∧rev≤(s.tal n).rev∧(s.tal n).floor≤rev∧rev≤9000000000000000000)(hm:1≤most∧most≤16)(RES:List Pr × Bool)(hRES:Ep n x rev most (s.l.drop (Km (Kh (B7 n [])) s.l)) []=RES):
 Fn Tryd.prog C9 [sP s,.v (.str n),.v x.toI,.v (ti rev),.v (ti most)] (Is (.tup [.i (.list (RES.1.map Pr.toI)),.i (.bool RES.2),.i (ti 0)]) [sP s,.no,.no,.no,.no]):=by
 obtain⟨T1,T2,hof⟩:=hof;refine D0 ?_ (by simp)
 obtain⟨h1,h2,h3⟩:=Sto.fi_some hf;have hs:=Pu x;rw[decide_eq_true hx]at hs;have hI:=U8 s.l;have hwh:=L1 n [] hn (by simp)
 have hbs:=L0 s.l (B7 n []) (by have:=hB.len;omega)
 obtain⟨A,hA⟩:∃A,A=Km (Kh (B7 n [])) s.l:=⟨_,rfl⟩;obtain⟨B,hB'⟩:∃B,B=bsF (Kh (B7 n [])) (eqH (B7 n [])) s.l:=⟨_,rfl⟩;rw[←hA, ←hB']at hbs;repeat'((conv=>whnf);first|((with_reducible refine Ax (by first|((with_reducible refine decide_eq_true ?_);omega)|(with_reducible rfl)) (fun hb=>?_));(try rw[hb]);(try simp only[Aa]at hb))|((with_reducible refine Aw (by first|((with_reducible refine decide_eq_false ?_);omega)|(with_reducible rfl)) (fun hb=>?_));(try rw[hb]);(try simp only[Aa]at hb))|((with_reducible refine And.intro (fun hb=>?_) (fun hb=>?_))<;>first|(exact absurd hb (by decide))|((try rw[hb]);(try simp only[Aa]at hb)))|((with_reducible refine Exists.intro ?_ ?_);focus (and_intros<;>first|omega|(with_reducible rfl)|kernel_rfl|(intro _ hh;cases hh;done)|(simp;done)|decide))|(with_reducible intro hfact)|((with_reducible refine And.intro ?_ ?_);focus (first|(with_reducible rfl)|decide))|((with_reducible refine Drawn.mkV ?_ ?_ ?_ (fun hfact=>?_));(focus kernel_rfl);(focus kernel_rfl);(focus kernel_rfl);(try simp only[dRS]at hfact))|((refine Au ?_))|((with_reducible refine CallWp.mk ?_);refine⟨_,hs,?_⟩;rintro _ _ ⟨rfl,rfl⟩)|((refine Abo hof ?_))|((with_reducible refine CallWp.mk ?_);refine⟨_,hwh,?_⟩;rintro _ _ ⟨rfl,rfl⟩)|((refine Bj ?_ (by decide)))|((with_reducible refine CallWp.mk ?_);refine⟨_,hbs,?_⟩;rintro _ _ ⟨rfl,rfl⟩)|(((with_reducible apply A9));(focus (simp only[D.at,D.put,D.kid,D.setKid,mkSt,Jo,D.toI,toIs,Ad,Af,h1,h3,hI,Sto.toD,Tal.toI]<;>exact rfl)))|(((with_reducible apply A3));(focus rfl);(focus (simp only[D.at,D.put,D.kid,D.setKid,mkSt,Jo,D.toI,toIs,Ad,Af,h1,h3,hI,Sto.toD,Tal.toI]<;>exact rfl));(try(focus exact rfl))))
 all_goals(try(conv=>whnf))
 have hAl:A≤s.l.length:=by rw[hA];exact Hp _ _
 rw[←hA]at hRES;refine LoopWq.by (X:=Nat × List Pr) (fun y=>[(5,.v (ti (y.1:Int))),(65,.own [] (.ptr (.vec 67 4 ((y.2.map Pr.toI).map D.it))))]) (fun y=>y.1≤s.l.length∧(y.2.length:Int)≤most∧Ep n x rev most (s.l.drop y.1) y.2=RES) (fun y=>s.l.length - y.1) (A,[]) (by kernel_rfl) ⟨hAl,by simp;omega,hRES⟩ ?_
 rintro⟨j,out⟩ ⟨hj,ho,hR⟩;dsimp only at hj ho hR ⊢;have hlen:=hB.len;have hlm:(s.l.map Hld.toD).length=s.l.length:=List.length_map _;have hw:IntKind.i64.wrap ((j:Int)+1)=((j+1:Nat):Int):=Dk (n:=100000) (by omega) (by simp only[maxLen];omega)
 by_cases hjl:j<s.l.length
 case neg=>
  have hlt:¬decide ((j:Int)<(s.l.length:Int))=true:=by simp;omega
  rw[List.drop_eq_nil_of_le (by omega)]at hR
  have hR:(out,false)=RES:=hR;subst hR;repeat'((conv=>whnf);first|((with_reducible refine Aw (by first|(with_reducible exact Bool.of_not_eq_true (by assumption))|((with_reducible refine decide_eq_false ?_);omega)) (fun hb=>?_));(try rw[hb]);(try simp only[Aa]at hb))|((with_reducible refine Exists.intro ?_ ?_);focus (and_intros<;>first|omega|(with_reducible rfl)|kernel_rfl|(simp;done)))|(with_reducible intro hfact)|((with_reducible refine And.intro ?_ ?_);focus ((with_reducible rfl)))|(((with_reducible apply A9));(focus (simp only[D.at,D.put,D.kid,D.setKid,mkSt,Jo,D.toI,toIs,Ad,Af,Sto.toD,hlm]<;>exact rfl))))
  all_goals(try(conv=>whnf))
  (apply dKq<;>kernel_rfl)
 obtain⟨h,he⟩:∃h,s.l[j]?=some h:=⟨_,List.getElem?_eq_getElem hjl⟩;have hlt:¬decide ((j:Int)<(s.l.length:Int))=false:=by simp;omega
 obtain⟨hb1,hb2,hb3⟩:=hB.held h (List.mem_of_getElem? he);have hwho:=L2 h.at_ hb1;have hdr:s.l.drop j=h::s.l.drop (j+1):=by rw[List.drop_eq_getElem_cons hjl];rw[List.getElem?_eq_getElem hjl]at he;cases he;rfl
 rw[hdr]at hR;simp only[Ep]at hR;have hver:=Ns h.at_ h.vs rev (by omega) (by omega)
 have hsh:=Tu x (C1 h.at_).2.1;generalize C1 h.at_=wk at hwho hR hsh;obtain⟨w,k,z⟩:=wk;generalize D1 h.vs rev=vb at hver hR;obtain⟨v,b⟩:=vb;dsimp only at hwho hR hsh hver;have hDI:=Hld.toD_I h;simp only[Hld.toI]at hDI;by_cases hwn:w=n
 case neg=>
  have hnb:¬(!decide (w=n))=false:=by simpa using hwn
  have hnb2:¬decide (w=n)=true:=by simpa using hwn
  rw[if_pos hwn]at hR;subst hR;repeat'((conv=>whnf);first|((with_reducible refine Ax (by first|(with_reducible exact Bool.of_not_eq_false (by assumption))|((with_reducible refine decide_eq_true ?_);omega)|(with_reducible rfl)) (fun hb=>?_));(try rw[hb]);(try simp only[Aa]at hb))|((with_reducible refine Exists.intro ?_ ?_);focus (and_intros<;>first|omega|(with_reducible rfl)|kernel_rfl|(intro _ hh;cases hh;done)|(simp;done)|decide))|(with_reducible intro hfact)|((with_reducible refine And.intro ?_ ?_);focus ((with_reducible rfl)))|((with_reducible refine CallWp.mk ?_);refine⟨_,hwho,?_⟩;rintro _ _ ⟨rfl,rfl⟩)|(((with_reducible apply A9));(focus (simp only[D.at,D.put,D.kid,D.setKid,mkSt,Jo,D.toI,toIs,Ad,Af,Sto.toD,hlm,he]<;>exact rfl)))|(((with_reducible apply A3));(focus rfl);(focus (simp only[D.at,D.put,D.kid,D.setKid,mkSt,Jo,D.toI,toIs,Ad,Af,Sto.toD,hlm,he]<;>exact rfl));(try(focus exact rfl))))
  all_goals(try(conv=>whnf))
  (apply dKq<;>kernel_rfl)
 subst hwn;rw[if_neg (by simp)]at hR
 have hnb:¬(!decide (w=w))=true:=by simp
 have hnb2:¬decide (w=w)=false:=by simp
 by_cases hxk:Bw x k
 case neg=>
  rw[if_pos hxk]at hR;rw[decide_eq_false hxk]at hsh;repeat'((conv=>whnf);first|((with_reducible refine Ax (by first|(with_reducible assumption)|(with_reducible exact Bool.of_not_eq_false (by assumption))|((with_reducible refine decide_eq_true ?_);omega)) (fun hb=>?_));(try rw[hb]);(try simp only[Aa]at hb))|((with_reducible refine Aw (by first|(with_reducible exact Bool.of_not_eq_true (by assumption))|(with_reducible rfl)) (fun hb=>?_));(try rw[hb]);(try simp only[Aa]at hb))|((with_reducible refine And.intro (fun hb=>?_) (fun hb=>?_))<;>first|(exact absurd hb (by decide))|((try rw[hb]);(try simp only[Aa]at hb)))|((with_reducible refine Exists.intro ?_ ?_);focus (and_intros<;>first|omega|(with_reducible rfl)|kernel_rfl|(intro _ hh;cases hh;done)|(simp;done)|decide))|(with_reducible intro hfact)|((with_reducible refine And.intro ?_ ?_);focus (first|(with_reducible rfl)|(exact rfl)))|((with_reducible refine CallWp.mk ?_);refine⟨_,hwho,?_⟩;rintro _ _ ⟨rfl,rfl⟩)|((with_reducible refine CallWp.mk ?_);refine⟨_,hsh,?_⟩;rintro _ _ ⟨rfl,rfl⟩)|((try dsimp only);rw[hw])|(((with_reducible apply A3));(focus rfl);(focus (simp only[D.at,D.put,D.kid,D.setKid,mkSt,Jo,D.toI,toIs,Ad,Af,Sto.toD,hlm,he]<;>exact rfl));(try(focus exact rfl))))
  all_goals(try(conv=>whnf))
  refine Round.by (j+1,out) ?_ ⟨by omega,ho,hR⟩ (by dsimp only;omega)
  try dsimp only
  show norm _ _=upd _ _
  kernel_rfl
 rw[if_neg (by simpa using hxk)]at hR
 rw[decide_eq_true hxk]at hsh;cases b with
 |false=>
  rw[if_pos rfl]at hR;repeat'((conv=>whnf);first|((with_reducible refine Ax (by first|(with_reducible assumption)|(with_reducible exact Bool.of_not_eq_false (by assumption))|((with_reducible refine decide_eq_true ?_);omega)) (fun hb=>?_));(try rw[hb]);(try simp only[Aa]at hb))|((with_reducible refine Aw (by first|(with_reducible exact Bool.of_not_eq_true (by assumption))|(with_reducible rfl)) (fun hb=>?_));(try rw[hb]);(try simp only[Aa]at hb))|((with_reducible refine And.intro (fun hb=>?_) (fun hb=>?_))<;>first|(exact absurd hb (by decide))|((try rw[hb]);(try simp only[Aa]at hb)))|((with_reducible refine Exists.intro ?_ ?_);focus (and_intros<;>first|omega|(with_reducible rfl)|kernel_rfl|(intro _ hh;cases hh;done)|(simp;done)|decide))|(with_reducible intro hfact)|((with_reducible refine And.intro ?_ ?_);focus (first|(with_reducible rfl)|(exact rfl)))|((with_reducible refine Drawn.mkV ?_ ?_ ?_ (fun hfact=>?_));(focus kernel_rfl);(focus kernel_rfl);(focus kernel_rfl);(try simp only[dRS]at hfact))|((with_reducible refine CallWp.mk ?_);refine⟨_,hwho,?_⟩;rintro _ _ ⟨rfl,rfl⟩)|((with_reducible refine CallWp.mk ?_);refine⟨_,hsh,?_⟩;rintro _ _ ⟨rfl,rfl⟩)|((with_reducible refine CallIs.mk ?_);refine⟨_,_,hver,?_⟩)|((try dsimp only);rw[hw])|((try dsimp only);rw[hDI])|(((with_reducible apply Ba));(focus (simp only[D.at,D.put,D.kid,D.setKid,mkSt,Jo,D.toI,toIs,Ad,Af,Sto.toD,hlm,he]<;>exact rfl)))|(((with_reducible apply A3));(focus rfl);(focus (simp only[D.at,D.put,D.kid,D.setKid,mkSt,Jo,D.toI,toIs,Ad,Af,Sto.toD,hlm,he]<;>exact rfl));(try(focus exact rfl))))
  all_goals(try(conv=>whnf))
  refine Round.by (j+1,out) ?_ ⟨by omega,ho,hR⟩ (by dsimp only;omega)
  try dsimp only
  show norm _ _=upd _ _
  kernel_rfl
 |true=>
  rw[if_neg (by simp)]at hR
  have hlo:((out.map Pr.toI).map D.it).length=out.length:=by simp
  by_cases hom:(out.length:Int)=most
  ·rw[if_pos hom]at hR;subst hR;have hom1:decide ((((out.map Pr.toI).map D.it).length:Int)=most)=true:=by rw[hlo];exact decide_eq_true hom
   repeat'((conv=>whnf);first|((with_reducible refine Ax (by first|(with_reducible assumption)|((with_reducible refine decide_eq_true ?_);omega)) (fun hb=>?_));(try rw[hb]);(try simp only[Aa]at hb);(try subst hb))|((with_reducible refine Aw (by first|(with_reducible assumption)|(with_reducible exact Bool.of_not_eq_true (by assumption))|(with_reducible rfl)) (fun hb=>?_));(try rw[hb]);(try simp only[Aa]at hb))|((with_reducible refine And.intro (fun hb=>?_) (fun hb=>?_))<;>first|(exact absurd hb (by decide))|((try rw[hb]);(try simp only[Aa]at hb)))|((with_reducible refine Exists.intro ?_ ?_);focus (and_intros<;>first|omega|(with_reducible rfl)|kernel_rfl|(intro _ hh;cases hh;done)|(simp;done)|decide))|(with_reducible intro hfact)|((with_reducible refine And.intro ?_ ?_);focus (first|(with_reducible rfl)|(exact rfl)))|((with_reducible refine Drawn.mkV ?_ ?_ ?_ (fun hfact=>?_));(focus kernel_rfl);(focus kernel_rfl);(focus kernel_rfl);(try simp only[dRS]at hfact))|((with_reducible refine CallWp.mk ?_);refine⟨_,hwho,?_⟩;rintro _ _ ⟨rfl,rfl⟩)|((with_reducible refine CallWp.mk ?_);refine⟨_,hsh,?_⟩;rintro _ _ ⟨rfl,rfl⟩)|((with_reducible refine CallIs.mk ?_);refine⟨_,_,hver,?_⟩)|((try dsimp only);rw[hDI])|((first|with_reducible apply A9|with_reducible apply Ba);(focus (simp only[D.at,D.put,D.kid,D.setKid,mkSt,Jo,D.toI,toIs,Ad,Af,Sto.toD,hlm,he]<;>exact rfl)))|(((with_reducible apply A3));(focus rfl);(focus (simp only[D.at,D.put,D.kid,D.setKid,mkSt,Jo,D.toI,toIs,Ad,Af,Sto.toD,hlm,he]<;>exact rfl));(try(focus exact rfl))))
   all_goals(try(conv=>whnf))
   (apply dKq<;>kernel_rfl)
  ·rw[if_neg hom]at hR;have hom1:decide ((((out.map Pr.toI).map D.it).length:Int)=most)=false:=by rw[hlo];exact decide_eq_false hom
   repeat'((conv=>whnf);first|((with_reducible refine Ax (by first|(with_reducible assumption)|(with_reducible exact Bool.of_not_eq_false (by assumption))|((with_reducible refine decide_eq_true ?_);omega)) (fun hb=>?_));(try rw[hb]);(try simp only[Aa]at hb))|((with_reducible refine Aw (by first|(with_reducible assumption)|(with_reducible exact Bool.of_not_eq_true (by assumption))|(with_reducible rfl)) (fun hb=>?_));(try rw[hb]);(try simp only[Aa]at hb))|((with_reducible refine And.intro (fun hb=>?_) (fun hb=>?_))<;>first|(exact absurd hb (by decide))|((try rw[hb]);(try simp only[Aa]at hb)))|((with_reducible refine Exists.intro ?_ ?_);focus (and_intros<;>first|omega|(with_reducible rfl)|kernel_rfl|(intro _ hh;cases hh;done)|exact Ah (by rfl)|exact Ag rfl|(simp only[An];omega)|(simp;done)|decide))|(with_reducible intro hfact)|((with_reducible refine And.intro ?_ ?_);focus (first|(with_reducible rfl)|(exact rfl)))|((with_reducible refine Drawn.mkV ?_ ?_ ?_ (fun hfact=>?_));(focus kernel_rfl);(focus kernel_rfl);(focus kernel_rfl);(try simp only[dRS]at hfact))|((with_reducible refine CallWp.mk ?_);refine⟨_,hwho,?_⟩;rintro _ _ ⟨rfl,rfl⟩)|((with_reducible refine CallWp.mk ?_);refine⟨_,hsh,?_⟩;rintro _ _ ⟨rfl,rfl⟩)|((with_reducible refine CallIs.mk ?_);refine⟨_,_,hver,?_⟩)|((try dsimp only);rw[hw])|((try dsimp only);rw[hDI])|(((with_reducible apply Ba));(focus (simp only[D.at,D.put,D.kid,D.setKid,mkSt,Jo,D.toI,toIs,Ad,Af,Sto.toD,hlm,he]<;>exact rfl)))|(((with_reducible apply A3));(focus rfl);(focus (simp only[D.at,D.put,D.kid,D.setKid,mkSt,Jo,D.toI,toIs,Ad,Af,Sto.toD,hlm,he]<;>exact rfl));(try(focus exact rfl))))
   all_goals(try(conv=>whnf))
   refine Round.by (j+1,out++[⟨k,v.val,v.made,v.rev⟩]) ?_ ⟨by omega,by simp;omega,hR⟩ (by dsimp only;omega)
   try dsimp only
   simp only[List.map_append,List.map_cons,List.map_nil];show norm _ _=upd _ _
   kernel_rfl

open Go.Proofs
theorem range_zero(hof:Zb)(s:Sto)(hB:s.Bd)(n:Az)(hn:n.length≤100000)(x:Sp)(rev most:Int)(i:Nat)(hf:s.fi n=some i)(hx:SpR x)(hr:(s.tal n).rev=rev∧0≤rev∧rev≤9000000000000000000)(hm:1≤most∧most≤16)(RES:List Pr × Bool)(hRES:Ep n x rev most (s.l.drop (Km (Kh (B7 n [])) s.l)) []=RES):
 Fn Tryd.prog C9 [sP s,.v (.str n),.v x.toI,.v (ti 0),.v (ti most)] (Is (.tup [.i (.list (RES.1.map Pr.toI)),.i (.bool RES.2),.i (ti 0)]) [sP s,.no,.no,.no,.no]):=by
 obtain⟨T1,T2,hof⟩:=hof;refine D0 ?_ (by simp)
 obtain⟨h1,h2,h3⟩:=Sto.fi_some hf;have hs:=Pu x;rw[decide_eq_true hx]at hs;have hI:=U8 s.l;have hwh:=L1 n [] hn (by simp)
 have hbs:=L0 s.l (B7 n []) (by have:=hB.len;omega)
 obtain⟨A,hA⟩:∃A,A=Km (Kh (B7 n [])) s.l:=⟨_,rfl⟩;obtain⟨B,hB'⟩:∃B,B=bsF (Kh (B7 n [])) (eqH (B7 n [])) s.l:=⟨_,rfl⟩;rw[←hA, ←hB']at hbs;obtain⟨hr0,hr⟩:=hr;subst hr0;repeat'((conv=>whnf);first|((with_reducible refine Ax (by first|((with_reducible refine decide_eq_true ?_);omega)|(with_reducible rfl)) (fun hb=>?_));(try rw[hb]);(try simp only[Aa]at hb))|((with_reducible refine Aw (by first|((with_reducible refine decide_eq_false ?_);first|(with_reducible assumption)|omega)|(with_reducible rfl)) (fun hb=>?_));(try rw[hb]);(try simp only[Aa]at hb))|((with_reducible refine And.intro (fun hb=>?_) (fun hb=>?_))<;>first|(exact absurd hb (by decide))|((try rw[hb]);(try simp only[Aa]at hb)))|((with_reducible refine Exists.intro ?_ ?_);focus (and_intros<;>first|omega|(with_reducible rfl)|kernel_rfl|(intro _ hh;cases hh;done)|(simp;done)|decide))|(with_reducible intro hfact)|((with_reducible refine And.intro ?_ ?_);focus (first|(with_reducible rfl)|decide))|((with_reducible refine Drawn.mkV ?_ ?_ ?_ (fun hfact=>?_));(focus kernel_rfl);(focus kernel_rfl);(focus kernel_rfl);(try simp only[dRS]at hfact))|((refine Au ?_))|((with_reducible refine CallWp.mk ?_);refine⟨_,hs,?_⟩;rintro _ _ ⟨rfl,rfl⟩)|((refine Abo hof ?_))|((with_reducible refine CallWp.mk ?_);refine⟨_,hwh,?_⟩;rintro _ _ ⟨rfl,rfl⟩)|((refine Bj ?_ (by decide)))|((with_reducible refine CallWp.mk ?_);refine⟨_,hbs,?_⟩;rintro _ _ ⟨rfl,rfl⟩)|(((with_reducible apply A9));(focus (simp only[D.at,D.put,D.kid,D.setKid,mkSt,Jo,D.toI,toIs,Ad,Af,h1,h3,hI,Sto.toD,Tal.toI]<;>exact rfl)))|(((with_reducible apply A3));(focus rfl);(focus (simp only[D.at,D.put,D.kid,D.setKid,mkSt,Jo,D.toI,toIs,Ad,Af,h1,h3,hI,Sto.toD,Tal.toI]<;>exact rfl));(try(focus exact rfl))))
 all_goals(try(conv=>whnf))
 have hAl:A≤s.l.length:=by rw[hA];exact Hp _ _
 rw[←hA]at hRES;refine LoopWq.by (X:=Nat × List Pr) (fun y=>[(5,.v (ti (y.1:Int))),(65,.own [] (.ptr (.vec 67 4 ((y.2.map Pr.toI).map D.it))))]) (fun y=>y.1≤s.l.length∧(y.2.length:Int)≤most∧Ep n x (s.tal n).rev most (s.l.drop y.1) y.2=RES) (fun y=>s.l.length - y.1) (A,[]) (by kernel_rfl) ⟨hAl,by simp;omega,hRES⟩ ?_
 rintro⟨j,out⟩ ⟨hj,ho,hR⟩;dsimp only at hj ho hR ⊢;have hlen:=hB.len;have hlm:(s.l.map Hld.toD).length=s.l.length:=List.length_map _;have hw:IntKind.i64.wrap ((j:Int)+1)=((j+1:Nat):Int):=Dk (n:=100000) (by omega) (by simp only[maxLen];omega)
 by_cases hjl:j<s.l.length
 case neg=>
  have hlt:¬decide ((j:Int)<(s.l.length:Int))=true:=by simp;omega
  rw[List.drop_eq_nil_of_le (by omega)]at hR
  have hR:(out,false)=RES:=hR;subst hR;repeat'((conv=>whnf);first|((with_reducible refine Aw (by first|(with_reducible exact Bool.of_not_eq_true (by assumption))|((with_reducible refine decide_eq_false ?_);omega)) (fun hb=>?_));(try rw[hb]);(try simp only[Aa]at hb))|((with_reducible refine Exists.intro ?_ ?_);focus (and_intros<;>first|omega|(with_reducible rfl)|kernel_rfl|(simp;done)))|(with_reducible intro hfact)|((with_reducible refine And.intro ?_ ?_);focus ((with_reducible rfl)))|(((with_reducible apply A9));(focus (simp only[D.at,D.put,D.kid,D.setKid,mkSt,Jo,D.toI,toIs,Ad,Af,Sto.toD,hlm]<;>exact rfl))))
  all_goals(try(conv=>whnf))
  (apply dKq<;>kernel_rfl)
 obtain⟨h,he⟩:∃h,s.l[j]?=some h:=⟨_,List.getElem?_eq_getElem hjl⟩;have hlt:¬decide ((j:Int)<(s.l.length:Int))=false:=by simp;omega
 obtain⟨hb1,hb2,hb3⟩:=hB.held h (List.mem_of_getElem? he);have hwho:=L2 h.at_ hb1;have hdr:s.l.drop j=h::s.l.drop (j+1):=by rw[List.drop_eq_getElem_cons hjl];rw[List.getElem?_eq_getElem hjl]at he;cases he;rfl
 rw[hdr]at hR;simp only[Ep]at hR;have hver:=Ns h.at_ h.vs (s.tal n).rev (by omega) (by omega)
 have hsh:=Tu x (C1 h.at_).2.1;generalize C1 h.at_=wk at hwho hR hsh;obtain⟨w,k,z⟩:=wk;generalize D1 h.vs (s.tal n).rev=vb at hver hR;obtain⟨v,b⟩:=vb;dsimp only at hwho hR hsh hver;have hDI:=Hld.toD_I h;simp only[Hld.toI]at hDI;by_cases hwn:w=n
 case neg=>
  have hnb:¬(!decide (w=n))=false:=by simpa using hwn
  have hnb2:¬decide (w=n)=true:=by simpa using hwn
  rw[if_pos hwn]at hR;subst hR;repeat'((conv=>whnf);first|((with_reducible refine Ax (by first|(with_reducible exact Bool.of_not_eq_false (by assumption))|((with_reducible refine decide_eq_true ?_);omega)|(with_reducible rfl)) (fun hb=>?_));(try rw[hb]);(try simp only[Aa]at hb))|((with_reducible refine Exists.intro ?_ ?_);focus (and_intros<;>first|omega|(with_reducible rfl)|kernel_rfl|(intro _ hh;cases hh;done)|(simp;done)|decide))|(with_reducible intro hfact)|((with_reducible refine And.intro ?_ ?_);focus ((with_reducible rfl)))|((with_reducible refine CallWp.mk ?_);refine⟨_,hwho,?_⟩;rintro _ _ ⟨rfl,rfl⟩)|(((with_reducible apply A9));(focus (simp only[D.at,D.put,D.kid,D.setKid,mkSt,Jo,D.toI,toIs,Ad,Af,Sto.toD,hlm,he]<;>exact rfl)))|(((with_reducible apply A3));(focus rfl);(focus (simp only[D.at,D.put,D.kid,D.setKid,mkSt,Jo,D.toI,toIs,Ad,Af,Sto.toD,hlm,he]<;>exact rfl));(try(focus exact rfl))))
  all_goals(try(conv=>whnf))
  (apply dKq<;>kernel_rfl)
 subst hwn;rw[if_neg (by simp)]at hR
 have hnb:¬(!decide (w=w))=true:=by simp
 have hnb2:¬decide (w=w)=false:=by simp
 by_cases hxk:Bw x k
 case neg=>
  rw[if_pos hxk]at hR;rw[decide_eq_false hxk]at hsh;repeat'((conv=>whnf);first|((with_reducible refine Ax (by first|(with_reducible assumption)|(with_reducible exact Bool.of_not_eq_false (by assumption))|((with_reducible refine decide_eq_true ?_);omega)) (fun hb=>?_));(try rw[hb]);(try simp only[Aa]at hb))|((with_reducible refine Aw (by first|(with_reducible exact Bool.of_not_eq_true (by assumption))|(with_reducible rfl)) (fun hb=>?_));(try rw[hb]);(try simp only[Aa]at hb))|((with_reducible refine And.intro (fun hb=>?_) (fun hb=>?_))<;>first|(exact absurd hb (by decide))|((try rw[hb]);(try simp only[Aa]at hb)))|((with_reducible refine Exists.intro ?_ ?_);focus (and_intros<;>first|omega|(with_reducible rfl)|kernel_rfl|(intro _ hh;cases hh;done)|(simp;done)|decide))|(with_reducible intro hfact)|((with_reducible refine And.intro ?_ ?_);focus (first|(with_reducible rfl)|(exact rfl)))|((with_reducible refine CallWp.mk ?_);refine⟨_,hwho,?_⟩;rintro _ _ ⟨rfl,rfl⟩)|((with_reducible refine CallWp.mk ?_);refine⟨_,hsh,?_⟩;rintro _ _ ⟨rfl,rfl⟩)|((try dsimp only);rw[hw])|(((with_reducible apply A3));(focus rfl);(focus (simp only[D.at,D.put,D.kid,D.setKid,mkSt,Jo,D.toI,toIs,Ad,Af,Sto.toD,hlm,he]<;>exact rfl));(try(focus exact rfl))))
  all_goals(try(conv=>whnf))
  refine Round.by (j+1,out) ?_ ⟨by omega,ho,hR⟩ (by dsimp only;omega)
  try dsimp only
  show norm _ _=upd _ _
  kernel_rfl
 rw[if_neg (by simpa using hxk)]at hR
 rw[decide_eq_true hxk]at hsh;cases b with
 |false=>
  rw[if_pos rfl]at hR;repeat'((conv=>whnf);first|((with_reducible refine Ax (by first|(with_reducible assumption)|(with_reducible exact Bool.of_not_eq_false (by assumption))|((with_reducible refine decide_eq_true ?_);omega)) (fun hb=>?_));(try rw[hb]);(try simp only[Aa]at hb))|((with_reducible refine Aw (by first|(with_reducible exact Bool.of_not_eq_true (by assumption))|(with_reducible rfl)) (fun hb=>?_));(try rw[hb]);(try simp only[Aa]at hb))|((with_reducible refine And.intro (fun hb=>?_) (fun hb=>?_))<;>first|(exact absurd hb (by decide))|((try rw[hb]);(try simp only[Aa]at hb)))|((with_reducible refine Exists.intro ?_ ?_);focus (and_intros<;>first|omega|(with_reducible rfl)|kernel_rfl|(intro _ hh;cases hh;done)|(simp;done)|decide))|(with_reducible intro hfact)|((with_reducible refine And.intro ?_ ?_);focus (first|(with_reducible rfl)|(exact rfl)))|((with_reducible refine Drawn.mkV ?_ ?_ ?_ (fun hfact=>?_));(focus kernel_rfl);(focus kernel_rfl);(focus kernel_rfl);(try simp only[dRS]at hfact))|((with_reducible refine CallWp.mk ?_);refine⟨_,hwho,?_⟩;rintro _ _ ⟨rfl,rfl⟩)|((with_reducible refine CallWp.mk ?_);refine⟨_,hsh,?_⟩;rintro _ _ ⟨rfl,rfl⟩)|((with_reducible refine CallIs.mk ?_);refine⟨_,_,hver,?_⟩)|((try dsimp only);rw[hw])|((try dsimp only);rw[hDI])|(((with_reducible apply Ba));(focus (simp only[D.at,D.put,D.kid,D.setKid,mkSt,Jo,D.toI,toIs,Ad,Af,Sto.toD,hlm,he]<;>exact rfl)))|(((with_reducible apply A3));(focus rfl);(focus (simp only[D.at,D.put,D.kid,D.setKid,mkSt,Jo,D.toI,toIs,Ad,Af,Sto.toD,hlm,he]<;>exact rfl));(try(focus exact rfl))))
  all_goals(try(conv=>whnf))
  refine Round.by (j+1,out) ?_ ⟨by omega,ho,hR⟩ (by dsimp only;omega)
  try dsimp only
  show norm _ _=upd _ _
  kernel_rfl
 |true=>
  rw[if_neg (by simp)]at hR
  have hlo:((out.map Pr.toI).map D.it).length=out.length:=by simp
  by_cases hom:(out.length:Int)=most
  ·rw[if_pos hom]at hR;subst hR;have hom1:decide ((((out.map Pr.toI).map D.it).length:Int)=most)=true:=by rw[hlo];exact decide_eq_true hom
   repeat'((conv=>whnf);first|((with_reducible refine Ax (by first|(with_reducible assumption)|((with_reducible refine decide_eq_true ?_);omega)) (fun hb=>?_));(try rw[hb]);(try simp only[Aa]at hb);(try subst hb))|((with_reducible refine Aw (by first|(with_reducible assumption)|(with_reducible exact Bool.of_not_eq_true (by assumption))|(with_reducible rfl)) (fun hb=>?_));(try rw[hb]);(try simp only[Aa]at hb))|((with_reducible refine And.intro (fun hb=>?_) (fun hb=>?_))<;>first|(exact absurd hb (by decide))|((try rw[hb]);(try simp only[Aa]at hb)))|((with_reducible refine Exists.intro ?_ ?_);focus (and_intros<;>first|omega|(with_reducible rfl)|kernel_rfl|(intro _ hh;cases hh;done)|(simp;done)|decide))|(with_reducible intro hfact)|((with_reducible refine And.intro ?_ ?_);focus (first|(with_reducible rfl)|(exact rfl)))|((with_reducible refine Drawn.mkV ?_ ?_ ?_ (fun hfact=>?_));(focus kernel_rfl);(focus kernel_rfl);(focus kernel_rfl);(try simp only[dRS]at hfact))|((with_reducible refine CallWp.mk ?_);refine⟨_,hwho,?_⟩;rintro _ _ ⟨rfl,rfl⟩)|((with_reducible refine CallWp.mk ?_);refine⟨_,hsh,?_⟩;rintro _ _ ⟨rfl,rfl⟩)|((with_reducible refine CallIs.mk ?_);refine⟨_,_,hver,?_⟩)|((try dsimp only);rw[hDI])|((first|with_reducible apply A9|with_reducible apply Ba);(focus (simp only[D.at,D.put,D.kid,D.setKid,mkSt,Jo,D.toI,toIs,Ad,Af,Sto.toD,hlm,he]<;>exact rfl)))|(((with_reducible apply A3));(focus rfl);(focus (simp only[D.at,D.put,D.kid,D.setKid,mkSt,Jo,D.toI,toIs,Ad,Af,Sto.toD,hlm,he]<;>exact rfl));(try(focus exact rfl))))
   all_goals(try(conv=>whnf))
   (apply dKq<;>kernel_rfl)
  ·rw[if_neg hom]at hR;have hom1:decide ((((out.map Pr.toI).map D.it).length:Int)=most)=false:=by rw[hlo];exact decide_eq_false hom
   repeat'((conv=>whnf);first|((with_reducible refine Ax (by first|(with_reducible assumption)|(with_reducible exact Bool.of_not_eq_false (by assumption))|((with_reducible refine decide_eq_true ?_);omega)) (fun hb=>?_));(try rw[hb]);(try simp only[Aa]at hb))|((with_reducible refine Aw (by first|(with_reducible assumption)|(with_reducible exact Bool.of_not_eq_true (by assumption))|(with_reducible rfl)) (fun hb=>?_));(try rw[hb]);(try simp only[Aa]at hb))|((with_reducible refine And.intro (fun hb=>?_) (fun hb=>?_))<;>first|(exact absurd hb (by decide))|((try rw[hb]);(try simp only[Aa]at hb)))|((with_reducible refine Exists.intro ?_ ?_);focus (and_intros<;>first|omega|(with_reducible rfl)|kernel_rfl|(intro _ hh;cases hh;done)|exact Ah (by rfl)|exact Ag rfl|(simp only[An];omega)|(simp;done)|decide))|(with_reducible intro hfact)|((with_reducible refine And.intro ?_ ?_);focus (first|(with_reducible rfl)|(exact rfl)))|((with_reducible refine Drawn.mkV ?_ ?_ ?_ (fun hfact=>?_));(focus kernel_rfl);(focus kernel_rfl);(focus kernel_rfl);(try simp only[dRS]at hfact))|((with_reducible refine CallWp.mk ?_);refine⟨_,hwho,?_⟩;rintro _ _ ⟨rfl,rfl⟩)|((with_reducible refine CallWp.mk ?_);refine⟨_,hsh,?_⟩;rintro _ _ ⟨rfl,rfl⟩)|((with_reducible refine CallIs.mk ?_);refine⟨_,_,hver,?_⟩)|((try dsimp only);rw[hw])|((try dsimp only);rw[hDI])|(((with_reducible apply Ba));(focus (simp only[D.at,D.put,D.kid,D.setKid,mkSt,Jo,D.toI,toIs,Ad,Af,Sto.toD,hlm,he]<;>exact rfl)))|(((with_reducible apply A3));(focus rfl);(focus (simp only[D.at,D.put,D.kid,D.setKid,mkSt,Jo,D.toI,toIs,Ad,Af,Sto.toD,hlm,he]<;>exact rfl));(try(focus exact rfl))))
   all_goals(try(conv=>whnf))
   refine Round.by (j+1,out++[⟨k,v.val,v.made,v.rev⟩]) ?_ ⟨by omega,by simp;omega,hR⟩ (by dsimp only;omega)
   try dsimp only
   simp only[List.map_append,List.map_cons,List.map_nil];show norm _ _=upd _ _
   kernel_rfl
def Sto.rangeM(s:Sto)(n:Az)(x:Sp)(rev most:Int):List Pr × Bool × Int:=
 if(s.fi n).isNone=true then([],false,16)else if ¬(SpR x∧0≤rev∧1≤most∧most≤16)then([],false,1)else if(s.tal n).rev<rev then([],false,13)else if 0<rev∧rev<(s.tal n).floor then([],false,14)else
 ((Ep n x (if rev=0 then(s.tal n).rev else rev) most (s.l.drop (Km (Kh (B7 n [])) s.l)) []).1,(Ep n x (if rev=0 then(s.tal n).rev else rev) most (s.l.drop (Km (Kh (B7 n [])) s.l)) []).2,0)
theorem Ai0(s:Sto)(n:Az)(x:Sp)(rev most:Int)(hf:s.fi n=none):
 Fn Tryd.prog C9 [sP s,.v (.str n),.v x.toI,.v (ti rev),.v (ti most)] (Is (.tup [.i (.list []),.i (.bool false),.i (ti 16)]) [sP s,.no,.no,.no,.no]):=by
 refine D0 ?_ (by simp)
 obtain⟨h1,h2⟩:=Sto.fi_none hf;repeat'((conv=>whnf);first|((with_reducible refine Ax (by(with_reducible rfl)) (fun hb=>?_));(try rw[hb]);(try simp only[Aa]at hb))|((with_reducible refine Aw (by(with_reducible rfl)) (fun hb=>?_));(try rw[hb]);(try simp only[Aa]at hb))|((with_reducible refine And.intro (fun hb=>?_) (fun hb=>?_))<;>first|(exact absurd hb (by decide))|((try rw[hb]);(try simp only[Aa]at hb)))|((with_reducible refine Exists.intro ?_ ?_);focus (and_intros<;>first|omega|(with_reducible rfl)|kernel_rfl|(simp;done)))|((refine Au ?_))|(((with_reducible apply A9));(focus (simp only[D.at,D.put,D.kid,D.setKid,mkSt,Jo,D.toI,toIs,Ad,Af,h1,Sto.toD]<;>exact rfl))))
 all_goals(try(conv=>whnf))
 (apply dKq<;>kernel_rfl)
theorem Ajb(s:Sto)(n:Az)(x:Sp)(rev most:Int)(i:Nat)(hf:s.fi n=some i)(hb:¬(SpR x∧0≤rev∧1≤most∧most≤16)):
 Fn Tryd.prog C9 [sP s,.v (.str n),.v x.toI,.v (ti rev),.v (ti most)] (Is (.tup [.i (.list []),.i (.bool false),.i (ti 1)]) [sP s,.no,.no,.no,.no]):=by
 refine D0 ?_ (by simp)
 have hs:=Pu x;by_cases hx:SpR x
 case neg=>
  rw[decide_eq_false hx]at hs;obtain⟨h1,h2,h3⟩:=Sto.fi_some hf;repeat'((conv=>whnf);first|((with_reducible refine Ax (by(with_reducible rfl)) (fun hb=>?_));(try rw[hb]);(try simp only[Aa]at hb))|((with_reducible refine And.intro (fun hb=>?_) (fun hb=>?_))<;>first|(exact absurd hb (by decide))|((try rw[hb]);(try simp only[Aa]at hb)))|((with_reducible refine Exists.intro ?_ ?_);focus (and_intros<;>first|omega|(with_reducible rfl)|kernel_rfl|(intro _ hh;cases hh;done)|(simp;done)|decide))|((with_reducible refine And.intro ?_ ?_);focus (decide))|((refine Au ?_))|((with_reducible refine CallWp.mk ?_);refine⟨_,hs,?_⟩;rintro _ _ ⟨rfl,rfl⟩)|(((with_reducible apply A9));(focus (simp only[D.at,D.put,D.kid,D.setKid,mkSt,Jo,D.toI,toIs,Ad,Af,h1,h3,Sto.toD,Tal.toI]<;>exact rfl))))
  all_goals(try(conv=>whnf))
  (apply dKq<;>kernel_rfl)
 rw[decide_eq_true hx]at hs;by_cases h1:rev<0
 case pos=>
  obtain⟨h1,h2,h3⟩:=Sto.fi_some hf;repeat'((conv=>whnf);first|((with_reducible refine Ax (by first|((with_reducible refine decide_eq_true ?_);(with_reducible assumption))|(with_reducible rfl)) (fun hb=>?_));(try rw[hb]);(try simp only[Aa]at hb))|((with_reducible refine Aw (by(with_reducible rfl)) (fun hb=>?_));(try rw[hb]);(try simp only[Aa]at hb))|((with_reducible refine And.intro (fun hb=>?_) (fun hb=>?_))<;>first|(exact absurd hb (by decide))|((try rw[hb]);(try simp only[Aa]at hb)))|((with_reducible refine Exists.intro ?_ ?_);focus (and_intros<;>first|omega|(with_reducible rfl)|kernel_rfl|(intro _ hh;cases hh;done)|(simp;done)|decide))|((with_reducible refine And.intro ?_ ?_);focus (decide))|((refine Au ?_))|((with_reducible refine CallWp.mk ?_);refine⟨_,hs,?_⟩;rintro _ _ ⟨rfl,rfl⟩)|(((with_reducible apply A9));(focus (simp only[D.at,D.put,D.kid,D.setKid,mkSt,Jo,D.toI,toIs,Ad,Af,h1,h3,Sto.toD,Tal.toI]<;>exact rfl))))
  all_goals(try(conv=>whnf))
  (apply dKq<;>kernel_rfl)
 by_cases h2:most<1
 case pos=>
  obtain⟨h1,h2,h3⟩:=Sto.fi_some hf;repeat'((conv=>whnf);first|((with_reducible refine Ax (by first|((with_reducible refine decide_eq_true ?_);(with_reducible assumption))|(with_reducible rfl)) (fun hb=>?_));(try rw[hb]);(try simp only[Aa]at hb))|((with_reducible refine Aw (by first|((with_reducible refine decide_eq_false ?_);(with_reducible assumption))|(with_reducible rfl)) (fun hb=>?_));(try rw[hb]);(try simp only[Aa]at hb))|((with_reducible refine And.intro (fun hb=>?_) (fun hb=>?_))<;>first|(exact absurd hb (by decide))|((try rw[hb]);(try simp only[Aa]at hb)))|((with_reducible refine Exists.intro ?_ ?_);focus (and_intros<;>first|omega|(with_reducible rfl)|kernel_rfl|(intro _ hh;cases hh;done)|(simp;done)|decide))|((with_reducible refine And.intro ?_ ?_);focus (decide))|((refine Au ?_))|((with_reducible refine CallWp.mk ?_);refine⟨_,hs,?_⟩;rintro _ _ ⟨rfl,rfl⟩)|(((with_reducible apply A9));(focus (simp only[D.at,D.put,D.kid,D.setKid,mkSt,Jo,D.toI,toIs,Ad,Af,h1,h3,Sto.toD,Tal.toI]<;>exact rfl))))
  all_goals(try(conv=>whnf))
  (apply dKq<;>kernel_rfl)
 have h3:most>16:=by
  by_cases h:most>16
  ·exact h
  ·exact absurd ⟨hx,by omega,by omega,by omega⟩ hb
 obtain⟨h1,h2,h3⟩:=Sto.fi_some hf;repeat'((conv=>whnf);first|((with_reducible refine Ax (by first|((with_reducible refine decide_eq_true ?_);(with_reducible assumption))|(with_reducible rfl)) (fun hb=>?_));(try rw[hb]);(try simp only[Aa]at hb))|((with_reducible refine Aw (by first|((with_reducible refine decide_eq_false ?_);(with_reducible assumption))|(with_reducible rfl)) (fun hb=>?_));(try rw[hb]);(try simp only[Aa]at hb))|((with_reducible refine And.intro (fun hb=>?_) (fun hb=>?_))<;>first|(exact absurd hb (by decide))|((try rw[hb]);(try simp only[Aa]at hb)))|((with_reducible refine Exists.intro ?_ ?_);focus (and_intros<;>first|omega|(with_reducible rfl)|kernel_rfl|(intro _ hh;cases hh;done)|(simp;done)|decide))|((with_reducible refine And.intro ?_ ?_);focus (decide))|((refine Au ?_))|((with_reducible refine CallWp.mk ?_);refine⟨_,hs,?_⟩;rintro _ _ ⟨rfl,rfl⟩)|(((with_reducible apply A9));(focus (simp only[D.at,D.put,D.kid,D.setKid,mkSt,Jo,D.toI,toIs,Ad,Af,h1,h3,Sto.toD,Tal.toI]<;>exact rfl))))
 all_goals(try(conv=>whnf))
 (apply dKq<;>kernel_rfl)
theorem Aig(s:Sto)(n:Az)(x:Sp)(rev most:Int)(i:Nat)(hf:s.fi n=some i)(hb:SpR x∧0≤rev∧1≤most∧most≤16)(hr:(s.tal n).rev<rev):
 Fn Tryd.prog C9 [sP s,.v (.str n),.v x.toI,.v (ti rev),.v (ti most)] (Is (.tup [.i (.list []),.i (.bool false),.i (ti 13)]) [sP s,.no,.no,.no,.no]):=by
 refine D0 ?_ (by simp)
 obtain⟨hx,hm1,hm2,hm3⟩:=hb;have hs:=Pu x;rw[decide_eq_true hx]at hs;obtain⟨h1,h2,h3⟩:=Sto.fi_some hf;repeat'((conv=>whnf);first|((with_reducible refine Ax (by first|((with_reducible refine decide_eq_true ?_);(with_reducible assumption))|(with_reducible rfl)) (fun hb=>?_));(try rw[hb]);(try simp only[Aa]at hb))|((with_reducible refine Aw (by first|((with_reducible refine decide_eq_false ?_);omega)|(with_reducible rfl)) (fun hb=>?_));(try rw[hb]);(try simp only[Aa]at hb))|((with_reducible refine And.intro (fun hb=>?_) (fun hb=>?_))<;>first|(exact absurd hb (by decide))|((try rw[hb]);(try simp only[Aa]at hb)))|((with_reducible refine Exists.intro ?_ ?_);focus (and_intros<;>first|omega|(with_reducible rfl)|kernel_rfl|(intro _ hh;cases hh;done)|(simp;done)|decide))|((with_reducible refine And.intro ?_ ?_);focus (decide))|((with_reducible refine Drawn.mkV ?_ ?_ ?_ (fun hfact=>?_));(focus kernel_rfl);(focus kernel_rfl);(focus kernel_rfl);(try simp only[dRS]at hfact))|((refine Au ?_))|((with_reducible refine CallWp.mk ?_);refine⟨_,hs,?_⟩;rintro _ _ ⟨rfl,rfl⟩)|(((with_reducible apply A9));(focus (simp only[D.at,D.put,D.kid,D.setKid,mkSt,Jo,D.toI,toIs,Ad,Af,h1,h3,Sto.toD,Tal.toI]<;>exact rfl)))|(((with_reducible apply A3));(focus rfl);(focus (simp only[D.at,D.put,D.kid,D.setKid,mkSt,Jo,D.toI,toIs,Ad,Af,h1,h3,Sto.toD,Tal.toI]<;>exact rfl));(try(focus exact rfl))))
 all_goals(try(conv=>whnf))
 (apply dKq<;>kernel_rfl)
theorem Ai1(s:Sto)(n:Az)(x:Sp)(rev most:Int)(i:Nat)(hf:s.fi n=some i)(hb:SpR x∧0≤rev∧1≤most∧most≤16)(hr:¬(s.tal n).rev<rev)(hr2:0<rev∧rev<(s.tal n).floor):
 Fn Tryd.prog C9 [sP s,.v (.str n),.v x.toI,.v (ti rev),.v (ti most)] (Is (.tup [.i (.list []),.i (.bool false),.i (ti 14)]) [sP s,.no,.no,.no,.no]):=by
 refine D0 ?_ (by simp)
 obtain⟨hx,hm1,hm2,hm3⟩:=hb;have hs:=Pu x;rw[decide_eq_true hx]at hs;obtain⟨h1,h2,h3⟩:=Sto.fi_some hf;repeat'((conv=>whnf);first|((with_reducible refine Ax (by first|((with_reducible refine decide_eq_true ?_);omega)|(with_reducible rfl)) (fun hb=>?_));(try rw[hb]);(try simp only[Aa]at hb))|((with_reducible refine Aw (by first|((with_reducible refine decide_eq_false ?_);first|(with_reducible assumption)|omega)|(with_reducible rfl)) (fun hb=>?_));(try rw[hb]);(try simp only[Aa]at hb))|((with_reducible refine And.intro (fun hb=>?_) (fun hb=>?_))<;>first|(exact absurd hb (by decide))|((try rw[hb]);(try simp only[Aa]at hb)))|((with_reducible refine Exists.intro ?_ ?_);focus (and_intros<;>first|omega|(with_reducible rfl)|kernel_rfl|(intro _ hh;cases hh;done)|(simp;done)|decide))|((with_reducible refine And.intro ?_ ?_);focus (decide))|((with_reducible refine Drawn.mkV ?_ ?_ ?_ (fun hfact=>?_));(focus kernel_rfl);(focus kernel_rfl);(focus kernel_rfl);(try simp only[dRS]at hfact))|((refine Au ?_))|((with_reducible refine CallWp.mk ?_);refine⟨_,hs,?_⟩;rintro _ _ ⟨rfl,rfl⟩)|(((with_reducible apply A9));(focus (simp only[D.at,D.put,D.kid,D.setKid,mkSt,Jo,D.toI,toIs,Ad,Af,h1,h3,Sto.toD,Tal.toI]<;>exact rfl)))|(((with_reducible apply A3));(focus rfl);(focus (simp only[D.at,D.put,D.kid,D.setKid,mkSt,Jo,D.toI,toIs,Ad,Af,h1,h3,Sto.toD,Tal.toI]<;>exact rfl));(try(focus exact rfl))))
 all_goals(try(conv=>whnf))
 (apply dKq<;>kernel_rfl)
theorem Ai5(hof:Zb)(s:Sto)(hB:s.Bd)(n:Az)(hn:n.length≤100000)(x:Sp)(rev most:Int)(ht:0≤(s.tal n).rev∧(s.tal n).rev≤9000000000000000000):
 Fn Tryd.prog C9 [sP s,.v (.str n),.v x.toI,.v (ti rev),.v (ti most)] (Is (.tup [.i (.list ((s.rangeM n x rev most).1.map Pr.toI)),.i (.bool (s.rangeM n x rev most).2.1),.i (ti (s.rangeM n x rev most).2.2)]) [sP s,.no,.no,.no,.no]):=by
 unfold Sto.rangeM;cases hf:s.fi n with
 |none=>exact Ai0 s n x rev most hf
 |some i=>
  simp only[Option.isNone_some,Bool.false_eq_true,if_false];by_cases hb:SpR x∧0≤rev∧1≤most∧most≤16
  case neg=>simp only[hb,not_false_eq_true,if_true];exact Ajb s n x rev most i hf hb
  by_cases hr:(s.tal n).rev<rev
  case pos=>simp only[hb,hr,not_true_eq_false,if_false,if_true,and_self];exact Aig s n x rev most i hf hb hr
  by_cases hr2:0<rev∧rev<(s.tal n).floor
  case pos=>simp only[hb,hr,hr2,not_true_eq_false,if_false,if_true,and_self];exact Ai1 s n x rev most i hf hb hr hr2
  by_cases h0:rev=0
  ·subst h0;simp only[hb,hr,hr2,not_true_eq_false,if_false,if_true,and_self];exact range_zero hof s hB n hn x _ most i hf hb.1 ⟨rfl,by omega⟩ hb.2.2 _ rfl
  ·simp only[hb,hr,hr2,h0,not_true_eq_false,if_false,if_true,and_self];exact Ab6 hof s hB n hn x rev most i hf hb.1 ⟨by omega,by omega,by omega,by omega⟩ hb.2.2 _ rfl
end Go.Ab
