/- Lemmas -/
import Derived.Test.YtkpojedpcabojaaDoorWC
set_option linter.unusedVariables false
set_option linter.unusedSimpArgs false
set_option maxRecDepth 100000
set_option maxHeartbeats 40000000
namespace Go.Ab
open Go.Proofs
def verN:Ver:=⟨0,0,[],false⟩
def Un (vs:List Ver):Nat→Ver × Bool
 |0=>(verN,false)
 |i+1=>match vs[i]? with
  |some v=>if v.gone=true then(verN,false)else(v,true)
  |none=>(verN,false)
def D1 (vs:List Ver) (rev:Int):Ver × Bool:=Un vs (bsI (ltV (rev+1)) vs)
theorem Ns (a:Az) (vs:List Ver) (rev:Int) (hr: -1≤rev∧rev≤9000000000000000000) (hl:vs.length≤100000):
 Fn Tryd.prog Ky [.v (.agg [.str a,.list (vs.map Ver.toI)]),.v (ti rev)] (Is (.tup [.i (D1 vs rev).1.toI,.i (.bool (D1 vs rev).2)]) [.no,.no]):=by
 refine Kn ?_ (by simp)
 have hw:IntKind.i64.wrap (rev+1)=rev+1:=Bf (by omega)
 have hbs:=Aay vs (rev+1) hl
 have hle:=Hp (ltV (rev+1)) vs
 obtain⟨A,hA⟩:∃A,A=bsI (ltV (rev+1)) vs:=⟨_,rfl⟩
 obtain⟨B,hB⟩:∃B,B=bsF (ltV (rev+1)) (eqV (rev+1)) vs:=⟨_,rfl⟩
 have hM:D1 vs rev=Un vs A:=by rw[hA];rfl
 rw[←hA, ←hB]at hbs
 rw[←hA]at hle
 rw[hM]
 cases A with
 |zero=>
  have h0:¬decide (((0:Nat):Int)=0)=false:=by simp
  repeat'((conv=>whnf);first
   |((with_reducible refine Ax (by first|(with_reducible assumption)|(with_reducible exact Bool.of_not_eq_false (by assumption))|(with_reducible exact Bool.of_not_eq_true (by assumption))|((with_reducible refine decide_eq_true ?_);first|(with_reducible assumption)|omega)|((with_reducible refine decide_eq_false ?_);first|(with_reducible assumption)|omega)|(with_reducible rfl)) (fun hb=>?_));(try rw[hb]);(try simp only[Aa,Bool.false_eq_true,Bool.true_eq_false]at hb);(try subst hb))
   |((with_reducible refine Aw (by first|(with_reducible assumption)|(with_reducible exact Bool.of_not_eq_false (by assumption))|(with_reducible exact Bool.of_not_eq_true (by assumption))|((with_reducible refine decide_eq_true ?_);first|(with_reducible assumption)|omega)|((with_reducible refine decide_eq_false ?_);first|(with_reducible assumption)|omega)|(with_reducible rfl)) (fun hb=>?_));(try rw[hb]);(try simp only[Aa,Bool.false_eq_true,Bool.true_eq_false]at hb);(try subst hb))
   |((with_reducible refine And.intro (fun hb=>?_) (fun hb=>?_))<;>first|(with_reducible exact absurd hb (by assumption))|(exact absurd hb (by decide))|(with_reducible exact absurd hb Bool.false_ne_true)|(with_reducible exact absurd hb.symm Bool.false_ne_true)|(exfalso;first|(simp only[Aj]at hb<;>omega)|omega)|((try rw[hb]);(try simp only[Aa,Bool.false_eq_true,Bool.true_eq_false]at hb);(try subst hb)))
   |((with_reducible refine Exists.intro ?_ ?_);focus (and_intros<;>first|omega|(with_reducible assumption)|(with_reducible rfl)|kernel_rfl|exact rfl|assumption|(intro _ hh;cases hh;done)|exact Ah (by rfl)|exact size_map (fun _=>rfl)|exact Ai rfl|exact take_size (fun _=>rfl)|exact Ag rfl|exact Af (fun _=>rfl)|exact Ae (fun _=>rfl)|(simp only[Aj];omega)|(simp;done)|decide))
   |(with_reducible intro hfact)
   |((with_reducible refine And.intro ?_ ?_);focus (first|(with_reducible rfl)|(exact rfl)|decide))
   |((try dsimp only);rw[hw])
   |((with_reducible refine CallWp.mk ?_);refine⟨_,hbs,?_⟩;rintro _ _ ⟨rfl,rfl⟩))
  all_goals(try(conv=>whnf))
  (apply dKq<;>kernel_rfl)
 |succ i=>
  obtain⟨v,hv⟩:∃v,vs[i]?=some v:=⟨_,List.getElem?_eq_getElem (by omega)⟩
  have h0:¬decide (((i+1:Nat):Int)=0)=true:=by simp;omega
  have hw2:IntKind.i64.wrap (((i+1:Nat):Int) - 1)=(i:Int):=by rw[Bf (by omega)];omega
  have hN:Un vs (i+1)=if v.gone=true then(verN,false)else(v,true):=by simp only[Un,hv]
  rw[hN]
  cases hg:v.gone with
  |true=>
   repeat'((conv=>whnf);first
    |((with_reducible refine Ax (by first|(with_reducible assumption)|(with_reducible exact Bool.of_not_eq_false (by assumption))|(with_reducible exact Bool.of_not_eq_true (by assumption))|((with_reducible refine decide_eq_true ?_);first|(with_reducible assumption)|omega)|((with_reducible refine decide_eq_false ?_);first|(with_reducible assumption)|omega)|(with_reducible rfl)) (fun hb=>?_));(try rw[hb]);(try simp only[Aa,Bool.false_eq_true,Bool.true_eq_false]at hb);(try subst hb))
    |((with_reducible refine Aw (by first|(with_reducible assumption)|(with_reducible exact Bool.of_not_eq_false (by assumption))|(with_reducible exact Bool.of_not_eq_true (by assumption))|((with_reducible refine decide_eq_true ?_);first|(with_reducible assumption)|omega)|((with_reducible refine decide_eq_false ?_);first|(with_reducible assumption)|omega)|(with_reducible rfl)) (fun hb=>?_));(try rw[hb]);(try simp only[Aa,Bool.false_eq_true,Bool.true_eq_false]at hb);(try subst hb))
    |((with_reducible refine And.intro (fun hb=>?_) (fun hb=>?_))<;>first|(with_reducible exact absurd hb (by assumption))|(exact absurd hb (by decide))|(with_reducible exact absurd hb Bool.false_ne_true)|(with_reducible exact absurd hb.symm Bool.false_ne_true)|(exfalso;first|(simp only[Aj]at hb<;>omega)|omega)|((try rw[hb]);(try simp only[Aa,Bool.false_eq_true,Bool.true_eq_false]at hb);(try subst hb)))
    |((with_reducible refine Exists.intro ?_ ?_);focus (and_intros<;>first|omega|(with_reducible assumption)|(with_reducible rfl)|kernel_rfl|exact rfl|assumption|(intro _ hh;cases hh;done)|exact Ah (by rfl)|exact size_map (fun _=>rfl)|exact Ai rfl|exact take_size (fun _=>rfl)|exact Ag rfl|exact Af (fun _=>rfl)|exact Ae (fun _=>rfl)|(simp only[Aj];omega)|(simp;done)|decide))
    |(with_reducible intro hfact)
    |((with_reducible refine And.intro ?_ ?_);focus (first|(with_reducible rfl)|(exact rfl)|decide))
    |((try dsimp only);rw[hw])
    |((with_reducible refine CallWp.mk ?_);refine⟨_,hbs,?_⟩;rintro _ _ ⟨rfl,rfl⟩)
    |((try dsimp only);rw[hw2])
    |((try dsimp only);first|rw[B6 hv]|rw[Bu hv]|rw[Bv hv]))
   all_goals(try(conv=>whnf))
   (apply dKq<;>kernel_rfl)
  |false=>
   repeat'((conv=>whnf);first
    |((with_reducible refine Ax (by first|(with_reducible assumption)|(with_reducible exact Bool.of_not_eq_false (by assumption))|(with_reducible exact Bool.of_not_eq_true (by assumption))|((with_reducible refine decide_eq_true ?_);first|(with_reducible assumption)|omega)|((with_reducible refine decide_eq_false ?_);first|(with_reducible assumption)|omega)|(with_reducible rfl)) (fun hb=>?_));(try rw[hb]);(try simp only[Aa,Bool.false_eq_true,Bool.true_eq_false]at hb);(try subst hb))
    |((with_reducible refine Aw (by first|(with_reducible assumption)|(with_reducible exact Bool.of_not_eq_false (by assumption))|(with_reducible exact Bool.of_not_eq_true (by assumption))|((with_reducible refine decide_eq_true ?_);first|(with_reducible assumption)|omega)|((with_reducible refine decide_eq_false ?_);first|(with_reducible assumption)|omega)|(with_reducible rfl)) (fun hb=>?_));(try rw[hb]);(try simp only[Aa,Bool.false_eq_true,Bool.true_eq_false]at hb);(try subst hb))
    |((with_reducible refine And.intro (fun hb=>?_) (fun hb=>?_))<;>first|(with_reducible exact absurd hb (by assumption))|(exact absurd hb (by decide))|(with_reducible exact absurd hb Bool.false_ne_true)|(with_reducible exact absurd hb.symm Bool.false_ne_true)|(exfalso;first|(simp only[Aj]at hb<;>omega)|omega)|((try rw[hb]);(try simp only[Aa,Bool.false_eq_true,Bool.true_eq_false]at hb);(try subst hb)))
    |((with_reducible refine Exists.intro ?_ ?_);focus (and_intros<;>first|omega|(with_reducible assumption)|(with_reducible rfl)|kernel_rfl|exact rfl|assumption|(intro _ hh;cases hh;done)|exact Ah (by rfl)|exact size_map (fun _=>rfl)|exact Ai rfl|exact take_size (fun _=>rfl)|exact Ag rfl|exact Af (fun _=>rfl)|exact Ae (fun _=>rfl)|(simp only[Aj];omega)|(simp;done)|decide))
    |(with_reducible intro hfact)
    |((with_reducible refine And.intro ?_ ?_);focus (first|(with_reducible rfl)|(exact rfl)|decide))
    |((try dsimp only);rw[hw])
    |((with_reducible refine CallWp.mk ?_);refine⟨_,hbs,?_⟩;rintro _ _ ⟨rfl,rfl⟩)
    |((try dsimp only);rw[hw2])
    |((try dsimp only);first|rw[B6 hv]|rw[Bu hv]|rw[Bv hv]))
   all_goals(try(conv=>whnf))
   (apply dKq<;>kernel_rfl)

open Go.Proofs
def Ep (n:Az) (x:Sp) (rev most:Int):List Hld→List Pr→List Pr × Bool
 | [],out=>(out,false)
 |h::r,out=>if(C1 h.at_).1≠n then(out,false)else if ¬SpH x (C1 h.at_).2.1 then Ep n x rev most r out else
  if(D1 h.vs rev).2=false then Ep n x rev most r out else if(out.length:Int)=most then(out,true)else
  Ep n x rev most r (out++[⟨(C1 h.at_).2.1,(D1 h.vs rev).1.val,(D1 h.vs rev).1.made,(D1 h.vs rev).1.rev⟩])
def Zb:Prop:=∃T1 T2,OfC Tryd.prog Pw Mu T1 T2
structure Sto.Bd (s:Sto):Prop where
 len:s.l.length≤90000
 held:∀h∈s.l,h.at_.length≤1000000∧h.vs≠[]∧h.vs.length≤90000
theorem Ab6 (hof:Zb) (s:Sto) (hB:s.Bd) (n:Az) (hn:n.length≤100000) (x:Sp) (rev most:Int) (i:Nat) (hf:s.fi n=some i) (hx:SpR x) (hr:0<rev∧rev≤(s.tal n).rev∧(s.tal n).floor≤rev∧rev≤9000000000000000000) (hm:1≤most∧most≤16) (RES:List Pr × Bool) (hRES:Ep n x rev most (s.l.drop (bsI (ltH (B7 n [])) s.l)) []=RES):
 Fn Tryd.prog C9 [sP s,.v (.str n),.v x.toI,.v (ti rev),.v (ti most)] (Is (.tup [.i (.list (RES.1.map Pr.toI)),.i (.bool RES.2),.i (ti 0)]) [sP s,.no,.no,.no,.no]):=by
 obtain⟨T1,T2,hof⟩:=hof
 refine D0 ?_ (by simp)
 obtain⟨h1,h2,h3⟩:=Sto.fi_some hf
 have hs:=Pu x
 rw[decide_eq_true hx]at hs
 have hI:=U8 s.l
 have hwh:=L1 n [] hn (by simp)
 have hbs:=L0 s.l (B7 n []) (by have:=hB.len;omega)
 obtain⟨A,hA⟩:∃A,A=bsI (ltH (B7 n [])) s.l:=⟨_,rfl⟩
 obtain⟨B,hB'⟩:∃B,B=bsF (ltH (B7 n [])) (eqH (B7 n [])) s.l:=⟨_,rfl⟩
 rw[←hA, ←hB']at hbs
 repeat'((conv=>whnf);first
  |((with_reducible refine Ax (by first|(with_reducible assumption)|(with_reducible exact Bool.of_not_eq_false (by assumption))|(with_reducible exact Bool.of_not_eq_true (by assumption))|((with_reducible refine decide_eq_true ?_);first|(with_reducible assumption)|omega)|((with_reducible refine decide_eq_false ?_);first|(with_reducible assumption)|omega)|(with_reducible rfl)) (fun hb=>?_));(try rw[hb]);(try simp only[Aa,Bool.false_eq_true,Bool.true_eq_false]at hb);(try subst hb))
  |((with_reducible refine Aw (by first|(with_reducible assumption)|(with_reducible exact Bool.of_not_eq_false (by assumption))|(with_reducible exact Bool.of_not_eq_true (by assumption))|((with_reducible refine decide_eq_true ?_);first|(with_reducible assumption)|omega)|((with_reducible refine decide_eq_false ?_);first|(with_reducible assumption)|omega)|(with_reducible rfl)) (fun hb=>?_));(try rw[hb]);(try simp only[Aa,Bool.false_eq_true,Bool.true_eq_false]at hb);(try subst hb))
  |((with_reducible refine And.intro (fun hb=>?_) (fun hb=>?_))<;>first|(with_reducible exact absurd hb (by assumption))|(exact absurd hb (by decide))|(with_reducible exact absurd hb Bool.false_ne_true)|(with_reducible exact absurd hb.symm Bool.false_ne_true)|(exfalso;first|(simp only[Aj]at hb<;>omega)|omega)|((try rw[hb]);(try simp only[Aa,Bool.false_eq_true,Bool.true_eq_false]at hb);(try subst hb)))
  |((with_reducible refine Exists.intro ?_ ?_);focus (and_intros<;>first|omega|(with_reducible assumption)|(with_reducible rfl)|kernel_rfl|exact rfl|assumption|(intro _ hh;cases hh;done)|exact Ah (by rfl)|exact size_map (fun _=>rfl)|exact Ai rfl|exact take_size (fun _=>rfl)|exact Ag rfl|exact Af (fun _=>rfl)|exact Ae (fun _=>rfl)|(simp only[Aj];omega)|(simp;done)|decide))
  |(with_reducible intro hfact)
  |((with_reducible refine And.intro ?_ ?_);focus (first|(with_reducible rfl)|(exact rfl)|decide))
  |((with_reducible refine Drawn.mkV ?_ ?_ ?_ (fun hfact=>?_));(focus kernel_rfl);(focus kernel_rfl);(focus kernel_rfl);(try simp only[dRS]at hfact))
  |((refine Au ?_))
  |((with_reducible refine CallWp.mk ?_);refine⟨_,hs,?_⟩;rintro _ _ ⟨rfl,rfl⟩)
  |((refine Abo hof ?_))
  |((with_reducible refine CallWp.mk ?_);refine⟨_,hwh,?_⟩;rintro _ _ ⟨rfl,rfl⟩)
  |((refine Bj ?_ (by decide)))
  |((with_reducible refine CallWp.mk ?_);refine⟨_,hbs,?_⟩;rintro _ _ ⟨rfl,rfl⟩)
  |((first|with_reducible apply A9|with_reducible apply Ba);(focus (simp only[D.at,D.put,D.kid,D.setKid,List.cons_append,List.nil_append,List.append,List.getElem?_cons_zero,List.getElem?_cons_succ,Int.toNat_natCast,List.getElem?_set_self',Option.map_eq_map,Option.map_some,List.set_cons_zero,List.set_cons_succ,List.set_set,Function.const_apply,List.map_cons,List.map_nil,mkSt,Ap,D.toI,toIs,Ak,List.getElem?_map,List.length_map,List.length_set,h1,h3,hI,Sto.toD,Tal.toI]<;>exact rfl)))
  |((first|with_reducible apply A3|with_reducible apply A2);(focus rfl);(focus (simp only[D.at,D.put,D.kid,D.setKid,List.cons_append,List.nil_append,List.append,List.getElem?_cons_zero,List.getElem?_cons_succ,Int.toNat_natCast,List.getElem?_set_self',Option.map_eq_map,Option.map_some,List.set_cons_zero,List.set_cons_succ,List.set_set,Function.const_apply,List.map_cons,List.map_nil,mkSt,Ap,D.toI,toIs,Ak,List.getElem?_map,List.length_map,List.length_set,h1,h3,hI,Sto.toD,Tal.toI]<;>exact rfl));(try(focus exact rfl))))
 all_goals(try(conv=>whnf))
 have hAl:A≤s.l.length:=by rw[hA];exact Hp _ _
 rw[←hA]at hRES
 refine LoopWq.by (X:=Nat × List Pr) (fun y=>[(5,.v (ti (y.1:Int))),(65,.own [] (.ptr (.vec 67 4 ((y.2.map Pr.toI).map D.it))))]) (fun y=>y.1≤s.l.length∧(y.2.length:Int)≤most∧Ep n x rev most (s.l.drop y.1) y.2=RES) (fun y=>s.l.length - y.1) (A,[]) (by kernel_rfl) ⟨hAl,by simp;omega,hRES⟩ ?_
 rintro⟨j,out⟩ ⟨hj,ho,hR⟩
 dsimp only at hj ho hR ⊢
 have hlen:=hB.len
 have hlm:(s.l.map Hld.toD).length=s.l.length:=List.length_map _
 have hw:IntKind.i64.wrap ((j:Int)+1)=((j+1:Nat):Int):=Dk (n:=100000) (by omega) (by simp only[maxLen];omega)
 by_cases hjl:j<s.l.length
 case neg=>
  have hlt:¬decide ((j:Int)<(s.l.length:Int))=true:=by simp;omega
  rw[List.drop_eq_nil_of_le (by omega)]at hR
  have hR:(out,false)=RES:=hR
  subst hR
  repeat'((conv=>whnf);first
   |((with_reducible refine Ax (by first|(with_reducible assumption)|(with_reducible exact Bool.of_not_eq_false (by assumption))|(with_reducible exact Bool.of_not_eq_true (by assumption))|((with_reducible refine decide_eq_true ?_);first|(with_reducible assumption)|omega)|((with_reducible refine decide_eq_false ?_);first|(with_reducible assumption)|omega)|(with_reducible rfl)) (fun hb=>?_));(try rw[hb]);(try simp only[Aa,Bool.false_eq_true,Bool.true_eq_false]at hb);(try subst hb))
   |((with_reducible refine Aw (by first|(with_reducible assumption)|(with_reducible exact Bool.of_not_eq_false (by assumption))|(with_reducible exact Bool.of_not_eq_true (by assumption))|((with_reducible refine decide_eq_true ?_);first|(with_reducible assumption)|omega)|((with_reducible refine decide_eq_false ?_);first|(with_reducible assumption)|omega)|(with_reducible rfl)) (fun hb=>?_));(try rw[hb]);(try simp only[Aa,Bool.false_eq_true,Bool.true_eq_false]at hb);(try subst hb))
   |((with_reducible refine And.intro (fun hb=>?_) (fun hb=>?_))<;>first|(with_reducible exact absurd hb (by assumption))|(exact absurd hb (by decide))|(with_reducible exact absurd hb Bool.false_ne_true)|(with_reducible exact absurd hb.symm Bool.false_ne_true)|(exfalso;first|(simp only[Aj]at hb<;>omega)|omega)|((try rw[hb]);(try simp only[Aa,Bool.false_eq_true,Bool.true_eq_false]at hb);(try subst hb)))
   |((with_reducible refine Exists.intro ?_ ?_);focus (and_intros<;>first|omega|(with_reducible assumption)|(with_reducible rfl)|kernel_rfl|exact rfl|assumption|(intro _ hh;cases hh;done)|exact Ah (by rfl)|exact size_map (fun _=>rfl)|exact Ai rfl|exact take_size (fun _=>rfl)|exact Ag rfl|exact Af (fun _=>rfl)|exact Ae (fun _=>rfl)|(simp only[Aj];omega)|(simp;done)|decide))
   |(with_reducible intro hfact)
   |((with_reducible refine And.intro ?_ ?_);focus (first|(with_reducible rfl)|(exact rfl)|decide))
   |((with_reducible refine Drawn.mkV ?_ ?_ ?_ (fun hfact=>?_));(focus kernel_rfl);(focus kernel_rfl);(focus kernel_rfl);(try simp only[dRS]at hfact))
   |((first|with_reducible apply A9|with_reducible apply Ba);(focus (simp only[D.at,D.put,D.kid,D.setKid,List.cons_append,List.nil_append,List.append,List.getElem?_cons_zero,List.getElem?_cons_succ,Int.toNat_natCast,List.getElem?_set_self',Option.map_eq_map,Option.map_some,List.set_cons_zero,List.set_cons_succ,List.set_set,Function.const_apply,List.map_cons,List.map_nil,mkSt,Ap,D.toI,toIs,Ak,List.getElem?_map,List.length_map,List.length_set,Sto.toD,hlm]<;>exact rfl)))
   |((first|with_reducible apply A3|with_reducible apply A2);(focus rfl);(focus (simp only[D.at,D.put,D.kid,D.setKid,List.cons_append,List.nil_append,List.append,List.getElem?_cons_zero,List.getElem?_cons_succ,Int.toNat_natCast,List.getElem?_set_self',Option.map_eq_map,Option.map_some,List.set_cons_zero,List.set_cons_succ,List.set_set,Function.const_apply,List.map_cons,List.map_nil,mkSt,Ap,D.toI,toIs,Ak,List.getElem?_map,List.length_map,List.length_set,Sto.toD,hlm]<;>exact rfl));(try(focus exact rfl))))
  all_goals(try(conv=>whnf))
  (apply dKq<;>kernel_rfl)
 obtain⟨h,he⟩:∃h,s.l[j]?=some h:=⟨_,List.getElem?_eq_getElem hjl⟩
 have hlt:¬decide ((j:Int)<(s.l.length:Int))=false:=by simp;omega
 obtain⟨hb1,hb2,hb3⟩:=hB.held h (List.mem_of_getElem? he)
 have hwho:=L2 h.at_ hb1
 have hdr:s.l.drop j=h::s.l.drop (j+1):=by rw[List.drop_eq_getElem_cons hjl];rw[List.getElem?_eq_getElem hjl]at he;cases he;rfl
 rw[hdr]at hR
 simp only[Ep]at hR
 have hver:=Ns h.at_ h.vs rev (by omega) (by omega)
 have hsh:=Tu x (C1 h.at_).2.1
 generalize C1 h.at_=wk at hwho hR hsh
 obtain⟨w,k,z⟩:=wk
 generalize D1 h.vs rev=vb at hver hR
 obtain⟨v,b⟩:=vb
 dsimp only at hwho hR hsh hver
 have hDI:=Hld.toD_I h
 simp only[Hld.toI]at hDI
 by_cases hwn:w=n
 case neg=>
  have hnb:¬(!decide (w=n))=false:=by simpa using hwn
  have hnb2:¬decide (w=n)=true:=by simpa using hwn
  rw[if_pos hwn]at hR
  subst hR
  repeat'((conv=>whnf);first
   |((with_reducible refine Ax (by first|(with_reducible assumption)|(with_reducible exact Bool.of_not_eq_false (by assumption))|(with_reducible exact Bool.of_not_eq_true (by assumption))|((with_reducible refine decide_eq_true ?_);first|(with_reducible assumption)|omega)|((with_reducible refine decide_eq_false ?_);first|(with_reducible assumption)|omega)|(with_reducible rfl)) (fun hb=>?_));(try rw[hb]);(try simp only[Aa,Bool.false_eq_true,Bool.true_eq_false]at hb);(try subst hb))
   |((with_reducible refine Aw (by first|(with_reducible assumption)|(with_reducible exact Bool.of_not_eq_false (by assumption))|(with_reducible exact Bool.of_not_eq_true (by assumption))|((with_reducible refine decide_eq_true ?_);first|(with_reducible assumption)|omega)|((with_reducible refine decide_eq_false ?_);first|(with_reducible assumption)|omega)|(with_reducible rfl)) (fun hb=>?_));(try rw[hb]);(try simp only[Aa,Bool.false_eq_true,Bool.true_eq_false]at hb);(try subst hb))
   |((with_reducible refine And.intro (fun hb=>?_) (fun hb=>?_))<;>first|(with_reducible exact absurd hb (by assumption))|(exact absurd hb (by decide))|(with_reducible exact absurd hb Bool.false_ne_true)|(with_reducible exact absurd hb.symm Bool.false_ne_true)|(exfalso;first|(simp only[Aj]at hb<;>omega)|omega)|((try rw[hb]);(try simp only[Aa,Bool.false_eq_true,Bool.true_eq_false]at hb);(try subst hb)))
   |((with_reducible refine Exists.intro ?_ ?_);focus (and_intros<;>first|omega|(with_reducible assumption)|(with_reducible rfl)|kernel_rfl|exact rfl|assumption|(intro _ hh;cases hh;done)|exact Ah (by rfl)|exact size_map (fun _=>rfl)|exact Ai rfl|exact take_size (fun _=>rfl)|exact Ag rfl|exact Af (fun _=>rfl)|exact Ae (fun _=>rfl)|(simp only[Aj];omega)|(simp;done)|decide))
   |(with_reducible intro hfact)
   |((with_reducible refine And.intro ?_ ?_);focus (first|(with_reducible rfl)|(exact rfl)|decide))
   |((with_reducible refine Drawn.mkV ?_ ?_ ?_ (fun hfact=>?_));(focus kernel_rfl);(focus kernel_rfl);(focus kernel_rfl);(try simp only[dRS]at hfact))
   |((with_reducible refine CallWp.mk ?_);refine⟨_,hwho,?_⟩;rintro _ _ ⟨rfl,rfl⟩)
   |((first|with_reducible apply A9|with_reducible apply Ba);(focus (simp only[D.at,D.put,D.kid,D.setKid,List.cons_append,List.nil_append,List.append,List.getElem?_cons_zero,List.getElem?_cons_succ,Int.toNat_natCast,List.getElem?_set_self',Option.map_eq_map,Option.map_some,List.set_cons_zero,List.set_cons_succ,List.set_set,Function.const_apply,List.map_cons,List.map_nil,mkSt,Ap,D.toI,toIs,Ak,List.getElem?_map,List.length_map,List.length_set,Sto.toD,hlm,he]<;>exact rfl)))
   |((first|with_reducible apply A3|with_reducible apply A2);(focus rfl);(focus (simp only[D.at,D.put,D.kid,D.setKid,List.cons_append,List.nil_append,List.append,List.getElem?_cons_zero,List.getElem?_cons_succ,Int.toNat_natCast,List.getElem?_set_self',Option.map_eq_map,Option.map_some,List.set_cons_zero,List.set_cons_succ,List.set_set,Function.const_apply,List.map_cons,List.map_nil,mkSt,Ap,D.toI,toIs,Ak,List.getElem?_map,List.length_map,List.length_set,Sto.toD,hlm,he]<;>exact rfl));(try(focus exact rfl))))
  all_goals(try(conv=>whnf))
  (apply dKq<;>kernel_rfl)
 subst hwn
 rw[if_neg (by simp)]at hR
 have hnb:¬(!decide (w=w))=true:=by simp
 have hnb2:¬decide (w=w)=false:=by simp
 by_cases hxk:SpH x k
 case neg=>
  rw[if_pos hxk]at hR
  rw[decide_eq_false hxk]at hsh
  repeat'((conv=>whnf);first
   |((with_reducible refine Ax (by first|(with_reducible assumption)|(with_reducible exact Bool.of_not_eq_false (by assumption))|(with_reducible exact Bool.of_not_eq_true (by assumption))|((with_reducible refine decide_eq_true ?_);first|(with_reducible assumption)|omega)|((with_reducible refine decide_eq_false ?_);first|(with_reducible assumption)|omega)|(with_reducible rfl)) (fun hb=>?_));(try rw[hb]);(try simp only[Aa,Bool.false_eq_true,Bool.true_eq_false]at hb);(try subst hb))
   |((with_reducible refine Aw (by first|(with_reducible assumption)|(with_reducible exact Bool.of_not_eq_false (by assumption))|(with_reducible exact Bool.of_not_eq_true (by assumption))|((with_reducible refine decide_eq_true ?_);first|(with_reducible assumption)|omega)|((with_reducible refine decide_eq_false ?_);first|(with_reducible assumption)|omega)|(with_reducible rfl)) (fun hb=>?_));(try rw[hb]);(try simp only[Aa,Bool.false_eq_true,Bool.true_eq_false]at hb);(try subst hb))
   |((with_reducible refine And.intro (fun hb=>?_) (fun hb=>?_))<;>first|(with_reducible exact absurd hb (by assumption))|(exact absurd hb (by decide))|(with_reducible exact absurd hb Bool.false_ne_true)|(with_reducible exact absurd hb.symm Bool.false_ne_true)|(exfalso;first|(simp only[Aj]at hb<;>omega)|omega)|((try rw[hb]);(try simp only[Aa,Bool.false_eq_true,Bool.true_eq_false]at hb);(try subst hb)))
   |((with_reducible refine Exists.intro ?_ ?_);focus (and_intros<;>first|omega|(with_reducible assumption)|(with_reducible rfl)|kernel_rfl|exact rfl|assumption|(intro _ hh;cases hh;done)|exact Ah (by rfl)|exact size_map (fun _=>rfl)|exact Ai rfl|exact take_size (fun _=>rfl)|exact Ag rfl|exact Af (fun _=>rfl)|exact Ae (fun _=>rfl)|(simp only[Aj];omega)|(simp;done)|decide))
   |(with_reducible intro hfact)
   |((with_reducible refine And.intro ?_ ?_);focus (first|(with_reducible rfl)|(exact rfl)|decide))
   |((with_reducible refine Drawn.mkV ?_ ?_ ?_ (fun hfact=>?_));(focus kernel_rfl);(focus kernel_rfl);(focus kernel_rfl);(try simp only[dRS]at hfact))
   |((with_reducible refine CallWp.mk ?_);refine⟨_,hwho,?_⟩;rintro _ _ ⟨rfl,rfl⟩)
   |((with_reducible refine CallWp.mk ?_);refine⟨_,hsh,?_⟩;rintro _ _ ⟨rfl,rfl⟩)
   |((try dsimp only);rw[hw])
   |((first|with_reducible apply A9|with_reducible apply Ba);(focus (simp only[D.at,D.put,D.kid,D.setKid,List.cons_append,List.nil_append,List.append,List.getElem?_cons_zero,List.getElem?_cons_succ,Int.toNat_natCast,List.getElem?_set_self',Option.map_eq_map,Option.map_some,List.set_cons_zero,List.set_cons_succ,List.set_set,Function.const_apply,List.map_cons,List.map_nil,mkSt,Ap,D.toI,toIs,Ak,List.getElem?_map,List.length_map,List.length_set,Sto.toD,hlm,he]<;>exact rfl)))
   |((first|with_reducible apply A3|with_reducible apply A2);(focus rfl);(focus (simp only[D.at,D.put,D.kid,D.setKid,List.cons_append,List.nil_append,List.append,List.getElem?_cons_zero,List.getElem?_cons_succ,Int.toNat_natCast,List.getElem?_set_self',Option.map_eq_map,Option.map_some,List.set_cons_zero,List.set_cons_succ,List.set_set,Function.const_apply,List.map_cons,List.map_nil,mkSt,Ap,D.toI,toIs,Ak,List.getElem?_map,List.length_map,List.length_set,Sto.toD,hlm,he]<;>exact rfl));(try(focus exact rfl))))
  all_goals(try(conv=>whnf))
  refine Round.by (j+1,out) ?_ ⟨by omega,ho,hR⟩ (by dsimp only;omega)
  try dsimp only
  show norm _ _=upd _ _
  kernel_rfl
 rw[if_neg (by simpa using hxk)]at hR
 rw[decide_eq_true hxk]at hsh
 cases b with
 |false=>
  rw[if_pos rfl]at hR
  repeat'((conv=>whnf);first
   |((with_reducible refine Ax (by first|(with_reducible assumption)|(with_reducible exact Bool.of_not_eq_false (by assumption))|(with_reducible exact Bool.of_not_eq_true (by assumption))|((with_reducible refine decide_eq_true ?_);first|(with_reducible assumption)|omega)|((with_reducible refine decide_eq_false ?_);first|(with_reducible assumption)|omega)|(with_reducible rfl)) (fun hb=>?_));(try rw[hb]);(try simp only[Aa,Bool.false_eq_true,Bool.true_eq_false]at hb);(try subst hb))
   |((with_reducible refine Aw (by first|(with_reducible assumption)|(with_reducible exact Bool.of_not_eq_false (by assumption))|(with_reducible exact Bool.of_not_eq_true (by assumption))|((with_reducible refine decide_eq_true ?_);first|(with_reducible assumption)|omega)|((with_reducible refine decide_eq_false ?_);first|(with_reducible assumption)|omega)|(with_reducible rfl)) (fun hb=>?_));(try rw[hb]);(try simp only[Aa,Bool.false_eq_true,Bool.true_eq_false]at hb);(try subst hb))
   |((with_reducible refine And.intro (fun hb=>?_) (fun hb=>?_))<;>first|(with_reducible exact absurd hb (by assumption))|(exact absurd hb (by decide))|(with_reducible exact absurd hb Bool.false_ne_true)|(with_reducible exact absurd hb.symm Bool.false_ne_true)|(exfalso;first|(simp only[Aj]at hb<;>omega)|omega)|((try rw[hb]);(try simp only[Aa,Bool.false_eq_true,Bool.true_eq_false]at hb);(try subst hb)))
   |((with_reducible refine Exists.intro ?_ ?_);focus (and_intros<;>first|omega|(with_reducible assumption)|(with_reducible rfl)|kernel_rfl|exact rfl|assumption|(intro _ hh;cases hh;done)|exact Ah (by rfl)|exact size_map (fun _=>rfl)|exact Ai rfl|exact take_size (fun _=>rfl)|exact Ag rfl|exact Af (fun _=>rfl)|exact Ae (fun _=>rfl)|(simp only[Aj];omega)|(simp;done)|decide))
   |(with_reducible intro hfact)
   |((with_reducible refine And.intro ?_ ?_);focus (first|(with_reducible rfl)|(exact rfl)|decide))
   |((with_reducible refine Drawn.mkV ?_ ?_ ?_ (fun hfact=>?_));(focus kernel_rfl);(focus kernel_rfl);(focus kernel_rfl);(try simp only[dRS]at hfact))
   |((with_reducible refine CallWp.mk ?_);refine⟨_,hwho,?_⟩;rintro _ _ ⟨rfl,rfl⟩)
   |((with_reducible refine CallWp.mk ?_);refine⟨_,hsh,?_⟩;rintro _ _ ⟨rfl,rfl⟩)
   |((with_reducible refine CallIs.mk ?_);refine⟨_,_,hver,?_⟩)
   |((try dsimp only);rw[hw])
   |((try dsimp only);rw[hDI])
   |((first|with_reducible apply A9|with_reducible apply Ba);(focus (simp only[D.at,D.put,D.kid,D.setKid,List.cons_append,List.nil_append,List.append,List.getElem?_cons_zero,List.getElem?_cons_succ,Int.toNat_natCast,List.getElem?_set_self',Option.map_eq_map,Option.map_some,List.set_cons_zero,List.set_cons_succ,List.set_set,Function.const_apply,List.map_cons,List.map_nil,mkSt,Ap,D.toI,toIs,Ak,List.getElem?_map,List.length_map,List.length_set,Sto.toD,hlm,he]<;>exact rfl)))
   |((first|with_reducible apply A3|with_reducible apply A2);(focus rfl);(focus (simp only[D.at,D.put,D.kid,D.setKid,List.cons_append,List.nil_append,List.append,List.getElem?_cons_zero,List.getElem?_cons_succ,Int.toNat_natCast,List.getElem?_set_self',Option.map_eq_map,Option.map_some,List.set_cons_zero,List.set_cons_succ,List.set_set,Function.const_apply,List.map_cons,List.map_nil,mkSt,Ap,D.toI,toIs,Ak,List.getElem?_map,List.length_map,List.length_set,Sto.toD,hlm,he]<;>exact rfl));(try(focus exact rfl))))
  all_goals(try(conv=>whnf))
  refine Round.by (j+1,out) ?_ ⟨by omega,ho,hR⟩ (by dsimp only;omega)
  try dsimp only
  show norm _ _=upd _ _
  kernel_rfl
 |true=>
  rw[if_neg (by simp)]at hR
  have hlo:((out.map Pr.toI).map D.it).length=out.length:=by simp
  by_cases hom:(out.length:Int)=most
  ·rw[if_pos hom]at hR
   subst hR
   have hom1:decide ((((out.map Pr.toI).map D.it).length:Int)=most)=true:=by rw[hlo];exact decide_eq_true hom
   repeat'((conv=>whnf);first
    |((with_reducible refine Ax (by first|(with_reducible assumption)|(with_reducible exact Bool.of_not_eq_false (by assumption))|(with_reducible exact Bool.of_not_eq_true (by assumption))|((with_reducible refine decide_eq_true ?_);first|(with_reducible assumption)|omega)|((with_reducible refine decide_eq_false ?_);first|(with_reducible assumption)|omega)|(with_reducible rfl)) (fun hb=>?_));(try rw[hb]);(try simp only[Aa,Bool.false_eq_true,Bool.true_eq_false]at hb);(try subst hb))
    |((with_reducible refine Aw (by first|(with_reducible assumption)|(with_reducible exact Bool.of_not_eq_false (by assumption))|(with_reducible exact Bool.of_not_eq_true (by assumption))|((with_reducible refine decide_eq_true ?_);first|(with_reducible assumption)|omega)|((with_reducible refine decide_eq_false ?_);first|(with_reducible assumption)|omega)|(with_reducible rfl)) (fun hb=>?_));(try rw[hb]);(try simp only[Aa,Bool.false_eq_true,Bool.true_eq_false]at hb);(try subst hb))
    |((with_reducible refine And.intro (fun hb=>?_) (fun hb=>?_))<;>first|(with_reducible exact absurd hb (by assumption))|(exact absurd hb (by decide))|(with_reducible exact absurd hb Bool.false_ne_true)|(with_reducible exact absurd hb.symm Bool.false_ne_true)|(exfalso;first|(simp only[Aj]at hb<;>omega)|omega)|((try rw[hb]);(try simp only[Aa,Bool.false_eq_true,Bool.true_eq_false]at hb);(try subst hb)))
    |((with_reducible refine Exists.intro ?_ ?_);focus (and_intros<;>first|omega|(with_reducible assumption)|(with_reducible rfl)|kernel_rfl|exact rfl|assumption|(intro _ hh;cases hh;done)|exact Ah (by rfl)|exact size_map (fun _=>rfl)|exact Ai rfl|exact take_size (fun _=>rfl)|exact Ag rfl|exact Af (fun _=>rfl)|exact Ae (fun _=>rfl)|(simp only[Aj];omega)|(simp;done)|decide))
    |(with_reducible intro hfact)
    |((with_reducible refine And.intro ?_ ?_);focus (first|(with_reducible rfl)|(exact rfl)|decide))
    |((with_reducible refine Drawn.mkV ?_ ?_ ?_ (fun hfact=>?_));(focus kernel_rfl);(focus kernel_rfl);(focus kernel_rfl);(try simp only[dRS]at hfact))
    |((with_reducible refine CallWp.mk ?_);refine⟨_,hwho,?_⟩;rintro _ _ ⟨rfl,rfl⟩)
    |((with_reducible refine CallWp.mk ?_);refine⟨_,hsh,?_⟩;rintro _ _ ⟨rfl,rfl⟩)
    |((with_reducible refine CallIs.mk ?_);refine⟨_,_,hver,?_⟩)
    |((try dsimp only);rw[hw])
    |((try dsimp only);rw[hDI])
    |((first|with_reducible apply A9|with_reducible apply Ba);(focus (simp only[D.at,D.put,D.kid,D.setKid,List.cons_append,List.nil_append,List.append,List.getElem?_cons_zero,List.getElem?_cons_succ,Int.toNat_natCast,List.getElem?_set_self',Option.map_eq_map,Option.map_some,List.set_cons_zero,List.set_cons_succ,List.set_set,Function.const_apply,List.map_cons,List.map_nil,mkSt,Ap,D.toI,toIs,Ak,List.getElem?_map,List.length_map,List.length_set,Sto.toD,hlm,he]<;>exact rfl)))
    |((first|with_reducible apply A3|with_reducible apply A2);(focus rfl);(focus (simp only[D.at,D.put,D.kid,D.setKid,List.cons_append,List.nil_append,List.append,List.getElem?_cons_zero,List.getElem?_cons_succ,Int.toNat_natCast,List.getElem?_set_self',Option.map_eq_map,Option.map_some,List.set_cons_zero,List.set_cons_succ,List.set_set,Function.const_apply,List.map_cons,List.map_nil,mkSt,Ap,D.toI,toIs,Ak,List.getElem?_map,List.length_map,List.length_set,Sto.toD,hlm,he]<;>exact rfl));(try(focus exact rfl))))
   all_goals(try(conv=>whnf))
   (apply dKq<;>kernel_rfl)
  ·rw[if_neg hom]at hR
   have hom1:decide ((((out.map Pr.toI).map D.it).length:Int)=most)=false:=by rw[hlo];exact decide_eq_false hom
   repeat'((conv=>whnf);first
    |((with_reducible refine Ax (by first|(with_reducible assumption)|(with_reducible exact Bool.of_not_eq_false (by assumption))|(with_reducible exact Bool.of_not_eq_true (by assumption))|((with_reducible refine decide_eq_true ?_);first|(with_reducible assumption)|omega)|((with_reducible refine decide_eq_false ?_);first|(with_reducible assumption)|omega)|(with_reducible rfl)) (fun hb=>?_));(try rw[hb]);(try simp only[Aa,Bool.false_eq_true,Bool.true_eq_false]at hb);(try subst hb))
    |((with_reducible refine Aw (by first|(with_reducible assumption)|(with_reducible exact Bool.of_not_eq_false (by assumption))|(with_reducible exact Bool.of_not_eq_true (by assumption))|((with_reducible refine decide_eq_true ?_);first|(with_reducible assumption)|omega)|((with_reducible refine decide_eq_false ?_);first|(with_reducible assumption)|omega)|(with_reducible rfl)) (fun hb=>?_));(try rw[hb]);(try simp only[Aa,Bool.false_eq_true,Bool.true_eq_false]at hb);(try subst hb))
    |((with_reducible refine And.intro (fun hb=>?_) (fun hb=>?_))<;>first|(with_reducible exact absurd hb (by assumption))|(exact absurd hb (by decide))|(with_reducible exact absurd hb Bool.false_ne_true)|(with_reducible exact absurd hb.symm Bool.false_ne_true)|(exfalso;first|(simp only[Aj]at hb<;>omega)|omega)|((try rw[hb]);(try simp only[Aa,Bool.false_eq_true,Bool.true_eq_false]at hb);(try subst hb)))
    |((with_reducible refine Exists.intro ?_ ?_);focus (and_intros<;>first|omega|(with_reducible assumption)|(with_reducible rfl)|kernel_rfl|exact rfl|assumption|(intro _ hh;cases hh;done)|exact Ah (by rfl)|exact size_map (fun _=>rfl)|exact Ai rfl|exact take_size (fun _=>rfl)|exact Ag rfl|exact Af (fun _=>rfl)|exact Ae (fun _=>rfl)|(simp only[Aj];omega)|(simp;done)|decide))
    |(with_reducible intro hfact)
    |((with_reducible refine And.intro ?_ ?_);focus (first|(with_reducible rfl)|(exact rfl)|decide))
    |((with_reducible refine Drawn.mkV ?_ ?_ ?_ (fun hfact=>?_));(focus kernel_rfl);(focus kernel_rfl);(focus kernel_rfl);(try simp only[dRS]at hfact))
    |((with_reducible refine CallWp.mk ?_);refine⟨_,hwho,?_⟩;rintro _ _ ⟨rfl,rfl⟩)
    |((with_reducible refine CallWp.mk ?_);refine⟨_,hsh,?_⟩;rintro _ _ ⟨rfl,rfl⟩)
    |((with_reducible refine CallIs.mk ?_);refine⟨_,_,hver,?_⟩)
    |((try dsimp only);rw[hw])
    |((try dsimp only);rw[hDI])
    |((first|with_reducible apply A9|with_reducible apply Ba);(focus (simp only[D.at,D.put,D.kid,D.setKid,List.cons_append,List.nil_append,List.append,List.getElem?_cons_zero,List.getElem?_cons_succ,Int.toNat_natCast,List.getElem?_set_self',Option.map_eq_map,Option.map_some,List.set_cons_zero,List.set_cons_succ,List.set_set,Function.const_apply,List.map_cons,List.map_nil,mkSt,Ap,D.toI,toIs,Ak,List.getElem?_map,List.length_map,List.length_set,Sto.toD,hlm,he]<;>exact rfl)))
    |((first|with_reducible apply A3|with_reducible apply A2);(focus rfl);(focus (simp only[D.at,D.put,D.kid,D.setKid,List.cons_append,List.nil_append,List.append,List.getElem?_cons_zero,List.getElem?_cons_succ,Int.toNat_natCast,List.getElem?_set_self',Option.map_eq_map,Option.map_some,List.set_cons_zero,List.set_cons_succ,List.set_set,Function.const_apply,List.map_cons,List.map_nil,mkSt,Ap,D.toI,toIs,Ak,List.getElem?_map,List.length_map,List.length_set,Sto.toD,hlm,he]<;>exact rfl));(try(focus exact rfl))))
   all_goals(try(conv=>whnf))
   refine Round.by (j+1,out++[⟨k,v.val,v.made,v.rev⟩]) ?_ ⟨by omega,by simp;omega,hR⟩ (by dsimp only;omega)
   try dsimp only
   simp only[List.map_append,List.map_cons,List.map_nil]
   show norm _ _=upd _ _
   kernel_rfl

open Go.RowKit Go.Maps Go.Sort Go.Shelf Go.Proofs
def Abr:Go.Shelf.Ren:=⟨fun|7=>70|10=>100|n=>n,fun|23=>119|26=>9|3=>38|28=>122|0=>0|27=>121|33=>116|4=>4|n=>n,fun|n=>n⟩
theorem Aeo:Go.Proofs.SlLaysZ.n7 Tryd.prog Abr where
 mixed:=by kernel_rfl
 f7:=⟨"maps.Keys[map[string]exchequer/api.Change,string,exchequer/api.Change]",by decide,Tryd.func70.trans (congrArg some (by kernel_rfl))⟩
 f10:=⟨"maps.Keys[map[string]exchequer/api.Change,string,exchequer/api.Change]$1",by decide,Tryd.func100.trans (congrArg some (by kernel_rfl))⟩
 t0:=Tryd.underlying0
 a0:=Tryd.isAgg0
 z0:=Tryd.sizeOf0
 v0:=Tryd.zeroValue0
 t4:=Tryd.underlying4
 a4:=Tryd.isAgg4
 z4:=Tryd.sizeOf4
 v4:=Tryd.zeroValue4
 t23:=Tryd.underlying119
 a23:=Tryd.isAgg119
 z23:=Tryd.sizeOf119
 v23:=Tryd.zeroValue119
 t26:=Tryd.underlying9
 a26:=Tryd.isAgg9
 z26:=Tryd.sizeOf9
 v26:=Tryd.zeroValue9
 t27:=Tryd.underlying121
 a27:=Tryd.isAgg121
 z27:=Tryd.sizeOf121
 v27:=Tryd.zeroValue121
 t28:=Tryd.underlying122
 a28:=Tryd.isAgg122
 z28:=Tryd.sizeOf122
 v28:=Tryd.zeroValue122
 t33:=Tryd.underlying116
 a33:=Tryd.isAgg116
 z33:=Tryd.sizeOf116
 v33:=Tryd.zeroValue116
def Pt:Go.Shelf.Ren:=⟨fun|6=>69|8=>98|9=>99|11=>115|13=>117|12=>116|23=>136|24=>137|14=>127|15=>128|16=>129|17=>130|18=>131|19=>132|20=>133|21=>134|22=>135|25=>140|26=>141|27=>142|28=>143|29=>144|30=>138|31=>146|n=>n,fun|26=>9|28=>122|24=>80|0=>0|3=>3|37=>174|48=>191|50=>193|4=>4|40=>184|39=>183|45=>159|5=>5|9=>9|51=>198|55=>202|57=>205|58=>44|33=>116|n=>n,fun|n=>n⟩
theorem Afh:Go.Proofs.SlLaysZ.n6 Tryd.prog Pt where
 mixed:=by kernel_rfl
 f6:=⟨"slices.Sorted[string]",by decide,Tryd.func69.trans (congrArg some (by kernel_rfl))⟩
 f8:=⟨"slices.Collect[string]",by decide,Tryd.func98.trans (congrArg some (by kernel_rfl))⟩
 f11:=⟨"slices.AppendSeq[[]string,string]",by decide,Tryd.func115.trans (congrArg some (by kernel_rfl))⟩
 t0:=Tryd.underlying0
 a0:=Tryd.isAgg0
 z0:=Tryd.sizeOf0
 v0:=Tryd.zeroValue0
 t24:=Tryd.underlying80
 a24:=Tryd.isAgg80
 z24:=Tryd.sizeOf80
 v24:=Tryd.zeroValue80
 t26:=Tryd.underlying9
 a26:=Tryd.isAgg9
 z26:=Tryd.sizeOf9
 v26:=Tryd.zeroValue9
 t28:=Tryd.underlying122
 a28:=Tryd.isAgg122
 z28:=Tryd.sizeOf122
 v28:=Tryd.zeroValue122
 i26:=by kernel_rfl
def Acs:Go.Shelf.Ren:=⟨fun|6=>99|8=>117|9=>116|19=>136|20=>137|21=>127|22=>128|23=>129|24=>130|25=>131|26=>132|27=>133|28=>134|29=>135|36=>140|31=>141|32=>142|37=>143|38=>144|39=>138|41=>146|n=>n,fun|27=>80|29=>9|3=>3|32=>174|26=>80|0=>0|44=>191|46=>193|4=>4|36=>184|35=>183|41=>159|5=>5|9=>9|53=>198|57=>202|63=>205|64=>44|n=>n,fun|n=>n⟩
theorem Aew:Go.Proofs.SlLaysM.n6 Tryd.prog Acs where
 mixed:=by kernel_rfl
 f6:=⟨"slices.Sort[[]string,string]",by decide,Tryd.func99.trans (congrArg some (by kernel_rfl))⟩
 f8:=Tryd.func117.trans (congrArg some (by kernel_rfl))
 f9:=⟨"slices.pdqsortOrdered[string]",by decide,Tryd.func116.trans (congrArg some (by kernel_rfl))⟩
 f19:=Tryd.func136.trans (congrArg some (by kernel_rfl))
 f20:=Tryd.func137.trans (congrArg some (by kernel_rfl))
 f21:=⟨"slices.insertionSortOrdered[string]",by decide,Tryd.func127.trans (congrArg some (by kernel_rfl))⟩
 f22:=⟨"slices.heapSortOrdered[string]",by decide,Tryd.func128.trans (congrArg some (by kernel_rfl))⟩
 f23:=⟨"slices.breakPatternsOrdered[string]",by decide,Tryd.func129.trans (congrArg some (by kernel_rfl))⟩
 f24:=⟨"slices.choosePivotOrdered[string]",by decide,Tryd.func130.trans (congrArg some (by kernel_rfl))⟩
 f25:=⟨"slices.reverseRangeOrdered[string]",by decide,Tryd.func131.trans (congrArg some (by kernel_rfl))⟩
 f26:=⟨"slices.partialInsertionSortOrdered[string]",by decide,Tryd.func132.trans (congrArg some (by kernel_rfl))⟩
 f27:=⟨"cmp.Less[string]",by decide,Tryd.func133.trans (congrArg some (by kernel_rfl))⟩
 f28:=⟨"slices.partitionEqualOrdered[string]",by decide,Tryd.func134.trans (congrArg some (by kernel_rfl))⟩
 f29:=⟨"slices.partitionOrdered[string]",by decide,Tryd.func135.trans (congrArg some (by kernel_rfl))⟩
 f31:=Tryd.func141.trans (congrArg some (by kernel_rfl))
 f32:=Tryd.func142.trans (congrArg some (by kernel_rfl))
 f36:=⟨"slices.siftDownOrdered[string]",by decide,Tryd.func140.trans (congrArg some (by kernel_rfl))⟩
 f37:=⟨"slices.medianAdjacentOrdered[string]",by decide,Tryd.func143.trans (congrArg some (by kernel_rfl))⟩
 f38:=⟨"slices.medianOrdered[string]",by decide,Tryd.func144.trans (congrArg some (by kernel_rfl))⟩
 f39:=⟨"cmp.isNaN[string]",by decide,Tryd.func138.trans (congrArg some (by kernel_rfl))⟩
 f41:=⟨"slices.order2Ordered[string]",by decide,Tryd.func146.trans (congrArg some (by kernel_rfl))⟩
 t0:=Tryd.underlying0
 a0:=Tryd.isAgg0
 z0:=Tryd.sizeOf0
 v0:=Tryd.zeroValue0
 t3:=Tryd.underlying3
 a3:=Tryd.isAgg3
 z3:=Tryd.sizeOf3
 v3:=Tryd.zeroValue3
 t4:=Tryd.underlying4
 a4:=Tryd.isAgg4
 z4:=Tryd.sizeOf4
 v4:=Tryd.zeroValue4
 t5:=Tryd.underlying5
 a5:=Tryd.isAgg5
 z5:=Tryd.sizeOf5
 v5:=Tryd.zeroValue5
 t9:=Tryd.underlying9
 a9:=Tryd.isAgg9
 z9:=Tryd.sizeOf9
 v9:=Tryd.zeroValue9
 t26:=Tryd.underlying80
 a26:=Tryd.isAgg80
 z26:=Tryd.sizeOf80
 v26:=Tryd.zeroValue80
 t27:=Tryd.underlying80
 a27:=Tryd.isAgg80
 z27:=Tryd.sizeOf80
 v27:=Tryd.zeroValue80
 t29:=Tryd.underlying9
 a29:=Tryd.isAgg9
 z29:=Tryd.sizeOf9
 v29:=Tryd.zeroValue9
 t32:=Tryd.underlying174
 a32:=Tryd.isAgg174
 z32:=Tryd.sizeOf174
 v32:=Tryd.zeroValue174
 t35:=Tryd.underlying183
 a35:=Tryd.isAgg183
 z35:=Tryd.sizeOf183
 v35:=Tryd.zeroValue183
 t36:=Tryd.underlying184
 a36:=Tryd.isAgg184
 z36:=Tryd.sizeOf184
 v36:=Tryd.zeroValue184
 t41:=Tryd.underlying159
 a41:=Tryd.isAgg159
 z41:=Tryd.sizeOf159
 v41:=Tryd.zeroValue159
 t44:=Tryd.underlying191
 a44:=Tryd.isAgg191
 z44:=Tryd.sizeOf191
 v44:=Tryd.zeroValue191
 t46:=Tryd.underlying193
 a46:=Tryd.isAgg193
 z46:=Tryd.sizeOf193
 v46:=Tryd.zeroValue193
 t53:=Tryd.underlying198
 a53:=Tryd.isAgg198
 z53:=Tryd.sizeOf198
 v53:=Tryd.zeroValue198
 t57:=Tryd.underlying202
 a57:=Tryd.isAgg202
 z57:=Tryd.sizeOf202
 v57:=Tryd.zeroValue202
 t63:=Tryd.underlying205
 a63:=Tryd.isAgg205
 z63:=Tryd.sizeOf205
 v63:=Tryd.zeroValue205
 t64:=Tryd.underlying44
 a64:=Tryd.isAgg44
 z64:=Tryd.sizeOf44
 v64:=Tryd.zeroValue44
theorem Afi (m:Nat):AnyZ.SortsIn Tryd.prog Pt Fence.wide m:=
 ⟨fun blk off cap ss W hH hblk hsz=>callsIn_wide.2 (AnyM.slices_Sort_string Aew blk off cap ss W hH hblk hsz),
  fun p cap W=>callsIn_wide.2 (AnyM.slices_Sort_string_none Aew p cap W)⟩
theorem Aep:Aek 119:=KeysC.of Aeo
theorem Adx:∀args w,(callFunc 99 args).run Tryd.prog w= .ok (.enter 99 args) w:=enters_of Tryd.func99 (by kernel_rfl) rfl
theorem Abi:∀args w,(callFunc 100 args).run Tryd.prog w= .ok (.enter 100 args) w:=enters_of Tryd.func100 (by kernel_rfl) rfl
set_option maxHeartbeats 4000000 in
theorem Aex:Aem 9:=by
 have h:=SortedC.of Afh Aeo Afi Adx Abi
 exact h
set_option maxHeartbeats 4000000 in
theorem ofC:Zb:=by
 refine⟨27,9,fun v1 v2 W h1 h2=>?_⟩
 go_enter Tryd.func79,Tryd.ntmps79
 go_wp2
 all_goals first
  |(go_ret;exact⟨rfl,rfl⟩)
  |(exfalso;simp[Value.oneCell']at h1;done)
  |(exfalso;simp[Value.oneCell']at h2;done)
end Go.Ab
