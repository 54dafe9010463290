/- Lemmas -/
import Derived.Test.YtkpojedpcabojaaDoorWE
set_option linter.unusedVariables false
set_option linter.unusedSimpArgs false
set_option maxRecDepth 100000
set_option maxHeartbeats 40000000
namespace Go.Ab
open Go.Proofs
theorem range_zero (hof:Zb) (s:Sto) (hB:s.Bd) (n:Az) (hn:n.length≤100000) (x:Sp) (rev most:Int) (i:Nat) (hf:s.fi n=some i) (hx:SpR x) (hr:(s.tal n).rev=rev∧0≤rev∧rev≤9000000000000000000) (hm:1≤most∧most≤16) (RES:List Pr × Bool) (hRES:Ep n x rev most (s.l.drop (bsI (ltH (B7 n [])) s.l)) []=RES):
 Fn Tryd.prog C9 [sP s,.v (.str n),.v x.toI,.v (ti 0),.v (ti most)] (Is (.tup [.i (.list (RES.1.map Pr.toI)),.i (.bool RES.2),.i (ti 0)]) [sP s,.no,.no,.no,.no]):=by
 obtain⟨T1,T2,hof⟩:=hof
 refine D0 ?_ (by simp)
 obtain⟨h1,h2,h3⟩:=Sto.fi_some hf
 have hs:=Pu x
 rw[decide_eq_true hx]at hs
 have hI:=U8 s.l
 have hwh:=L1 n [] hn (by simp)
 have hbs:=L0 s.l (B7 n []) (by have:=hB.len;omega)
 obtain⟨A,hA⟩:∃A,A=bsI (ltH (B7 n [])) s.l:=⟨_,rfl⟩
 obtain⟨B,hB'⟩:∃B,B=bsF (ltH (B7 n [])) (eqH (B7 n [])) s.l:=⟨_,rfl⟩
 rw[←hA, ←hB']at hbs
 obtain⟨hr0,hr⟩:=hr
 subst hr0
 repeat'((conv=>whnf);first
  |((with_reducible refine Ax (by first|(with_reducible assumption)|(with_reducible exact Bool.of_not_eq_false (by assumption))|(with_reducible exact Bool.of_not_eq_true (by assumption))|((with_reducible refine decide_eq_true ?_);first|(with_reducible assumption)|omega)|((with_reducible refine decide_eq_false ?_);first|(with_reducible assumption)|omega)|(with_reducible rfl)) (fun hb=>?_));(try rw[hb]);(try simp only[Aa,Bool.false_eq_true,Bool.true_eq_false]at hb);(try subst hb))
  |((with_reducible refine Aw (by first|(with_reducible assumption)|(with_reducible exact Bool.of_not_eq_false (by assumption))|(with_reducible exact Bool.of_not_eq_true (by assumption))|((with_reducible refine decide_eq_true ?_);first|(with_reducible assumption)|omega)|((with_reducible refine decide_eq_false ?_);first|(with_reducible assumption)|omega)|(with_reducible rfl)) (fun hb=>?_));(try rw[hb]);(try simp only[Aa,Bool.false_eq_true,Bool.true_eq_false]at hb);(try subst hb))
  |((with_reducible refine And.intro (fun hb=>?_) (fun hb=>?_))<;>first|(with_reducible exact absurd hb (by assumption))|(exact absurd hb (by decide))|(with_reducible exact absurd hb Bool.false_ne_true)|(with_reducible exact absurd hb.symm Bool.false_ne_true)|(exfalso;first|(simp only[Aj]at hb<;>omega)|omega)|((try rw[hb]);(try simp only[Aa,Bool.false_eq_true,Bool.true_eq_false]at hb);(try subst hb)))
  |((with_reducible refine Exists.intro ?_ ?_);focus (and_intros<;>first|omega|(with_reducible assumption)|(with_reducible rfl)|kernel_rfl|exact rfl|assumption|(intro _ hh;cases hh;done)|exact Ah (by rfl)|exact size_map (fun _=>rfl)|exact Ai rfl|exact take_size (fun _=>rfl)|exact Ag rfl|exact Af (fun _=>rfl)|exact Ae (fun _=>rfl)|(simp only[Aj];omega)|(simp;done)|decide))
  |(with_reducible intro hfact)
  |((with_reducible refine And.intro ?_ ?_);focus (first|(with_reducible rfl)|(exact rfl)|decide))
  |((with_reducible refine Drawn.mkV ?_ ?_ ?_ (fun hfact=>?_));(focus kernel_rfl);(focus kernel_rfl);(focus kernel_rfl);(try simp only[dRS]at hfact))
  |((refine Au ?_))
  |((with_reducible refine CallWp.mk ?_);refine⟨_,hs,?_⟩;rintro _ _ ⟨rfl,rfl⟩)
  |((refine Abo hof ?_))
  |((with_reducible refine CallWp.mk ?_);refine⟨_,hwh,?_⟩;rintro _ _ ⟨rfl,rfl⟩)
  |((refine Bj ?_ (by decide)))
  |((with_reducible refine CallWp.mk ?_);refine⟨_,hbs,?_⟩;rintro _ _ ⟨rfl,rfl⟩)
  |((first|with_reducible apply A9|with_reducible apply Ba);(focus (simp only[D.at,D.put,D.kid,D.setKid,List.cons_append,List.nil_append,List.append,List.getElem?_cons_zero,List.getElem?_cons_succ,Int.toNat_natCast,List.getElem?_set_self',Option.map_eq_map,Option.map_some,List.set_cons_zero,List.set_cons_succ,List.set_set,Function.const_apply,List.map_cons,List.map_nil,mkSt,Ap,D.toI,toIs,Ak,List.getElem?_map,List.length_map,List.length_set,h1,h3,hI,Sto.toD,Tal.toI]<;>exact rfl)))
  |((first|with_reducible apply A3|with_reducible apply A2);(focus rfl);(focus (simp only[D.at,D.put,D.kid,D.setKid,List.cons_append,List.nil_append,List.append,List.getElem?_cons_zero,List.getElem?_cons_succ,Int.toNat_natCast,List.getElem?_set_self',Option.map_eq_map,Option.map_some,List.set_cons_zero,List.set_cons_succ,List.set_set,Function.const_apply,List.map_cons,List.map_nil,mkSt,Ap,D.toI,toIs,Ak,List.getElem?_map,List.length_map,List.length_set,h1,h3,hI,Sto.toD,Tal.toI]<;>exact rfl));(try(focus exact rfl))))
 all_goals(try(conv=>whnf))
 have hAl:A≤s.l.length:=by rw[hA];exact Hp _ _
 rw[←hA]at hRES
 refine LoopWq.by (X:=Nat × List Pr) (fun y=>[(5,.v (ti (y.1:Int))),(65,.own [] (.ptr (.vec 67 4 ((y.2.map Pr.toI).map D.it))))]) (fun y=>y.1≤s.l.length∧(y.2.length:Int)≤most∧Ep n x (s.tal n).rev most (s.l.drop y.1) y.2=RES) (fun y=>s.l.length - y.1) (A,[]) (by kernel_rfl) ⟨hAl,by simp;omega,hRES⟩ ?_
 rintro⟨j,out⟩ ⟨hj,ho,hR⟩
 dsimp only at hj ho hR ⊢
 have hlen:=hB.len
 have hlm:(s.l.map Hld.toD).length=s.l.length:=List.length_map _
 have hw:IntKind.i64.wrap ((j:Int)+1)=((j+1:Nat):Int):=Dk (n:=100000) (by omega) (by simp only[maxLen];omega)
 by_cases hjl:j<s.l.length
 case neg=>
  have hlt:¬decide ((j:Int)<(s.l.length:Int))=true:=by simp;omega
  rw[List.drop_eq_nil_of_le (by omega)]at hR
  have hR:(out,false)=RES:=hR
  subst hR
  repeat'((conv=>whnf);first
   |((with_reducible refine Ax (by first|(with_reducible assumption)|(with_reducible exact Bool.of_not_eq_false (by assumption))|(with_reducible exact Bool.of_not_eq_true (by assumption))|((with_reducible refine decide_eq_true ?_);first|(with_reducible assumption)|omega)|((with_reducible refine decide_eq_false ?_);first|(with_reducible assumption)|omega)|(with_reducible rfl)) (fun hb=>?_));(try rw[hb]);(try simp only[Aa,Bool.false_eq_true,Bool.true_eq_false]at hb);(try subst hb))
   |((with_reducible refine Aw (by first|(with_reducible assumption)|(with_reducible exact Bool.of_not_eq_false (by assumption))|(with_reducible exact Bool.of_not_eq_true (by assumption))|((with_reducible refine decide_eq_true ?_);first|(with_reducible assumption)|omega)|((with_reducible refine decide_eq_false ?_);first|(with_reducible assumption)|omega)|(with_reducible rfl)) (fun hb=>?_));(try rw[hb]);(try simp only[Aa,Bool.false_eq_true,Bool.true_eq_false]at hb);(try subst hb))
   |((with_reducible refine And.intro (fun hb=>?_) (fun hb=>?_))<;>first|(with_reducible exact absurd hb (by assumption))|(exact absurd hb (by decide))|(with_reducible exact absurd hb Bool.false_ne_true)|(with_reducible exact absurd hb.symm Bool.false_ne_true)|(exfalso;first|(simp only[Aj]at hb<;>omega)|omega)|((try rw[hb]);(try simp only[Aa,Bool.false_eq_true,Bool.true_eq_false]at hb);(try subst hb)))
   |((with_reducible refine Exists.intro ?_ ?_);focus (and_intros<;>first|omega|(with_reducible assumption)|(with_reducible rfl)|kernel_rfl|exact rfl|assumption|(intro _ hh;cases hh;done)|exact Ah (by rfl)|exact size_map (fun _=>rfl)|exact Ai rfl|exact take_size (fun _=>rfl)|exact Ag rfl|exact Af (fun _=>rfl)|exact Ae (fun _=>rfl)|(simp only[Aj];omega)|(simp;done)|decide))
   |(with_reducible intro hfact)
   |((with_reducible refine And.intro ?_ ?_);focus (first|(with_reducible rfl)|(exact rfl)|decide))
   |((with_reducible refine Drawn.mkV ?_ ?_ ?_ (fun hfact=>?_));(focus kernel_rfl);(focus kernel_rfl);(focus kernel_rfl);(try simp only[dRS]at hfact))
   |((first|with_reducible apply A9|with_reducible apply Ba);(focus (simp only[D.at,D.put,D.kid,D.setKid,List.cons_append,List.nil_append,List.append,List.getElem?_cons_zero,List.getElem?_cons_succ,Int.toNat_natCast,List.getElem?_set_self',Option.map_eq_map,Option.map_some,List.set_cons_zero,List.set_cons_succ,List.set_set,Function.const_apply,List.map_cons,List.map_nil,mkSt,Ap,D.toI,toIs,Ak,List.getElem?_map,List.length_map,List.length_set,Sto.toD,hlm]<;>exact rfl)))
   |((first|with_reducible apply A3|with_reducible apply A2);(focus rfl);(focus (simp only[D.at,D.put,D.kid,D.setKid,List.cons_append,List.nil_append,List.append,List.getElem?_cons_zero,List.getElem?_cons_succ,Int.toNat_natCast,List.getElem?_set_self',Option.map_eq_map,Option.map_some,List.set_cons_zero,List.set_cons_succ,List.set_set,Function.const_apply,List.map_cons,List.map_nil,mkSt,Ap,D.toI,toIs,Ak,List.getElem?_map,List.length_map,List.length_set,Sto.toD,hlm]<;>exact rfl));(try(focus exact rfl))))
  all_goals(try(conv=>whnf))
  (apply dKq<;>kernel_rfl)
 obtain⟨h,he⟩:∃h,s.l[j]?=some h:=⟨_,List.getElem?_eq_getElem hjl⟩
 have hlt:¬decide ((j:Int)<(s.l.length:Int))=false:=by simp;omega
 obtain⟨hb1,hb2,hb3⟩:=hB.held h (List.mem_of_getElem? he)
 have hwho:=L2 h.at_ hb1
 have hdr:s.l.drop j=h::s.l.drop (j+1):=by rw[List.drop_eq_getElem_cons hjl];rw[List.getElem?_eq_getElem hjl]at he;cases he;rfl
 rw[hdr]at hR
 simp only[Ep]at hR
 have hver:=Ns h.at_ h.vs (s.tal n).rev (by omega) (by omega)
 have hsh:=Tu x (C1 h.at_).2.1
 generalize C1 h.at_=wk at hwho hR hsh
 obtain⟨w,k,z⟩:=wk
 generalize D1 h.vs (s.tal n).rev=vb at hver hR
 obtain⟨v,b⟩:=vb
 dsimp only at hwho hR hsh hver
 have hDI:=Hld.toD_I h
 simp only[Hld.toI]at hDI
 by_cases hwn:w=n
 case neg=>
  have hnb:¬(!decide (w=n))=false:=by simpa using hwn
  have hnb2:¬decide (w=n)=true:=by simpa using hwn
  rw[if_pos hwn]at hR
  subst hR
  repeat'((conv=>whnf);first
   |((with_reducible refine Ax (by first|(with_reducible assumption)|(with_reducible exact Bool.of_not_eq_false (by assumption))|(with_reducible exact Bool.of_not_eq_true (by assumption))|((with_reducible refine decide_eq_true ?_);first|(with_reducible assumption)|omega)|((with_reducible refine decide_eq_false ?_);first|(with_reducible assumption)|omega)|(with_reducible rfl)) (fun hb=>?_));(try rw[hb]);(try simp only[Aa,Bool.false_eq_true,Bool.true_eq_false]at hb);(try subst hb))
   |((with_reducible refine Aw (by first|(with_reducible assumption)|(with_reducible exact Bool.of_not_eq_false (by assumption))|(with_reducible exact Bool.of_not_eq_true (by assumption))|((with_reducible refine decide_eq_true ?_);first|(with_reducible assumption)|omega)|((with_reducible refine decide_eq_false ?_);first|(with_reducible assumption)|omega)|(with_reducible rfl)) (fun hb=>?_));(try rw[hb]);(try simp only[Aa,Bool.false_eq_true,Bool.true_eq_false]at hb);(try subst hb))
   |((with_reducible refine And.intro (fun hb=>?_) (fun hb=>?_))<;>first|(with_reducible exact absurd hb (by assumption))|(exact absurd hb (by decide))|(with_reducible exact absurd hb Bool.false_ne_true)|(with_reducible exact absurd hb.symm Bool.false_ne_true)|(exfalso;first|(simp only[Aj]at hb<;>omega)|omega)|((try rw[hb]);(try simp only[Aa,Bool.false_eq_true,Bool.true_eq_false]at hb);(try subst hb)))
   |((with_reducible refine Exists.intro ?_ ?_);focus (and_intros<;>first|omega|(with_reducible assumption)|(with_reducible rfl)|kernel_rfl|exact rfl|assumption|(intro _ hh;cases hh;done)|exact Ah (by rfl)|exact size_map (fun _=>rfl)|exact Ai rfl|exact take_size (fun _=>rfl)|exact Ag rfl|exact Af (fun _=>rfl)|exact Ae (fun _=>rfl)|(simp only[Aj];omega)|(simp;done)|decide))
   |(with_reducible intro hfact)
   |((with_reducible refine And.intro ?_ ?_);focus (first|(with_reducible rfl)|(exact rfl)|decide))
   |((with_reducible refine Drawn.mkV ?_ ?_ ?_ (fun hfact=>?_));(focus kernel_rfl);(focus kernel_rfl);(focus kernel_rfl);(try simp only[dRS]at hfact))
   |((with_reducible refine CallWp.mk ?_);refine⟨_,hwho,?_⟩;rintro _ _ ⟨rfl,rfl⟩)
   |((first|with_reducible apply A9|with_reducible apply Ba);(focus (simp only[D.at,D.put,D.kid,D.setKid,List.cons_append,List.nil_append,List.append,List.getElem?_cons_zero,List.getElem?_cons_succ,Int.toNat_natCast,List.getElem?_set_self',Option.map_eq_map,Option.map_some,List.set_cons_zero,List.set_cons_succ,List.set_set,Function.const_apply,List.map_cons,List.map_nil,mkSt,Ap,D.toI,toIs,Ak,List.getElem?_map,List.length_map,List.length_set,Sto.toD,hlm,he]<;>exact rfl)))
   |((first|with_reducible apply A3|with_reducible apply A2);(focus rfl);(focus (simp only[D.at,D.put,D.kid,D.setKid,List.cons_append,List.nil_append,List.append,List.getElem?_cons_zero,List.getElem?_cons_succ,Int.toNat_natCast,List.getElem?_set_self',Option.map_eq_map,Option.map_some,List.set_cons_zero,List.set_cons_succ,List.set_set,Function.const_apply,List.map_cons,List.map_nil,mkSt,Ap,D.toI,toIs,Ak,List.getElem?_map,List.length_map,List.length_set,Sto.toD,hlm,he]<;>exact rfl));(try(focus exact rfl))))
  all_goals(try(conv=>whnf))
  (apply dKq<;>kernel_rfl)
 subst hwn
 rw[if_neg (by simp)]at hR
 have hnb:¬(!decide (w=w))=true:=by simp
 have hnb2:¬decide (w=w)=false:=by simp
 by_cases hxk:SpH x k
 case neg=>
  rw[if_pos hxk]at hR
  rw[decide_eq_false hxk]at hsh
  repeat'((conv=>whnf);first
   |((with_reducible refine Ax (by first|(with_reducible assumption)|(with_reducible exact Bool.of_not_eq_false (by assumption))|(with_reducible exact Bool.of_not_eq_true (by assumption))|((with_reducible refine decide_eq_true ?_);first|(with_reducible assumption)|omega)|((with_reducible refine decide_eq_false ?_);first|(with_reducible assumption)|omega)|(with_reducible rfl)) (fun hb=>?_));(try rw[hb]);(try simp only[Aa,Bool.false_eq_true,Bool.true_eq_false]at hb);(try subst hb))
   |((with_reducible refine Aw (by first|(with_reducible assumption)|(with_reducible exact Bool.of_not_eq_false (by assumption))|(with_reducible exact Bool.of_not_eq_true (by assumption))|((with_reducible refine decide_eq_true ?_);first|(with_reducible assumption)|omega)|((with_reducible refine decide_eq_false ?_);first|(with_reducible assumption)|omega)|(with_reducible rfl)) (fun hb=>?_));(try rw[hb]);(try simp only[Aa,Bool.false_eq_true,Bool.true_eq_false]at hb);(try subst hb))
   |((with_reducible refine And.intro (fun hb=>?_) (fun hb=>?_))<;>first|(with_reducible exact absurd hb (by assumption))|(exact absurd hb (by decide))|(with_reducible exact absurd hb Bool.false_ne_true)|(with_reducible exact absurd hb.symm Bool.false_ne_true)|(exfalso;first|(simp only[Aj]at hb<;>omega)|omega)|((try rw[hb]);(try simp only[Aa,Bool.false_eq_true,Bool.true_eq_false]at hb);(try subst hb)))
   |((with_reducible refine Exists.intro ?_ ?_);focus (and_intros<;>first|omega|(with_reducible assumption)|(with_reducible rfl)|kernel_rfl|exact rfl|assumption|(intro _ hh;cases hh;done)|exact Ah (by rfl)|exact size_map (fun _=>rfl)|exact Ai rfl|exact take_size (fun _=>rfl)|exact Ag rfl|exact Af (fun _=>rfl)|exact Ae (fun _=>rfl)|(simp only[Aj];omega)|(simp;done)|decide))
   |(with_reducible intro hfact)
   |((with_reducible refine And.intro ?_ ?_);focus (first|(with_reducible rfl)|(exact rfl)|decide))
   |((with_reducible refine Drawn.mkV ?_ ?_ ?_ (fun hfact=>?_));(focus kernel_rfl);(focus kernel_rfl);(focus kernel_rfl);(try simp only[dRS]at hfact))
   |((with_reducible refine CallWp.mk ?_);refine⟨_,hwho,?_⟩;rintro _ _ ⟨rfl,rfl⟩)
   |((with_reducible refine CallWp.mk ?_);refine⟨_,hsh,?_⟩;rintro _ _ ⟨rfl,rfl⟩)
   |((try dsimp only);rw[hw])
   |((first|with_reducible apply A9|with_reducible apply Ba);(focus (simp only[D.at,D.put,D.kid,D.setKid,List.cons_append,List.nil_append,List.append,List.getElem?_cons_zero,List.getElem?_cons_succ,Int.toNat_natCast,List.getElem?_set_self',Option.map_eq_map,Option.map_some,List.set_cons_zero,List.set_cons_succ,List.set_set,Function.const_apply,List.map_cons,List.map_nil,mkSt,Ap,D.toI,toIs,Ak,List.getElem?_map,List.length_map,List.length_set,Sto.toD,hlm,he]<;>exact rfl)))
   |((first|with_reducible apply A3|with_reducible apply A2);(focus rfl);(focus (simp only[D.at,D.put,D.kid,D.setKid,List.cons_append,List.nil_append,List.append,List.getElem?_cons_zero,List.getElem?_cons_succ,Int.toNat_natCast,List.getElem?_set_self',Option.map_eq_map,Option.map_some,List.set_cons_zero,List.set_cons_succ,List.set_set,Function.const_apply,List.map_cons,List.map_nil,mkSt,Ap,D.toI,toIs,Ak,List.getElem?_map,List.length_map,List.length_set,Sto.toD,hlm,he]<;>exact rfl));(try(focus exact rfl))))
  all_goals(try(conv=>whnf))
  refine Round.by (j+1,out) ?_ ⟨by omega,ho,hR⟩ (by dsimp only;omega)
  try dsimp only
  show norm _ _=upd _ _
  kernel_rfl
 rw[if_neg (by simpa using hxk)]at hR
 rw[decide_eq_true hxk]at hsh
 cases b with
 |false=>
  rw[if_pos rfl]at hR
  repeat'((conv=>whnf);first
   |((with_reducible refine Ax (by first|(with_reducible assumption)|(with_reducible exact Bool.of_not_eq_false (by assumption))|(with_reducible exact Bool.of_not_eq_true (by assumption))|((with_reducible refine decide_eq_true ?_);first|(with_reducible assumption)|omega)|((with_reducible refine decide_eq_false ?_);first|(with_reducible assumption)|omega)|(with_reducible rfl)) (fun hb=>?_));(try rw[hb]);(try simp only[Aa,Bool.false_eq_true,Bool.true_eq_false]at hb);(try subst hb))
   |((with_reducible refine Aw (by first|(with_reducible assumption)|(with_reducible exact Bool.of_not_eq_false (by assumption))|(with_reducible exact Bool.of_not_eq_true (by assumption))|((with_reducible refine decide_eq_true ?_);first|(with_reducible assumption)|omega)|((with_reducible refine decide_eq_false ?_);first|(with_reducible assumption)|omega)|(with_reducible rfl)) (fun hb=>?_));(try rw[hb]);(try simp only[Aa,Bool.false_eq_true,Bool.true_eq_false]at hb);(try subst hb))
   |((with_reducible refine And.intro (fun hb=>?_) (fun hb=>?_))<;>first|(with_reducible exact absurd hb (by assumption))|(exact absurd hb (by decide))|(with_reducible exact absurd hb Bool.false_ne_true)|(with_reducible exact absurd hb.symm Bool.false_ne_true)|(exfalso;first|(simp only[Aj]at hb<;>omega)|omega)|((try rw[hb]);(try simp only[Aa,Bool.false_eq_true,Bool.true_eq_false]at hb);(try subst hb)))
   |((with_reducible refine Exists.intro ?_ ?_);focus (and_intros<;>first|omega|(with_reducible assumption)|(with_reducible rfl)|kernel_rfl|exact rfl|assumption|(intro _ hh;cases hh;done)|exact Ah (by rfl)|exact size_map (fun _=>rfl)|exact Ai rfl|exact take_size (fun _=>rfl)|exact Ag rfl|exact Af (fun _=>rfl)|exact Ae (fun _=>rfl)|(simp only[Aj];omega)|(simp;done)|decide))
   |(with_reducible intro hfact)
   |((with_reducible refine And.intro ?_ ?_);focus (first|(with_reducible rfl)|(exact rfl)|decide))
   |((with_reducible refine Drawn.mkV ?_ ?_ ?_ (fun hfact=>?_));(focus kernel_rfl);(focus kernel_rfl);(focus kernel_rfl);(try simp only[dRS]at hfact))
   |((with_reducible refine CallWp.mk ?_);refine⟨_,hwho,?_⟩;rintro _ _ ⟨rfl,rfl⟩)
   |((with_reducible refine CallWp.mk ?_);refine⟨_,hsh,?_⟩;rintro _ _ ⟨rfl,rfl⟩)
   |((with_reducible refine CallIs.mk ?_);refine⟨_,_,hver,?_⟩)
   |((try dsimp only);rw[hw])
   |((try dsimp only);rw[hDI])
   |((first|with_reducible apply A9|with_reducible apply Ba);(focus (simp only[D.at,D.put,D.kid,D.setKid,List.cons_append,List.nil_append,List.append,List.getElem?_cons_zero,List.getElem?_cons_succ,Int.toNat_natCast,List.getElem?_set_self',Option.map_eq_map,Option.map_some,List.set_cons_zero,List.set_cons_succ,List.set_set,Function.const_apply,List.map_cons,List.map_nil,mkSt,Ap,D.toI,toIs,Ak,List.getElem?_map,List.length_map,List.length_set,Sto.toD,hlm,he]<;>exact rfl)))
   |((first|with_reducible apply A3|with_reducible apply A2);(focus rfl);(focus (simp only[D.at,D.put,D.kid,D.setKid,List.cons_append,List.nil_append,List.append,List.getElem?_cons_zero,List.getElem?_cons_succ,Int.toNat_natCast,List.getElem?_set_self',Option.map_eq_map,Option.map_some,List.set_cons_zero,List.set_cons_succ,List.set_set,Function.const_apply,List.map_cons,List.map_nil,mkSt,Ap,D.toI,toIs,Ak,List.getElem?_map,List.length_map,List.length_set,Sto.toD,hlm,he]<;>exact rfl));(try(focus exact rfl))))
  all_goals(try(conv=>whnf))
  refine Round.by (j+1,out) ?_ ⟨by omega,ho,hR⟩ (by dsimp only;omega)
  try dsimp only
  show norm _ _=upd _ _
  kernel_rfl
 |true=>
  rw[if_neg (by simp)]at hR
  have hlo:((out.map Pr.toI).map D.it).length=out.length:=by simp
  by_cases hom:(out.length:Int)=most
  ·rw[if_pos hom]at hR
   subst hR
   have hom1:decide ((((out.map Pr.toI).map D.it).length:Int)=most)=true:=by rw[hlo];exact decide_eq_true hom
   repeat'((conv=>whnf);first
    |((with_reducible refine Ax (by first|(with_reducible assumption)|(with_reducible exact Bool.of_not_eq_false (by assumption))|(with_reducible exact Bool.of_not_eq_true (by assumption))|((with_reducible refine decide_eq_true ?_);first|(with_reducible assumption)|omega)|((with_reducible refine decide_eq_false ?_);first|(with_reducible assumption)|omega)|(with_reducible rfl)) (fun hb=>?_));(try rw[hb]);(try simp only[Aa,Bool.false_eq_true,Bool.true_eq_false]at hb);(try subst hb))
    |((with_reducible refine Aw (by first|(with_reducible assumption)|(with_reducible exact Bool.of_not_eq_false (by assumption))|(with_reducible exact Bool.of_not_eq_true (by assumption))|((with_reducible refine decide_eq_true ?_);first|(with_reducible assumption)|omega)|((with_reducible refine decide_eq_false ?_);first|(with_reducible assumption)|omega)|(with_reducible rfl)) (fun hb=>?_));(try rw[hb]);(try simp only[Aa,Bool.false_eq_true,Bool.true_eq_false]at hb);(try subst hb))
    |((with_reducible refine And.intro (fun hb=>?_) (fun hb=>?_))<;>first|(with_reducible exact absurd hb (by assumption))|(exact absurd hb (by decide))|(with_reducible exact absurd hb Bool.false_ne_true)|(with_reducible exact absurd hb.symm Bool.false_ne_true)|(exfalso;first|(simp only[Aj]at hb<;>omega)|omega)|((try rw[hb]);(try simp only[Aa,Bool.false_eq_true,Bool.true_eq_false]at hb);(try subst hb)))
    |((with_reducible refine Exists.intro ?_ ?_);focus (and_intros<;>first|omega|(with_reducible assumption)|(with_reducible rfl)|kernel_rfl|exact rfl|assumption|(intro _ hh;cases hh;done)|exact Ah (by rfl)|exact size_map (fun _=>rfl)|exact Ai rfl|exact take_size (fun _=>rfl)|exact Ag rfl|exact Af (fun _=>rfl)|exact Ae (fun _=>rfl)|(simp only[Aj];omega)|(simp;done)|decide))
    |(with_reducible intro hfact)
    |((with_reducible refine And.intro ?_ ?_);focus (first|(with_reducible rfl)|(exact rfl)|decide))
    |((with_reducible refine Drawn.mkV ?_ ?_ ?_ (fun hfact=>?_));(focus kernel_rfl);(focus kernel_rfl);(focus kernel_rfl);(try simp only[dRS]at hfact))
    |((with_reducible refine CallWp.mk ?_);refine⟨_,hwho,?_⟩;rintro _ _ ⟨rfl,rfl⟩)
    |((with_reducible refine CallWp.mk ?_);refine⟨_,hsh,?_⟩;rintro _ _ ⟨rfl,rfl⟩)
    |((with_reducible refine CallIs.mk ?_);refine⟨_,_,hver,?_⟩)
    |((try dsimp only);rw[hw])
    |((try dsimp only);rw[hDI])
    |((first|with_reducible apply A9|with_reducible apply Ba);(focus (simp only[D.at,D.put,D.kid,D.setKid,List.cons_append,List.nil_append,List.append,List.getElem?_cons_zero,List.getElem?_cons_succ,Int.toNat_natCast,List.getElem?_set_self',Option.map_eq_map,Option.map_some,List.set_cons_zero,List.set_cons_succ,List.set_set,Function.const_apply,List.map_cons,List.map_nil,mkSt,Ap,D.toI,toIs,Ak,List.getElem?_map,List.length_map,List.length_set,Sto.toD,hlm,he]<;>exact rfl)))
    |((first|with_reducible apply A3|with_reducible apply A2);(focus rfl);(focus (simp only[D.at,D.put,D.kid,D.setKid,List.cons_append,List.nil_append,List.append,List.getElem?_cons_zero,List.getElem?_cons_succ,Int.toNat_natCast,List.getElem?_set_self',Option.map_eq_map,Option.map_some,List.set_cons_zero,List.set_cons_succ,List.set_set,Function.const_apply,List.map_cons,List.map_nil,mkSt,Ap,D.toI,toIs,Ak,List.getElem?_map,List.length_map,List.length_set,Sto.toD,hlm,he]<;>exact rfl));(try(focus exact rfl))))
   all_goals(try(conv=>whnf))
   (apply dKq<;>kernel_rfl)
  ·rw[if_neg hom]at hR
   have hom1:decide ((((out.map Pr.toI).map D.it).length:Int)=most)=false:=by rw[hlo];exact decide_eq_false hom
   repeat'((conv=>whnf);first
    |((with_reducible refine Ax (by first|(with_reducible assumption)|(with_reducible exact Bool.of_not_eq_false (by assumption))|(with_reducible exact Bool.of_not_eq_true (by assumption))|((with_reducible refine decide_eq_true ?_);first|(with_reducible assumption)|omega)|((with_reducible refine decide_eq_false ?_);first|(with_reducible assumption)|omega)|(with_reducible rfl)) (fun hb=>?_));(try rw[hb]);(try simp only[Aa,Bool.false_eq_true,Bool.true_eq_false]at hb);(try subst hb))
    |((with_reducible refine Aw (by first|(with_reducible assumption)|(with_reducible exact Bool.of_not_eq_false (by assumption))|(with_reducible exact Bool.of_not_eq_true (by assumption))|((with_reducible refine decide_eq_true ?_);first|(with_reducible assumption)|omega)|((with_reducible refine decide_eq_false ?_);first|(with_reducible assumption)|omega)|(with_reducible rfl)) (fun hb=>?_));(try rw[hb]);(try simp only[Aa,Bool.false_eq_true,Bool.true_eq_false]at hb);(try subst hb))
    |((with_reducible refine And.intro (fun hb=>?_) (fun hb=>?_))<;>first|(with_reducible exact absurd hb (by assumption))|(exact absurd hb (by decide))|(with_reducible exact absurd hb Bool.false_ne_true)|(with_reducible exact absurd hb.symm Bool.false_ne_true)|(exfalso;first|(simp only[Aj]at hb<;>omega)|omega)|((try rw[hb]);(try simp only[Aa,Bool.false_eq_true,Bool.true_eq_false]at hb);(try subst hb)))
    |((with_reducible refine Exists.intro ?_ ?_);focus (and_intros<;>first|omega|(with_reducible assumption)|(with_reducible rfl)|kernel_rfl|exact rfl|assumption|(intro _ hh;cases hh;done)|exact Ah (by rfl)|exact size_map (fun _=>rfl)|exact Ai rfl|exact take_size (fun _=>rfl)|exact Ag rfl|exact Af (fun _=>rfl)|exact Ae (fun _=>rfl)|(simp only[Aj];omega)|(simp;done)|decide))
    |(with_reducible intro hfact)
    |((with_reducible refine And.intro ?_ ?_);focus (first|(with_reducible rfl)|(exact rfl)|decide))
    |((with_reducible refine Drawn.mkV ?_ ?_ ?_ (fun hfact=>?_));(focus kernel_rfl);(focus kernel_rfl);(focus kernel_rfl);(try simp only[dRS]at hfact))
    |((with_reducible refine CallWp.mk ?_);refine⟨_,hwho,?_⟩;rintro _ _ ⟨rfl,rfl⟩)
    |((with_reducible refine CallWp.mk ?_);refine⟨_,hsh,?_⟩;rintro _ _ ⟨rfl,rfl⟩)
    |((with_reducible refine CallIs.mk ?_);refine⟨_,_,hver,?_⟩)
    |((try dsimp only);rw[hw])
    |((try dsimp only);rw[hDI])
    |((first|with_reducible apply A9|with_reducible apply Ba);(focus (simp only[D.at,D.put,D.kid,D.setKid,List.cons_append,List.nil_append,List.append,List.getElem?_cons_zero,List.getElem?_cons_succ,Int.toNat_natCast,List.getElem?_set_self',Option.map_eq_map,Option.map_some,List.set_cons_zero,List.set_cons_succ,List.set_set,Function.const_apply,List.map_cons,List.map_nil,mkSt,Ap,D.toI,toIs,Ak,List.getElem?_map,List.length_map,List.length_set,Sto.toD,hlm,he]<;>exact rfl)))
    |((first|with_reducible apply A3|with_reducible apply A2);(focus rfl);(focus (simp only[D.at,D.put,D.kid,D.setKid,List.cons_append,List.nil_append,List.append,List.getElem?_cons_zero,List.getElem?_cons_succ,Int.toNat_natCast,List.getElem?_set_self',Option.map_eq_map,Option.map_some,List.set_cons_zero,List.set_cons_succ,List.set_set,Function.const_apply,List.map_cons,List.map_nil,mkSt,Ap,D.toI,toIs,Ak,List.getElem?_map,List.length_map,List.length_set,Sto.toD,hlm,he]<;>exact rfl));(try(focus exact rfl))))
   all_goals(try(conv=>whnf))
   refine Round.by (j+1,out++[⟨k,v.val,v.made,v.rev⟩]) ?_ ⟨by omega,by simp;omega,hR⟩ (by dsimp only;omega)
   try dsimp only
   simp only[List.map_append,List.map_cons,List.map_nil]
   show norm _ _=upd _ _
   kernel_rfl
end Go.Ab
