/- Lemmas -/
import Derived.Test.YtkpojedpcabojaaDoorWC
set_option linter.unusedVariables false
set_option linter.unusedSimpArgs false
set_option maxRecDepth 100000
set_option maxHeartbeats 40000000
namespace Go.Ab
open Go.Proofs
abbrev Mq:FuncId:=Kc
theorem Bx (l:List Ver) (K:Nat):strips ((l.map Ver.toI).drop K)=(l.map Ver.toI).drop K:=by
 rw[←List.map_drop]
 generalize l.drop K=l
 induction l with
 |nil=>rfl
 |cons x l ih=>simp only[List.map_cons,strips,ih];rfl
theorem Uz (s:Sto) (n:Az) (rev:Int) (i:Nat) (hf:s.fi n=some i) (hL:LBd 80000 s.l) (hr:0≤rev∧rev≤(s.tal n).rev∧(s.tal n).floor≤rev∧rev≤1000000000000) (Z:CSt) (hZ:Mz n rev s.l ⟨[],0⟩=Z):
 Fn Tryd.prog Mq [sP s,.v (.str n),.v (ti rev)] (Is (.v (ti 0)) [sP ⟨s.sp.set i (n,{s.tal n with floor:=rev,vers:=Z.c}),Z.l⟩,.no,.no]):=by
 refine Ez ?_ (by simp)
 obtain⟨h1,h2,h3⟩:=Sto.fi_some hf
 obtain⟨hr1,hr2,hr3,hr4⟩:=hr
 repeat'((conv=>whnf);first
  |((with_reducible refine Ax (by first|(with_reducible assumption)|(with_reducible exact Bool.of_not_eq_false (by assumption))|(with_reducible exact Bool.of_not_eq_true (by assumption))|((with_reducible refine decide_eq_true ?_);first|(with_reducible assumption)|omega)|((with_reducible refine decide_eq_false ?_);first|(with_reducible assumption)|omega)|(with_reducible rfl)) (fun hb=>?_));(try rw[hb]);(try simp only[Aa,Bool.false_eq_true,Bool.true_eq_false]at hb);(try subst hb))
  |((with_reducible refine Aw (by first|(with_reducible assumption)|(with_reducible exact Bool.of_not_eq_false (by assumption))|(with_reducible exact Bool.of_not_eq_true (by assumption))|((with_reducible refine decide_eq_true ?_);first|(with_reducible assumption)|omega)|((with_reducible refine decide_eq_false ?_);first|(with_reducible assumption)|omega)|(with_reducible rfl)) (fun hb=>?_));(try rw[hb]);(try simp only[Aa,Bool.false_eq_true,Bool.true_eq_false]at hb);(try subst hb))
  |((with_reducible refine And.intro (fun hb=>?_) (fun hb=>?_))<;>first|(with_reducible exact absurd hb (by assumption))|(exact absurd hb (by decide))|(with_reducible exact absurd hb Bool.false_ne_true)|(with_reducible exact absurd hb.symm Bool.false_ne_true)|(exfalso;first|(simp only[Aj]at hb<;>omega)|omega)|((try rw[hb]);(try simp only[Aa,Bool.false_eq_true,Bool.true_eq_false]at hb);(try subst hb)))
  |((with_reducible refine Exists.intro ?_ ?_);focus (and_intros<;>first|omega|(with_reducible assumption)|(with_reducible rfl)|kernel_rfl|exact rfl|assumption|(intro _ hh;cases hh;done)|exact Ah (by rfl)|exact size_map (fun _=>rfl)|exact Ai rfl|exact take_size (fun _=>rfl)|exact Ag rfl|exact Af (fun _=>rfl)|exact Ae (fun _=>rfl)|(simp only[Aj];omega)|(simp;done)|decide))
  |(with_reducible intro hfact)
  |((with_reducible refine And.intro ?_ ?_);focus (first|(with_reducible rfl)|(exact rfl)|decide))
  |((with_reducible refine Drawn.mkV ?_ ?_ ?_ (fun hfact=>?_));(focus kernel_rfl);(focus kernel_rfl);(focus kernel_rfl);(try simp only[dRS]at hfact))
  |((refine Au ?_))
  |((first|with_reducible apply A9|with_reducible apply Ba);(focus (simp only[D.at,D.put,D.kid,D.setKid,List.cons_append,List.nil_append,List.append,List.getElem?_cons_zero,List.getElem?_cons_succ,Int.toNat_natCast,List.getElem?_set_self',Option.map_eq_map,Option.map_some,List.set_cons_zero,List.set_cons_succ,List.set_set,Function.const_apply,List.map_cons,List.map_nil,mkSt,Ap,D.toI,toIs,Ak,List.getElem?_map,List.length_map,List.length_set,h1,h3,Sto.toD,Tal.toI]<;>exact rfl)))
  |((first|with_reducible apply A3|with_reducible apply A2);(focus rfl);(focus (simp only[D.at,D.put,D.kid,D.setKid,List.cons_append,List.nil_append,List.append,List.getElem?_cons_zero,List.getElem?_cons_succ,Int.toNat_natCast,List.getElem?_set_self',Option.map_eq_map,Option.map_some,List.set_cons_zero,List.set_cons_succ,List.set_set,Function.const_apply,List.map_cons,List.map_nil,mkSt,Ap,D.toI,toIs,Ak,List.getElem?_map,List.length_map,List.length_set,h1,h3,Sto.toD,Tal.toI]<;>exact rfl));(try(focus exact rfl))))
 all_goals(try(conv=>whnf))
 generalize htt:s.tal n=t at*
 have hlm:(s.l.map Hld.toD).length=s.l.length:=List.length_map _
 have hlen:=hL.len
 obtain⟨VS0,hVS0⟩:∃V,V=s.sp.map fun x=>D.ptr (.it x.2.toI):=⟨_,rfl⟩
 obtain⟨KS0,hKS0⟩:∃V,V=s.sp.map fun x=>I.str x.1:=⟨_,rfl⟩
 have hi:i<VS0.length:=by rw[hVS0];exact(List.getElem?_eq_some_iff.1 h2).1
 refine LoopWq.by (X:=Nat × List Hld × Int × List D × List D) (fun y=>[(55,.v (ti (y.1:Int))),(9,.own [] (.vec 138 2 (y.2.1.map Hld.toD))),(132,.own [] (.ptr (stD KS0 y.2.2.2.1 y.2.2.2.2)))])
  (fun y=>y.1≤s.l.length∧y.2.2.2.1=VS0.set i (.ptr (.it (Tal.mk t.rev rev t.bytes t.keys y.2.2.1).toI))∧(y.2.2.2.2.length=s.l.length∧∀q,y.1≤q→y.2.2.2.2[q]?=(s.l.map Hld.toD)[q]?)∧(0≤y.2.2.1∧y.2.2.1≤100000*y.1)∧y.2.1.length≤y.1∧Mz n rev (s.l.drop y.1) ⟨y.2.1,y.2.2.1⟩=Z)
  (fun y=>s.l.length - y.1) (0,[],0,(s.sp.map fun x=>D.ptr (.it x.2.toI)).set i (.ptr (.it (Tal.mk t.rev rev t.bytes t.keys 0).toI)),s.l.map Hld.toD) (by rw[hKS0];kernel_rfl)
  ⟨Nat.zero_le _,by rw[hVS0],⟨hlm,fun _ _=>rfl⟩,⟨by simp,by simp⟩,by simp,hZ⟩ ?_
 rintro⟨j,rest,c,VS,Ld⟩ ⟨hj,e1,⟨e2,e3⟩,hc,hrl,hR⟩
 dsimp only at hj e1 e2 e3 hc hrl hR ⊢
 have hw:IntKind.i64.wrap ((j:Int)+1)=((j+1:Nat):Int):=Dk (n:=100000) (by omega) (by simp only[maxLen];omega)
 have hVi:VS[i]?=some (.ptr (.it (Tal.mk t.rev rev t.bytes t.keys c).toI)):=by rw[e1,List.getElem?_set_self hi]
 by_cases hjl:j<s.l.length
 case neg=>
  have hlt:¬decide ((j:Int)<(s.l.length:Int))=true:=by simp;omega
  have hlt2:¬decide ((j:Int)<((s.l.map Hld.toD).length:Int))=true:=by simp;omega
  rw[List.drop_eq_nil_of_le (by omega)]at hR
  have hR:⟨rest,c⟩=Z:=hR
  subst hR
  have hfin:sP ⟨s.sp.set i (n,{t with floor:=rev,vers:=c}),rest⟩= .own [] (.ptr (stD KS0 VS (rest.map Hld.toD))):=by
   simp only[sP,Sto.toD,List.map_set]
   rw[←hVS0, ←hKS0,e1]
   rw[List.set_getElem?_self' (l:=KS0) (by rw[hKS0,List.getElem?_map,h3];rfl)]
  rw[hfin]
  repeat'((conv=>whnf);first
   |((with_reducible refine Ax (by first|(with_reducible assumption)|(with_reducible exact Bool.of_not_eq_false (by assumption))|(with_reducible exact Bool.of_not_eq_true (by assumption))|((with_reducible refine decide_eq_true ?_);first|(with_reducible assumption)|omega)|((with_reducible refine decide_eq_false ?_);first|(with_reducible assumption)|omega)|(with_reducible rfl)) (fun hb=>?_));(try rw[hb]);(try simp only[Aa,Bool.false_eq_true,Bool.true_eq_false]at hb);(try subst hb))
   |((with_reducible refine Aw (by first|(with_reducible assumption)|(with_reducible exact Bool.of_not_eq_false (by assumption))|(with_reducible exact Bool.of_not_eq_true (by assumption))|((with_reducible refine decide_eq_true ?_);first|(with_reducible assumption)|omega)|((with_reducible refine decide_eq_false ?_);first|(with_reducible assumption)|omega)|(with_reducible rfl)) (fun hb=>?_));(try rw[hb]);(try simp only[Aa,Bool.false_eq_true,Bool.true_eq_false]at hb);(try subst hb))
   |((with_reducible refine And.intro (fun hb=>?_) (fun hb=>?_))<;>first|(with_reducible exact absurd hb (by assumption))|(exact absurd hb (by decide))|(with_reducible exact absurd hb Bool.false_ne_true)|(with_reducible exact absurd hb.symm Bool.false_ne_true)|(exfalso;first|(simp only[Aj]at hb<;>omega)|omega)|((try rw[hb]);(try simp only[Aa,Bool.false_eq_true,Bool.true_eq_false]at hb);(try subst hb)))
   |((with_reducible refine Exists.intro ?_ ?_);focus (and_intros<;>first|omega|(with_reducible assumption)|(with_reducible rfl)|kernel_rfl|exact rfl|assumption|(intro _ hh;cases hh;done)|exact Ah (by rfl)|exact size_map (fun _=>rfl)|exact Ai rfl|exact take_size (fun _=>rfl)|exact Ag rfl|exact Af (fun _=>rfl)|exact Ae (fun _=>rfl)|(simp only[Aj];omega)|(simp;done)|decide))
   |(with_reducible intro hfact)
   |((with_reducible refine And.intro ?_ ?_);focus (first|(with_reducible rfl)|(exact rfl)|decide))
   |((with_reducible apply Drawn.by0);(focus kernel_rfl);intro hfact;(try simp only[dRS]at hfact))
   |((first|with_reducible apply A9|with_reducible apply Ba);(focus (simp only[D.at,D.put,D.kid,D.setKid,List.cons_append,List.nil_append,List.append,List.getElem?_cons_zero,List.getElem?_cons_succ,Int.toNat_natCast,List.getElem?_set_self',Option.map_eq_map,Option.map_some,List.set_cons_zero,List.set_cons_succ,List.set_set,Function.const_apply,List.map_cons,List.map_nil,mkSt,Ap,D.toI,toIs,Ak,List.getElem?_map,List.length_map,List.length_set,hVi]<;>exact rfl)))
   |((first|with_reducible apply A3|with_reducible apply A2);(focus rfl);(focus (simp only[D.at,D.put,D.kid,D.setKid,List.cons_append,List.nil_append,List.append,List.getElem?_cons_zero,List.getElem?_cons_succ,Int.toNat_natCast,List.getElem?_set_self',Option.map_eq_map,Option.map_some,List.set_cons_zero,List.set_cons_succ,List.set_set,Function.const_apply,List.map_cons,List.map_nil,mkSt,Ap,D.toI,toIs,Ak,List.getElem?_map,List.length_map,List.length_set,hVi]<;>exact rfl));(try(focus exact rfl))))
  all_goals(try(conv=>whnf))
  (apply dKq<;>kernel_rfl)
 obtain⟨h,he⟩:∃h,s.l[j]?=some h:=⟨_,List.getElem?_eq_getElem hjl⟩
 have hlt:¬decide ((j:Int)<(s.l.length:Int))=false:=by simp;omega
 have hlt2:¬decide ((j:Int)<((s.l.map Hld.toD).length:Int))=false:=by simp;omega
 obtain⟨hb1,hb2,hb3,hb4⟩:=hL.held h (List.mem_of_getElem? he)
 have hat:Ld[j]?=some h.toD:=by rw[e3 j (Nat.le_refl _),List.getElem?_map,he];rfl
 have hwho:=L2 h.at_ hb1
 have hdr:s.l.drop j=h::s.l.drop (j+1):=by rw[List.drop_eq_getElem_cons hjl];rw[List.getElem?_eq_getElem hjl]at he;cases he;rfl
 rw[hdr]at hR
 simp only[Mz]at hR
 have hsk:(Ld.set j (.it (.agg [.und,.und]))).length=s.l.length∧∀q,j+1≤q→(Ld.set j (.it (.agg [.und,.und])))[q]?=(s.l.map Hld.toD)[q]?:=
  ⟨by rw[List.length_set,e2],fun q hq=>by rw[List.getElem?_set_ne (by omega)];exact e3 q (by omega)⟩
 unfold Uy at hR
 dsimp only at hR
 generalize hwk:C1 h.at_=wk at hwho hR
 obtain⟨w,kk,z⟩:=wk
 dsimp only at hwho hR
 have hlLd:Ld.length=s.l.length:=e2
 by_cases hwn:w=n
 case neg=>
  rw[if_neg hwn]at hR
  have hnb2:¬decide (w=n)=true:=by simpa using hwn
  repeat'((conv=>whnf);first
   |((with_reducible refine Ax (by first|(with_reducible assumption)|(with_reducible exact Bool.of_not_eq_false (by assumption))|(with_reducible exact Bool.of_not_eq_true (by assumption))|((with_reducible refine decide_eq_true ?_);first|(with_reducible assumption)|omega)|((with_reducible refine decide_eq_false ?_);first|(with_reducible assumption)|omega)|(with_reducible rfl)) (fun hb=>?_));(try rw[hb]);(try simp only[Aa,Bool.false_eq_true,Bool.true_eq_false]at hb);(try subst hb))
   |((with_reducible refine Aw (by first|(with_reducible assumption)|(with_reducible exact Bool.of_not_eq_false (by assumption))|(with_reducible exact Bool.of_not_eq_true (by assumption))|((with_reducible refine decide_eq_true ?_);first|(with_reducible assumption)|omega)|((with_reducible refine decide_eq_false ?_);first|(with_reducible assumption)|omega)|(with_reducible rfl)) (fun hb=>?_));(try rw[hb]);(try simp only[Aa,Bool.false_eq_true,Bool.true_eq_false]at hb);(try subst hb))
   |((with_reducible refine And.intro (fun hb=>?_) (fun hb=>?_))<;>first|(with_reducible exact absurd hb (by assumption))|(exact absurd hb (by decide))|(with_reducible exact absurd hb Bool.false_ne_true)|(with_reducible exact absurd hb.symm Bool.false_ne_true)|(exfalso;first|(simp only[Aj]at hb<;>omega)|omega)|((try rw[hb]);(try simp only[Aa,Bool.false_eq_true,Bool.true_eq_false]at hb);(try subst hb)))
   |((with_reducible refine Exists.intro ?_ ?_);focus (and_intros<;>first|omega|(with_reducible assumption)|(with_reducible rfl)|kernel_rfl|exact rfl|assumption|(intro _ hh;cases hh;done)|exact Ah (by rfl)|exact size_map (fun _=>rfl)|exact Ai rfl|exact take_size (fun _=>rfl)|exact Ag rfl|exact Af (fun _=>rfl)|exact Ae (fun _=>rfl)|(simp only[Aj];omega)|(simp;done)|decide))
   |(with_reducible intro hfact)
   |((with_reducible refine And.intro ?_ ?_);focus (first|(with_reducible rfl)|(exact rfl)|decide))
   |((with_reducible refine Drawn.mkV ?_ ?_ ?_ (fun hfact=>?_));(focus kernel_rfl);(focus kernel_rfl);(focus kernel_rfl);(try simp only[dRS]at hfact))
   |((with_reducible refine CallWp.mk ?_);refine⟨_,hwho,?_⟩;rintro _ _ ⟨rfl,rfl⟩)
   |((try dsimp only);rw[hw])
   |((first|with_reducible apply A9|with_reducible apply Ba);(focus (simp only[D.at,D.put,D.kid,D.setKid,List.cons_append,List.nil_append,List.append,List.getElem?_cons_zero,List.getElem?_cons_succ,Int.toNat_natCast,List.getElem?_set_self',Option.map_eq_map,Option.map_some,List.set_cons_zero,List.set_cons_succ,List.set_set,Function.const_apply,List.map_cons,List.map_nil,mkSt,Ap,D.toI,toIs,Ak,List.getElem?_map,List.length_map,List.length_set,hat,Hld.toD,Er,D.husk,hVi]<;>exact rfl)))
   |((first|with_reducible apply A3|with_reducible apply A2);(focus rfl);(focus (simp only[D.at,D.put,D.kid,D.setKid,List.cons_append,List.nil_append,List.append,List.getElem?_cons_zero,List.getElem?_cons_succ,Int.toNat_natCast,List.getElem?_set_self',Option.map_eq_map,Option.map_some,List.set_cons_zero,List.set_cons_succ,List.set_set,Function.const_apply,List.map_cons,List.map_nil,mkSt,Ap,D.toI,toIs,Ak,List.getElem?_map,List.length_map,List.length_set,hat,Hld.toD,Er,D.husk,hVi]<;>exact rfl));(try(focus exact rfl))))
  all_goals(try(conv=>whnf))
  refine Round.by (j+1,rest++[h],c,VS,Ld.set j (.it (.agg [.und,.und]))) ?_ ⟨by omega,e1,hsk,⟨by dsimp only;omega,by dsimp only;omega⟩,by simp;omega,hR⟩ (by dsimp only;omega)
  try dsimp only
  rw[List.map_append,List.map_cons,List.map_nil]
  show norm _ _=upd _ _
  kernel_rfl
 subst hwn
 rw[if_pos rfl]at hR
 have hnb2:¬decide (w=w)=false:=by simp
 obtain⟨a,vs0⟩:=h
 dsimp only at hb1 hb2 hb3 hb4 hat hwho hR hwk
 have hat:Ld[j]?=some (.st [.it (.str a),.vec Bb 4 ((vs0.map Ver.toI).map D.it)]):=hat
 obtain⟨KA,hKA⟩:∃K,K=Eo rev vs0:=⟨_,rfl⟩
 have hKl:KA<vs0.length:=by rw[hKA];exact Ve rev vs0 hb2
 repeat'((conv=>whnf);first
  |((with_reducible refine Ax (by first|(with_reducible assumption)|(with_reducible exact Bool.of_not_eq_false (by assumption))|(with_reducible exact Bool.of_not_eq_true (by assumption))|((with_reducible refine decide_eq_true ?_);first|(with_reducible assumption)|omega)|((with_reducible refine decide_eq_false ?_);first|(with_reducible assumption)|omega)|(with_reducible rfl)) (fun hb=>?_));(try rw[hb]);(try simp only[Aa,Bool.false_eq_true,Bool.true_eq_false]at hb);(try subst hb))
  |((with_reducible refine Aw (by first|(with_reducible assumption)|(with_reducible exact Bool.of_not_eq_false (by assumption))|(with_reducible exact Bool.of_not_eq_true (by assumption))|((with_reducible refine decide_eq_true ?_);first|(with_reducible assumption)|omega)|((with_reducible refine decide_eq_false ?_);first|(with_reducible assumption)|omega)|(with_reducible rfl)) (fun hb=>?_));(try rw[hb]);(try simp only[Aa,Bool.false_eq_true,Bool.true_eq_false]at hb);(try subst hb))
  |((with_reducible refine And.intro (fun hb=>?_) (fun hb=>?_))<;>first|(with_reducible exact absurd hb (by assumption))|(exact absurd hb (by decide))|(with_reducible exact absurd hb Bool.false_ne_true)|(with_reducible exact absurd hb.symm Bool.false_ne_true)|(exfalso;first|(simp only[Aj]at hb<;>omega)|omega)|((try rw[hb]);(try simp only[Aa,Bool.false_eq_true,Bool.true_eq_false]at hb);(try subst hb)))
  |((with_reducible refine Exists.intro ?_ ?_);focus (and_intros<;>first|omega|(with_reducible assumption)|(with_reducible rfl)|kernel_rfl|exact rfl|assumption|(intro _ hh;cases hh;done)|exact Ah (by rfl)|exact size_map (fun _=>rfl)|exact Ai rfl|exact take_size (fun _=>rfl)|exact Ag rfl|exact Af (fun _=>rfl)|exact Ae (fun _=>rfl)|(simp only[Aj];omega)|(simp;done)|decide))
  |(with_reducible intro hfact)
  |((with_reducible refine And.intro ?_ ?_);focus (first|(with_reducible rfl)|(exact rfl)|decide))
  |((with_reducible refine Drawn.mkV ?_ ?_ ?_ (fun hfact=>?_));(focus kernel_rfl);(focus kernel_rfl);(focus kernel_rfl);(try simp only[dRS]at hfact))
  |((with_reducible refine CallWp.mk ?_);refine⟨_,hwho,?_⟩;rintro _ _ ⟨rfl,rfl⟩)
  |((try dsimp only);rw[hw])
  |((first|with_reducible apply A9|with_reducible apply Ba);(focus (simp only[D.at,D.put,D.kid,D.setKid,List.cons_append,List.nil_append,List.append,List.getElem?_cons_zero,List.getElem?_cons_succ,Int.toNat_natCast,List.getElem?_set_self',Option.map_eq_map,Option.map_some,List.set_cons_zero,List.set_cons_succ,List.set_set,Function.const_apply,List.map_cons,List.map_nil,mkSt,Ap,D.toI,toIs,Ak,List.getElem?_map,List.length_map,List.length_set,hat,Hld.toD,Er,D.husk,hVi]<;>exact rfl)))
  |((first|with_reducible apply A3|with_reducible apply A2);(focus rfl);(focus (simp only[D.at,D.put,D.kid,D.setKid,List.cons_append,List.nil_append,List.append,List.getElem?_cons_zero,List.getElem?_cons_succ,Int.toNat_natCast,List.getElem?_set_self',Option.map_eq_map,Option.map_some,List.set_cons_zero,List.set_cons_succ,List.set_set,Function.const_apply,List.map_cons,List.map_nil,mkSt,Ap,D.toI,toIs,Ak,List.getElem?_map,List.length_map,List.length_set,hat,Hld.toD,Er,D.husk,hVi]<;>exact rfl));(try(focus exact rfl))))
 all_goals(try(conv=>whnf))
 refine LoopWq.by (X:=Nat) (fun k=>[(15,.v (ti (k:Int)))]) (fun k=>k<vs0.length∧Eo rev (vs0.drop k)+k=KA) (fun k=>vs0.length - k) 0 (by kernel_rfl) ⟨by omega,hKA.symm⟩ ?_
 rintro k ⟨hk,hka⟩
 dsimp only at hk hka ⊢
 have hvl:(vs0.map Ver.toI).length=vs0.length:=List.length_map _
 have hvl2:((vs0.map Ver.toI).map D.it).length=vs0.length:=by simp
 have hwk1:IntKind.i64.wrap ((k:Int)+1)=((k+1:Nat):Int):=Dk (n:=100000) (by omega) (by simp only[maxLen];omega)
 rw[Zs hk]at hka
 by_cases hk1:k+1<vs0.length
 ·obtain⟨v1,hv1⟩:∃v,vs0[k+1]?=some v:=⟨_,List.getElem?_eq_getElem hk1⟩
  rw[hv1]at hka
  dsimp only at hka
  have hlt3:¬decide (((k+1:Nat):Int)<(vs0.length:Int))=false:=by simp;omega
  have hlt5:¬decide (IntKind.i64.wrap ((k:Int)+1)<(vs0.length:Int))=false:=by rw[hwk1];exact hlt3
  have hlt6:¬decide (IntKind.i64.wrap ((k:Int)+1)<(((vs0.map Ver.toI).map D.it).length:Int))=false:=by rw[hvl2];exact hlt5
  by_cases hv2:v1.rev≤rev
  ·rw[if_pos hv2]at hka
   have hka2:Eo rev (vs0.drop (k+1))+(k+1)=KA:=by omega
   repeat'((conv=>whnf);first
    |((with_reducible refine Ax (by first|(with_reducible assumption)|(with_reducible exact Bool.of_not_eq_false (by assumption))|(with_reducible exact Bool.of_not_eq_true (by assumption))|((with_reducible refine decide_eq_true ?_);first|(with_reducible assumption)|omega)|((with_reducible refine decide_eq_false ?_);first|(with_reducible assumption)|omega)|(with_reducible rfl)) (fun hb=>?_));(try rw[hb]);(try simp only[Aa,Bool.false_eq_true,Bool.true_eq_false]at hb);(try subst hb))
    |((with_reducible refine Aw (by first|(with_reducible assumption)|(with_reducible exact Bool.of_not_eq_false (by assumption))|(with_reducible exact Bool.of_not_eq_true (by assumption))|((with_reducible refine decide_eq_true ?_);first|(with_reducible assumption)|omega)|((with_reducible refine decide_eq_false ?_);first|(with_reducible assumption)|omega)|(with_reducible rfl)) (fun hb=>?_));(try rw[hb]);(try simp only[Aa,Bool.false_eq_true,Bool.true_eq_false]at hb);(try subst hb))
    |((with_reducible refine And.intro (fun hb=>?_) (fun hb=>?_))<;>first|(with_reducible exact absurd hb (by assumption))|(exact absurd hb (by decide))|(with_reducible exact absurd hb Bool.false_ne_true)|(with_reducible exact absurd hb.symm Bool.false_ne_true)|(exfalso;first|(simp only[Aj]at hb<;>omega)|omega)|((try rw[hb]);(try simp only[Aa,Bool.false_eq_true,Bool.true_eq_false]at hb);(try subst hb)))
    |((with_reducible refine Exists.intro ?_ ?_);focus (and_intros<;>first|omega|(with_reducible assumption)|(with_reducible rfl)|kernel_rfl|exact rfl|assumption|(intro _ hh;cases hh;done)|exact Ah (by rfl)|exact size_map (fun _=>rfl)|exact Ai rfl|exact take_size (fun _=>rfl)|exact Ag rfl|exact Af (fun _=>rfl)|exact Ae (fun _=>rfl)|(simp only[Aj];omega)|(simp;done)|decide))
    |(with_reducible intro hfact)
    |((with_reducible refine And.intro ?_ ?_);focus (first|(with_reducible rfl)|(exact rfl)|decide))
    |((with_reducible refine Drawn.mkV ?_ ?_ ?_ (fun hfact=>?_));(focus kernel_rfl);(focus kernel_rfl);(focus kernel_rfl);(try simp only[dRS]at hfact))
    |((first|with_reducible apply A9|with_reducible apply Ba);(focus (simp only[D.at,D.put,D.kid,D.setKid,List.cons_append,List.nil_append,List.append,List.getElem?_cons_zero,List.getElem?_cons_succ,Int.toNat_natCast,List.getElem?_set_self',Option.map_eq_map,Option.map_some,List.set_cons_zero,List.set_cons_succ,List.set_set,Function.const_apply,List.map_cons,List.map_nil,mkSt,Ap,D.toI,toIs,Ak,List.getElem?_map,List.length_map,List.length_set,hv1,Ver.toI,hwk1,hvl2]<;>exact rfl)))
    |((first|with_reducible apply A3|with_reducible apply A2);(focus rfl);(focus (simp only[D.at,D.put,D.kid,D.setKid,List.cons_append,List.nil_append,List.append,List.getElem?_cons_zero,List.getElem?_cons_succ,Int.toNat_natCast,List.getElem?_set_self',Option.map_eq_map,Option.map_some,List.set_cons_zero,List.set_cons_succ,List.set_set,Function.const_apply,List.map_cons,List.map_nil,mkSt,Ap,D.toI,toIs,Ak,List.getElem?_map,List.length_map,List.length_set,hv1,Ver.toI,hwk1,hvl2]<;>exact rfl));(try(focus exact rfl))))
   all_goals(try(conv=>whnf))
   refine Round.by (k+1) ?_ ⟨hk1,hka2⟩ (by omega)
   try dsimp only
   rw[hwk1]
   show norm _ _=upd _ _
   kernel_rfl
  ·rw[if_neg hv2]at hka
   obtain rfl:k=KA:=by omega
   clear hka
   obtain⟨va,hva⟩:∃v,vs0[k]?=some v:=⟨_,List.getElem?_eq_getElem hk⟩
   have hKN:Lm rev vs0=if va.gone=true∧va.rev≤rev then k+1 else k:=by unfold Lm;rw[←hKA,hva]
   rw[hKN]at hR
   obtain⟨vr,vm,vv,vg⟩:=va
   dsimp only at hR
   have hsz:∀K,∀u∈(vs0.map Ver.toI).drop K,u.size=4:=fun K u hu=>by obtain⟨v,_,rfl⟩:=List.mem_map.1 (List.mem_of_mem_drop hu);rfl
   have hcl:∀K,_:=fun K=>Mb ((vs0.map Ver.toI).drop K) (hsz K) (by simp;omega)
   clear hKN hdr hsz
   by_cases hgr:vg=true∧vr≤rev
   case neg=>
    rw[if_neg hgr,if_neg (by omega)]at hR
    have hcl:=hcl k
    have hz:¬decide (((strips ((vs0.map Ver.toI).drop (k))).length:Int)=0)=true:=by rw[Bx];simp;omega
    have hz2:¬decide ((((vs0.map Ver.toI).drop (k)).length:Int)=0)=true:=by simp;omega
    have hz3:¬decide (((strips (strips ((vs0.map Ver.toI).drop (k)))).length:Int)=0)=true:=by rw[Bx];exact hz
    have hz4:¬decide ((((strips ((vs0.map Ver.toI).drop (k))).map D.it).length:Int)=0)=true:=by rw[List.length_map];exact hz
    have hz5:¬decide ((((strips (strips ((vs0.map Ver.toI).drop (k)))).map D.it).length:Int)=0)=true:=by rw[List.length_map];exact hz3
    cases vg with
    |false=>
     repeat'((conv=>whnf);first
      |((with_reducible refine Ax (by first|(with_reducible assumption)|(with_reducible exact Bool.of_not_eq_false (by assumption))|(with_reducible exact Bool.of_not_eq_true (by assumption))|((with_reducible refine decide_eq_true ?_);first|(with_reducible assumption)|omega)|((with_reducible refine decide_eq_false ?_);first|(with_reducible assumption)|omega)|(with_reducible rfl)) (fun hb=>?_));(try rw[hb]);(try simp only[Aa,Bool.false_eq_true,Bool.true_eq_false]at hb);(try subst hb))
      |((with_reducible refine Aw (by first|(with_reducible assumption)|(with_reducible exact Bool.of_not_eq_false (by assumption))|(with_reducible exact Bool.of_not_eq_true (by assumption))|((with_reducible refine decide_eq_true ?_);first|(with_reducible assumption)|omega)|((with_reducible refine decide_eq_false ?_);first|(with_reducible assumption)|omega)|(with_reducible rfl)) (fun hb=>?_));(try rw[hb]);(try simp only[Aa,Bool.false_eq_true,Bool.true_eq_false]at hb);(try subst hb))
      |((with_reducible refine And.intro (fun hb=>?_) (fun hb=>?_))<;>first|(with_reducible exact absurd hb (by assumption))|(exact absurd hb (by decide))|(with_reducible exact absurd hb Bool.false_ne_true)|(with_reducible exact absurd hb.symm Bool.false_ne_true)|(exfalso;first|(simp only[Aj]at hb<;>omega)|omega)|((try rw[hb]);(try simp only[Aa,Bool.false_eq_true,Bool.true_eq_false]at hb);(try subst hb)))
      |((with_reducible refine Exists.intro ?_ ?_);focus (and_intros<;>first|omega|(with_reducible assumption)|(with_reducible rfl)|kernel_rfl|exact rfl|assumption|(intro _ hh;cases hh;done)|exact Ah (by rfl)|exact size_map (fun _=>rfl)|exact Ai rfl|exact take_size (fun _=>rfl)|exact Ag rfl|exact Af (fun _=>rfl)|exact Ae (fun _=>rfl)|(simp only[Aj];omega)|(simp;done)|decide))
      |(with_reducible intro hfact)
      |((with_reducible refine And.intro ?_ ?_);focus (first|(with_reducible rfl)|(exact rfl)|decide))
      |((with_reducible refine Drawn.mkV ?_ ?_ ?_ (fun hfact=>?_));(focus kernel_rfl);(focus kernel_rfl);(focus kernel_rfl);(try simp only[dRS]at hfact))
      |((with_reducible refine CallWp.mk ?_);refine⟨_,hcl,?_⟩;rintro _ _ ⟨rfl,rfl⟩)
      |((first|with_reducible apply A9|with_reducible apply Ba);(focus (simp only[D.at,D.put,D.kid,D.setKid,List.cons_append,List.nil_append,List.append,List.getElem?_cons_zero,List.getElem?_cons_succ,Int.toNat_natCast,List.getElem?_set_self',Option.map_eq_map,Option.map_some,List.set_cons_zero,List.set_cons_succ,List.set_set,Function.const_apply,List.map_cons,List.map_nil,mkSt,Ap,D.toI,toIs,Ak,List.getElem?_map,List.length_map,List.length_set,hwk1,hv1,hva,Ver.toI,hvl2,B3,hVi,Tal.toI]<;>exact rfl)))
      |((first|with_reducible apply A3|with_reducible apply A2);(focus rfl);(focus (simp only[D.at,D.put,D.kid,D.setKid,List.cons_append,List.nil_append,List.append,List.getElem?_cons_zero,List.getElem?_cons_succ,Int.toNat_natCast,List.getElem?_set_self',Option.map_eq_map,Option.map_some,List.set_cons_zero,List.set_cons_succ,List.set_set,Function.const_apply,List.map_cons,List.map_nil,mkSt,Ap,D.toI,toIs,Ak,List.getElem?_map,List.length_map,List.length_set,hwk1,hv1,hva,Ver.toI,hvl2,B3,hVi,Tal.toI]<;>exact rfl));(try(focus exact rfl))))
     all_goals(try(conv=>whnf))
     have hcw:IntKind.i64.wrap (c+(((vs0.map Ver.toI).drop (k)).length:Int))=c+(vs0.length - (k):Nat):=by rw[List.length_drop,List.length_map,Bf (by omega)]
     refine Round.by (j+1,rest++[⟨a,vs0.drop (k)⟩],c+(vs0.length - (k):Nat),VS.set i (.ptr (.it (Tal.mk t.rev rev t.bytes t.keys (IntKind.i64.wrap (c+(((vs0.map Ver.toI).drop (k)).length:Int)))).toI)),Ld.set j (.it (.agg [.und,.und]))) ?_ ⟨by omega,by rw[e1,List.set_set,hcw],hsk,⟨by dsimp only;omega,by dsimp only;omega⟩,by simp;omega,hR⟩ (by dsimp only;omega)
     try dsimp only
     rw[List.map_append,List.map_cons,List.map_nil,show Hld.toD ⟨a,vs0.drop (k)⟩= .st [.it (.str a),.vec Bb 4 (((vs0.map Ver.toI).drop (k)).map D.it)]from by simp[Hld.toD,List.map_drop]]
     simp only[Bx,hw,hwk1]
     show norm _ _=upd _ _
     kernel_rfl
    |true=>
     have hvr:¬vr≤rev:=fun h=>hgr ⟨rfl,h⟩
     repeat'((conv=>whnf);first
      |((with_reducible refine Ax (by first|(with_reducible assumption)|(with_reducible exact Bool.of_not_eq_false (by assumption))|(with_reducible exact Bool.of_not_eq_true (by assumption))|((with_reducible refine decide_eq_true ?_);first|(with_reducible assumption)|omega)|((with_reducible refine decide_eq_false ?_);first|(with_reducible assumption)|omega)|(with_reducible rfl)) (fun hb=>?_));(try rw[hb]);(try simp only[Aa,Bool.false_eq_true,Bool.true_eq_false]at hb);(try subst hb))
      |((with_reducible refine Aw (by first|(with_reducible assumption)|(with_reducible exact Bool.of_not_eq_false (by assumption))|(with_reducible exact Bool.of_not_eq_true (by assumption))|((with_reducible refine decide_eq_true ?_);first|(with_reducible assumption)|omega)|((with_reducible refine decide_eq_false ?_);first|(with_reducible assumption)|omega)|(with_reducible rfl)) (fun hb=>?_));(try rw[hb]);(try simp only[Aa,Bool.false_eq_true,Bool.true_eq_false]at hb);(try subst hb))
      |((with_reducible refine And.intro (fun hb=>?_) (fun hb=>?_))<;>first|(with_reducible exact absurd hb (by assumption))|(exact absurd hb (by decide))|(with_reducible exact absurd hb Bool.false_ne_true)|(with_reducible exact absurd hb.symm Bool.false_ne_true)|(exfalso;first|(simp only[Aj]at hb<;>omega)|omega)|((try rw[hb]);(try simp only[Aa,Bool.false_eq_true,Bool.true_eq_false]at hb);(try subst hb)))
      |((with_reducible refine Exists.intro ?_ ?_);focus (and_intros<;>first|omega|(with_reducible assumption)|(with_reducible rfl)|kernel_rfl|exact rfl|assumption|(intro _ hh;cases hh;done)|exact Ah (by rfl)|exact size_map (fun _=>rfl)|exact Ai rfl|exact take_size (fun _=>rfl)|exact Ag rfl|exact Af (fun _=>rfl)|exact Ae (fun _=>rfl)|(simp only[Aj];omega)|(simp;done)|decide))
      |(with_reducible intro hfact)
      |((with_reducible refine And.intro ?_ ?_);focus (first|(with_reducible rfl)|(exact rfl)|decide))
      |((with_reducible refine Drawn.mkV ?_ ?_ ?_ (fun hfact=>?_));(focus kernel_rfl);(focus kernel_rfl);(focus kernel_rfl);(try simp only[dRS]at hfact))
      |((with_reducible refine CallWp.mk ?_);refine⟨_,hcl,?_⟩;rintro _ _ ⟨rfl,rfl⟩)
      |((first|with_reducible apply A9|with_reducible apply Ba);(focus (simp only[D.at,D.put,D.kid,D.setKid,List.cons_append,List.nil_append,List.append,List.getElem?_cons_zero,List.getElem?_cons_succ,Int.toNat_natCast,List.getElem?_set_self',Option.map_eq_map,Option.map_some,List.set_cons_zero,List.set_cons_succ,List.set_set,Function.const_apply,List.map_cons,List.map_nil,mkSt,Ap,D.toI,toIs,Ak,List.getElem?_map,List.length_map,List.length_set,hwk1,hv1,hva,Ver.toI,hvl2,B3,hVi,Tal.toI]<;>exact rfl)))
      |((first|with_reducible apply A3|with_reducible apply A2);(focus rfl);(focus (simp only[D.at,D.put,D.kid,D.setKid,List.cons_append,List.nil_append,List.append,List.getElem?_cons_zero,List.getElem?_cons_succ,Int.toNat_natCast,List.getElem?_set_self',Option.map_eq_map,Option.map_some,List.set_cons_zero,List.set_cons_succ,List.set_set,Function.const_apply,List.map_cons,List.map_nil,mkSt,Ap,D.toI,toIs,Ak,List.getElem?_map,List.length_map,List.length_set,hwk1,hv1,hva,Ver.toI,hvl2,B3,hVi,Tal.toI]<;>exact rfl));(try(focus exact rfl))))
     all_goals(try(conv=>whnf))
     have hcw:IntKind.i64.wrap (c+(((vs0.map Ver.toI).drop (k)).length:Int))=c+(vs0.length - (k):Nat):=by rw[List.length_drop,List.length_map,Bf (by omega)]
     refine Round.by (j+1,rest++[⟨a,vs0.drop (k)⟩],c+(vs0.length - (k):Nat),VS.set i (.ptr (.it (Tal.mk t.rev rev t.bytes t.keys (IntKind.i64.wrap (c+(((vs0.map Ver.toI).drop (k)).length:Int)))).toI)),Ld.set j (.it (.agg [.und,.und]))) ?_ ⟨by omega,by rw[e1,List.set_set,hcw],hsk,⟨by dsimp only;omega,by dsimp only;omega⟩,by simp;omega,hR⟩ (by dsimp only;omega)
     try dsimp only
     rw[List.map_append,List.map_cons,List.map_nil,show Hld.toD ⟨a,vs0.drop (k)⟩= .st [.it (.str a),.vec Bb 4 (((vs0.map Ver.toI).drop (k)).map D.it)]from by simp[Hld.toD,List.map_drop]]
     simp only[Bx,hw,hwk1]
     show norm _ _=upd _ _
     kernel_rfl
   obtain⟨rfl,hvr⟩:=hgr
   have hKK:(if true=true∧vr≤rev then k+1 else k)=k+1:=if_pos ⟨rfl,hvr⟩
   rw[hKK]at hR
   have hcl:=hcl (k+1)
   have hke:¬vs0.length≤k+1:=by omega
   rw[if_neg hke]at hR
   have hz:¬decide (((strips ((vs0.map Ver.toI).drop (k+1))).length:Int)=0)=true:=by rw[Bx];simp;omega
   have hz2:¬decide ((((vs0.map Ver.toI).drop (k+1)).length:Int)=0)=true:=by simp;omega
   have hz3:¬decide (((strips (strips ((vs0.map Ver.toI).drop (k+1)))).length:Int)=0)=true:=by rw[Bx];exact hz
   have hz4:¬decide ((((strips ((vs0.map Ver.toI).drop (k+1))).map D.it).length:Int)=0)=true:=by rw[List.length_map];exact hz
   have hz5:¬decide ((((strips (strips ((vs0.map Ver.toI).drop (k+1)))).map D.it).length:Int)=0)=true:=by rw[List.length_map];exact hz3
   repeat'((conv=>whnf);first
    |((with_reducible refine Ax (by first|(with_reducible assumption)|(with_reducible exact Bool.of_not_eq_false (by assumption))|(with_reducible exact Bool.of_not_eq_true (by assumption))|((with_reducible refine decide_eq_true ?_);first|(with_reducible assumption)|omega)|((with_reducible refine decide_eq_false ?_);first|(with_reducible assumption)|omega)|(with_reducible rfl)) (fun hb=>?_));(try rw[hb]);(try simp only[Aa,Bool.false_eq_true,Bool.true_eq_false]at hb);(try subst hb))
    |((with_reducible refine Aw (by first|(with_reducible assumption)|(with_reducible exact Bool.of_not_eq_false (by assumption))|(with_reducible exact Bool.of_not_eq_true (by assumption))|((with_reducible refine decide_eq_true ?_);first|(with_reducible assumption)|omega)|((with_reducible refine decide_eq_false ?_);first|(with_reducible assumption)|omega)|(with_reducible rfl)) (fun hb=>?_));(try rw[hb]);(try simp only[Aa,Bool.false_eq_true,Bool.true_eq_false]at hb);(try subst hb))
    |((with_reducible refine And.intro (fun hb=>?_) (fun hb=>?_))<;>first|(with_reducible exact absurd hb (by assumption))|(exact absurd hb (by decide))|(with_reducible exact absurd hb Bool.false_ne_true)|(with_reducible exact absurd hb.symm Bool.false_ne_true)|(exfalso;first|(simp only[Aj]at hb<;>omega)|omega)|((try rw[hb]);(try simp only[Aa,Bool.false_eq_true,Bool.true_eq_false]at hb);(try subst hb)))
    |((with_reducible refine Exists.intro ?_ ?_);focus (and_intros<;>first|omega|(with_reducible assumption)|(with_reducible rfl)|kernel_rfl|exact rfl|assumption|(intro _ hh;cases hh;done)|exact Ah (by rfl)|exact size_map (fun _=>rfl)|exact Ai rfl|exact take_size (fun _=>rfl)|exact Ag rfl|exact Af (fun _=>rfl)|exact Ae (fun _=>rfl)|(simp only[Aj];omega)|(simp;done)|decide))
    |(with_reducible intro hfact)
    |((with_reducible refine And.intro ?_ ?_);focus (first|(with_reducible rfl)|(exact rfl)|decide))
    |((with_reducible refine Drawn.mkV ?_ ?_ ?_ (fun hfact=>?_));(focus kernel_rfl);(focus kernel_rfl);(focus kernel_rfl);(try simp only[dRS]at hfact))
    |((with_reducible refine CallWp.mk ?_);refine⟨_,hcl,?_⟩;rintro _ _ ⟨rfl,rfl⟩)
    |((first|with_reducible apply A9|with_reducible apply Ba);(focus (simp only[D.at,D.put,D.kid,D.setKid,List.cons_append,List.nil_append,List.append,List.getElem?_cons_zero,List.getElem?_cons_succ,Int.toNat_natCast,List.getElem?_set_self',Option.map_eq_map,Option.map_some,List.set_cons_zero,List.set_cons_succ,List.set_set,Function.const_apply,List.map_cons,List.map_nil,mkSt,Ap,D.toI,toIs,Ak,List.getElem?_map,List.length_map,List.length_set,hwk1,hv1,hva,Ver.toI,hvl2,B3,hVi,Tal.toI]<;>exact rfl)))
    |((first|with_reducible apply A3|with_reducible apply A2);(focus rfl);(focus (simp only[D.at,D.put,D.kid,D.setKid,List.cons_append,List.nil_append,List.append,List.getElem?_cons_zero,List.getElem?_cons_succ,Int.toNat_natCast,List.getElem?_set_self',Option.map_eq_map,Option.map_some,List.set_cons_zero,List.set_cons_succ,List.set_set,Function.const_apply,List.map_cons,List.map_nil,mkSt,Ap,D.toI,toIs,Ak,List.getElem?_map,List.length_map,List.length_set,hwk1,hv1,hva,Ver.toI,hvl2,B3,hVi,Tal.toI]<;>exact rfl));(try(focus exact rfl))))
   all_goals(try(conv=>whnf))
   have hcw:IntKind.i64.wrap (c+(((vs0.map Ver.toI).drop (k+1)).length:Int))=c+(vs0.length - (k+1):Nat):=by rw[List.length_drop,List.length_map,Bf (by omega)]
   refine Round.by (j+1,rest++[⟨a,vs0.drop (k+1)⟩],c+(vs0.length - (k+1):Nat),VS.set i (.ptr (.it (Tal.mk t.rev rev t.bytes t.keys (IntKind.i64.wrap (c+(((vs0.map Ver.toI).drop (k+1)).length:Int)))).toI)),Ld.set j (.it (.agg [.und,.und]))) ?_ ⟨by omega,by rw[e1,List.set_set,hcw],hsk,⟨by dsimp only;omega,by dsimp only;omega⟩,by simp;omega,hR⟩ (by dsimp only;omega)
   try dsimp only
   rw[List.map_append,List.map_cons,List.map_nil,show Hld.toD ⟨a,vs0.drop (k+1)⟩= .st [.it (.str a),.vec Bb 4 (((vs0.map Ver.toI).drop (k+1)).map D.it)]from by simp[Hld.toD,List.map_drop]]
   simp only[Bx,hw,hwk1]
   show norm _ _=upd _ _
   kernel_rfl
 ·have hlt3:¬decide (((k+1:Nat):Int)<(vs0.length:Int))=true:=by simp;omega
  have hlt5:¬decide (IntKind.i64.wrap ((k:Int)+1)<(vs0.length:Int))=true:=by rw[hwk1];exact hlt3
  have hlt6:¬decide (IntKind.i64.wrap ((k:Int)+1)<(((vs0.map Ver.toI).map D.it).length:Int))=true:=by rw[hvl2];exact hlt5
  rw[List.getElem?_eq_none (by omega)]at hka
  have hka:0+k=KA:=hka
  obtain rfl:k=KA:=by omega
  have hv1:vs0[k+1]?=none:=List.getElem?_eq_none (by omega)
  obtain⟨va,hva⟩:∃v,vs0[k]?=some v:=⟨_,List.getElem?_eq_getElem hk⟩
  have hKN:Lm rev vs0=if va.gone=true∧va.rev≤rev then k+1 else k:=by unfold Lm;rw[←hKA,hva]
  rw[hKN]at hR
  obtain⟨vr,vm,vv,vg⟩:=va
  dsimp only at hR
  have hsz:∀K,∀u∈(vs0.map Ver.toI).drop K,u.size=4:=fun K u hu=>by obtain⟨v,_,rfl⟩:=List.mem_map.1 (List.mem_of_mem_drop hu);rfl
  have hcl:∀K,_:=fun K=>Mb ((vs0.map Ver.toI).drop K) (hsz K) (by simp;omega)
  clear hKN hdr hsz
  by_cases hgr:vg=true∧vr≤rev
  case neg=>
   rw[if_neg hgr,if_neg (by omega)]at hR
   have hcl:=hcl k
   have hz:¬decide (((strips ((vs0.map Ver.toI).drop (k))).length:Int)=0)=true:=by rw[Bx];simp;omega
   have hz2:¬decide ((((vs0.map Ver.toI).drop (k)).length:Int)=0)=true:=by simp;omega
   have hz3:¬decide (((strips (strips ((vs0.map Ver.toI).drop (k)))).length:Int)=0)=true:=by rw[Bx];exact hz
   have hz4:¬decide ((((strips ((vs0.map Ver.toI).drop (k))).map D.it).length:Int)=0)=true:=by rw[List.length_map];exact hz
   have hz5:¬decide ((((strips (strips ((vs0.map Ver.toI).drop (k)))).map D.it).length:Int)=0)=true:=by rw[List.length_map];exact hz3
   cases vg with
   |false=>
    repeat'((conv=>whnf);first
     |((with_reducible refine Ax (by first|(with_reducible assumption)|(with_reducible exact Bool.of_not_eq_false (by assumption))|(with_reducible exact Bool.of_not_eq_true (by assumption))|((with_reducible refine decide_eq_true ?_);first|(with_reducible assumption)|omega)|((with_reducible refine decide_eq_false ?_);first|(with_reducible assumption)|omega)|(with_reducible rfl)) (fun hb=>?_));(try rw[hb]);(try simp only[Aa,Bool.false_eq_true,Bool.true_eq_false]at hb);(try subst hb))
     |((with_reducible refine Aw (by first|(with_reducible assumption)|(with_reducible exact Bool.of_not_eq_false (by assumption))|(with_reducible exact Bool.of_not_eq_true (by assumption))|((with_reducible refine decide_eq_true ?_);first|(with_reducible assumption)|omega)|((with_reducible refine decide_eq_false ?_);first|(with_reducible assumption)|omega)|(with_reducible rfl)) (fun hb=>?_));(try rw[hb]);(try simp only[Aa,Bool.false_eq_true,Bool.true_eq_false]at hb);(try subst hb))
     |((with_reducible refine And.intro (fun hb=>?_) (fun hb=>?_))<;>first|(with_reducible exact absurd hb (by assumption))|(exact absurd hb (by decide))|(with_reducible exact absurd hb Bool.false_ne_true)|(with_reducible exact absurd hb.symm Bool.false_ne_true)|(exfalso;first|(simp only[Aj]at hb<;>omega)|omega)|((try rw[hb]);(try simp only[Aa,Bool.false_eq_true,Bool.true_eq_false]at hb);(try subst hb)))
     |((with_reducible refine Exists.intro ?_ ?_);focus (and_intros<;>first|omega|(with_reducible assumption)|(with_reducible rfl)|kernel_rfl|exact rfl|assumption|(intro _ hh;cases hh;done)|exact Ah (by rfl)|exact size_map (fun _=>rfl)|exact Ai rfl|exact take_size (fun _=>rfl)|exact Ag rfl|exact Af (fun _=>rfl)|exact Ae (fun _=>rfl)|(simp only[Aj];omega)|(simp;done)|decide))
     |(with_reducible intro hfact)
     |((with_reducible refine And.intro ?_ ?_);focus (first|(with_reducible rfl)|(exact rfl)|decide))
     |((with_reducible refine Drawn.mkV ?_ ?_ ?_ (fun hfact=>?_));(focus kernel_rfl);(focus kernel_rfl);(focus kernel_rfl);(try simp only[dRS]at hfact))
     |((with_reducible refine CallWp.mk ?_);refine⟨_,hcl,?_⟩;rintro _ _ ⟨rfl,rfl⟩)
     |((first|with_reducible apply A9|with_reducible apply Ba);(focus (simp only[D.at,D.put,D.kid,D.setKid,List.cons_append,List.nil_append,List.append,List.getElem?_cons_zero,List.getElem?_cons_succ,Int.toNat_natCast,List.getElem?_set_self',Option.map_eq_map,Option.map_some,List.set_cons_zero,List.set_cons_succ,List.set_set,Function.const_apply,List.map_cons,List.map_nil,mkSt,Ap,D.toI,toIs,Ak,List.getElem?_map,List.length_map,List.length_set,hwk1,hv1,hva,Ver.toI,hvl2,B3,hVi,Tal.toI]<;>exact rfl)))
     |((first|with_reducible apply A3|with_reducible apply A2);(focus rfl);(focus (simp only[D.at,D.put,D.kid,D.setKid,List.cons_append,List.nil_append,List.append,List.getElem?_cons_zero,List.getElem?_cons_succ,Int.toNat_natCast,List.getElem?_set_self',Option.map_eq_map,Option.map_some,List.set_cons_zero,List.set_cons_succ,List.set_set,Function.const_apply,List.map_cons,List.map_nil,mkSt,Ap,D.toI,toIs,Ak,List.getElem?_map,List.length_map,List.length_set,hwk1,hv1,hva,Ver.toI,hvl2,B3,hVi,Tal.toI]<;>exact rfl));(try(focus exact rfl))))
    all_goals(try(conv=>whnf))
    have hcw:IntKind.i64.wrap (c+(((vs0.map Ver.toI).drop (k)).length:Int))=c+(vs0.length - (k):Nat):=by rw[List.length_drop,List.length_map,Bf (by omega)]
    refine Round.by (j+1,rest++[⟨a,vs0.drop (k)⟩],c+(vs0.length - (k):Nat),VS.set i (.ptr (.it (Tal.mk t.rev rev t.bytes t.keys (IntKind.i64.wrap (c+(((vs0.map Ver.toI).drop (k)).length:Int)))).toI)),Ld.set j (.it (.agg [.und,.und]))) ?_ ⟨by omega,by rw[e1,List.set_set,hcw],hsk,⟨by dsimp only;omega,by dsimp only;omega⟩,by simp;omega,hR⟩ (by dsimp only;omega)
    try dsimp only
    rw[List.map_append,List.map_cons,List.map_nil,show Hld.toD ⟨a,vs0.drop (k)⟩= .st [.it (.str a),.vec Bb 4 (((vs0.map Ver.toI).drop (k)).map D.it)]from by simp[Hld.toD,List.map_drop]]
    simp only[Bx,hw,hwk1]
    show norm _ _=upd _ _
    kernel_rfl
   |true=>
    have hvr:¬vr≤rev:=fun h=>hgr ⟨rfl,h⟩
    repeat'((conv=>whnf);first
     |((with_reducible refine Ax (by first|(with_reducible assumption)|(with_reducible exact Bool.of_not_eq_false (by assumption))|(with_reducible exact Bool.of_not_eq_true (by assumption))|((with_reducible refine decide_eq_true ?_);first|(with_reducible assumption)|omega)|((with_reducible refine decide_eq_false ?_);first|(with_reducible assumption)|omega)|(with_reducible rfl)) (fun hb=>?_));(try rw[hb]);(try simp only[Aa,Bool.false_eq_true,Bool.true_eq_false]at hb);(try subst hb))
     |((with_reducible refine Aw (by first|(with_reducible assumption)|(with_reducible exact Bool.of_not_eq_false (by assumption))|(with_reducible exact Bool.of_not_eq_true (by assumption))|((with_reducible refine decide_eq_true ?_);first|(with_reducible assumption)|omega)|((with_reducible refine decide_eq_false ?_);first|(with_reducible assumption)|omega)|(with_reducible rfl)) (fun hb=>?_));(try rw[hb]);(try simp only[Aa,Bool.false_eq_true,Bool.true_eq_false]at hb);(try subst hb))
     |((with_reducible refine And.intro (fun hb=>?_) (fun hb=>?_))<;>first|(with_reducible exact absurd hb (by assumption))|(exact absurd hb (by decide))|(with_reducible exact absurd hb Bool.false_ne_true)|(with_reducible exact absurd hb.symm Bool.false_ne_true)|(exfalso;first|(simp only[Aj]at hb<;>omega)|omega)|((try rw[hb]);(try simp only[Aa,Bool.false_eq_true,Bool.true_eq_false]at hb);(try subst hb)))
     |((with_reducible refine Exists.intro ?_ ?_);focus (and_intros<;>first|omega|(with_reducible assumption)|(with_reducible rfl)|kernel_rfl|exact rfl|assumption|(intro _ hh;cases hh;done)|exact Ah (by rfl)|exact size_map (fun _=>rfl)|exact Ai rfl|exact take_size (fun _=>rfl)|exact Ag rfl|exact Af (fun _=>rfl)|exact Ae (fun _=>rfl)|(simp only[Aj];omega)|(simp;done)|decide))
     |(with_reducible intro hfact)
     |((with_reducible refine And.intro ?_ ?_);focus (first|(with_reducible rfl)|(exact rfl)|decide))
     |((with_reducible refine Drawn.mkV ?_ ?_ ?_ (fun hfact=>?_));(focus kernel_rfl);(focus kernel_rfl);(focus kernel_rfl);(try simp only[dRS]at hfact))
     |((with_reducible refine CallWp.mk ?_);refine⟨_,hcl,?_⟩;rintro _ _ ⟨rfl,rfl⟩)
     |((first|with_reducible apply A9|with_reducible apply Ba);(focus (simp only[D.at,D.put,D.kid,D.setKid,List.cons_append,List.nil_append,List.append,List.getElem?_cons_zero,List.getElem?_cons_succ,Int.toNat_natCast,List.getElem?_set_self',Option.map_eq_map,Option.map_some,List.set_cons_zero,List.set_cons_succ,List.set_set,Function.const_apply,List.map_cons,List.map_nil,mkSt,Ap,D.toI,toIs,Ak,List.getElem?_map,List.length_map,List.length_set,hwk1,hv1,hva,Ver.toI,hvl2,B3,hVi,Tal.toI]<;>exact rfl)))
     |((first|with_reducible apply A3|with_reducible apply A2);(focus rfl);(focus (simp only[D.at,D.put,D.kid,D.setKid,List.cons_append,List.nil_append,List.append,List.getElem?_cons_zero,List.getElem?_cons_succ,Int.toNat_natCast,List.getElem?_set_self',Option.map_eq_map,Option.map_some,List.set_cons_zero,List.set_cons_succ,List.set_set,Function.const_apply,List.map_cons,List.map_nil,mkSt,Ap,D.toI,toIs,Ak,List.getElem?_map,List.length_map,List.length_set,hwk1,hv1,hva,Ver.toI,hvl2,B3,hVi,Tal.toI]<;>exact rfl));(try(focus exact rfl))))
    all_goals(try(conv=>whnf))
    have hcw:IntKind.i64.wrap (c+(((vs0.map Ver.toI).drop (k)).length:Int))=c+(vs0.length - (k):Nat):=by rw[List.length_drop,List.length_map,Bf (by omega)]
    refine Round.by (j+1,rest++[⟨a,vs0.drop (k)⟩],c+(vs0.length - (k):Nat),VS.set i (.ptr (.it (Tal.mk t.rev rev t.bytes t.keys (IntKind.i64.wrap (c+(((vs0.map Ver.toI).drop (k)).length:Int)))).toI)),Ld.set j (.it (.agg [.und,.und]))) ?_ ⟨by omega,by rw[e1,List.set_set,hcw],hsk,⟨by dsimp only;omega,by dsimp only;omega⟩,by simp;omega,hR⟩ (by dsimp only;omega)
    try dsimp only
    rw[List.map_append,List.map_cons,List.map_nil,show Hld.toD ⟨a,vs0.drop (k)⟩= .st [.it (.str a),.vec Bb 4 (((vs0.map Ver.toI).drop (k)).map D.it)]from by simp[Hld.toD,List.map_drop]]
    simp only[Bx,hw,hwk1]
    show norm _ _=upd _ _
    kernel_rfl
  obtain⟨rfl,hvr⟩:=hgr
  have hKK:(if true=true∧vr≤rev then k+1 else k)=k+1:=if_pos ⟨rfl,hvr⟩
  rw[hKK]at hR
  have hcl:=hcl (k+1)
  have hke:vs0.length≤k+1:=by omega
  rw[if_pos hke]at hR
  have hz:¬decide (((strips ((vs0.map Ver.toI).drop (k+1))).length:Int)=0)=false:=by rw[Bx];simp;omega
  have hz2:¬decide ((((vs0.map Ver.toI).drop (k+1)).length:Int)=0)=false:=by simp;omega
  have hz3:¬decide (((strips (strips ((vs0.map Ver.toI).drop (k+1)))).length:Int)=0)=false:=by rw[Bx];exact hz
  have hz4:¬decide ((((strips ((vs0.map Ver.toI).drop (k+1))).map D.it).length:Int)=0)=false:=by rw[List.length_map];exact hz
  have hz5:¬decide ((((strips (strips ((vs0.map Ver.toI).drop (k+1)))).map D.it).length:Int)=0)=false:=by rw[List.length_map];exact hz3
  repeat'((conv=>whnf);first
   |((with_reducible refine Ax (by first|(with_reducible assumption)|(with_reducible exact Bool.of_not_eq_false (by assumption))|(with_reducible exact Bool.of_not_eq_true (by assumption))|((with_reducible refine decide_eq_true ?_);first|(with_reducible assumption)|omega)|((with_reducible refine decide_eq_false ?_);first|(with_reducible assumption)|omega)|(with_reducible rfl)) (fun hb=>?_));(try rw[hb]);(try simp only[Aa,Bool.false_eq_true,Bool.true_eq_false]at hb);(try subst hb))
   |((with_reducible refine Aw (by first|(with_reducible assumption)|(with_reducible exact Bool.of_not_eq_false (by assumption))|(with_reducible exact Bool.of_not_eq_true (by assumption))|((with_reducible refine decide_eq_true ?_);first|(with_reducible assumption)|omega)|((with_reducible refine decide_eq_false ?_);first|(with_reducible assumption)|omega)|(with_reducible rfl)) (fun hb=>?_));(try rw[hb]);(try simp only[Aa,Bool.false_eq_true,Bool.true_eq_false]at hb);(try subst hb))
   |((with_reducible refine And.intro (fun hb=>?_) (fun hb=>?_))<;>first|(with_reducible exact absurd hb (by assumption))|(exact absurd hb (by decide))|(with_reducible exact absurd hb Bool.false_ne_true)|(with_reducible exact absurd hb.symm Bool.false_ne_true)|(exfalso;first|(simp only[Aj]at hb<;>omega)|omega)|((try rw[hb]);(try simp only[Aa,Bool.false_eq_true,Bool.true_eq_false]at hb);(try subst hb)))
   |((with_reducible refine Exists.intro ?_ ?_);focus (and_intros<;>first|omega|(with_reducible assumption)|(with_reducible rfl)|kernel_rfl|exact rfl|assumption|(intro _ hh;cases hh;done)|exact Ah (by rfl)|exact size_map (fun _=>rfl)|exact Ai rfl|exact take_size (fun _=>rfl)|exact Ag rfl|exact Af (fun _=>rfl)|exact Ae (fun _=>rfl)|(simp only[Aj];omega)|(simp;done)|decide))
   |(with_reducible intro hfact)
   |((with_reducible refine And.intro ?_ ?_);focus (first|(with_reducible rfl)|(exact rfl)|decide))
   |((with_reducible refine Drawn.mkV ?_ ?_ ?_ (fun hfact=>?_));(focus kernel_rfl);(focus kernel_rfl);(focus kernel_rfl);(try simp only[dRS]at hfact))
   |((with_reducible refine CallWp.mk ?_);refine⟨_,hcl,?_⟩;rintro _ _ ⟨rfl,rfl⟩)
   |((first|with_reducible apply A9|with_reducible apply Ba);(focus (simp only[D.at,D.put,D.kid,D.setKid,List.cons_append,List.nil_append,List.append,List.getElem?_cons_zero,List.getElem?_cons_succ,Int.toNat_natCast,List.getElem?_set_self',Option.map_eq_map,Option.map_some,List.set_cons_zero,List.set_cons_succ,List.set_set,Function.const_apply,List.map_cons,List.map_nil,mkSt,Ap,D.toI,toIs,Ak,List.getElem?_map,List.length_map,List.length_set,hwk1,hv1,hva,Ver.toI,hvl2,B3,hVi,Tal.toI]<;>exact rfl)))
   |((first|with_reducible apply A3|with_reducible apply A2);(focus rfl);(focus (simp only[D.at,D.put,D.kid,D.setKid,List.cons_append,List.nil_append,List.append,List.getElem?_cons_zero,List.getElem?_cons_succ,Int.toNat_natCast,List.getElem?_set_self',Option.map_eq_map,Option.map_some,List.set_cons_zero,List.set_cons_succ,List.set_set,Function.const_apply,List.map_cons,List.map_nil,mkSt,Ap,D.toI,toIs,Ak,List.getElem?_map,List.length_map,List.length_set,hwk1,hv1,hva,Ver.toI,hvl2,B3,hVi,Tal.toI]<;>exact rfl));(try(focus exact rfl))))
  all_goals(try(conv=>whnf))
  have hcw:IntKind.i64.wrap (c+(((vs0.map Ver.toI).drop (k+1)).length:Int))=c:=by rw[List.length_drop,List.length_map,Bf (by omega)];omega
  refine Round.by (j+1,rest,c,VS.set i (.ptr (.it (Tal.mk t.rev rev t.bytes t.keys (IntKind.i64.wrap (c+(((vs0.map Ver.toI).drop (k+1)).length:Int)))).toI)),Ld.set j (.it (.agg [.und,.und]))) ?_ ⟨by omega,by rw[e1,List.set_set,hcw],hsk,⟨by dsimp only;omega,by dsimp only;omega⟩,by dsimp only;omega,hR⟩ (by dsimp only;omega)
  try dsimp only
  simp only[Bx,hw,hwk1]
  show norm _ _=upd _ _
  kernel_rfl
end Go.Ab
