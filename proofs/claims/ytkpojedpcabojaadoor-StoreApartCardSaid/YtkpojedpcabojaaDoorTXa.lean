/- Lemmas -/
import Derived.Test.YtkpojedpcabojaaDoorWBA
import Derived.Deep.Slices
import Derived.ChangeSame
import Derived.ChangeArms
import Derived.ProofKit
import Derived.OpenShut
import Derived.SizedLaws
import Derived.Test.YtkpojedpcabojaaDoorRows
import Derived.Lib.LaidU8T
import Derived.PinnedBridge
import Derived.LaidOnce
import Derived.LaidMore
import Derived.Test.YtkpojedpcabojaaDoorCards
import Derived.Test.YtkpojedpcabojaaDoorTie
import Derived.Test.YtkpojedpcabojaaDoorChecked
import Derived.JoinedCond
import Derived.Lay
import Derived.SevenTiedAt
set_option linter.unusedVariables false
set_option linter.unusedSimpArgs false
set_option maxRecDepth 100000
set_option maxHeartbeats 40000000
namespace Go.Ab
open Go.Proofs
abbrev uA:Az:=[117]
def Opn.notU(o:Opn):Opn:=if o.n=uA then {o with n:=[116]} else o
theorem Opn.notU_ne(o:Opn):uA≠o.notU.n:=by
 unfold Opn.notU;split
 ·show([117]:Az)≠[116];decide
 ·rename_i h;exact fun e=>h e.symm
theorem Opn.notU_ok{o:Opn}(h:o.l.length≤40∧o.n.length≤1000):o.notU.l.length≤40∧o.notU.n.length≤1000:=by
 unfold Opn.notU;split
 ·exact⟨h.1,show([116]:Az).length≤1000 by decide⟩
 ·exact h
theorem Hn{m:Nat}{s:Sto}(h:SInv m s)(hf:(s.fi uA).isSome=true):∃i,s.ref[i]?=some (s.spcS uA)∧∀(j:Nat) (q:Spc),j<i→s.ref[j]?=some q→q.name≠uA:=by
 obtain⟨i,_,h2,h3⟩:=Aii (s:=s) (n:=uA) hf;refine⟨i,h2,fun j q hj hq e=>?_⟩
 unfold Sto.ref at hq;rw[List.getElem?_map]at hq;cases hn:s.names[j]? with
 |none=>rw[hn]at hq;cases hq
 |some n=>
  rw[hn]at hq;cases hq;have hnd:=Aki h;obtain⟨a1,a2⟩:=List.getElem?_eq_some_iff.1 hn;obtain⟨b1,b2⟩:=List.getElem?_eq_some_iff.1 h3;have:n=uA:=e;have:=List.pairwise_iff_getElem.1 hnd j i a1 b1 hj;rw[a2,b2]at this;exact this (by assumption)
structure JA(S:Sto)(j:Nat)(s:Sto):Prop where
 inv:SInv (4100+41*j) s
 c:CInv s
 h8:s.sp.length≤8
 hf:(s.fi uA).isSome=true
 sp:s.spcS uA=S.spcS uA
 tl:s.tal uA=S.tal uA
theorem JA.step{S:Sto}{j:Nat}{s:Sto}(h:JA S j s)(hj:j≤1000){o:Opn}(ho:o.l.length≤40∧o.n.length≤1000):JA S (j+1) (s.stepM o.notU):=by
 have hk:=Opn.notU_ok ho;exact⟨(h.inv.step _ (by omega)).mono (by omega),h.c.step h.inv _,Fi h.h8 _,F0 h.hf,(Hg h.inv _ (Opn.notU_ne o)).trans h.sp,(Fj h.inv _ (Opn.notU_ne o)).1.trans h.tl⟩
theorem Em(l1 l2:List Opn)(g1:Ai 0 l1=false)(g2:Ai 0 l2=false)(S:Sto)(hJ:JA S 0 S)(hl2:l2.length≤100)(hok:∀o∈l2,o.l.length≤40∧o.n.length≤1000)
 (hp:Fn Tryd.prog A5 [.v (.list (l1.map Opn.toI))] (Is (sP S) [.no])):
 Fn Tryd.prog Ak [.v (.list (l1.map Opn.toI)),.v (.list (l2.map Opn.toI))] (Is (.v (.bool true)) [.no,.no]):=by
 refine Aq ?_ (by simp)
 have h1:=Bv l1;have h2:=Bv l2;rw[g1]at h1;rw[g2]at h2;repeat'((conv=>whnf);first|((with_reducible refine Aw (by first|(with_reducible assumption)|(with_reducible rfl)) (fun hb=>?_));(try rw[hb]);(try simp only[Aa]at hb))|((with_reducible refine And.intro (fun hb=>?_) (fun hb=>?_))<;>first|(exact absurd hb (by decide))|((try rw[hb]);(try simp only[Aa]at hb)))|((with_reducible refine Exists.intro ?_ ?_);focus (and_intros<;>first|(intro _ hh;cases hh;done)|(simp;done)|decide))|((with_reducible refine CallWp.mk ?_);refine⟨_,Cp,?_⟩;rintro _ _ ⟨rfl,rfl⟩)|((with_reducible refine CallWp.mk ?_);refine⟨_,h1,?_⟩;rintro _ _ ⟨rfl,rfl⟩)|((with_reducible refine CallWp.mk ?_);refine⟨_,h2,?_⟩;rintro _ _ ⟨rfl,rfl⟩))
 all_goals(try(conv=>whnf))
 generalize hKK:F7 Tryd.prog _ _=KK;as_aux_lemma=>
  repeat'((conv=>whnf);first|((with_reducible refine Exists.intro ?_ ?_);focus (and_intros<;>first|omega|(with_reducible rfl)|(intro _ hh;cases hh;done)|(simp;done)))|((with_reducible refine CallWp.mk ?_);refine⟨_,hp,?_⟩;rintro _ _ ⟨rfl,rfl⟩))
  all_goals(try(conv=>whnf))
  rw[←hKK];clear hKK;as_aux_lemma=>
   have hd:=Fe hJ.inv (by omega) hJ.h8
   obtain⟨i,hi,hno⟩:=Hn hJ.inv hJ.hf;have hRl:=Af9 S;have h8:=hJ.h8;have hil:=(List.getElem?_eq_some_iff.1 hi).1;generalize S.ref=R at*;have hRm:(R.map Spc.toI).length=R.length:=List.length_map _;have hby:=Aj6 S uA;generalize hP:S.spcS uA=P at*;have hPn:P.name=uA:=by rw[←hP];rfl
   repeat'((conv=>whnf);first|((with_reducible refine Exists.intro ?_ ?_);focus (and_intros<;>first|omega|(with_reducible rfl)|kernel_rfl|(intro _ hh;cases hh;done)|(simp;done)|decide))|(with_reducible intro hfact)|((with_reducible refine And.intro ?_ ?_);focus ((exact rfl)))|((refine An ?_ (by decide)))|((with_reducible refine CallWp.mk ?_);refine⟨_,hd,?_⟩;rintro _ _ ⟨rfl,rfl⟩)|((try dsimp only);rw[hRm]))
   all_goals(try(conv=>whnf))
   refine LoopWq.by (X:=Nat) (fun j=>[(7,.v (ti (j:Int)))]) (fun j=>j≤i) (fun j=>i - j) 0 (by kernel_rfl) (Nat.zero_le _) ?_
   rintro j hj
   (try dsimp only at hj ⊢)
   have hw:IntKind.i64.wrap ((j:Int)+1)=((j+1:Nat):Int):=(Bf (by omega)).trans (by omega)
   have hjl:¬decide ((j:Int)<(R.length:Int))=false:=by simp;omega
   by_cases hji:j<i
   ·obtain⟨q,hq⟩:∃q,R[j]?=some q:=⟨_,List.getElem?_eq_getElem (by omega)⟩
    have hqn:=hno j q hji hq;obtain⟨qn,qr,qf,qk⟩:=q;dsimp only at hqn;have gq:¬decide (qn=[117])=true:=by simpa using hqn
    repeat'((conv=>whnf);first|((with_reducible refine Ax (by(with_reducible exact Bool.of_not_eq_false (by assumption))) (fun hb=>?_));(try rw[hb]);(try simp only[Aa]at hb))|((with_reducible refine Aw (by first|(with_reducible assumption)|(with_reducible exact Bool.of_not_eq_true (by assumption))) (fun hb=>?_));(try rw[hb]);(try simp only[Aa]at hb))|((with_reducible refine Exists.intro ?_ ?_);focus (and_intros<;>first|omega|kernel_rfl|(simp;done)))|((try dsimp only);(rw[B6 hq]))|((try dsimp only);rw[hw]))
    all_goals(try(conv=>whnf))
    refine Round.by (j+1) ?_ (by omega) (by omega)
    try dsimp only
    show norm _ _=upd _ _
    kernel_rfl
   obtain rfl:j=i:=by omega
   obtain⟨pn,pr,pf,pk⟩:=P;dsimp only at hPn;subst hPn;repeat'((conv=>whnf);first|((with_reducible refine Ax (by(with_reducible exact Bool.of_not_eq_false (by assumption))) (fun hb=>?_));(try rw[hb]);(try simp only[Aa]at hb))|((with_reducible refine And.intro (fun hb=>?_) (fun hb=>?_))<;>(((try rw[hb]);(try simp only[Aa]at hb);(try(with_reducible exact absurd trivial hb)))))|((with_reducible refine Exists.intro ?_ ?_);focus (and_intros<;>first|omega|(with_reducible rfl)|kernel_rfl|(intro _ hh;cases hh;done)|exact Ah (by rfl)|(simp;done)|decide))|(with_reducible intro hfact)|((try dsimp only);(rw[B6 hi]))|((with_reducible refine CallWp.mk ?_);refine⟨_,hby,?_⟩;rintro _ _ ⟨rfl,rfl⟩))
   all_goals(try(conv=>whnf))
   refine LoopWq.by (X:=Nat × Sto) (fun y=>[(28,.v (ti (y.1:Int))),(20,sP y.2)]) (fun y=>y.1≤l2.length∧JA S y.1 y.2) (fun y=>l2.length - y.1) (0,S) (by kernel_rfl) ⟨Nat.zero_le _,hJ⟩ ?_
   rintro⟨k,s⟩ ⟨hk,hJ2⟩
   (try dsimp only at hk hJ2 ⊢)
   have hwk:IntKind.i64.wrap ((k:Int)+1)=((k+1:Nat):Int):=(Bf (by omega)).trans (by omega)
   have hlm2:(l2.map Opn.toI).length=l2.length:=List.length_map _;by_cases hkl:k<l2.length
   ·obtain⟨o,ho⟩:∃x,l2[k]?=some x:=⟨_,List.getElem?_eq_getElem hkl⟩;have h3:¬decide ((k:Int)<(l2.length:Int))=false:=by simp;omega
    have hoo:=hok o (List.mem_of_getElem? ho);have hJ3:=hJ2.step (by omega) hoo
    have hdo:=Ej hJ2.inv (by omega) o.notU (Opn.notU_ok hoo).2 (by have:=(Opn.notU_ok hoo).1;omega)
    generalize s.stepM o.notU=s' at*;generalize Fa s o.notU=b at hdo;have hdr:B4 o.notU=r0∨B4 o.notU=r1 o.notU.n:=by unfold B4;split<;>simp
    generalize B4 o.notU=Q at hdo hdr;obtain⟨ok,n,cl,⟨xf,xt⟩,rev,most⟩:=o;by_cases hn:n=[117]
    ·have gn:¬decide (n=[117])=false:=by simpa using hn
     have hno2:(Opn.mk ok n cl ⟨xf,xt⟩ rev most).notU=⟨ok,[116],cl,⟨xf,xt⟩,rev,most⟩:=by unfold Opn.notU;rw[if_pos hn]
     clear hn;rw[hno2]at hdo hdr;rcases hdr with rfl|rfl
     ·repeat'((conv=>whnf);first|((with_reducible refine Ax (by first|(with_reducible exact Bool.of_not_eq_false (by assumption))|((with_reducible refine decide_eq_true ?_);omega)) (fun hb=>?_));(try rw[hb]);(try simp only[Aa]at hb);(try subst hb))|((with_reducible refine Exists.intro ?_ ?_);focus (and_intros<;>first|omega|(with_reducible rfl)|kernel_rfl|(intro _ hh;cases hh;done)|(simp;done)|decide))|((try dsimp only);(rw[B6 ho]))|((try dsimp only);rw[hlm2])|((with_reducible refine CallWp.mk ?_);refine⟨_,hdo,?_⟩;rintro _ _ ⟨rfl,rfl⟩)|(skip;rw[hwk]))
      all_goals(try(conv=>whnf))
      refine Round.by (k+1,s') ?_ ⟨by omega,hJ3⟩ (by dsimp only;omega)
      try dsimp only
      show norm _ _=upd _ _
      kernel_rfl
     ·repeat'((conv=>whnf);first|((with_reducible refine Ax (by first|(with_reducible exact Bool.of_not_eq_false (by assumption))|((with_reducible refine decide_eq_true ?_);omega)) (fun hb=>?_));(try rw[hb]);(try simp only[Aa]at hb);(try subst hb))|((with_reducible refine Exists.intro ?_ ?_);focus (and_intros<;>first|omega|(with_reducible rfl)|kernel_rfl|(intro _ hh;cases hh;done)|(simp;done)|decide))|((try dsimp only);(rw[B6 ho]))|((try dsimp only);rw[hlm2])|((with_reducible refine CallWp.mk ?_);refine⟨_,hdo,?_⟩;rintro _ _ ⟨rfl,rfl⟩)|((try dsimp only);rw[hwk]))
      all_goals(try(conv=>whnf))
      refine Round.by (k+1,s') ?_ ⟨by omega,hJ3⟩ (by dsimp only;omega)
      try dsimp only
      show norm _ _=upd _ _
      kernel_rfl
    ·have gn:¬decide (n=[117])=true:=by simpa using hn
     have hno2:(Opn.mk ok n cl ⟨xf,xt⟩ rev most).notU=⟨ok,n,cl,⟨xf,xt⟩,rev,most⟩:=by unfold Opn.notU;rw[if_neg hn]
     rw[hno2]at hdo hdr;rcases hdr with rfl|rfl
     ·repeat'((conv=>whnf);first|((with_reducible refine Ax (by first|(with_reducible exact Bool.of_not_eq_false (by assumption))|((with_reducible refine decide_eq_true ?_);omega)) (fun hb=>?_));(try rw[hb]);(try simp only[Aa]at hb))|((with_reducible refine Aw (by first|(with_reducible assumption)|(with_reducible exact Bool.of_not_eq_true (by assumption))) (fun hb=>?_));(try rw[hb]);(try simp only[Aa]at hb))|((with_reducible refine Exists.intro ?_ ?_);focus (and_intros<;>first|omega|(with_reducible rfl)|kernel_rfl|(intro _ hh;cases hh;done)|(simp;done)|decide))|((try dsimp only);(rw[B6 ho]))|((try dsimp only);rw[hlm2])|((with_reducible refine CallWp.mk ?_);refine⟨_,hdo,?_⟩;rintro _ _ ⟨rfl,rfl⟩)|(skip;rw[hwk]))
      all_goals(try(conv=>whnf))
      refine Round.by (k+1,s') ?_ ⟨by omega,hJ3⟩ (by dsimp only;omega)
      try dsimp only
      show norm _ _=upd _ _
      kernel_rfl
     ·repeat'((conv=>whnf);first|((with_reducible refine Ax (by first|(with_reducible exact Bool.of_not_eq_false (by assumption))|((with_reducible refine decide_eq_true ?_);omega)) (fun hb=>?_));(try rw[hb]);(try simp only[Aa]at hb))|((with_reducible refine Aw (by first|(with_reducible assumption)|(with_reducible exact Bool.of_not_eq_true (by assumption))) (fun hb=>?_));(try rw[hb]);(try simp only[Aa]at hb))|((with_reducible refine Exists.intro ?_ ?_);focus (and_intros<;>first|omega|(with_reducible rfl)|kernel_rfl|(intro _ hh;cases hh;done)|(simp;done)|decide))|((try dsimp only);(rw[B6 ho]))|((try dsimp only);rw[hlm2])|((with_reducible refine CallWp.mk ?_);refine⟨_,hdo,?_⟩;rintro _ _ ⟨rfl,rfl⟩)|((try dsimp only);rw[hwk]))
      all_goals(try(conv=>whnf))
      refine Round.by (k+1,s') ?_ ⟨by omega,hJ3⟩ (by dsimp only;omega)
      try dsimp only
      show norm _ _=upd _ _
      kernel_rfl
   have h3:¬decide ((k:Int)<(l2.length:Int))=true:=by simp;omega
   clear hno hil hj hji hi hRm hRl hd h8;have hd:=Fe hJ2.inv (by omega) hJ2.h8
   obtain⟨i2,hi2,hno2⟩:=Hn hJ2.inv hJ2.hf;have hRl:=Af9 s;have h8:=hJ2.h8;have hil:=(List.getElem?_eq_some_iff.1 hi2).1;rw[hJ2.sp,hP]at hi2;have hbd1:=H8 hJ2.inv (by omega) hJ2.h8 hJ2.c
   have hsm:=Fq [⟨uA,pr,pf,pk⟩] [⟨uA,pr,pf,pk⟩] ⟨by simp,fun q hq=>by simp only[List.mem_singleton]at hq;subst hq;exact hbd1.2 _ (List.mem_of_getElem? hi2)⟩ ⟨by simp,fun q hq=>by simp only[List.mem_singleton]at hq;subst hq;exact hbd1.2 _ (List.mem_of_getElem? hi2)⟩
   rw[decide_eq_true rfl]at hsm;have hby2:=Aj6 s uA;rw[hJ2.tl]at hby2;clear hbd1;generalize s.ref=R2 at*;have hRm2:(R2.map Spc.toI).length=R2.length:=List.length_map _;generalize (S.tal uA).bytes=BY at*;have hBB:¬decide (BY=BY)=false:=by simp
   repeat'((conv=>whnf);first|((with_reducible refine Ax (by first|(with_reducible exact Bool.of_not_eq_false (by assumption))|(with_reducible rfl)) (fun hb=>?_));(try rw[hb]);(try simp only[Aa]at hb))|((with_reducible refine Aw (by first|(with_reducible assumption)|((with_reducible refine decide_eq_false ?_);omega)) (fun hb=>?_));(try rw[hb]);(try simp only[Aa]at hb))|((with_reducible refine And.intro (fun hb=>?_) (fun hb=>?_))<;>first|(exfalso;((simp only[LENS]at hb<;>omega)))|((try rw[hb]);(try simp only[Aa]at hb)))|((with_reducible refine Exists.intro ?_ ?_);focus (and_intros<;>first|omega|(with_reducible rfl)|kernel_rfl|(intro _ hh;cases hh;done)|(simp;done)|decide))|(with_reducible intro hfact)|((with_reducible refine And.intro ?_ ?_);focus ((exact rfl)))|((try dsimp only);rw[hlm2])|((refine An ?_ (by decide)))|((with_reducible refine CallWp.mk ?_);refine⟨_,hd,?_⟩;rintro _ _ ⟨rfl,rfl⟩)|((try dsimp only);rw[hRm2]))
   all_goals(try(conv=>whnf))
   refine LoopWq.by (X:=Nat) (fun j2=>[(7,.v (ti (j2:Int)))]) (fun j2=>j2≤i2) (fun j2=>i2 - j2) 0 (by kernel_rfl) (Nat.zero_le _) ?_
   rintro j2 hj2
   (try dsimp only at hj2 ⊢)
   have hw2:IntKind.i64.wrap ((j2:Int)+1)=((j2+1:Nat):Int):=(Bf (by omega)).trans (by omega)
   have hjl2:¬decide ((j2:Int)<(R2.length:Int))=false:=by simp;omega
   by_cases hji2:j2<i2
   ·obtain⟨q,hq2⟩:∃q,R2[j2]?=some q:=⟨_,List.getElem?_eq_getElem (by omega)⟩
    have hqn2:=hno2 j2 q hji2 hq2;obtain⟨qn,qr,qf,qk⟩:=q;dsimp only at hqn2;have gq2:¬decide (qn=[117])=true:=by simpa using hqn2
    repeat'((conv=>whnf);first|((with_reducible refine Ax (by(with_reducible exact Bool.of_not_eq_false (by assumption))) (fun hb=>?_));(try rw[hb]);(try simp only[Aa]at hb))|((with_reducible refine Aw (by first|(with_reducible assumption)|(with_reducible exact Bool.of_not_eq_true (by assumption))) (fun hb=>?_));(try rw[hb]);(try simp only[Aa]at hb))|((with_reducible refine Exists.intro ?_ ?_);focus (and_intros<;>first|omega|kernel_rfl|(simp;done)))|((try dsimp only);(rw[B6 hq2]))|((try dsimp only);rw[hw2]))
    all_goals(try(conv=>whnf))
    refine Round.by (j2+1) ?_ (by omega) (by omega)
    try dsimp only
    show norm _ _=upd _ _
    kernel_rfl
   obtain rfl:j2=i2:=by omega
   repeat'((conv=>whnf);first|((with_reducible refine Ax (by first|(with_reducible exact Bool.of_not_eq_false (by assumption))|(with_reducible rfl)) (fun hb=>?_));(try rw[hb]);(try simp only[Aa]at hb))|((with_reducible refine And.intro (fun hb=>?_) (fun hb=>?_))<;>(((try rw[hb]);(try simp only[Aa]at hb);(try(with_reducible exact absurd trivial hb)))))|((with_reducible refine Exists.intro ?_ ?_);focus (and_intros<;>first|omega|(with_reducible rfl)|kernel_rfl|(intro _ hh;cases hh;done)|exact Ah (by rfl)|(simp;done)|decide))|((try dsimp only);(rw[B6 hi2]))|((with_reducible refine CallWp.mk ?_);refine⟨_,hsm,?_⟩;rintro _ _ ⟨rfl,rfl⟩)|((with_reducible refine CallWp.mk ?_);refine⟨_,hby2,?_⟩;rintro _ _ ⟨rfl,rfl⟩))
   all_goals(try(conv=>whnf))
   all_goals(refine Done.mk ⟨?_,by kernel_rfl⟩ (by kernel_rfl))
   all_goals exact SV.bool_congr (by simp)
theorem C3(l1 l2:List Opn)(hg:Ai 0 l1=true∨Ai 0 l2=true):
 Fn Tryd.prog Ak [.v (.list (l1.map Opn.toI)),.v (.list (l2.map Opn.toI))] (Is (.v (.bool true)) [.no,.no]):=by
 refine Aq ?_ (by simp)
 have h1:=Bv l1;have h2:=Bv l2;cases b1:Ai 0 l1 with
 |true=>
  rw[b1]at h1;repeat'((conv=>whnf);first|((with_reducible refine Ax (by first|(with_reducible assumption)|(with_reducible rfl)) (fun hb=>?_));(try rw[hb]);(try simp only[Aa]at hb))|((with_reducible refine And.intro (fun hb=>?_) (fun hb=>?_))<;>first|(exact absurd hb (by decide))|((try rw[hb]);(try simp only[Aa]at hb)))|((with_reducible refine Exists.intro ?_ ?_);focus (and_intros<;>first|(intro _ hh;cases hh;done)|(simp;done)|decide))|((with_reducible refine CallWp.mk ?_);refine⟨_,Cp,?_⟩;rintro _ _ ⟨rfl,rfl⟩)|((with_reducible refine CallWp.mk ?_);refine⟨_,h1,?_⟩;rintro _ _ ⟨rfl,rfl⟩))
  all_goals(try(conv=>whnf))
  all_goals((apply dKq<;>kernel_rfl))
 |false=>
  have b2:Ai 0 l2=true:=by rcases hg with h|h;(rw[b1]at h;cases h);exact h
  rw[b1]at h1;rw[b2]at h2;repeat'((conv=>whnf);first|((with_reducible refine Ax (by first|(with_reducible assumption)|(with_reducible rfl)) (fun hb=>?_));(try rw[hb]);(try simp only[Aa]at hb))|((with_reducible refine Aw (by first|(with_reducible assumption)|(with_reducible rfl)) (fun hb=>?_));(try rw[hb]);(try simp only[Aa]at hb))|((with_reducible refine And.intro (fun hb=>?_) (fun hb=>?_))<;>first|(exact absurd hb (by decide))|((try rw[hb]);(try simp only[Aa]at hb)))|((with_reducible refine Exists.intro ?_ ?_);focus (and_intros<;>first|(intro _ hh;cases hh;done)|(simp;done)|decide))|((with_reducible refine CallWp.mk ?_);refine⟨_,Cp,?_⟩;rintro _ _ ⟨rfl,rfl⟩)|((with_reducible refine CallWp.mk ?_);refine⟨_,h1,?_⟩;rintro _ _ ⟨rfl,rfl⟩)|((with_reducible refine CallWp.mk ?_);refine⟨_,h2,?_⟩;rintro _ _ ⟨rfl,rfl⟩))
  all_goals(try(conv=>whnf))
  all_goals((apply dKq<;>kernel_rfl))
theorem Gy(l1 l2:List Opn):Fn Tryd.prog Ak [.v (.list (l1.map Opn.toI)),.v (.list (l2.map Opn.toI))] (Is (.v (.bool true)) [.no,.no]):=by
 cases b1:Ai 0 l1 with
 |true=>exact C3 l1 l2 (.inl b1)
 |false=>
  cases b2:Ai 0 l2 with
  |true=>exact C3 l1 l2 (.inr b2)
  |false=>
   obtain⟨g1,g2⟩:=Ef b1 (by omega)
   obtain⟨g3,g4⟩:=Ef b2 (by omega)
   have hp:=Fp l1 (by omega) g2
   have hI:=(E3 inv2 g2 (by omega)).mono (show 0+41*l1.length≤4100 by omega)
   have hC:=Ei inv2 Jh g2 (by omega)
   have hf:((A0 l1 sto2).fi uA).isSome=true:=Ed (by rfl)
   have h8:∀{l:List Opn} {s:Sto},s.sp.length≤8→(A0 l s).sp.length≤8:=by
    intro l;induction l with
    |nil=>intro s h;exact h
    |cons o r ih=>intro s h;exact ih (Fi h o)
   have h8':=h8 (l:=l1) (s:=sto2) (by decide)
   exact Em l1 l2 b1 b2 _ ⟨hI,hC,h8',hf,rfl,rfl⟩ (by omega) g4 hp

open Go.ChangeShapes Go.Deep
inductive Sh where
 |int (k:IntKind)
 |bool
 |str
 |st (l:List Sh)
 |sl (sz:Nat) (e:Sh)
 |ar (sz n:Nat) (e:Sh)
 deriving Inhabited
mutual
def Sh.ok(P:Program):TypeId→Sh→Bool
 |t,.int k=>match P.underlying t with
  |some (.int k')=>k==k'
  |_=>false
 |t,.bool=>match P.underlying t with
  |some .bool=>true
  |_=>false
 |t,.str=>match P.underlying t with
  |some .string=>true
  |_=>false
 |t,.st l=>match P.underlying t with
  |some (.struct fs)=>Sh.oks P 0 (P.cellsOf t) fs.toList l
  |_=>false
 |t,.sl sz e=>match P.underlying t with
  |some (.slice e')=>P.cellsOf e'==sz&&sz != 0&&Sh.ok P e' e
  |_=>false
 |t,.ar sz n e=>match P.underlying t with
  |some (.array m e')=>P.cellsOf e'==sz&&m==n&&P.cellsOf t==n*sz&&Sh.ok P e' e
  |_=>false
def Sh.oks(P:Program):Nat→Nat→List Field→List Sh→Bool
 |off,tot,[],[]=>off==tot
 |off,tot,f::fs,s::l=>f.offset==off&&Sh.ok P f.type s&&Sh.oks P (off+P.cellsOf f.type) tot fs l
 |_,_,_,_=>false
end
mutual
def Fits:Sh→I→Prop
 | .int k,x=>∃n,x= .int k n∧(Lit.int k n).wf=true
 | .bool,x=>∃b,x= .bool b
 | .str,x=>∃s,x= .str s
 | .st l,x=>∃xs,x= .agg xs∧FitsL l xs
 | .sl sz e,x=>∃xs,x= .list xs∧∀y∈xs,Fits e y∧y.size=sz
 | .ar sz n e,x=>∃xs,x= .arr sz xs∧xs.length=n∧∀y∈xs,Fits e y∧y.size=sz
def FitsL:List Sh→List I→Prop
 | [],xs=>xs=[]
 |s::l,xs=>∃y ys,xs=y::ys∧Fits s y∧FitsL l ys
end
def De(w:World):Mem:=fun b=>w.heap[b]?
section
variable{H:Type}{enc:TypeId × Value → H}{P:Program}{w:World}{base:Nat}{sp:Nat → Bool}{held:Bool}
theorem Su{a:Addr}{n:Nat}{cs:List Value}(h:w.cells? base a n=some cs)(h0:0<n):∃bl ty fz,a=⟨a.block,a.off,none⟩∧w.heap[a.block]?=some (.cells bl ty fz)∧a.off+n≤bl.size∧(bl.toList.drop a.off).take n=cs:=by
 obtain⟨_,hl,hc⟩:=World.cells?_some h;have hget:∀i,i<n→∃v,w.cell? (a.add i)=some v:=fun i hi=>⟨cs[i]'(by omega),by rw[hc i hi,List.getElem?_eq_getElem]⟩
 obtain⟨v,hv⟩:=hget 0 h0;unfold World.cell? at hv;rw[show a.add 0=a from by simp[Addr.add]]at hv
 split at hv
 ·rename_i bl ty fz hb;split at hv
  ·cases hv
  ·rename_i hs;have hspot:a.spot=none:=by cases hsp:a.spot<;>simp[hsp]at hs ⊢
   have hadd:∀i,w.cell? (a.add i)=bl[a.off+i]?:=by
    intro i;unfold World.cell? Addr.add;by_cases hi:i=0
    ·simp[hi,hb,hspot]
    ·simp[hi,hb]
   have hsz:a.off+n≤bl.size:=by
    obtain⟨v',hv'⟩:=hget (n - 1) (by omega)
    rw[hadd]at hv';have:=(Array.getElem?_eq_some_iff.1 hv').1;omega
   refine⟨bl,ty,fz,?_,hb,hsz,?_⟩
   ·cases a;simp at hspot;simp[hspot]
   ·apply List.ext_getElem?;intro i;by_cases hi:i<n
    ·rw[List.getElem?_take,if_pos hi,List.getElem?_drop, ←hc i hi,hadd];simp
    ·rw[List.getElem?_eq_none (by simp;omega),List.getElem?_eq_none (by omega)]
 ·cases hv
theorem RepIs.of_rows{G:Mem}{sz:Nat}:∀{n:Nat} {cells:List Value} {p:I→Prop},n*sz≤cells.length→(∀i,i<n→∃x,RepI G x ((cells.drop (i*sz)).take sz)∧p x)→∃xs,xs.length=n∧RepIs G xs (cells.take (n*sz))∧∀x∈xs,p x
 |0,cells,p,_,_=>⟨[],rfl,by simp[RepIs],by simp⟩
 |n+1,cells,p,hl,h=>by
  have hm:(n+1)*sz=sz+n*sz:=by rw[Nat.add_mul];omega
  obtain⟨x,h1,h2⟩:=h 0 (by omega)
  simp only[Nat.zero_mul,List.drop_zero]at h1;obtain⟨xs,h3,h4,h5⟩:=RepIs.of_rows (sz:=sz) (n:=n) (cells:=cells.drop sz) (p:=p) (by rw[List.length_drop];omega) fun i hi=>by
   obtain⟨y,g1,g2⟩:=h (i+1) (by omega)
   refine⟨y,?_,g2⟩;rw[List.drop_drop,show sz+i*sz=(i+1)*sz by rw[Nat.add_mul];omega]
   exact g1
  refine⟨x::xs,by simp[h3],?_,?_⟩
  ·rw[hm,List.take_add];simp only[RepIs];exact⟨_,_,rfl,h1,h4⟩
  ·intro y hy;rcases List.mem_cons.mp hy with rfl|hy
   ·exact h2
   ·exact h5 y hy
theorem Ab4:∀{l:List Sh} {fs:List Field} {off tot:Nat},Sh.oks P off tot fs l=true→off≤tot
 | [],[],_,_,h=>by simp only[Sh.oks,beq_iff_eq]at h;omega
 |s::l,f::fs,off,tot,h=>by
  simp only[Sh.oks,Bool.and_eq_true]at h;have:=Ab4 h.2;omega
 | [],_::_,_,_,h=>by simp[Sh.oks]at h
 |_::_,[],_,_,h=>by simp[Sh.oks]at h
mutual
theorem trod_item:∀(sh:Sh) {t:TypeId} {fuel:Nat} {cs:List Value} {x:DataW H × List MemPlace},sh.ok P t=true→DataW.trod enc P w base (fun _=>sp 0) held fuel t cs=some x→
 ∃y,RepI (De w) y cs∧Fits sh y
 | .int k,t,fuel,cs,x,ho,h=>by
   simp only[Sh.ok]at ho;split at ho
   ·rename_i k' ht;rw[beq_iff_eq]at ho;subst ho;obtain⟨n,rfl,_,hw⟩:=DataW.trod_int ht h;exact⟨.int k n,by simp[RepI],n,rfl,hw⟩
   ·cases ho
 | .bool,t,fuel,cs,x,ho,h=>by
   simp only[Sh.ok]at ho;split at ho
   ·rename_i ht;obtain⟨b,rfl,_⟩:=DataW.trod_bool ht h;exact⟨.bool b,by simp[RepI],b,rfl⟩
   ·cases ho
 | .str,t,fuel,cs,x,ho,h=>by
   simp only[Sh.ok]at ho;split at ho
   ·rename_i ht;obtain⟨s,rfl,_,hs⟩:=DataW.trod_string ht h;obtain⟨⟨s⟩⟩:=s;exact⟨.str s,by simp only[RepI];exact⟨trivial,hs⟩,s,rfl⟩
   ·cases ho
 | .st l,t,fuel,cs,x,ho,h=>by
   simp only[Sh.ok]at ho;split at ho
   ·rename_i fs ht;cases fuel with
    |zero=>simp[DataW.trod]at h
    |succ fuel=>
     simp only[DataW.trod,ht]at h;split at h
     ·rename_i hl;obtain⟨xs,h1,_⟩:=Option.map_eq_some_iff.1 h;obtain⟨ys,h2,h3⟩:=trod_items l (off:=0) ho h1;refine⟨.agg ys,?_,ys,rfl,h3⟩;simp only[RepI];simpa[←hl]using h2
     ·cases h
   ·cases ho
 | .sl sz e,t,fuel,cs,x,ho,h=>by
   simp only[Sh.ok]at ho;split at ho
   ·rename_i e' ht;simp only[Bool.and_eq_true,beq_iff_eq,bne_iff_ne,ne_eq]at ho;obtain⟨⟨hsz,hz⟩,he⟩:=ho;rcases open_slice ht h with⟨rfl,_⟩|⟨a,len,cap,m,n,D,Pl,rfl,_,hlc,hcm,hm,_,hx⟩
    ·exact⟨.list [],by simp only[RepI];exact⟨none,0,rfl,Nat.le_refl _,Nat.zero_le _,.inl trivial⟩,[],rfl,by simp⟩
    ·by_cases h0:len=0
     ·subst h0;exact⟨.list [],by simp only[RepI];exact⟨some a,cap,rfl,Nat.zero_le _,hcm,.inl trivial⟩,[],rfl,by simp⟩
     ·have hmm:len≤m:=by subst hm;split<;>omega
      have hrow:∀i,i<len→∃cs' y,w.cells? base (a.add (i*sz)) sz=some cs'∧RepI (De w) y cs'∧Fits e y∧y.size=sz:=by
       intro i hi;obtain⟨cs',g1,g2⟩:=hx i (by omega)
       obtain⟨y,g3,g4⟩:=trod_item e he g2;rw[hsz]at g1;have hlen:=(World.cells?_some g1).2.1;exact⟨cs',y,g1,g3,g4,by rw[←RepI.length _ _ g3,hlen]⟩
      obtain⟨cs0,_,c1,_⟩:=hrow 0 (by omega)
      rw[Nat.zero_mul,show a.add 0=a by simp[Addr.add]]at c1
      obtain⟨bl,ty,fz,ha,hb,hs0,_⟩:=Su c1 (by omega)
      have hat:∀i,i<len→a.off+i*sz+sz≤bl.size∧∃y,RepI (De w) y (((bl.toList.drop a.off).drop (i*sz)).take sz)∧Fits e y∧y.size=sz:=by
       intro i hi;obtain⟨cs',y,g1,g2,g3,g4⟩:=hrow i hi;obtain⟨bl',ty',fz',k1,k2,k3,k4⟩:=Su g1 (by omega)
       have e1:(a.add (i*sz)).block=a.block:=by unfold Addr.add;split<;>rfl
       have e2:(a.add (i*sz)).off=a.off+i*sz:=by unfold Addr.add;split<;>rename_i hh<;>simp[hh]
       rw[e1,hb]at k2;cases k2;rw[e2]at k3 k4;refine⟨k3,y,?_,g3,g4⟩;rw[List.drop_drop,k4];exact g2
      have hlast:=(hat (len - 1) (by omega)).1
      have hmul:(len - 1)*sz+sz=len*sz:=by
       obtain⟨q,rfl⟩:∃q,len=q+1:=⟨len - 1,by omega⟩
       rw[Nat.add_sub_cancel,Nat.add_mul,Nat.one_mul]
      obtain⟨xs,x1,x2,x3⟩:=RepIs.of_rows (G:=De w) (sz:=sz) (n:=len) (cells:=bl.toList.drop a.off) (p:=fun y=>Fits e y∧y.size=sz) (by simp;omega) fun i hi=>(hat i hi).2
      refine⟨.list xs,?_,xs,rfl,x3⟩;simp only[RepI];refine⟨some a,cap,by rw[x1],by omega,hcm,.inr ⟨a.block,a.off,bl,ty,fz,sz,by rw[←ha],hb,fun y hy=>(x3 y hy).2,by rw[x1];omega,by rw[x1];exact x2⟩⟩
   ·cases ho
 | .ar sz n e,t,fuel,cs,x,ho,h=>by
   simp only[Sh.ok]at ho;split at ho
   ·rename_i m e' ht;simp only[Bool.and_eq_true,beq_iff_eq]at ho;obtain⟨⟨⟨hsz,rfl⟩,htot⟩,he⟩:=ho;obtain⟨xs,fu,rfl,_,hl,hxl,hx⟩:=DataW.trod_array ht h;rw[htot]at hl;rw[hsz]at hx;obtain⟨ys,y1,y2,y3⟩:=RepIs.of_rows (G:=De w) (sz:=sz) (n:=m) (cells:=cs) (p:=fun y=>Fits e y∧y.size=sz) (by omega) fun i hi=>by
     obtain⟨d,hd⟩:∃d,xs[i]?=some d:=⟨_,List.getElem?_eq_getElem (by omega)⟩
     have h1:=hx i hi;rw[hd]at h1;obtain⟨y,g1,g2⟩:=trod_item e he h1;refine⟨y,g1,g2,?_⟩;rw[←RepI.length _ _ g1,List.length_take,List.length_drop];have:(i+1)*sz≤m*sz:=Nat.mul_le_mul_right _ (by omega)
     rw[Nat.add_mul,Nat.one_mul]at this;omega
    refine⟨.arr sz ys,?_,ys,rfl,y1,y3⟩;rw[List.take_of_length_le (by omega)]at y2
    simp only[RepI];exact⟨y2,fun y hy=>(y3 y hy).2⟩
   ·cases ho
theorem trod_items:∀(l:List Sh) {fs:List Field} {off tot fuel:Nat} {cs:List Value} {xs:List (DataW H × List MemPlace)},Sh.oks P off tot fs l=true→
 (fs.mapM fun f=>DataW.trod enc P w base (fun _=>sp 0) held fuel f.type ((cs.drop f.offset).take (P.cellsOf f.type)))=some xs→∃ys,RepIs (De w) ys ((cs.take tot).drop off)∧FitsL l ys
 | [],fs,off,tot,fuel,cs,xs,ho,h=>by
   cases fs with
   |nil=>
    simp only[Sh.oks,beq_iff_eq]at ho;subst ho;exact⟨[],by simp[RepIs],rfl⟩
   |cons f fs=>simp[Sh.oks]at ho
 |s::l,fs,off,tot,fuel,cs,xs,ho,h=>by
  cases fs with
  |nil=>simp[Sh.oks]at ho
  |cons f fs=>
   simp only[Sh.oks,Bool.and_eq_true,beq_iff_eq]at ho;obtain⟨⟨rfl,h1⟩,h2⟩:=ho;simp only[List.mapM_cons]at h;obtain⟨y,g1,g2⟩:=Option.bind_eq_some_iff.1 h;obtain⟨z,g3,g4⟩:=Option.bind_eq_some_iff.1 g2;obtain⟨u,g5,g6⟩:=trod_item s h1 g1;obtain⟨us,g7,g8⟩:=trod_items l (cs:=cs) h2 g3;refine⟨u::us,?_,u,us,rfl,g6,g8⟩;simp only[RepIs];have hle:=Ab4 h2;refine⟨_,_,?_,g5,g7⟩;have e1:(cs.drop f.offset).take (P.cellsOf f.type)=((cs.take tot).drop f.offset).take (P.cellsOf f.type):=by
    rw[List.drop_take,List.take_take,Nat.min_eq_left (by omega)]
   rw[e1, ←List.drop_drop,List.take_append_drop]
end
end

open Go.ChangeShapes Go.Deep
theorem Fm{α β:Type}{f g:α→Option β}:∀{l:List α} {xs:List β},l.mapM f=some xs→(∀a∈l,∀y∈xs,f a=some y→g a=some y)→l.mapM g=some xs
 | [],xs,h,_=>by simpa using h
 |a::l,xs,h,hg=>by
  simp only[List.mapM_cons]at h ⊢;obtain⟨y,g1,g2⟩:=Option.bind_eq_some_iff.1 h;obtain⟨z,g3,g4⟩:=Option.bind_eq_some_iff.1 g2;cases g4;rw[hg a (List.mem_cons_self ..) y (List.mem_cons_self ..) g1];have:=Fm (l:=l) g3 fun b hb x hx=>hg b (List.mem_cons_of_mem _ hb) x (List.mem_cons_of_mem _ hx)
  simp[this]
section
variable{H:Type}{enc:TypeId × Value → H}{P:Program}{W W':World}{sp':Nat → Bool}{held:Bool}
theorem Zg(hk:∀(b:Nat) (o:Obj),W.heap[b]?=some o→W'.heap[b]?=some o){a:Addr}{v:Value}(h:W.cell? a=some v):W'.cell? a=some v:=by
 unfold World.cell? at h ⊢;split at h
 ·rename_i bl ty fz hb;rw[hk _ _ hb];exact h
 ·cases h
theorem Xa(hk:∀(b:Nat) (o:Obj),W.heap[b]?=some o→W'.heap[b]?=some o){a:Addr}{n:Nat}{cs:List Value}(h:W.cells? 0 a n=some cs):W'.cells? 0 a n=some cs:=by
 unfold World.cells? at h ⊢;split at h
 ·rename_i h0;rw[if_pos h0];exact Fm h fun i _ y _ hy=>Zg hk hy
 ·cases h
theorem Hc(hk:∀(b:Nat) (o:Obj),W.heap[b]?=some o→W'.heap[b]?=some o):∀(fuel:Nat) (sh:Sh) {t:TypeId} {cs:List Value} {x:DataW H × List MemPlace},sh.ok P t=true→
 DataW.trod enc P W 0 (fun _=>true) held fuel t cs=some x→(∀p∈x.2,sp' p.block=true)→DataW.trod enc P W' 0 sp' held fuel t cs=some x
 |0,sh,t,cs,x,ho,h,hp=>by simp[DataW.trod]at h
 |fuel+1,.int k,t,cs,x,ho,h,hp=>by
  simp only[Sh.ok]at ho;split at ho
  ·rename_i k' ht;obtain⟨n,rfl,rfl,hw⟩:=DataW.trod_int ht h;simp[DataW.trod,ht,hw]
  ·cases ho
 |fuel+1,.bool,t,cs,x,ho,h,hp=>by
  simp only[Sh.ok]at ho;split at ho
  ·rename_i ht;obtain⟨b,rfl,rfl⟩:=DataW.trod_bool ht h;simp[DataW.trod,ht]
  ·cases ho
 |fuel+1,.str,t,cs,x,ho,h,hp=>by
  simp only[Sh.ok]at ho;split at ho
  ·rename_i ht;obtain⟨s,rfl,rfl,hs⟩:=DataW.trod_string ht h;simp[DataW.trod,ht,hs]
  ·cases ho
 |fuel+1,.st l,t,cs,x,ho,h,hp=>by
  simp only[Sh.ok]at ho;split at ho
  ·rename_i fs ht;simp only[DataW.trod,ht]at h ⊢;split at h
   ·rename_i hl;rw[if_pos hl];obtain⟨xs,h1,rfl⟩:=Option.map_eq_some_iff.1 h;have fld:∀(l:List Sh) (fs:List Field) (off tot:Nat) (xs:List (DataW H × List MemPlace)),Sh.oks P off tot fs l=true→
     (fs.mapM fun f=>DataW.trod enc P W 0 (fun _=>true) held fuel f.type ((cs.drop f.offset).take (P.cellsOf f.type)))=some xs→(∀y∈xs,∀p∈y.2,sp' p.block=true)→
     (fs.mapM fun f=>DataW.trod enc P W' 0 sp' held fuel f.type ((cs.drop f.offset).take (P.cellsOf f.type)))=some xs:=by
     intro l;induction l with
     |nil=>
      intro fs off tot xs ho h hp;cases fs with
      |nil=>simpa using h
      |cons f fs=>simp[Sh.oks]at ho
     |cons s l ih=>
      intro fs off tot xs ho h hp;cases fs with
      |nil=>simp[Sh.oks]at ho
      |cons f fs=>
       simp only[Sh.oks,Bool.and_eq_true,beq_iff_eq]at ho;simp only[List.mapM_cons]at h ⊢;obtain⟨y,g1,g2⟩:=Option.bind_eq_some_iff.1 h;obtain⟨z,g3,g4⟩:=Option.bind_eq_some_iff.1 g2;cases g4;rw[Hc hk fuel s ho.1.2 g1 (hp y (List.mem_cons_self ..))];have:=ih fs _ _ z ho.2 g3 fun y hy=>hp y (List.mem_cons_of_mem _ hy)
       simp[this]
    rw[fld l fs.toList 0 _ xs ho h1 fun y hy p hp'=>hp p (List.mem_flatMap.2 ⟨y,hy,hp'⟩)]
    rfl
   ·cases h
  ·cases ho
 |fuel+1,.ar sz n e,t,cs,x,ho,h,hp=>by
  simp only[Sh.ok]at ho;split at ho
  ·rename_i m e' ht;simp only[Bool.and_eq_true,beq_iff_eq]at ho;simp only[DataW.trod,ht]at h ⊢;split at h
   ·rename_i hl;rw[if_pos hl];obtain⟨xs,h1,rfl⟩:=Option.map_eq_some_iff.1 h;rw[Fm h1 fun i _ y hy h2=>Hc hk fuel e ho.2 h2 fun p hp'=>hp p (List.mem_flatMap.2 ⟨y,hy,hp'⟩)]
    rfl
   ·cases h
  ·cases ho
 |fuel+1,.sl sz e,t,cs,x,ho,h,hp=>by
  simp only[Sh.ok]at ho;split at ho
  ·rename_i e' ht;simp only[Bool.and_eq_true,beq_iff_eq,bne_iff_ne,ne_eq]at ho;obtain⟨⟨hsz,hz⟩,he⟩:=ho;have elem:∀{a:Addr} {i:Nat} {y:DataW H × List MemPlace},(∀p∈y.2,sp' p.block=true)→((W.cells? 0 (a.add (i*P.cellsOf e')) (P.cellsOf e')).bind (DataW.trod enc P W 0 (fun _=>true) held fuel e'))=some y→
    ((W'.cells? 0 (a.add (i*P.cellsOf e')) (P.cellsOf e')).bind (DataW.trod enc P W' 0 sp' held fuel e'))=some y:=by
    intro a i y hy h;obtain⟨cs',g1,g2⟩:=Option.bind_eq_some_iff.1 h;rw[Xa hk g1];exact Hc hk fuel e he g2 hy
   have hcs:cs=[.slice none 0 0]∨∃a len cap,cs=[.slice (some a) len cap]:=by
    rcases open_slice ht h with⟨h1,_⟩|⟨a,len,cap,_,_,_,_,h1,_⟩
    ·exact .inl h1
    ·exact .inr ⟨a,len,cap,h1⟩
   rcases hcs with rfl|⟨a,len,cap,rfl⟩
   ·simp only[DataW.trod,ht]at h ⊢;exact h
   ·simp only[DataW.trod,ht]at h ⊢;split at h
    ·rename_i hc;rw[if_pos hc];obtain⟨elems,g1,g2⟩:=Option.bind_eq_some_iff.1 h;obtain⟨rest,g3,rfl⟩:=Option.map_eq_some_iff.1 g2;have hrow:0<elems.length+rest.length→sp' a.block=true:=by
      intro h0;refine hp (.cell a.block (a.off+0)) (List.mem_append_left _ ?_);unfold MemPlace.row;refine List.mem_map.2 ⟨0,List.mem_range.2 (Nat.mul_pos h0 (by omega)),rfl⟩
     have hel:∀y∈elems++rest,∀p∈y.2,sp' p.block=true:=fun y hy p hp'=>hp p (List.mem_append_right _ (List.mem_flatMap.2 ⟨y,hy,hp'⟩))
     have k1:=Fm g1 fun i _ y hy h=>elem (hel y (List.mem_append_left _ hy)) h
     rw[k1];simp only[if_true]at g3;have k2:(if sp' a.block=true then(List.range (cap - len)).mapM fun j=>((W'.cells? 0 (a.add ((len+j)*P.cellsOf e')) (P.cellsOf e')).bind (DataW.trod enc P W' 0 sp' held fuel e'))else some [])=some rest:=by
      have k3:=Fm g3 fun j _ y hy h=>elem (hel y (List.mem_append_right _ hy)) h
      cases hs:sp' a.block with
      |true=>rw[if_pos rfl];exact k3
      |false=>
       rw[if_neg (by decide)]
       have hr0:rest=[]:=by
        cases rest with
        |nil=>rfl
        |cons r rs=>
         have:=hrow (by simp;omega)
         rw[hs]at this;cases this
       rw[hr0]
     simp only[Option.bind_some];rw[k2];rfl
    ·cases h
  ·cases ho
end

open Go.ChangeShapes Go.Deep Go.WideShapes Go.ChangeAt Go.RowKit
def oksT(P:Program):List TypeId→List Sh→Bool
 | [],[]=>true
 |t::ts,s::l=>s.ok P t&&oksT P ts l
 |_,_=>false
section
variable{H:Type}{enc:TypeId × Value → H}{P:Program}{W W':World}
theorem Aeb{sh:Sh}{t:TypeId}{x:I}{v:Value}{G:Mem}{b0:Nat}(ho:sh.ok P t=true)(hv:Value.okWide P W .any b0 t v)(hr:RepI G x v.cells.toList)(hf:Fits sh x):RepV G x v:=by
 unfold RepV;cases sh with
 |st l=>
  simp only[Sh.ok]at ho;split at ho
  ·rename_i fs ht;obtain⟨xs,rfl,_⟩:=hf;rw[if_pos (show(I.agg xs).isAgg=true from rfl)];unfold Value.okWide at hv;rw[ht]at hv;obtain⟨cs,rfl,_⟩:=hv;exact⟨cs,rfl,hr⟩
  ·cases ho
 |ar sz n e=>
  simp only[Sh.ok]at ho;split at ho
  ·rename_i m e' ht;obtain⟨xs,rfl,_⟩:=hf;rw[if_pos (show(I.arr sz xs).isAgg=true from rfl)];unfold Value.okWide at hv;rw[ht]at hv;obtain⟨cs,rfl,_⟩:=hv;exact⟨cs,rfl,hr⟩
  ·cases ho
 |_=>
  simp only[Sh.ok]at ho;split at ho<;>try(cases ho;done)
  rename_i ht;have hx:x.isAgg=false:=by
   obtain⟨_,rfl,_⟩:=hf;rfl
  rw[if_neg (by rw[hx];decide)]
  unfold Value.okWide at hv;rw[ht]at hv;cases v<;>first|exact hr|(exact absurd hv (by simp[Cell.okWide,Cell.ok,ht]))
theorem Me{b0:Nat}:∀{shs:List Sh} {ts:List TypeId} {vs:List Value} {ds:List (DataW H)} {p:List MemPlace},oksT P ts shs=true→DataW.TrodAll enc P W 0 (fun _=>true) true ts vs ds p→
 (∀(j:Nat) t v,ts[j]?=some t→vs[j]?=some v→Value.okWide P W .any b0 t v)→∃xs:List I,FitsL shs xs∧xs.length=vs.length∧∀(i:Nat) x v,xs[i]?=some x→vs[i]?=some v→RepV (De W) x v
 | [],[],[],[],p,_,_,_=>⟨[],rfl,rfl,by simp⟩
 |s::shs,t::ts,v::vs,d::ds,p,ho,h,hv=>by
  simp only[oksT,Bool.and_eq_true]at ho;obtain⟨p1,q,⟨fuel,h1⟩,h2,_⟩:=h;obtain⟨x,g1,g2⟩:=trod_item (sp:=fun _=>true) s ho.1 h1
  obtain⟨xs,g3,g4,g5⟩:=Me ho.2 h2 fun j t' v' a b=>hv (j+1) t' v' a b
  refine⟨x::xs,⟨x,xs,rfl,g2,g3⟩,by simp[g4],?_⟩
  intro i x' v' a b;cases i with
  |zero=>cases a;cases b;exact Aeb ho.1 (hv 0 t v rfl rfl) g1 g2
  |succ i=>exact g5 i x' v' a b
 | [],_::_,_,_,_,ho,_,_=>by cases ho
 |_::_,[],_,_,_,ho,_,_=>by simp[oksT]at ho
 | [],[],_::_,_,_,_,h,_=>by simp[DataW.TrodAll]at h
 | [],[],[],_::_,_,_,h,_=>by simp[DataW.TrodAll]at h
 |_::_,_::_,[],_,_,_,h,_=>by simp[DataW.TrodAll]at h
 |_::_,_::_,_::_,[],_,_,h,_=>by simp[DataW.TrodAll]at h
theorem Md{sp':Nat→Bool}(hk:∀(b:Nat) (o:Obj),W.heap[b]?=some o→W'.heap[b]?=some o):∀{shs:List Sh} {ts:List TypeId} {vs:List Value} {ds:List (DataW H)} {p:List MemPlace},oksT P ts shs=true→
 DataW.TrodAll enc P W 0 (fun _=>true) true ts vs ds p→(∀q∈p,sp' q.block=true)→DataW.TrodAll enc P W' 0 sp' true ts vs ds p
 | [],[],[],[],p,_,h,_=>h
 |s::shs,t::ts,v::vs,d::ds,p,ho,h,hp=>by
  simp only[oksT,Bool.and_eq_true]at ho;obtain⟨p1,q,⟨fuel,h1⟩,h2,rfl⟩:=h;exact⟨p1,q,⟨fuel,Hc hk fuel s ho.1 h1 fun y hy=>hp y (List.mem_append_left _ hy)⟩,Md hk ho.2 h2 fun y hy=>hp y (List.mem_append_right _ hy),rfl⟩
 | [],_::_,_,_,_,ho,_,_=>by cases ho
 |_::_,[],_,_,_,ho,_,_=>by simp[oksT]at ho
 | [],[],_::_,_,_,_,h,_=>by simp[DataW.TrodAll]at h
 | [],[],[],_::_,_,_,h,_=>by simp[DataW.TrodAll]at h
 |_::_,_::_,[],_,_,_,h,_=>by simp[DataW.TrodAll]at h
 |_::_,_::_,_::_,[],_,_,h,_=>by simp[DataW.TrodAll]at h
theorem Ad2{f:FuncId}{xs:List I}{args:Array Value}(hl:xs.length=args.toList.length)(hrep:∀(i:Nat) x v,xs[i]?=some x→args.toList[i]?=some v→RepV (De W) x v){outs:List SV}
 (h:Fn P f (xs.map SV.v) (Is (.v (.bool true)) outs)) (hamb:Amb.p (De W)):
 Calls P f args W fun e W'=>e= .returned (.bool true)∧(∀(b:Nat) (o:Obj),W.heap[b]?=some o→W'.heap[b]?=some o)∧W'.os=W.os∧W'.output=W.output∧W.heap.size≤W'.heap.size:=by
 have:=h (De W) (fun _=>none) (fun _=>none) W args ⟨fun b o hb=>hb,fun b lab hb=>(by cases hb),fun b b' lab hb _=>(by cases hb),fun b o hb=>(by cases hb),rfl,rfl,rfl,Nat.le_refl _,fun b o hb=>(by cases hb),hamb⟩
  (by simp[hl]) (by
    intro i sv hi;rw[List.getElem?_map]at hi;obtain⟨x,h1,rfl⟩:=Option.map_eq_some_iff.1 hi;refine⟨rfl,?_⟩;have hlt:i<args.toList.length:=by rw[←hl];exact(List.getElem?_eq_some_iff.1 h1).1
    have h2:args.toList[i]?=some (args.getD i undef):=by
     rw[List.getElem?_eq_getElem hlt];have hlt':i<args.size:=by simpa using hlt
     simp[Array.getD,hlt']
    exact hrep i x _ h1 h2)
 refine this.mono ?_;rintro e w' ⟨r,zs,c,G',σ',rfl,⟨rfl,_⟩,hG,hok,_,hr,_⟩;refine⟨?_,fun b o hb=>hok.fixed b o (hG b o hb),hok.os,hok.output,hok.size⟩
 have hr':RepV G' (.bool true) c:=hr;rw[RepV.bool]at hr';rw[hr']
theorem Ad4{f:Func}{s:ChangeSpec}{fresh handsOn again:Bool}{args:Array Value}{ds gs:List (DataW H)}{before:List MemPlace}{shs:List Sh}{tb:TypeId}
 (hvars:s.vars=[]) (hsp:∀ds:List (DataW H),ds.length=f.params.toList.length→s.fn H ds= {results:=[.lit (.bool true)],args:=ds}) (hres:f.resultTypes= #[tb]) (hb:P.underlying tb=some .bool)
 (ho:oksT P f.params.toList shs=true) (hW:DataW.Whole enc P f.params.toList s.vars false W args.toList ds gs before)
 (hk:∀(b:Nat) (o:Obj),W.heap[b]?=some o→W'.heap[b]?=some o) (hos:W'.os=W.os) (hout:W'.output=W.output):
 s.post enc P f false fresh handsOn again W args (.bool true) W':=by
 have hW0:=hW;obtain⟨p,q,hA,hV,rfl,hz,hn⟩:=hW;rw[hvars]at hV;have hgs:gs=[]∧q=[]:=by
  cases gs with
  |nil=>exact⟨rfl,hV⟩
  |cons g gs=>exact hV.elim
 obtain⟨rfl,rfl⟩:=hgs;have hlen:ds.length=f.params.toList.length:=by
  have aux:∀(ts:List TypeId) (vs:List Value) (ds:List (DataW H)) (p:List MemPlace),DataW.TrodAll enc P W 0 (fun _=>true) true ts vs ds p→ds.length=ts.length:=by
   intro ts;induction ts with
   |nil=>intro vs ds p h;cases vs<;>cases ds<;>first|rfl|exact h.elim
   |cons t ts ih=>
    intro vs ds p h;cases vs with
    |nil=>cases ds<;>exact h.elim
    |cons v vs=>
     cases ds with
     |nil=>exact h.elim
     |cons d ds=>
      obtain⟨_,_,_,h2,_⟩:=h;simp[ih _ _ _ h2]
  exact aux _ _ _ _ hA
 have hfn:=hsp ds hlen;have hag:∀sp':Nat→Bool,(∀x∈p,sp' x.block=true)→DataW.TrodAll enc P W' 0 sp' true f.params.toList args.toList ds p:=fun sp' h=>Md hk ho hA h
 have hold:∀x∈p,x.block<W.heap.size:=fun x hx=>hW0.lt x (List.mem_append_left _ hx)
 have hat:∀b,b<W.heap.size→∃o,W.heap[b]?=some o∧W'.heap[b]?=some o:=fun b hb'=>⟨_,Array.getElem?_eq_getElem hb',hk b _ (Array.getElem?_eq_getElem hb')⟩
 have hr:∀(b:Nat) (sp':Nat→Bool) (hd:Bool),DataW.TrodAll enc P W' b sp' hd f.resultTypes.toList ((Value.bool true).resultList f.resultTypes.size) [.lit (.bool true)] []:=by
  intro b sp' hd;rw[hres];exact trodAll_cons_mk (shut_bool hb true) trodAll_mk0
 have hkept:W.keptBut W' fun _=>False:=by
  refine⟨hos,hout,fun i hi=>?_⟩
  obtain⟨o,h1,h2⟩:=hat i hi;rw[h1,h2];cases o<;>simp
 refine⟨ds,[],p++[],[],p,[],hW0,?_,?_,?_,World.keptBut_mono (fun _ h=>h.elim) hkept,fun _=>?_⟩
 ·rw[List.append_nil,hfn];exact hr _ _ _
 ·rw[List.append_nil,hfn];exact hag _ fun x hx=>by simpa using hold x hx
 ·rw[List.append_nil,hfn,hvars];rfl
 ·refine⟨?_,_,[],([]++p)++[],⟨[]++p,[],trodAll_append (hag _ (fun _ _=>rfl)) (hr 0 _ _),by rw[hvars];rfl,rfl,?_,?_⟩,?_⟩
  ·intro j t r h1 h2;rw[hres]at h1 h2;cases j with
   |zero=>
    cases h1;have:r= .bool true:=by
     have h3:[Value.bool true][0]?=some r:=h2;simpa using h3.symm
    subst this;exact okWide_bool_mk hb _
   |succ j=>simp at h1
  ·intro b off hp;have hp':MemPlace.cell b off∈p:=by simpa using hp
   have h0:=hz b off (by simpa using hp')
   obtain⟨o,h1,h2⟩:=hat b (hold _ hp');unfold World.frozen? at h0 ⊢;rw[h2];rw[h1]at h0;exact h0
  ·intro ha;cases ha
  ·intro x hx _;simpa using hx
end

open Go.ChangeShapes Go.Deep Go.WideShapes Go.ChangeAt Go.RowKit
section
variable{H:Type}{enc:TypeId × Value → H}{P:Program}{W:World}
end
set_option maxHeartbeats 4000000

open Go.Proofs Go.Lib
abbrev shSp:Sh:=.st [.str,.str]
abbrev Ajp:Sh:=.st [.str,.str,.bool]
abbrev shOp:Sh:=.st [.int .i64,.str,.sl 3 Ajp,shSp,.int .i64,.int .i64]
theorem Hu{x:I}(h:Fits shSp x):∃s:Sp,x=s.toI:=by
 obtain⟨_,rfl,a,_,rfl,⟨f,rfl⟩,b,_,rfl,⟨t,rfl⟩,rfl⟩:=h;exact⟨⟨f,t⟩,rfl⟩
theorem Ahq{α:Type}{sh:Sh}{sz:Nat}{f:α→I}(hf:∀x,Fits sh x→∃a,x=f a):∀xs:List I,(∀y∈xs,Fits sh y∧y.size=sz)→∃l:List α,xs=l.map f
 | [],_=>⟨[],rfl⟩
 |y::ys,h=>by
  obtain⟨l,rfl⟩:=Ahq hf ys fun z hz=>h z (List.mem_cons_of_mem _ hz)
  obtain⟨s,rfl⟩:=hf y (h y (List.mem_cons_self ..)).1;exact⟨s::l,rfl⟩
theorem R8{W w:World}(hw:∀b o,De W b=some o→w.heap[b]?=some o){a:Addr}{v:Value}(h:W.cell? a=some v):w.cell? a=some v:=by
 unfold World.cell? at h ⊢;cases hb:W.heap[a.block]? with
 |none=>rw[hb]at h;cases h
 |some o=>rw[hw a.block o hb, ←hb];exact h
theorem Zt:Go.Proofs.YtkpojedpcabojaaDoor.Rows.laid_unicode_utf8_first=firstData:=Pinned.utf8First_eq
theorem Xk:(Go.Proofs.YtkpojedpcabojaaDoor.Rows.laid_unicode_utf8_acceptRanges:DataW Unit)=acceptData:=by kernel_rfl
abbrev F8:List (String × DataW Unit):=[("unicode/utf8.acceptRanges",Go.Proofs.YtkpojedpcabojaaDoor.Rows.laid_unicode_utf8_acceptRanges),("unicode/utf8.first",Go.Proofs.YtkpojedpcabojaaDoor.Rows.laid_unicode_utf8_first)]
theorem Adk{W:World}(hL:laidMetH Tryd.prog F8 W):Amb.p (De W):=by
 rw[MakeChecks.laidMetH_plain _ _ _ (by kernel_rfl)]at hL
 have hT:Lib.Utf8Tabs 0 1 W:=utf8Tabs_of_readsT {t5:=decL.t5,t119:=decL.t119,t138:=decL.t138,t139:=decL.t139} ⟨by kernel_rfl,by kernel_rfl,by kernel_rfl,by kernel_rfl,by kernel_rfl,by kernel_rfl,by kernel_rfl⟩
  (Zt ▸ Lib.laidMet.reads hL (.tail _ (.head _))) (Xk ▸ Lib.laidMet.reads hL (.head _))
 exact fun w hw=>⟨fun c hc=>R8 hw (hT.1 c hc),fun i hi=>⟨R8 hw (hT.2 i hi).1,R8 hw (hT.2 i hi).2⟩⟩

theorem Ajj{x:I}(h:Fits Ajp x):∃c:Chg,x=c.toI:=by
 obtain⟨_,rfl,a,_,rfl,⟨k,rfl⟩,b,_,rfl,⟨v,rfl⟩,c,_,rfl,⟨g,rfl⟩,rfl⟩:=h;exact⟨⟨k,v,g⟩,rfl⟩
theorem He{x:I}(h:Fits shOp x):∃o:Opn,x=o.toI:=by
 obtain⟨_,rfl,x1,_,rfl,⟨v1,rfl,_⟩,x2,_,rfl,⟨v2,rfl⟩,x3,_,rfl,⟨xs,rfl,hxs⟩,x4,_,rfl,h4,x5,_,rfl,⟨v5,rfl,_⟩,x6,_,rfl,⟨v6,rfl,_⟩,rfl⟩:=h;obtain⟨s,rfl⟩:=Hu h4;obtain⟨cl,rfl⟩:=Ahq (fun x hx=>Ajj hx) xs hxs
 exact⟨⟨v1,v2,cl,s,v5,v6⟩,rfl⟩
theorem Fh{x:I}(h:Fits (.sl 7 shOp) x):∃l:List Opn,x= .list (l.map Opn.toI):=by
 obtain⟨xs,rfl,hxs⟩:=h;obtain⟨l,rfl⟩:=Ahq (fun x hx=>He hx) xs hxs
 exact⟨l,rfl⟩

open Go.Proofs Go.Proofs.YtkpojedpcabojaaDoor
open Go.ChangeShapes Go.WideShapes Go.ChangeAt Go.RowKit
theorem Es:ownKnob Tryd.prog.godebug=none:=by kernel_rfl
theorem D5(H:Type)(enc:TypeId × Value→H)(W:World)(base:Nat)(args:Array Value)(ds gs:List (DataW H))(before:List MemPlace)
 (hval:∀(j:Nat) t v,Tryd.f10.params[j]?=some t→args[j]?=some v→Value.okWide Tryd.prog W .any base t v)
 (hW:DataW.Whole enc Tryd.prog Tryd.f10.params.toList Rows.storeApartSpec.vars false W args.toList ds gs before) (hL:laidMetH Tryd.prog F8 W):
 Calls Tryd.prog 10 args W fun e W'=>∃v,e= .returned v∧Rows.storeApartSpec.post enc Tryd.prog Tryd.f10 false true false false W args v W':=by
 have hW0:=hW;obtain⟨p,q,hA,_⟩:=hW;have ho:oksT Tryd.prog Tryd.f10.params.toList [.sl 7 shOp,.sl 7 shOp]=true:=by kernel_rfl
 obtain⟨xs,h1,h2,h3⟩:=Me ho hA fun j t v a b=>hval j t v (by simpa using a) (by simpa using b)
 obtain⟨x,_,rfl,hx,y,_,rfl,hy,rfl⟩:=h1;obtain⟨a,rfl⟩:=Fh hx;obtain⟨b,rfl⟩:=Fh hy;refine(Ad2 h2 h3 (Gy a b) (Adk hL)).mono ?_;rintro e W' ⟨rfl,hk,hos,hout,_⟩;refine⟨_,rfl,Ad4 (shs:=[.sl 7 shOp,.sl 7 shOp]) (tb:=4) rfl ?_ rfl Tryd.underlying4 ho hW0 hk hos hout⟩;intro ds hds
 match ds,hds with
 | [d0,d1],_=>rfl
theorem Eb(os:Os)(started:os.Started)(H:Type)(enc:TypeId × Value→H):
 ReturnsInHanded {} Tryd.checked os 10 .any (fun w args=>(Rows.storeApartSpec.pre enc Tryd.prog Tryd.f10 [] false w args∧laidMetH Tryd.prog F8 w)∧sizedMet enc Tryd.prog Tryd.f10 (OpenSpec.ofChange Rows.storeApartSpec) false w args)
  (Rows.storeApartSpec.post enc Tryd.prog Tryd.f10 false true false false):=by
 refine returnsInHanded_of_change_and (C:=Tryd.checked) (X:=fun w _=>laidMetH Tryd.prog F8 w) (fun _ _ _ hh h=>h.of_heap hh) Es started (by kernel_rfl) Tryd.func10
  (ChangeSpec.witness_shaped (enc:=enc) (C:=Tryd.checked) (os:=os) (X:=fun w _=>laidMetH Tryd.prog F8 w) false (World.laidAll Tryd.prog os F8) #[.slice none 0 0,.slice none 0 0] 8 (World.laidAll_os _ _ _)
    (World.shaped_of_ZipB (by kernel_rfl) (by kernel_rfl)) (by kernel_rfl) (by kernel_rfl) (by kernel_rfl)
    (by rw[MakeChecks.laidMetH_plain _ _ _ (by kernel_rfl)];exact laidMet_laidAll _ (by kernel_rfl) (by kernel_rfl))) ?_
 intro W base args ds gs before hval0 hW _ hsz hL _;exact D5 H enc W base args ds gs before hval0 hW hL
theorem Ek:Rows.StoreApartSaid:=
 OpenClaim.holds_of_wide 10 Tryd.f10 rfl rfl rfl rfl rfl rfl rfl ⟨rfl,rfl,rfl,rfl,rfl⟩ rfl rfl rfl rfl rfl (by kernel_rfl) Tryd.func10 (by kernel_rfl)
  (of_decide_eq_true (by kernel_rfl)) (by unfold Func.isWrapper;first|(rw[if_pos (by decide+kernel)];kernel_rfl)|(rw[if_neg (by decide+kernel)];exact⟨rfl,rfl⟩))
  (fun os started H enc _=>Eb os started H enc)
end Go.Ab
