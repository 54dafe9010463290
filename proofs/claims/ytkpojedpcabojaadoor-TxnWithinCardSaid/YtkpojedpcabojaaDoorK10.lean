/- Lemmas -/
import Derived.Test.YtkpojedpcabojaaDoorK8
import Derived.Test.YtkpojedpcabojaaDoorWLT
set_option linter.unusedVariables false
set_option linter.unusedSimpArgs false
set_option maxRecDepth 100000
set_option maxHeartbeats 40000000
namespace Go.Ab
open Go.Proofs
abbrev Axm(x:Cn × Bool):SV:=.Ati [.ptr x.1.toD,.ptr (.st [.vec 50 4 ((x.1.ref.map Spc.Bx).map D.it)]),.it (.bool x.2)]
theorem Bd2(w:List (List Ef))(fl:Int)(h:40<w.length):
 Fn Tryd.prog Auw [.v (.list (w.map fun l=>I.list (l.map Ef.Bx))),.v (ti fl)] (Is (Axm (aw1,false)) [.no,.no]):=by
 refine Av7 ?_ (by simp)
 have hwl:(w.map fun l=>I.list (l.map Ef.Bx)).length=w.length:=Bh _
 have g40:¬decide ((40:Int)<(w.length:Int))=false:=by simp;omega
 have hR:aw1.ref=[aw1.Ann tQ]:=Aqs.ref;have hoR:=Baf;rw[hR]at hoR;unfold Axm;dsimp only;rw[hR];repeat'((conv=>whnf);((with_reducible refine Ac ?_ ?_);focus (and_intros<;>decide)))
 all_goals(try(conv=>whnf))
 generalize hKK:F7 Tryd.prog _ _=KK;as_aux_lemma=>
  repeat'((conv=>whnf);first|((with_reducible refine Ac ?_ ?_);focus (and_intros<;>((intro _ hh;cases hh;done))))|((with_reducible refine Ct.mk ?_);refine⟨_,Adg,?_⟩;rintro _ _ ⟨rfl,rfl⟩))
  all_goals(try(conv=>whnf))
  rw[←hKK];clear hKK;as_aux_lemma=>
   repeat'((conv=>whnf);((with_reducible refine Ac ?_ ?_);focus (and_intros<;>first|kernel_rfl|(simp;done)|decide)))
   all_goals(try(conv=>whnf))
   generalize hKK:F7 Tryd.prog _ _=KK;as_aux_lemma=>
    repeat'((conv=>whnf);first|((with_reducible refine Ac ?_ ?_);focus (and_intros<;>first|(intro _ hh;cases hh;done)|(simp;done)))|((with_reducible refine Ct.mk ?_);refine⟨_,Ae1,?_⟩;rintro _ _ ⟨rfl,rfl⟩))
    all_goals(try(conv=>whnf))
    rw[←hKK];clear hKK;as_aux_lemma=>
     repeat'((conv=>whnf);((with_reducible refine Ac ?_ ?_);focus (and_intros<;>first|kernel_rfl|(simp;done)|decide)))
     all_goals(try(conv=>whnf))
     generalize hKK:F7 Tryd.prog _ _=KK;as_aux_lemma=>
      repeat'((conv=>whnf);first|((with_reducible refine Ac ?_ ?_);focus (and_intros<;>first|(intro _ hh;cases hh;done)|(simp;done)))|((with_reducible refine Ct.mk ?_);refine⟨_,hoR,?_⟩;rintro _ _ ⟨rfl,rfl⟩))
      all_goals(try(conv=>whnf))
      rw[←hKK];clear hKK;as_aux_lemma=>
       repeat'((conv=>whnf);first|((with_reducible refine Ax (by first|(with_reducible exact Ai (by assumption))|((with_reducible refine decide_eq_true ?_);omega)) (fun hb=>?_));(try rw[hb]);(try simp only[Aa]at hb))|((with_reducible refine Ac ?_ ?_);focus (and_intros<;>(with_reducible rfl)))|(with_reducible intro Cq)|(skip;rw[hwl]))
       all_goals(try(conv=>whnf))
       (apply dKq<;>kernel_rfl)
theorem Bfv(w:List (List Ef))(fl:Int)(h:w.length≤40)(RES:Cn × Bool)(Ajz:Awq w aw1=RES)(OUT:Cn × Bool)(A4m:(if RES.2=true then((RES.1.Anu tQ fl).1,true)else(RES.1,false))=OUT):
 Fn Tryd.prog Auw [.v (.list (w.map fun l=>I.list (l.map Ef.Bx))),.v (ti fl)] (Is (Axm OUT) [.no,.no]):=by
 refine Av7 ?_ (by simp)
 have hwl:(w.map fun l=>I.list (l.map Ef.Bx)).length=w.length:=Bh _
 have g40:¬decide ((40:Int)<(w.length:Int))=true:=by simp;omega
 repeat'((conv=>whnf);((with_reducible refine Ac ?_ ?_);focus (and_intros<;>decide)))
 all_goals(try(conv=>whnf))
 generalize hKK:F7 Tryd.prog _ _=KK;as_aux_lemma=>
  repeat'((conv=>whnf);first|((with_reducible refine Ac ?_ ?_);focus (and_intros<;>((intro _ hh;cases hh;done))))|((with_reducible refine Ct.mk ?_);refine⟨_,Adg,?_⟩;rintro _ _ ⟨rfl,rfl⟩))
  all_goals(try(conv=>whnf))
  rw[←hKK];clear hKK;as_aux_lemma=>
   repeat'((conv=>whnf);((with_reducible refine Ac ?_ ?_);focus (and_intros<;>first|kernel_rfl|(simp;done)|decide)))
   all_goals(try(conv=>whnf))
   generalize hKK:F7 Tryd.prog _ _=KK;as_aux_lemma=>
    repeat'((conv=>whnf);first|((with_reducible refine Ac ?_ ?_);focus (and_intros<;>first|(intro _ hh;cases hh;done)|(simp;done)))|((with_reducible refine Ct.mk ?_);refine⟨_,Ae1,?_⟩;rintro _ _ ⟨rfl,rfl⟩))
    all_goals(try(conv=>whnf))
    rw[←hKK];clear hKK;as_aux_lemma=>
     repeat'((conv=>whnf);((with_reducible refine Ac ?_ ?_);focus (and_intros<;>first|kernel_rfl|(simp;done)|decide)))
     all_goals(try(conv=>whnf))
     generalize hKK:F7 Tryd.prog _ _=KK;as_aux_lemma=>
      repeat'((conv=>whnf);first|((with_reducible refine Ac ?_ ?_);focus (and_intros<;>first|(intro _ hh;cases hh;done)|(simp;done)))|((with_reducible refine Ct.mk ?_);refine⟨_,Baf,?_⟩;rintro _ _ ⟨rfl,rfl⟩))
      all_goals(try(conv=>whnf))
      rw[←hKK];clear hKK;as_aux_lemma=>
       repeat'((conv=>whnf);first|((with_reducible refine Aw (by first|(with_reducible exact Ak (by assumption))|((with_reducible refine decide_eq_false ?_);omega)) (fun hb=>?_));(try rw[hb]);(try simp only[Aa]at hb))|((with_reducible refine Ac ?_ ?_);focus (and_intros<;>(with_reducible rfl)))|(with_reducible intro Cq)|((try dsimp only);rw[hwl]))
       all_goals(try(conv=>whnf))
       refine Afm.by (X:=Nat × Cn) (fun y=>[(27,.v (ti (y.1:Int))),(7,sP y.2),(8,rT y.2.ref)]) (fun y=>y.1≤w.length∧A0b y.1 y.2∧Awq (w.drop y.1) y.2=RES) (fun y=>w.length - y.1) (0,aw1) (by kernel_rfl) ⟨Cr _,Bd1,Ajz⟩ ?_
       clear Ajz;rintro⟨j,s⟩ ⟨hj,hI,hR⟩
       (try dsimp only at hj hI hR ⊢)
       have hw:IntKind.i64.wrap ((j:Int)+1)=((j+1:Nat):Int):=(Bf (by omega)).trans (by omega)
       have h8:=hI.len;by_cases hjl:j<w.length
       case neg=>
        have h3:¬decide ((j:Int)<(w.length:Int))=true:=by simp;omega
        rw[Db (by omega)]at hR
        have hR:(s,true)=RES:=hR;subst hR;rw[if_pos rfl]at A4m;subst A4m;have hc1:=Bfi hI.inv (by omega) tQ fl
        have hc2:=Bqo hI.inv (by omega) (by omega) hI.c tQ fl
        unfold Axm;dsimp only at hc1 hc2 ⊢;generalize s.Anu tQ fl=Z at*;obtain⟨s',e⟩:=Z;dsimp only at hc1 hc2 ⊢;generalize s.ref=R at*;generalize s'.ref=R' at*;repeat'((conv=>whnf);first|((with_reducible refine Aw (by(with_reducible exact Ak (by assumption))) (fun hb=>?_));(try rw[hb]);(try simp only[Aa]at hb))|((with_reducible refine Ac ?_ ?_);focus (and_intros<;>first|kernel_rfl|(intro _ hh;cases hh;done)|(simp;done)|decide))|((with_reducible refine Ct.mk ?_);refine⟨_,hc1,?_⟩;rintro _ _ ⟨rfl,rfl⟩))
        all_goals(try(conv=>whnf))
        generalize hKK:F7 Tryd.prog _ _=KK;as_aux_lemma=>
         repeat'((conv=>whnf);first|((with_reducible refine Ac ?_ ?_);focus (and_intros<;>first|(intro _ hh;cases hh;done)|(simp;done)))|((with_reducible refine Ct.mk ?_);refine⟨_,hc2,?_⟩;rintro _ _ ⟨rfl,rfl⟩))
         all_goals(try(conv=>whnf))
         rw[←hKK];clear hKK;as_aux_lemma=>
          (skip)
          all_goals(try(conv=>whnf))
          (apply dKq<;>kernel_rfl)
       obtain⟨l,hl⟩:∃x,w[j]?=some x:=⟨_,Ae hjl⟩;have h3:¬decide ((j:Int)<(w.length:Int))=false:=by simp;omega
       have hdr:w.drop j=l::w.drop (j+1):=by rw[Cc hjl];rw[Ae hjl]at hl;cases hl;rfl
       rw[hdr]at hR;unfold Awq at hR;have hcl:(l.map Ef.Bx).length=l.length:=Bh _;by_cases hd:100<l.length
       ·rw[if_pos hd]at hR;subst hR;have A4m:(s,false)=OUT:=by rw[←A4m];rfl
        subst A4m;have Bsz:¬decide ((100:Int)<(l.length:Int))=false:=by simp;omega
        unfold Axm;dsimp only;generalize s.ref=R at*;repeat'((conv=>whnf);first|((with_reducible refine Ax (by first|(with_reducible exact Ai (by assumption))|((with_reducible refine decide_eq_true ?_);omega)) (fun hb=>?_));(try rw[hb]);(try simp only[Aa]at hb))|((with_reducible refine Ac ?_ ?_);focus (and_intros<;>first|omega|(with_reducible rfl)|kernel_rfl))|(with_reducible intro Cq)|((try dsimp only);(rw[B6 hl]))|(skip;rw[hcl]))
        all_goals(try(conv=>whnf))
        (apply dKq<;>kernel_rfl)
       rw[if_neg hd]at hR;have Bsz:¬decide ((100:Int)<(l.length:Int))=true:=by simp;omega
       have hwt:=Air hI.inv (by omega) tQ l (by decide) (by omega)
       have hwr:=Bqq hI.inv (by omega) (by omega) hI.c tQ l (by omega)
       have hI2:=hI.write (cs:=l) (by omega)
       generalize hZ:s.Acg tQ l=Z at*;obtain⟨s',r1,r2⟩:=Z;dsimp only at hwt hwr hI2 hR;generalize hNX:Awq (w.drop (j+1)) s'=NX at hR;generalize hSR:s.ref=R at*;repeat'((conv=>whnf);first|((with_reducible refine Ax (by(with_reducible exact Ai (by assumption))) (fun hb=>?_));(try rw[hb]);(try simp only[Aa]at hb))|((with_reducible refine Aw (by first|(with_reducible exact Ak (by assumption))|((with_reducible refine decide_eq_false ?_);omega)) (fun hb=>?_));(try rw[hb]);(try simp only[Aa]at hb))|((with_reducible refine Ac ?_ ?_);focus (and_intros<;>first|omega|(with_reducible rfl)|kernel_rfl))|(with_reducible intro Cq)|((try dsimp only);(rw[B6 hl]))|((try dsimp only);rw[hcl]))
       all_goals(try(conv=>whnf))
       refine Afm.by (X:=Nat) (fun q=>[(38,.v (ti (q:Int)))]) (fun q=>q≤l.length∧(if cGo (l.drop q)=true then(s,false)else NX)=RES) (fun q=>l.length - q) 0 (by kernel_rfl) ⟨Cr _,hR⟩ ?_
       clear hR;rintro q ⟨hq,hQ⟩
       (try dsimp only at hq hQ ⊢)
       have hw2:IntKind.i64.wrap ((q:Int)+1)=((q+1:Nat):Int):=(Bf (by omega)).trans (by omega)
       by_cases hql:q<l.length
       case neg=>
        have h6:¬decide ((q:Int)<(l.length:Int))=true:=by simp;omega
        rw[Db (by omega)]at hQ
        have hQ:NX=RES:=hQ;repeat'((conv=>whnf);first|((with_reducible refine Aw (by(with_reducible exact Ak (by assumption))) (fun hb=>?_));(try rw[hb]);(try simp only[Aa]at hb))|((with_reducible refine Ac ?_ ?_);focus (and_intros<;>first|kernel_rfl|(simp;done)|decide)))
        all_goals(try(conv=>whnf))
        generalize hKK:F7 Tryd.prog _ _=KK;as_aux_lemma=>
         repeat'((conv=>whnf);first|((with_reducible refine Ac ?_ ?_);focus (and_intros<;>first|(intro _ hh;cases hh;done)|(simp;done)))|((with_reducible refine Ct.mk ?_);refine⟨_,hwt,?_⟩;rintro _ _ ⟨rfl,rfl⟩))
         all_goals(try(conv=>whnf))
         rw[←hKK];clear hKK;as_aux_lemma=>
          repeat'((conv=>whnf);((with_reducible refine Ac ?_ ?_);focus (and_intros<;>first|kernel_rfl|(simp;done)|decide)))
          all_goals(try(conv=>whnf))
          generalize hKK:F7 Tryd.prog _ _=KK;as_aux_lemma=>
           repeat'((conv=>whnf);first|((with_reducible refine Ac ?_ ?_);focus (and_intros<;>first|(intro _ hh;cases hh;done)|(simp;done)))|((with_reducible refine Ct.mk ?_);refine⟨_,hwr,?_⟩;rintro _ _ ⟨rfl,rfl⟩))
           all_goals(try(conv=>whnf))
           rw[←hKK];clear hKK;as_aux_lemma=>
            repeat'((conv=>whnf);(skip;rw[hw]))
            all_goals(try(conv=>whnf))
            refine Round.by (j+1,s') ?_ ⟨by omega,hI2,hNX.trans hQ⟩ (by dsimp only;omega)
            try dsimp only
            show norm _ _=upd _ _
            kernel_rfl
       obtain⟨c,hc⟩:∃x,l[q]?=some x:=⟨_,Ae hql⟩;have h6:¬decide ((q:Int)<(l.length:Int))=false:=by simp;omega
       have hdq:l.drop q=c::l.drop (q+1):=by rw[Cc hql];rw[Ae hql]at hc;cases hc;rfl
       rw[hdq]at hQ;unfold cGo at hQ;obtain⟨ck,cv,cg⟩:=c;by_cases hb:(Ef.mk ck cv cg).big
       ·rw[if_pos hb]at hQ;have hQ:(s,false)=RES:=hQ;subst hQ;have A4m:(s,false)=OUT:=by rw[←A4m];rfl
        subst A4m;unfold Ef.big at hb
        (try dsimp only at hb)
        unfold Axm;dsimp only;rw[hSR];repeat'((conv=>whnf);first|((with_reducible refine Ax (by first|(with_reducible exact Ai (by assumption))|(with_reducible rfl)) (fun hb=>?_));(try rw[hb]);(try simp only[Aa]at hb))|((with_reducible refine Aw (by first|(with_reducible exact Ak (by assumption))|(with_reducible rfl)) (fun hb=>?_));(try rw[hb]);(try simp only[Aa]at hb))|((with_reducible refine A5 (fun hb=>?_) (fun hb=>?_))<;>first|(exfalso;((simp only[An]at hb<;>omega)))|((try rw[hb]);(try simp only[Aa]at hb)))|((with_reducible refine Ac ?_ ?_);focus (and_intros<;>first|omega|(with_reducible rfl)|kernel_rfl|(simp;done)))|(with_reducible intro Cq)|((try dsimp only);(rw[B6 hc])))
        all_goals(try(conv=>whnf))
        all_goals first
         |(exfalso;omega)
         |(apply dKq<;>kernel_rfl)
       ·rw[if_neg hb]at hQ;unfold Ef.big at hb
        (try dsimp only at hb)
        repeat'((conv=>whnf);first|((with_reducible refine Ax (by(with_reducible exact Ai (by assumption))) (fun hb=>?_));(try rw[hb]);(try simp only[Aa]at hb))|((with_reducible refine Aw (by first|(with_reducible exact Ak (by assumption))|(with_reducible rfl)) (fun hb=>?_));(try rw[hb]);(try simp only[Aa]at hb))|((with_reducible refine A5 (fun hb=>?_) (fun hb=>?_))<;>first|(exfalso;((simp only[An]at hb<;>omega)))|((try rw[hb]);(try simp only[Aa]at hb)))|((with_reducible refine Ac ?_ ?_);focus (and_intros<;>first|omega|(with_reducible rfl)|kernel_rfl|(simp;done)))|(with_reducible intro Cq)|((try dsimp only);(rw[B6 hc]))|((try dsimp only);rw[hw2]))
        all_goals(try(conv=>whnf))
        refine Round.by (q+1) ?_ ⟨by omega,hQ⟩ (by omega)
        try dsimp only
        show norm _ _=upd _ _
        kernel_rfl
theorem A9i(w:List (List Ef))(fl:Int):
 Fn Tryd.prog Auw [.v (.list (w.map fun l=>I.list (l.map Ef.Bx))),.v (ti fl)] (Is (Axm (Az0 w fl)) [.no,.no]):=by
 unfold Az0;by_cases h:40<w.length
 ·rw[if_pos h];exact Bd2 w fl h
 ·rw[if_neg h];exact Bfv w fl (by omega) _ rfl _ rfl
end Go.Ab
