/- Lemmas -/
import Derived.Test.YtkpojedpcabojaaDoorK13
set_option linter.unusedVariables false
set_option linter.unusedSimpArgs false
set_option maxRecDepth 100000
set_option maxHeartbeats 40000000
namespace Go.Ab
open Go.Proofs
def A8g(k:Az):List Sp→Bool
 | []=>false
 |x::r=>if Bw x k then true else A8g k r
theorem inGo_yes{k:Az}:∀{l:List Sp},(∃y∈l,Bw y k)→A8g k l=true
 | [],h=>by obtain⟨y,hy,_⟩:=h;cases hy
 |x::r,⟨y,hy,h⟩=>by
  unfold A8g;split
  ·rfl
  ·rename_i hx;rcases Bg.1 hy with rfl|hy
   ·exact absurd h hx
   ·exact inGo_yes ⟨y,hy,h⟩
theorem spec_within1(l:List Sp)(k:Az):Fn Tryd.prog F_exchequerlaw14_TxnWithin_1 [.v (.list (Atp l)),.v (.str k)] (Is (.v (.bool (A8g k l))) [.no,.no]):=by
 refine of_exchequerlaw14_TxnWithin_1 ?_ (by simp)
 have hl1:(l.map Sp.Bx).length=l.length:=Bh _;obtain⟨RES,Ajz⟩:∃R,A8g k l=R:=⟨_,rfl⟩;rw[Ajz];repeat'((conv=>whnf);first|((with_reducible refine Ac ?_ ?_);focus (and_intros<;>(with_reducible rfl)))|(with_reducible intro Cq)|((try dsimp only);rw[hl1]))
 all_goals(try(conv=>whnf))
 have A1r:l.length≤9223372036854775807:=by simpa[maxLen,Atp]using Cq
 refine Afm.by (X:=Nat) (fun j=>[(8,.v (ti (j:Int)))]) (fun j=>j≤l.length∧A8g k (l.drop j)=RES) (fun j=>l.length - j) 0 (by kernel_rfl) ⟨Cr _,Ajz⟩ ?_
 rintro j ⟨hj,hR⟩
 (try dsimp only at hj hR ⊢)
 by_cases hjl:j<l.length
 case neg=>
  have h3:¬decide ((j:Int)<(l.length:Int))=true:=by simp;omega
  rw[Db (by omega)]at hR
  have hR:false=RES:=hR;subst hR;repeat'((conv=>whnf);((with_reducible refine Aw (by first|(with_reducible assumption)|(with_reducible exact Ak (by assumption))) (fun hb=>?_));(try rw[hb]);(try simp only[Aa]at hb)))
  all_goals(try(conv=>whnf))
  (apply dKq<;>kernel_rfl)
 have hw:IntKind.i64.wrap ((j:Int)+1)=((j+1:Nat):Int):=(Bf (by omega)).trans (by omega)
 obtain⟨x,hx⟩:∃x,l[j]?=some x:=⟨_,Ae hjl⟩;have h3:¬decide ((j:Int)<(l.length:Int))=false:=by simp;omega
 have hdr:l.drop j=x::l.drop (j+1):=by rw[Cc hjl];rw[Ae hjl]at hx;cases hx;rfl
 rw[hdr]at hR;unfold A8g at hR;have hs:=Bfk x k;obtain⟨xf,xt⟩:=x;by_cases e:Bw ⟨xf,xt⟩ k
 ·rw[if_pos e]at hR;rw[decide_eq_true e]at hs;subst hR;repeat'((conv=>whnf);first|((with_reducible refine Ax (by first|(with_reducible assumption)|(with_reducible exact Ai (by assumption))|(with_reducible rfl)) (fun hb=>?_));(try rw[hb]);(try simp only[Aa]at hb))|((with_reducible refine Ac ?_ ?_);focus (and_intros<;>first|omega|kernel_rfl|(intro _ hh;cases hh;done)|(simp;done)|decide))|((try dsimp only);(rw[B6 hx]))|((with_reducible refine Ct.mk ?_);refine⟨_,hs,?_⟩;rintro _ _ ⟨rfl,rfl⟩))
  all_goals(try(conv=>whnf))
  (apply dKq<;>kernel_rfl)
 ·rw[if_neg e]at hR;rw[decide_eq_false e]at hs;repeat'((conv=>whnf);first|((with_reducible refine Ax (by(with_reducible exact Ai (by assumption))) (fun hb=>?_));(try rw[hb]);(try simp only[Aa]at hb))|((with_reducible refine Aw (by(with_reducible rfl)) (fun hb=>?_));(try rw[hb]);(try simp only[Aa]at hb))|((with_reducible refine Ac ?_ ?_);focus (and_intros<;>first|omega|kernel_rfl|(intro _ hh;cases hh;done)|(simp;done)|decide))|((try dsimp only);(rw[B6 hx]))|((with_reducible refine Ct.mk ?_);refine⟨_,hs,?_⟩;rintro _ _ ⟨rfl,rfl⟩)|(skip;rw[hw]))
  all_goals(try(conv=>whnf))
  refine Round.by (j+1) ?_ ⟨by omega,hR⟩ (by omega)
  try dsimp only
  show norm _ _=upd _ _
  kernel_rfl
theorem law_within_no(w:List (List Ef))(t:Txn)(hbd:t.ifs.length+t.th.length+t.el.length≤1000000000000000000)(h:(Az0 w 0).2=false∨t.Axo=true):
 Fn Tryd.prog F_exchequerlaw14_TxnWithin [.v (.list (w.map fun l=>I.list (l.map Ef.Bx))),.v t.Bx] (Is (.v (.bool true)) [.no,.no]):=by
 refine of_exchequerlaw14_TxnWithinT ?_ (by simp)
 have hg:=Dm t hbd;have hbo:=A9i w 0;generalize Az0 w 0=Z at*;obtain⟨s,b⟩:=Z;unfold Axm at hbo;dsimp only at hbo h;generalize s.ref=R at*;have hcs:b=false∨(b=true∧t.Axo=true):=by
  cases b with
  |false=>exact .inl rfl
  |true=>exact .inr ⟨rfl,by rcases h with h|h;(cases h);exact h⟩
 clear h;rcases hcs with rfl|⟨rfl,h⟩
 rotate_left;rw[h]at hg;all_goals
  repeat'((conv=>whnf);first|((with_reducible refine A5 (fun hb=>?_) (fun hb=>?_))<;>first|(exact absurd hb (by decide))|((try rw[hb]);(try simp only[Aa]at hb)))|((with_reducible refine Ac ?_ ?_);focus (and_intros<;>first|(intro _ hh;cases hh;done)|decide))|((with_reducible refine Ct.mk ?_);refine⟨_,B0,?_⟩;rintro _ _ ⟨rfl,rfl⟩))
  all_goals(try(conv=>whnf))
  generalize hKK:F7 Tryd.prog _ _=KK;as_aux_lemma=>
   repeat'((conv=>whnf);first|((with_reducible refine Ac ?_ ?_);focus (and_intros<;>first|omega|kernel_rfl|(intro _ hh;cases hh;done)|(simp;done)))|((with_reducible refine Ct.mk ?_);refine⟨_,hbo,?_⟩;rintro _ _ ⟨rfl,rfl⟩))
   all_goals(try(conv=>whnf))
   rw[←hKK];clear hKK;as_aux_lemma=>
    repeat'((conv=>whnf);first|((with_reducible refine Ax (by first|(with_reducible assumption)|(with_reducible rfl)) (fun hb=>?_));(try rw[hb]);(try simp only[Aa]at hb))|((with_reducible refine Aw (by(with_reducible rfl)) (fun hb=>?_));(try rw[hb]);(try simp only[Aa]at hb))|((with_reducible refine A5 (fun hb=>?_) (fun hb=>?_))<;>first|(exact absurd hb (by decide))|((try rw[hb]);(try simp only[Aa]at hb)))|((with_reducible refine Ac ?_ ?_);focus (and_intros<;>first|omega|kernel_rfl|(intro _ hh;cases hh;done)|(simp;done)|decide))|((with_reducible refine Ct.mk ?_);refine⟨_,hg,?_⟩;rintro _ _ ⟨rfl,rfl⟩))
    all_goals(try(conv=>whnf))
    all_goals((apply dKq<;>kernel_rfl))
theorem law_within_yes(w:List (List Ef))(t:Txn)(hbd:t.ifs.length+t.th.length+t.el.length≤1000000000000000000)(hz:(Az0 w 0).2=true)(hG:t.Axo=false):
 Fn Tryd.prog F_exchequerlaw14_TxnWithin [.v (.list (w.map fun l=>I.list (l.map Ef.Bx))),.v t.Bx] (Is (.v (.bool true)) [.no,.no]):=by
 refine of_exchequerlaw14_TxnWithinT ?_ (by simp)
 have hg:=Dm t hbd;rw[hG]at hg;have hbo:=A9i w 0;obtain⟨m,hm,hI⟩:=Bfu w 0;generalize Az0 w 0=Z at*;obtain⟨s,b⟩:=Z;unfold Axm at hbo;dsimp only at hbo hz hI;subst hz;generalize s.ref=R at*;obtain⟨g1,g2,g3⟩:=Txn.Bhz hG;obtain⟨ifs,th,el⟩:=t;dsimp only at g1 g2 g3;have k1:∀c∈ifs,c.key.length≤1000:=fun c hc=>by have:=g2 c hc;unfold Cm.big at this;omega
 have k2:∀d∈th++el,d.key.length≤1000:=fun d hd=>by have:=g3 d hd;unfold Act.big at this;omega
 have a3:=spec_treads ifs th el (by omega) k1
 have a5:=Akz th el (by omega) k2
 have h8:=hI.len;have ar:=Aky hI.inv (by omega) hI.c tQ ifs th el (by omega) (by omega)
 have w1:∀c∈(s.runM tQ ifs th el).chs,A8g c.key (B9 th el)=true:=fun c hc=>inGo_yes (within_chs hc)
 have w2:∀o∈(s.runM tQ ifs th el).outs,∀p∈o.prs,A8g p.key (C3 ifs th el)=true:=fun o ho p hp=>inGo_yes (within_prs ho hp)
 generalize s.runM tQ ifs th el=RN at*;obtain⟨yes,O,C,e⟩:=RN;dsimp only[Rn.sv]at ar w1 w2;generalize C3 ifs th el=RD at*;generalize B9 th el=WR at*;repeat'((conv=>whnf);first|((with_reducible refine A5 (fun hb=>?_) (fun hb=>?_))<;>first|(exact absurd hb (by decide))|((try rw[hb]);(try simp only[Aa]at hb)))|((with_reducible refine Ac ?_ ?_);focus (and_intros<;>first|(intro _ hh;cases hh;done)|decide))|((with_reducible refine Ct.mk ?_);refine⟨_,B0,?_⟩;rintro _ _ ⟨rfl,rfl⟩))
 all_goals(try(conv=>whnf))
 generalize hKK:F7 Tryd.prog _ _=KK;as_aux_lemma=>
  repeat'((conv=>whnf);first|((with_reducible refine Ac ?_ ?_);focus (and_intros<;>first|omega|kernel_rfl|(intro _ hh;cases hh;done)|(simp;done)))|((with_reducible refine Ct.mk ?_);refine⟨_,hbo,?_⟩;rintro _ _ ⟨rfl,rfl⟩))
  all_goals(try(conv=>whnf))
  rw[←hKK];clear hKK;as_aux_lemma=>
   repeat'((conv=>whnf);first|((with_reducible refine Aw (by first|(with_reducible assumption)|(with_reducible rfl)) (fun hb=>?_));(try rw[hb]);(try simp only[Aa]at hb))|((with_reducible refine A5 (fun hb=>?_) (fun hb=>?_))<;>first|(exact absurd hb (by decide))|((try rw[hb]);(try simp only[Aa]at hb)))|((with_reducible refine Ac ?_ ?_);focus (and_intros<;>first|omega|kernel_rfl|(intro _ hh;cases hh;done)|(simp;done)|decide))|((with_reducible refine Ct.mk ?_);refine⟨_,hg,?_⟩;rintro _ _ ⟨rfl,rfl⟩))
   all_goals(try(conv=>whnf))
   generalize hKK:F7 Tryd.prog _ _=KK;as_aux_lemma=>
    repeat'((conv=>whnf);first|((with_reducible refine Ac ?_ ?_);focus (and_intros<;>first|omega|(intro _ hh;cases hh;done)|(simp;done)))|((with_reducible refine Ct.mk ?_);refine⟨_,ar,?_⟩;rintro _ _ ⟨rfl,rfl⟩))
    all_goals(try(conv=>whnf))
    rw[←hKK];clear hKK;as_aux_lemma=>
     repeat'((conv=>whnf);first|((with_reducible refine Ac ?_ ?_);focus (and_intros<;>first|omega|(with_reducible rfl)|kernel_rfl|(intro _ hh;cases hh;done)|(simp;done)|decide))|(with_reducible intro Cq)|((with_reducible refine Ai2.mkV ?_ ?_ ?_ (fun Cq=>?_));(focus (as_aux_lemma=>kernel_rfl));(focus (as_aux_lemma=>kernel_rfl));(focus (as_aux_lemma=>kernel_rfl));(try simp only[Bv,Bg,Dg,or_false,false_or,or_assoc,forall_eq_or_imp,forall_eq,false_implies,implies_true,forall_const,and_true,true_and]at Cq))|((with_reducible refine Aq3.mk ?_);refine⟨_,_,a3,?_⟩)|((with_reducible refine Aq3.mk ?_);refine⟨_,_,a5,?_⟩))
     all_goals(try(conv=>whnf))
     have hCm:(C.map Ef.Bx).length=C.length:=Bh _;have A1r:C.length≤9223372036854775807:=by simpa[maxLen]using Cq
     refine Afm.by (X:=Nat) (fun j=>[(62,.v (ti (j:Int)))]) (fun j=>j≤C.length) (fun j=>C.length - j) 0 (by kernel_rfl) (Cr _) ?_
     rintro j hj
     (try dsimp only at hj ⊢)
     by_cases hjl:j<C.length
     ·have hw:IntKind.i64.wrap ((j:Int)+1)=((j+1:Nat):Int):=(Bf (by omega)).trans (by omega)
      obtain⟨c,hc⟩:∃x,C[j]?=some x:=⟨_,Ae hjl⟩;have h3:¬decide ((j:Int)<(C.length:Int))=false:=by simp;omega
      have hin:=spec_within1 WR c.key;rw[w1 c (Cb hc)]at hin;obtain⟨ck,cv,cg⟩:=c;dsimp only at hin;repeat'((conv=>whnf);first|((with_reducible refine Ax (by first|(with_reducible exact Ai (by assumption))|((with_reducible refine decide_eq_true ?_);omega)) (fun hb=>?_));(try rw[hb]);(try simp only[Aa]at hb))|((with_reducible refine A5 (fun hb=>?_) (fun hb=>?_))<;>first|(exact absurd hb (by decide))|((try rw[hb]);(try simp only[Aa]at hb)))|((with_reducible refine Ac ?_ ?_);focus (and_intros<;>first|omega|kernel_rfl|(intro _ hh;cases hh;done)|(simp;done)|decide))|((try dsimp only);(rw[B6 hc]))|((try dsimp only);rw[hCm])|((with_reducible refine Ct.mk ?_);refine⟨_,hin,?_⟩;rintro _ _ ⟨rfl,rfl⟩)|(skip;rw[hw]))
      all_goals(try(conv=>whnf))
      refine Round.by (j+1) ?_ (by omega) (by omega)
      try dsimp only
      show norm _ _=upd _ _
      kernel_rfl
     have h3:¬decide ((j:Int)<(C.length:Int))=true:=by simp;omega
     have hOm:(O.map Ou.Bx).length=O.length:=Bh _;repeat'((conv=>whnf);first|((with_reducible refine Aw (by first|(with_reducible assumption)|((with_reducible refine decide_eq_false ?_);omega)) (fun hb=>?_));(try rw[hb]);(try simp only[Aa]at hb))|((with_reducible refine Ac ?_ ?_);focus (and_intros<;>(with_reducible rfl)))|(with_reducible intro Cq)|((try dsimp only);rw[hCm])|(skip;rw[hOm]))
     all_goals(try(conv=>whnf))
     have hmax2:O.length≤9223372036854775807:=by simpa[maxLen]using Cq
     refine Afm.by (X:=Nat) (fun j=>[(75,.v (ti (j:Int)))]) (fun j=>j≤O.length) (fun j=>O.length - j) 0 (by kernel_rfl) (Cr _) ?_
     rintro q hq
     (try dsimp only at hq ⊢)
     by_cases hql:q<O.length
     case neg=>
      have h5:¬decide ((q:Int)<(O.length:Int))=true:=by simp;omega
      repeat'((conv=>whnf);((with_reducible refine Aw (by first|(with_reducible assumption)|(with_reducible exact Ak (by assumption))) (fun hb=>?_));(try rw[hb]);(try simp only[Aa]at hb)))
      all_goals(try(conv=>whnf))
      (apply dKq<;>kernel_rfl)
     have hwq:IntKind.i64.wrap ((q:Int)+1)=((q+1:Nat):Int):=(Bf (by omega)).trans (by omega)
     obtain⟨o,ho⟩:∃x,O[q]?=some x:=⟨_,Ae hql⟩;have h5:¬decide ((q:Int)<(O.length:Int))=false:=by simp;omega
     have hop:=w2 o (Cb ho);obtain⟨P,mo,ct⟩:=o;dsimp only at hop;have hPm:(P.map Pr.Bx).length=P.length:=Bh _;repeat'((conv=>whnf);first|((with_reducible refine Ax (by(with_reducible exact Ai (by assumption))) (fun hb=>?_));(try rw[hb]);(try simp only[Aa]at hb))|((with_reducible refine Ac ?_ ?_);focus (and_intros<;>first|omega|(with_reducible rfl)|kernel_rfl|(simp;done)))|(with_reducible intro Cq)|((try dsimp only);(rw[B6 ho]))|((try dsimp only);rw[hPm]))
     all_goals(try(conv=>whnf))
     have hmax3:P.length≤9223372036854775807:=by simpa[maxLen]using Cq
     refine Afm.by (X:=Nat) (fun j=>[(82,.v (ti (j:Int)))]) (fun j=>j≤P.length) (fun j=>P.length - j) 0 (by kernel_rfl) (Cr _) ?_
     rintro k hk
     (try dsimp only at hk ⊢)
     by_cases hkl:k<P.length
     case neg=>
      have h7:¬decide ((k:Int)<(P.length:Int))=true:=by simp;omega
      repeat'((conv=>whnf);first|((with_reducible refine Aw (by first|(with_reducible assumption)|(with_reducible exact Ak (by assumption))) (fun hb=>?_));(try rw[hb]);(try simp only[Aa]at hb))|(skip;rw[hwq]))
      all_goals(try(conv=>whnf))
      refine Round.by (q+1) ?_ (by omega) (by omega)
      try dsimp only
      show norm _ _=upd _ _
      kernel_rfl
     have hwk:IntKind.i64.wrap ((k:Int)+1)=((k+1:Nat):Int):=(Bf (by omega)).trans (by omega)
     obtain⟨p,hp⟩:∃x,P[k]?=some x:=⟨_,Ae hkl⟩;have h7:¬decide ((k:Int)<(P.length:Int))=false:=by simp;omega
     have hin:=spec_within1 RD p.key;rw[hop p (Cb hp)]at hin;obtain⟨pk,pv,pm,pr⟩:=p;dsimp only at hin;repeat'((conv=>whnf);first|((with_reducible refine Ax (by(with_reducible exact Ai (by assumption))) (fun hb=>?_));(try rw[hb]);(try simp only[Aa]at hb))|((with_reducible refine A5 (fun hb=>?_) (fun hb=>?_))<;>first|(exact absurd hb (by decide))|((try rw[hb]);(try simp only[Aa]at hb)))|((with_reducible refine Ac ?_ ?_);focus (and_intros<;>first|omega|kernel_rfl|(intro _ hh;cases hh;done)|(simp;done)|decide))|((try dsimp only);(rw[B6 hp]))|((with_reducible refine Ct.mk ?_);refine⟨_,hin,?_⟩;rintro _ _ ⟨rfl,rfl⟩)|((try dsimp only);rw[hwk]))
     all_goals(try(conv=>whnf))
     refine Round.by (k+1) ?_ (by omega) (by omega)
     try dsimp only
     show norm _ _=upd _ _
     kernel_rfl
theorem law_within(w:List (List Ef))(t:Txn)(hbd:t.ifs.length+t.th.length+t.el.length≤1000000000000000000):
 Fn Tryd.prog F_exchequerlaw14_TxnWithin [.v (.list (w.map fun l=>I.list (l.map Ef.Bx))),.v t.Bx] (Is (.v (.bool true)) [.no,.no]):=by
 cases hz:(Az0 w 0).2 with
 |false=>exact law_within_no w t hbd (.inl hz)
 |true=>
  cases hG:t.Axo with
  |true=>exact law_within_no w t hbd (.inr hG)
  |false=>exact law_within_yes w t hbd hz hG
end Go.Ab
