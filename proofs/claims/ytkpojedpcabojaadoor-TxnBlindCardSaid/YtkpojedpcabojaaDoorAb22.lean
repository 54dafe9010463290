/- Lemmas -/
import Derived.Test.YtkpojedpcabojaaDoorK14
import Derived.Deep.Slices
import Derived.ChangeSame
import Derived.ChangeArms
import Derived.ProofKit
import Derived.OpenShut
set_option linter.unusedVariables false
set_option linter.unusedSimpArgs false
set_option maxRecDepth 100000
set_option maxHeartbeats 40000000
namespace Go.Ab
open Go.Proofs
theorem Bcg(ifs:List Cm)(th el:List Act)(hl:ifs.length+th.length+el.length≤1000)(hk:∀c∈ifs,c.key.length≤1000):
 Fn Tryd.prog Apg [.v (.list (ifs.map Cm.Bx)),.v (.list (th.map Act.Bx)),.v (.list (el.map Act.Bx))] (Is (.vec Dt 2 (Atp (C3 ifs th el))) [.no,.no,.no]):=by
 refine A9q ?_ (by simp)
 have hl1:(ifs.map Cm.Bx).length=ifs.length:=Bh _;obtain⟨RES,Ajz⟩:∃R,C3 ifs th el=R:=⟨_,rfl⟩;rw[Ajz];repeat'((conv=>whnf);first|((with_reducible refine Ac ?_ ?_);focus (and_intros<;>(with_reducible rfl)))|(with_reducible intro Cq)|((try dsimp only);rw[hl1]))
 all_goals(try(conv=>whnf))
 refine Afm.by (X:=Nat × List Sp) (fun y=>[(14,.v (ti (y.1:Int))),(7,.vec Dt 2 (Atp y.2))]) (fun y=>y.1≤ifs.length∧y.2=(ifs.take y.1).map fun c=>Arf c.key) (fun y=>ifs.length - y.1) (0,[]) (by kernel_rfl) ⟨Cr _,rfl⟩ ?_
 rintro⟨j,OUT⟩ ⟨hj,hO⟩
 (try dsimp only at hj hO ⊢)
 have hw:IntKind.i64.wrap ((j:Int)+1)=((j+1:Nat):Int):=(Bf (by omega)).trans (by omega)
 have hOl:(Atp OUT).length≤1000:=by rw[hO];simp[Atp];omega
 have By5:OUT.length≤1000:=by rw[hO];simp;omega
 by_cases hjl:j<ifs.length
 ·obtain⟨c,hc⟩:∃x,ifs[j]?=some x:=⟨_,Ae hjl⟩;have h3:¬decide ((j:Int)<(ifs.length:Int))=false:=by simp;omega
  have hkc:=hk c (Cb hc);have hnx:OUT++[Arf c.key]=(ifs.take (j+1)).map fun c=>Arf c.key:=by rw[Amx,hc,hO];simp
  obtain⟨ck,cw,cr,cv⟩:=c;dsimp only at hkc hnx;have Atw:=Akx ck (by omega)
  have hcv:(Cm.mk ck cw cr cv).Bx= .agg [.str ck,ti cw,ti cr,.str cv]:=rfl;repeat'((conv=>whnf);first|((with_reducible refine Ax (by(with_reducible exact Ai (by assumption))) (fun hb=>?_));(try rw[hb]);(try simp only[Aa]at hb))|((with_reducible refine Ac ?_ ?_);focus (and_intros<;>first|omega|(with_reducible rfl)|kernel_rfl|(intro _ hh;cases hh;done)|exact Ah (by rfl)|(simp only[An];omega)|(simp;done)|decide))|((try dsimp only);(rw[B6 hc]))|((with_reducible refine Ct.mk ?_);refine⟨_,Atw,?_⟩;rintro _ _ ⟨rfl,rfl⟩)|((try dsimp only);rw[hw]))
  all_goals(try(conv=>whnf))
  refine Round.by (j+1,OUT++[Arf ck]) ?_ ⟨by omega,hnx⟩ (by dsimp only;omega)
  try dsimp only
  rw[←Cx];show norm _ _=upd _ _
  kernel_rfl
 have h3:¬decide ((j:Int)<(ifs.length:Int))=true:=by simp;omega
 rw[Am2 (by omega)]at hO
 have hcc:=Gy th el (by omega)
 have hL:((th++el).map Act.Bx).length=(th++el).length:=Bh _;have hLl:(th++el).length≤1000:=by rw[Hq];omega
 have hR:C4 (th++el) OUT=RES:=by rw[Aj5,hO, ←Ajz];rfl
 clear Ajz;generalize hAL:th++el=L at*;repeat'((conv=>whnf);first|((with_reducible refine Aw (by(with_reducible exact Ak (by assumption))) (fun hb=>?_));(try rw[hb]);(try simp only[Aa]at hb))|((with_reducible refine Ac ?_ ?_);focus (and_intros<;>first|(with_reducible rfl)|kernel_rfl|(intro _ hh;cases hh;done)|exact Ah (by rfl)|(simp;done)|decide))|(with_reducible intro Cq)|((with_reducible refine Ct.mk ?_);refine⟨_,hcc,?_⟩;rintro _ _ ⟨rfl,rfl⟩)|((try dsimp only);rw[hL]))
 all_goals(try(conv=>whnf))
 refine Afm.by (X:=Nat × List Sp) (fun y=>[(30,.v (ti (y.1:Int))),(7,.vec Dt 2 (Atp y.2))]) (fun y=>y.1≤L.length∧y.2.length≤1000+y.1∧C4 (L.drop y.1) y.2=RES) (fun y=>L.length - y.1) (0,OUT) (by kernel_rfl) ⟨Cr _,(by show OUT.length≤1000+0;simpa[Atp]using hOl),hR⟩ ?_
 rintro⟨q,O2⟩ ⟨hq,hO2,hQ⟩
 (try dsimp only at hq hO2 hQ ⊢)
 have hwq:IntKind.i64.wrap ((q:Int)+1)=((q+1:Nat):Int):=(Bf (by omega)).trans (by omega)
 have Bnc:(Atp O2).length≤2000:=by simp[Atp];omega
 by_cases hql:q<L.length
 case neg=>
  have h5:¬decide ((q:Int)<(L.length:Int))=true:=by simp;omega
  rw[Db (by omega)]at hQ
  have hQ:O2=RES:=hQ;subst hQ;repeat'((conv=>whnf);first|((with_reducible refine Aw (by(with_reducible exact Ak (by assumption))) (fun hb=>?_));(try rw[hb]);(try simp only[Aa]at hb))|((with_reducible refine Ac ?_ ?_);focus (and_intros<;>first|omega|(with_reducible rfl)|(simp;done))))
  all_goals(try(conv=>whnf))
  (apply dKq<;>kernel_rfl)
 obtain⟨d,hd⟩:∃x,L[q]?=some x:=⟨_,Ae hql⟩;have h5:¬decide ((q:Int)<(L.length:Int))=false:=by simp;omega
 have hdr:L.drop q=d::L.drop (q+1):=by rw[Cc hql];rw[Ae hql]at hd;cases hd;rfl
 rw[hdr]at hQ;unfold C4 at hQ;obtain⟨dk,⟨xf,xt⟩,Awk,dv,dr,dm⟩:=d;dsimp only at hQ;by_cases k1:dk=1
 ·subst k1;rw[if_pos rfl]at hQ;repeat'((conv=>whnf);first|((with_reducible refine Ax (by(with_reducible exact Ai (by assumption))) (fun hb=>?_));(try rw[hb]);(try simp only[Aa]at hb))|((with_reducible refine A5 (fun hb=>?_) (fun hb=>?_))<;>(((try rw[hb]);(try simp only[Aa]at hb);(try(with_reducible exact absurd trivial hb)))))|((with_reducible refine Ac ?_ ?_);focus (and_intros<;>first|omega|(with_reducible rfl)|kernel_rfl|exact Ah (by rfl)|(simp only[An];omega)|(simp;done)))|((try dsimp only);(rw[B6 hd]))|((try dsimp only);rw[hwq]))
  all_goals(try(conv=>whnf))
  refine Round.by (q+1,O2++[⟨xf,xt⟩]) ?_ ⟨by omega,by simp;omega,hQ⟩ (by dsimp only;omega)
  try dsimp only
  rw[←Cx];show norm _ _=upd _ _
  kernel_rfl
 ·rw[if_neg k1]at hQ;have g1:¬decide (dk=1)=true:=by simpa using k1
  repeat'((conv=>whnf);first|((with_reducible refine Ax (by(with_reducible exact Ai (by assumption))) (fun hb=>?_));(try rw[hb]);(try simp only[Aa]at hb))|((with_reducible refine Aw (by(with_reducible exact Ak (by assumption))) (fun hb=>?_));(try rw[hb]);(try simp only[Aa]at hb))|((with_reducible refine Ac ?_ ?_);focus (and_intros<;>first|omega|kernel_rfl|(simp;done)))|((try dsimp only);(rw[B6 hd]))|((try dsimp only);rw[hwq]))
  all_goals(try(conv=>whnf))
  refine Round.by (q+1,O2) ?_ ⟨by omega,by dsimp only;omega,hQ⟩ (by dsimp only;omega)
  try dsimp only
  show norm _ _=upd _ _
  kernel_rfl
theorem Bcf(l:List Ef)(hl:l.length≤1000000):Fn Tryd.prog Ayj [.v (.list (l.map Ef.Bx)),.v (.list (l.map Ef.Bx))] (Is (.v (.bool true)) [.no,.no]):=by
 refine Aya ?_ (by simp)
 have hlm:(l.map Ef.Bx).length=l.length:=Bh _;have g1:¬(!decide ((((l.map Ef.Bx).length:Nat):Int)=((l.map Ef.Bx).length:Int)))=true:=by simp
 have g2:¬(!decide (((l.length:Nat):Int)=(l.length:Int)))=true:=by simp
 repeat'((conv=>whnf);first|((with_reducible refine Aw (by(with_reducible exact Ak (by assumption))) (fun hb=>?_));(try rw[hb]);(try simp only[Aa]at hb))|((with_reducible refine Ac ?_ ?_);focus (and_intros<;>(with_reducible rfl)))|(with_reducible intro Cq))
 all_goals(try(conv=>whnf))
 refine Afm.by (X:=Nat) (fun j=>[(5,.v (ti (j:Int)))]) (fun j=>j≤l.length) (fun j=>l.length - j) 0 (by kernel_rfl) (Cr _) ?_
 rintro j hj
 (try dsimp only at hj ⊢)
 have hw:IntKind.i64.wrap ((j:Int)+1)=((j+1:Nat):Int):=(Bf (by omega)).trans (by omega)
 by_cases hjl:j<l.length
 case neg=>
  have h3:¬decide ((j:Int)<(l.length:Int))=true:=by simp;omega
  repeat'((conv=>whnf);first|((with_reducible refine Aw (by first|(with_reducible exact Ak (by assumption))|((with_reducible refine decide_eq_false ?_);omega)) (fun hb=>?_));(try rw[hb]);(try simp only[Aa]at hb))|((with_reducible refine Ac ?_ ?_);focus (and_intros<;>(with_reducible rfl)))|(with_reducible intro Cq)|(skip;rw[hlm]))
  all_goals(try(conv=>whnf))
  (apply dKq<;>kernel_rfl)
 obtain⟨x,hx⟩:∃x,l[j]?=some x:=⟨_,Ae hjl⟩;have h3:¬decide ((j:Int)<(l.length:Int))=false:=by simp;omega
 obtain⟨xk,xv,xg⟩:=x;have g:¬(!(decide (xk=xk)&&(decide (xv=xv)&&(decide (xg=xg)&&true))))=true:=by simp
 repeat'((conv=>whnf);first|((with_reducible refine Ax (by first|(with_reducible assumption)|(with_reducible exact Ai (by assumption))|((with_reducible refine decide_eq_true ?_);omega)) (fun hb=>?_));(try rw[hb]);(try simp only[Aa]at hb))|((with_reducible refine Aw (by(with_reducible exact Ak (by assumption))) (fun hb=>?_));(try rw[hb]);(try simp only[Aa]at hb))|((with_reducible refine Ac ?_ ?_);focus (and_intros<;>first|omega|(with_reducible rfl)|kernel_rfl))|(with_reducible intro Cq)|((with_reducible refine Ai2.mkV ?_ ?_ ?_ (fun Cq=>?_));(focus (as_aux_lemma=>kernel_rfl));(focus (as_aux_lemma=>kernel_rfl));(focus (as_aux_lemma=>kernel_rfl));(try simp only[Bv,Bg,Dg,or_false,false_or,or_assoc,forall_eq_or_imp,forall_eq,false_implies,implies_true,forall_const,and_true,true_and]at Cq))|((try dsimp only);rw[hlm])|((try dsimp only);(rw[B6 hx]))|(skip;rw[hw]))
 all_goals(try(conv=>whnf))
 refine Round.by (j+1) ?_ (by omega) (by omega)
 try dsimp only
 show norm _ _=upd _ _
 kernel_rfl
theorem A9r(l:List Ou)(hl:l.length≤1000000)(hp:∀o∈l,o.prs.length≤100000):Fn Tryd.prog Azy [.v (.list (l.map Ou.Bx)),.v (.list (l.map Ou.Bx))] (Is (.v (.bool true)) [.no,.no]):=by
 refine Azo ?_ (by simp)
 have hlm:(l.map Ou.Bx).length=l.length:=Bh _;have g1:¬(!decide ((((l.map Ou.Bx).length:Nat):Int)=((l.map Ou.Bx).length:Int)))=true:=by simp
 have g2:¬(!decide (((l.length:Nat):Int)=(l.length:Int)))=true:=by simp
 repeat'((conv=>whnf);first|((with_reducible refine Aw (by(with_reducible exact Ak (by assumption))) (fun hb=>?_));(try rw[hb]);(try simp only[Aa]at hb))|((with_reducible refine Ac ?_ ?_);focus (and_intros<;>(with_reducible rfl)))|(with_reducible intro Cq))
 all_goals(try(conv=>whnf))
 refine Afm.by (X:=Nat) (fun j=>[(5,.v (ti (j:Int)))]) (fun j=>j≤l.length) (fun j=>l.length - j) 0 (by kernel_rfl) (Cr _) ?_
 rintro j hj
 (try dsimp only at hj ⊢)
 have hw:IntKind.i64.wrap ((j:Int)+1)=((j+1:Nat):Int):=(Bf (by omega)).trans (by omega)
 by_cases hjl:j<l.length
 case neg=>
  have h3:¬decide ((j:Int)<(l.length:Int))=true:=by simp;omega
  repeat'((conv=>whnf);first|((with_reducible refine Aw (by first|(with_reducible exact Ak (by assumption))|((with_reducible refine decide_eq_false ?_);omega)) (fun hb=>?_));(try rw[hb]);(try simp only[Aa]at hb))|((with_reducible refine Ac ?_ ?_);focus (and_intros<;>(with_reducible rfl)))|(with_reducible intro Cq)|(skip;rw[hlm]))
  all_goals(try(conv=>whnf))
  (apply dKq<;>kernel_rfl)
 obtain⟨x,hx⟩:∃x,l[j]?=some x:=⟨_,Ae hjl⟩;have h3:¬decide ((j:Int)<(l.length:Int))=false:=by simp;omega
 have hpl:=hp x (Cb hx);obtain⟨P,mo,ct⟩:=x;dsimp only at hpl;have hs:=A8o P P hpl;rw[decide_eq_true rfl]at hs;have g3:¬(!decide (mo=mo))=true:=by simp
 have g4:¬(!decide (ct=ct))=true:=by simp
 repeat'((conv=>whnf);first|((with_reducible refine Ax (by first|(with_reducible exact Ai (by assumption))|((with_reducible refine decide_eq_true ?_);omega)) (fun hb=>?_));(try rw[hb]);(try simp only[Aa]at hb))|((with_reducible refine Aw (by first|(with_reducible exact Ak (by assumption))|(with_reducible rfl)) (fun hb=>?_));(try rw[hb]);(try simp only[Aa]at hb))|((with_reducible refine A5 (fun hb=>?_) (fun hb=>?_))<;>first|(exact absurd hb (by decide))|((try rw[hb]);(try simp only[Aa]at hb)))|((with_reducible refine Ac ?_ ?_);focus (and_intros<;>first|omega|(with_reducible rfl)|kernel_rfl|(intro _ hh;cases hh;done)|(simp;done)|decide))|(with_reducible intro Cq)|((with_reducible refine Ai2.mkV ?_ ?_ ?_ (fun Cq=>?_));(focus (as_aux_lemma=>kernel_rfl));(focus (as_aux_lemma=>kernel_rfl));(focus (as_aux_lemma=>kernel_rfl));(try simp only[Bv,Bg,Dg,or_false,false_or,or_assoc,forall_eq_or_imp,forall_eq,false_implies,implies_true,forall_const,and_true,true_and]at Cq))|((try dsimp only);rw[hlm])|((try dsimp only);(rw[B6 hx]))|((with_reducible refine Aq3.mk ?_);refine⟨_,_,hs,?_⟩)|((try dsimp only);rw[hw]))
 all_goals(try(conv=>whnf))
 refine Round.by (j+1) ?_ (by omega) (by omega)
 try dsimp only
 show norm _ _=upd _ _
 kernel_rfl
theorem Bi7{s:Cn}{n:Az}{ifs:List Cm}{th el:List Act}:(s.runM n ifs th el).outs.length≤8∧∀o∈(s.runM n ifs th el).outs,o.prs.length≤16:=by
 by_cases he:(s.runM n ifs th el).e=0
 ·obtain⟨_,_,acts,_,h8,h2,_,_⟩:=Bhg he;rw[h2];refine⟨by rw[Bh];exact h8,fun o ho=>?_⟩
  obtain⟨d,_,rfl⟩:=X4.1 ho;unfold Cn.A0d;split
  ·exact Be8 _ _ _ _ _
  ·split<;>simp
 ·rw[(Bdr he).1];simp

open Go.Proofs
def Ap3:List Act→Bool
 | []=>false
 |d::r=>if d.kind=1∧d.rev≠0 then true else Ap3 r
theorem A75:∀{l:List Act},Ap3 l=false→∀d∈l,d.kind=1→d.rev=0
 | [],_,d,h=>by cases h
 |x::r,h,d,hd=>by
  unfold Ap3 at h;split at h
  ·cases h
  ·rename_i hx;rcases Bg.1 hd with rfl|hd
   ·intro hk;exact Classical.not_not.1 fun c=>hx ⟨hk,c⟩
   ·exact A75 h d hd
theorem Bdi{k:Az}:∀{l:List Sp},A8g k l=false→∀x∈l,¬Bw x k
 | [],_,x,h=>by cases h
 |y::r,h,x,hx=>by
  unfold A8g at h;split at h
  ·cases h
  ·rename_i hy;rcases Bg.1 hx with rfl|hx
   ·exact hy
   ·exact Bdi h x hx
theorem Bdt{L:List Sp}{q:Nat}{d:Sp}(h:L[q]?=some d):(Atp L)[Int.toNat (q:Int)]?=some d.Bx:=by rw[Anj,Ev,h];rfl
theorem A0x(w:List (List Ef))(t:Txn)(c:Ef)(hbd:t.ifs.length+t.th.length+t.el.length≤1000000000000000000)(h:(Az0 w 0).2=false∨t.Axo=true∨c.big):
 Fn Tryd.prog Atn [.v (.list (w.map fun l=>I.list (l.map Ef.Bx))),.v t.Bx,.v c.Bx] (Is (.v (.bool true)) [.no,.no,.no]):=by
 refine Ava ?_ (by simp)
 have hg:=Dm t hbd;have hbo:=A9i w 0;generalize Az0 w 0=Z at*;obtain⟨s,b⟩:=Z;unfold Axm at hbo;dsimp only at hbo h;generalize s.ref=R at*;obtain⟨ck,cv,cg⟩:=c;unfold Ef.big at h;dsimp only at h;have hcs:b=false∨(b=true∧t.Axo=true)∨(b=true∧t.Axo=false∧¬decide ((1000:Int)<(ck.length:Int))=false)∨(b=true∧t.Axo=false∧¬decide ((1000:Int)<(ck.length:Int))=true∧¬decide ((1000:Int)<(cv.length:Int))=false):=by
  cases b with
  |false=>exact .inl rfl
  |true=>
   cases hG:t.Axo with
   |true=>exact .inr (.inl ⟨rfl,rfl⟩)
   |false=>
    rw[hG]at h;by_cases hk:1000<ck.length
    ·exact .inr (.inr (.inl ⟨rfl,rfl,by simp;omega⟩))
    ·exact .inr (.inr (.inr ⟨rfl,rfl,by simp;omega,by simp at h ⊢;omega⟩))
 clear h;rcases hcs with rfl|⟨rfl,h⟩|⟨rfl,h,gk⟩|⟨rfl,h,gk,gv⟩
 rotate_left;all_goals(try rw[h]at hg)
 all_goals
  repeat'((conv=>whnf);first|((with_reducible refine A5 (fun hb=>?_) (fun hb=>?_))<;>first|(exact absurd hb (by decide))|((try rw[hb]);(try simp only[Aa]at hb)))|((with_reducible refine Ac ?_ ?_);focus (and_intros<;>first|(intro _ hh;cases hh;done)|decide))|((with_reducible refine Ct.mk ?_);refine⟨_,B0,?_⟩;rintro _ _ ⟨rfl,rfl⟩))
  all_goals(try(conv=>whnf))
  generalize hKK:F7 Tryd.prog _ _=KK;as_aux_lemma=>
   repeat'((conv=>whnf);first|((with_reducible refine Ac ?_ ?_);focus (and_intros<;>first|omega|kernel_rfl|(intro _ hh;cases hh;done)|(simp;done)))|((with_reducible refine Ct.mk ?_);refine⟨_,hbo,?_⟩;rintro _ _ ⟨rfl,rfl⟩))
   all_goals(try(conv=>whnf))
   rw[←hKK];clear hKK;as_aux_lemma=>
    repeat'((conv=>whnf);first|((with_reducible refine Ax (by first|(with_reducible assumption)|(with_reducible exact Ai (by assumption))|(with_reducible rfl)) (fun hb=>?_));(try rw[hb]);(try simp only[Aa]at hb))|((with_reducible refine Aw (by first|(with_reducible assumption)|(with_reducible exact Ak (by assumption))|(with_reducible rfl)) (fun hb=>?_));(try rw[hb]);(try simp only[Aa]at hb))|((with_reducible refine A5 (fun hb=>?_) (fun hb=>?_))<;>first|(exact absurd hb (by decide))|((try rw[hb]);(try simp only[Aa]at hb)))|((with_reducible refine Ac ?_ ?_);focus (and_intros<;>first|omega|(with_reducible rfl)|kernel_rfl|(intro _ hh;cases hh;done)|(simp;done)|decide))|(with_reducible intro Cq)|((with_reducible refine Ct.mk ?_);refine⟨_,hg,?_⟩;rintro _ _ ⟨rfl,rfl⟩))
    all_goals(try(conv=>whnf))
    all_goals((apply dKq<;>kernel_rfl))
theorem A9p(w:List (List Ef))(t:Txn)(c:Ef)(hbd:t.ifs.length+t.th.length+t.el.length≤1000000000000000000)(hz:(Az0 w 0).2=true)(hG:t.Axo=false)(hcb:¬c.big):
 Fn Tryd.prog Atn [.v (.list (w.map fun l=>I.list (l.map Ef.Bx))),.v t.Bx,.v c.Bx] (Is (.v (.bool true)) [.no,.no,.no]):=by
 refine Ava ?_ (by simp)
 have hg:=Dm t hbd;rw[hG]at hg;have hbo:=A9i w 0;obtain⟨m,hm,hI⟩:=Bfu w 0;generalize Az0 w 0=Z at*;obtain⟨s,b⟩:=Z;unfold Axm at hbo;dsimp only at hbo hz hI;subst hz;generalize s.ref=R at*;obtain⟨g1,g2,g3⟩:=Txn.Bhz hG;obtain⟨ifs,th,el⟩:=t;dsimp only at g1 g2 g3;have k1:∀c∈ifs,c.key.length≤1000:=fun c hc=>by have:=g2 c hc;unfold Cm.big at this;omega
 have k2:∀d∈th++el,d.key.length≤1000:=fun d hd=>by have:=g3 d hd;unfold Act.big at this;omega
 have a3:=Bcg ifs th el (by omega) k1
 have a5:=Akz th el (by omega) k2
 have hr1:=Aqv (ifs:=ifs) (th:=th) (el:=el);have hr2:=Ap4 (th:=th) (el:=el);have h8:=hI.len;have ar:=Aky hI.inv (by omega) hI.c tQ ifs th el (by omega) (by omega)
 have hwt:=Air hI.inv (by omega) tQ [c] (by decide) (by simp)
 have hI2:=hI.write (cs:=[c]) (by simp)
 have h82:=hI2.len;have ar2:=Aky hI2.inv (by omega) hI2.c tQ ifs th el (by omega) (by omega)
 have hbl:=fun hx h0=>Bft hI.inv (n:=tQ) (ifs:=ifs) (th:=th) (el:=el) (c:=c) hx h0
 obtain⟨ho1,ho2⟩:=Bi7 (s:=s) (n:=tQ) (ifs:=ifs) (th:=th) (el:=el);have hc1:=Bk4 hI.inv (n:=tQ) (ifs:=ifs) (th:=th) (el:=el);generalize s.runM tQ ifs th el=RN at*;generalize s.Acg tQ [c]=Z at*;obtain⟨s',wn,we⟩:=Z;dsimp only at hwt hI2 ar2 hbl;generalize s'.runM tQ ifs th el=RN2 at*;have hgo:(∀x∈C3 ifs th el++B9 th el,¬Bw x c.key)→(∀d∈th++el,d.kind=1→d.rev=0)→RN2=RN:=hbl;clear hbl;generalize C3 ifs th el=RD at*;generalize B9 th el=WR at*;obtain⟨ck,cv,cg⟩:=c;unfold Ef.big at hcb;dsimp only at hcb hgo;have gk:¬decide ((1000:Int)<(ck.length:Int))=true:=by simp;omega
 have gv:¬decide ((1000:Int)<(cv.length:Int))=true:=by simp;omega
 repeat'((conv=>whnf);first|((with_reducible refine A5 (fun hb=>?_) (fun hb=>?_))<;>first|(exact absurd hb (by decide))|((try rw[hb]);(try simp only[Aa]at hb)))|((with_reducible refine Ac ?_ ?_);focus (and_intros<;>first|(intro _ hh;cases hh;done)|decide))|((with_reducible refine Ct.mk ?_);refine⟨_,B0,?_⟩;rintro _ _ ⟨rfl,rfl⟩))
 all_goals(try(conv=>whnf))
 generalize hKK:F7 Tryd.prog _ _=KK;as_aux_lemma=>
  repeat'((conv=>whnf);first|((with_reducible refine Ac ?_ ?_);focus (and_intros<;>first|omega|kernel_rfl|(intro _ hh;cases hh;done)|(simp;done)))|((with_reducible refine Ct.mk ?_);refine⟨_,hbo,?_⟩;rintro _ _ ⟨rfl,rfl⟩))
  all_goals(try(conv=>whnf))
  rw[←hKK];clear hKK;as_aux_lemma=>
   have hWl:(Atp WR).length=WR.length:=Bh _;have hRl:(Atp RD).length=RD.length:=Bh _;have Hr:∀u∈Atp WR,u.size=2:=fun u hu=>by obtain⟨x,_,rfl⟩:=X4.1 hu;rfl
   repeat'((conv=>whnf);first|((with_reducible refine Aw (by first|(with_reducible assumption)|(with_reducible exact Ak (by assumption))|(with_reducible rfl)) (fun hb=>?_));(try rw[hb]);(try simp only[Aa]at hb))|((with_reducible refine A5 (fun hb=>?_) (fun hb=>?_))<;>first|(exact absurd hb (by decide))|((try rw[hb]);(try simp only[Aa]at hb)))|((with_reducible refine Ac ?_ ?_);focus (and_intros<;>first|(exact Hr)|omega|(with_reducible rfl)|kernel_rfl|(intro _ hh;cases hh;done)|(simp only[An];omega)|(simp;done)|decide))|(with_reducible intro Cq)|((with_reducible refine Ai2.mkV ?_ ?_ ?_ (fun Cq=>?_));(focus (as_aux_lemma=>kernel_rfl));(focus (as_aux_lemma=>kernel_rfl));(focus (as_aux_lemma=>kernel_rfl));(try simp only[Bv,Bg,Dg,or_false,false_or,or_assoc,forall_eq_or_imp,forall_eq,false_implies,implies_true,forall_const,and_true,true_and]at Cq))|((with_reducible refine Ct.mk ?_);refine⟨_,hg,?_⟩;rintro _ _ ⟨rfl,rfl⟩)|((with_reducible refine Aq3.mk ?_);refine⟨_,_,a3,?_⟩)|((with_reducible refine Aq3.mk ?_);refine⟨_,_,a5,?_⟩))
   all_goals(try(conv=>whnf))
   have hme:Atp RD++Atp WR=Atp (RD++WR):=by simp[Atp]
   have hXl:(RD++WR).length≤1000:=by rw[Hq];omega
   simp only[hme];clear hme Hr hWl hRl hr1 hr2 a3 a5;generalize RD++WR=X at*;have hXm:(Atp X).length=X.length:=Bh _;obtain⟨RX,hRX⟩:∃R,A8g ck X=R:=⟨_,rfl⟩;refine Afm.by (X:=Nat) (fun j=>[(64,.v (ti (j:Int)))]) (fun j=>j≤X.length∧A8g ck (X.drop j)=RX) (fun j=>X.length - j) 0 (by kernel_rfl) ⟨Cr _,hRX⟩ ?_
   rintro j ⟨hj,hR⟩
   (try dsimp only at hj hR ⊢)
   have hw:IntKind.i64.wrap ((j:Int)+1)=((j+1:Nat):Int):=(Bf (by omega)).trans (by omega)
   by_cases hjl:j<X.length
   ·obtain⟨x,hx⟩:∃x,X[j]?=some x:=⟨_,Ae hjl⟩;have h3:¬decide ((j:Int)<(X.length:Int))=false:=by simp;omega
    have hdr:X.drop j=x::X.drop (j+1):=by rw[Cc hjl];rw[Ae hjl]at hx;cases hx;rfl
    rw[hdr]at hR;unfold A8g at hR;have hs:=Bfk x ck;obtain⟨xf,xt⟩:=x;by_cases e:Bw ⟨xf,xt⟩ ck
    ·rw[decide_eq_true e]at hs;repeat'((conv=>whnf);first|((with_reducible refine Ax (by first|(with_reducible exact Ai (by assumption))|((with_reducible refine decide_eq_true ?_);omega)|(with_reducible rfl)) (fun hb=>?_));(try rw[hb]);(try simp only[Aa]at hb))|((with_reducible refine Ac ?_ ?_);focus (and_intros<;>first|omega|kernel_rfl|(intro _ hh;cases hh;done)|(simp;done)|decide))|((try dsimp only);rw[hXm])|((try dsimp only);rw[Asg (Bdt hx)])|((with_reducible refine Ct.mk ?_);refine⟨_,hs,?_⟩;rintro _ _ ⟨rfl,rfl⟩))
     all_goals(try(conv=>whnf))
     (apply dKq<;>kernel_rfl)
    ·rw[if_neg e]at hR;rw[decide_eq_false e]at hs;repeat'((conv=>whnf);first|((with_reducible refine Ax (by first|(with_reducible exact Ai (by assumption))|((with_reducible refine decide_eq_true ?_);omega)) (fun hb=>?_));(try rw[hb]);(try simp only[Aa]at hb))|((with_reducible refine Aw (by first|(with_reducible assumption)|(with_reducible rfl)) (fun hb=>?_));(try rw[hb]);(try simp only[Aa]at hb))|((with_reducible refine Ac ?_ ?_);focus (and_intros<;>first|omega|kernel_rfl|(intro _ hh;cases hh;done)|(simp;done)|decide))|((try dsimp only);rw[hXm])|((try dsimp only);rw[Asg (Bdt hx)])|((with_reducible refine Ct.mk ?_);refine⟨_,hs,?_⟩;rintro _ _ ⟨rfl,rfl⟩)|((try dsimp only);rw[hw]))
     all_goals(try(conv=>whnf))
     refine Round.by (j+1) ?_ ⟨by omega,hR⟩ (by omega)
     try dsimp only
     show norm _ _=upd _ _
     kernel_rfl
   have h3:¬decide ((j:Int)<(X.length:Int))=true:=by simp;omega
   rw[Db (by omega)]at hR
   have hR0:false=RX:=hR;rw[←hR0]at hRX;have hno:=Bdi hRX;clear hR hR0 hRX;obtain⟨RES,hR⟩:∃R,(if Ap3 th=true then true else Ap3 el)=R:=⟨_,rfl⟩
   have hRK:=hR;repeat'((conv=>whnf);first|((with_reducible refine Aw (by first|(with_reducible assumption)|((with_reducible refine decide_eq_false ?_);omega)) (fun hb=>?_));(try rw[hb]);(try simp only[Aa]at hb))|((with_reducible refine Ac ?_ ?_);focus (and_intros<;>first|omega|(with_reducible rfl)|kernel_rfl|exact Ah (by rfl)|(simp;done)))|(with_reducible intro Cq)|((try dsimp only);rw[hXm]))
   all_goals(try(conv=>whnf))
   refine Afm.by (X:=Nat) (fun y=>[(79,.v (ti (y:Int)))]) (fun y=>y≤2∧(if y=0 then(if Ap3 th=true then true else Ap3 el)else if y=1 then Ap3 el else false)=RES) (fun y=>2 - y) 0 (by kernel_rfl) ⟨Cr _,hR⟩ ?_
   clear hR;rintro y ⟨hy,hR⟩
   (try dsimp only at hy hR ⊢)
   match y,hy,hR with
   |0,_,hR=>
    replace hR:(if Ap3 th=true then true else Ap3 el)=RES:=hR
    have hLm:(th.map Act.Bx).length=th.length:=Bh _;repeat'((conv=>whnf);first|((with_reducible refine A5 (fun hb=>?_) (fun hb=>?_))<;>first|(exfalso;((simp only[An]at hb<;>omega)))|((try rw[hb]);(try simp only[Aa]at hb)))|((with_reducible refine Ac ?_ ?_);focus (and_intros<;>first|omega|(with_reducible rfl)|kernel_rfl|(simp;done)))|(with_reducible intro Cq)|((try dsimp only);rw[hLm]))
    all_goals(try(conv=>whnf))
    refine Afm.by (X:=Nat) (fun q=>[(85,.v (ti (q:Int)))]) (fun q=>q≤th.length∧(if Ap3 (th.drop q)=true then true else(Ap3 el))=RES) (fun q=>th.length - q) 0 (by kernel_rfl) ⟨Cr _,hR⟩ ?_
    clear hR;rintro q ⟨hq,hQ⟩
    (try dsimp only at hq hQ ⊢)
    have hw2:IntKind.i64.wrap ((q:Int)+1)=((q+1:Nat):Int):=(Bf (by omega)).trans (by omega)
    by_cases hql:q<th.length
    case neg=>
     have h6:¬decide ((q:Int)<(th.length:Int))=true:=by simp;omega
     rw[Db (by omega)]at hQ
     replace hQ:(if(1:Nat)=0 then(if Ap3 th=true then true else Ap3 el)else if(1:Nat)=1 then Ap3 el else false)=RES:=hQ
     repeat'((conv=>whnf);((with_reducible refine Aw (by first|(with_reducible assumption)|(with_reducible exact Ak (by assumption))) (fun hb=>?_));(try rw[hb]);(try simp only[Aa]at hb)))
     all_goals(try(conv=>whnf))
     refine Round.by 1 ?_ ⟨by omega,hQ⟩ (by omega)
     try dsimp only
     show norm _ _=upd _ _
     kernel_rfl
    obtain⟨d,hd⟩:∃x,th[q]?=some x:=⟨_,Ae hql⟩;have h6:¬decide ((q:Int)<(th.length:Int))=false:=by simp;omega
    have hab:Ap3 (d::th.drop (q+1))=(if d.kind=1∧d.rev≠0 then true else Ap3 (th.drop (q+1))):=rfl
    have hdq:th.drop q=d::th.drop (q+1):=by rw[Cc hql];rw[Ae hql]at hd;cases hd;rfl
    rw[hdq,hab]at hQ;obtain⟨dk,⟨xf,xt⟩,Awk,dv,dr,dm⟩:=d;dsimp only at hQ;by_cases c1:dk=1
    ·by_cases c2:dr=0
     ·rw[show(if dk=1∧dr≠0 then true else Ap3 (th.drop (q+1)))=Ap3 (th.drop (q+1))from if_neg (fun c=>c.2 c2)]at hQ
      have gk:¬decide (dk=1)=false:=by simpa using c1
      have gr:¬(!decide (dr=0))=true:=by simpa using c2
      clear c1 c2;repeat'((conv=>whnf);first|((with_reducible refine Ax (by first|(with_reducible exact Ai (by assumption))|(with_reducible rfl)) (fun hb=>?_));(try rw[hb]);(try simp only[Aa]at hb);(try subst hb))|((with_reducible refine Aw (by first|(with_reducible assumption)|(with_reducible exact Ak (by assumption))) (fun hb=>?_));(try rw[hb]);(try simp only[Aa]at hb);(try subst hb))|((with_reducible refine Ac ?_ ?_);focus (and_intros<;>first|omega|kernel_rfl|(simp;done)))|((try dsimp only);(rw[B6 hd]))|((try dsimp only);rw[hw2]))
      all_goals(try(conv=>whnf))
      refine Round.by (q+1) ?_ ⟨by omega,hQ⟩ (by omega)
      try dsimp only
      show norm _ _=upd _ _
      kernel_rfl
     ·rw[show(if dk=1∧dr≠0 then true else Ap3 (th.drop (q+1)))=true from if_pos ⟨c1,c2⟩]at hQ
      have hQ:true=RES:=hQ;subst hQ;have gk:¬decide (dk=1)=false:=by simpa using c1
      have gr:¬(!decide (dr=0))=false:=by simpa using c2
      clear c1 c2;repeat'((conv=>whnf);first|((with_reducible refine Ax (by first|(with_reducible assumption)|(with_reducible exact Ai (by assumption))|(with_reducible rfl)) (fun hb=>?_));(try rw[hb]);(try simp only[Aa]at hb);(try subst hb))|((with_reducible refine Ac ?_ ?_);focus (and_intros<;>first|omega|kernel_rfl|(simp;done)))|((try dsimp only);(rw[B6 hd])))
      all_goals(try(conv=>whnf))
      (apply dKq<;>kernel_rfl)
    ·rw[show(if dk=1∧dr≠0 then true else Ap3 (th.drop (q+1)))=Ap3 (th.drop (q+1))from if_neg (fun c=>c1 c.1)]at hQ
     have gk:¬decide (dk=1)=true:=by simpa using c1
     clear c1;repeat'((conv=>whnf);first|((with_reducible refine Ax (by(with_reducible exact Ai (by assumption))) (fun hb=>?_));(try rw[hb]);(try simp only[Aa]at hb))|((with_reducible refine Aw (by first|(with_reducible assumption)|(with_reducible exact Ak (by assumption))|(with_reducible rfl)) (fun hb=>?_));(try rw[hb]);(try simp only[Aa]at hb))|((with_reducible refine Ac ?_ ?_);focus (and_intros<;>first|omega|kernel_rfl|(simp;done)))|((try dsimp only);(rw[B6 hd]))|((try dsimp only);rw[hw2]))
     all_goals(try(conv=>whnf))
     refine Round.by (q+1) ?_ ⟨by omega,hQ⟩ (by omega)
     try dsimp only
     show norm _ _=upd _ _
     kernel_rfl
   |1,_,hR=>
    replace hR:(if Ap3 el=true then true else false)=RES:=by rw[←hR];cases Ap3 el<;>rfl
    have hLm:(el.map Act.Bx).length=el.length:=Bh _;repeat'((conv=>whnf);first|((with_reducible refine A5 (fun hb=>?_) (fun hb=>?_))<;>first|(exfalso;((simp only[An]at hb<;>omega)))|((try rw[hb]);(try simp only[Aa]at hb)))|((with_reducible refine Ac ?_ ?_);focus (and_intros<;>first|omega|(with_reducible rfl)|kernel_rfl|(simp;done)))|(with_reducible intro Cq)|((try dsimp only);rw[hLm]))
    all_goals(try(conv=>whnf))
    refine Afm.by (X:=Nat) (fun q=>[(85,.v (ti (q:Int)))]) (fun q=>q≤el.length∧(if Ap3 (el.drop q)=true then true else false)=RES) (fun q=>el.length - q) 0 (by kernel_rfl) ⟨Cr _,hR⟩ ?_
    clear hR;rintro q ⟨hq,hQ⟩
    (try dsimp only at hq hQ ⊢)
    have hw2:IntKind.i64.wrap ((q:Int)+1)=((q+1:Nat):Int):=(Bf (by omega)).trans (by omega)
    by_cases hql:q<el.length
    case neg=>
     have h6:¬decide ((q:Int)<(el.length:Int))=true:=by simp;omega
     rw[Db (by omega)]at hQ
     replace hQ:(if(2:Nat)=0 then(if Ap3 th=true then true else Ap3 el)else if(2:Nat)=1 then Ap3 el else false)=RES:=hQ
     repeat'((conv=>whnf);((with_reducible refine Aw (by first|(with_reducible assumption)|(with_reducible exact Ak (by assumption))) (fun hb=>?_));(try rw[hb]);(try simp only[Aa]at hb)))
     all_goals(try(conv=>whnf))
     refine Round.by 2 ?_ ⟨by omega,hQ⟩ (by omega)
     try dsimp only
     show norm _ _=upd _ _
     kernel_rfl
    obtain⟨d,hd⟩:∃x,el[q]?=some x:=⟨_,Ae hql⟩;have h6:¬decide ((q:Int)<(el.length:Int))=false:=by simp;omega
    have hab:Ap3 (d::el.drop (q+1))=(if d.kind=1∧d.rev≠0 then true else Ap3 (el.drop (q+1))):=rfl
    have hdq:el.drop q=d::el.drop (q+1):=by rw[Cc hql];rw[Ae hql]at hd;cases hd;rfl
    rw[hdq,hab]at hQ;obtain⟨dk,⟨xf,xt⟩,Awk,dv,dr,dm⟩:=d;dsimp only at hQ;by_cases c1:dk=1
    ·by_cases c2:dr=0
     ·rw[show(if dk=1∧dr≠0 then true else Ap3 (el.drop (q+1)))=Ap3 (el.drop (q+1))from if_neg (fun c=>c.2 c2)]at hQ
      have gk:¬decide (dk=1)=false:=by simpa using c1
      have gr:¬(!decide (dr=0))=true:=by simpa using c2
      clear c1 c2;repeat'((conv=>whnf);first|((with_reducible refine Ax (by first|(with_reducible exact Ai (by assumption))|(with_reducible rfl)) (fun hb=>?_));(try rw[hb]);(try simp only[Aa]at hb);(try subst hb))|((with_reducible refine Aw (by first|(with_reducible assumption)|(with_reducible exact Ak (by assumption))) (fun hb=>?_));(try rw[hb]);(try simp only[Aa]at hb);(try subst hb))|((with_reducible refine Ac ?_ ?_);focus (and_intros<;>first|omega|kernel_rfl|(simp;done)))|((try dsimp only);(rw[B6 hd]))|((try dsimp only);rw[hw2]))
      all_goals(try(conv=>whnf))
      refine Round.by (q+1) ?_ ⟨by omega,hQ⟩ (by omega)
      try dsimp only
      show norm _ _=upd _ _
      kernel_rfl
     ·rw[show(if dk=1∧dr≠0 then true else Ap3 (el.drop (q+1)))=true from if_pos ⟨c1,c2⟩]at hQ
      have hQ:true=RES:=hQ;subst hQ;have gk:¬decide (dk=1)=false:=by simpa using c1
      have gr:¬(!decide (dr=0))=false:=by simpa using c2
      clear c1 c2;repeat'((conv=>whnf);first|((with_reducible refine Ax (by first|(with_reducible assumption)|(with_reducible exact Ai (by assumption))|(with_reducible rfl)) (fun hb=>?_));(try rw[hb]);(try simp only[Aa]at hb);(try subst hb))|((with_reducible refine Ac ?_ ?_);focus (and_intros<;>first|omega|kernel_rfl|(simp;done)))|((try dsimp only);(rw[B6 hd])))
      all_goals(try(conv=>whnf))
      (apply dKq<;>kernel_rfl)
    ·rw[show(if dk=1∧dr≠0 then true else Ap3 (el.drop (q+1)))=Ap3 (el.drop (q+1))from if_neg (fun c=>c1 c.1)]at hQ
     have gk:¬decide (dk=1)=true:=by simpa using c1
     clear c1;repeat'((conv=>whnf);first|((with_reducible refine Ax (by(with_reducible exact Ai (by assumption))) (fun hb=>?_));(try rw[hb]);(try simp only[Aa]at hb))|((with_reducible refine Aw (by first|(with_reducible assumption)|(with_reducible exact Ak (by assumption))|(with_reducible rfl)) (fun hb=>?_));(try rw[hb]);(try simp only[Aa]at hb))|((with_reducible refine Ac ?_ ?_);focus (and_intros<;>first|omega|kernel_rfl|(simp;done)))|((try dsimp only);(rw[B6 hd]))|((try dsimp only);rw[hw2]))
     all_goals(try(conv=>whnf))
     refine Round.by (q+1) ?_ ⟨by omega,hQ⟩ (by omega)
     try dsimp only
     show norm _ _=upd _ _
     kernel_rfl
   |y+3,hy,_=>omega
   |2,_,hR=>
    have hR:false=RES:=hR;rw[←hR]at hRK;have h0:∀d∈th++el,d.kind=1→d.rev=0:=fun d hd=>by
     split at hRK
     ·cases hRK
     ·rename_i hb1;rcases Bv.1 hd with hd|hd
      ·exact A75 (by simpa using hb1) d hd
      ·exact A75 hRK d hd
    obtain rfl:RN2=RN:=hgo hno h0;obtain⟨yes,O,C,e⟩:=RN2;dsimp only[Rn.sv]at ar ar2 ho1 ho2 hc1;have hso:=A9r O (by omega) (fun o ho=>Kq (ho2 o ho) (by omega))
    have hsc:=Bcf C (by omega)
    have gy:¬decide (yes=yes)=false:=by simp
    have ge:¬decide (e=e)=false:=by simp
    repeat'((conv=>whnf);first|((with_reducible refine A5 (fun hb=>?_) (fun hb=>?_))<;>first|(exfalso;((simp only[An]at hb<;>omega)))|((try rw[hb]);(try simp only[Aa]at hb)))|((with_reducible refine Ac ?_ ?_);focus (and_intros<;>first|omega|kernel_rfl|(simp;done)|decide)))
    all_goals(try(conv=>whnf))
    generalize hKK:F7 Tryd.prog _ _=KK;as_aux_lemma=>
     repeat'((conv=>whnf);first|((with_reducible refine Ac ?_ ?_);focus (and_intros<;>first|omega|(intro _ hh;cases hh;done)|(simp;done)))|((with_reducible refine Ct.mk ?_);refine⟨_,ar,?_⟩;rintro _ _ ⟨rfl,rfl⟩))
     all_goals(try(conv=>whnf))
     rw[←hKK];clear hKK;as_aux_lemma=>
      repeat'((conv=>whnf);((with_reducible refine Ac ?_ ?_);focus (and_intros<;>first|omega|kernel_rfl|exact Ah (by rfl)|(simp;done)|decide)))
      all_goals(try(conv=>whnf))
      generalize hKK:F7 Tryd.prog _ _=KK;as_aux_lemma=>
       repeat'((conv=>whnf);first|((with_reducible refine Ac ?_ ?_);focus (and_intros<;>first|(intro _ hh;cases hh;done)|(simp;done)))|((with_reducible refine Ct.mk ?_);refine⟨_,hwt,?_⟩;rintro _ _ ⟨rfl,rfl⟩))
       all_goals(try(conv=>whnf))
       rw[←hKK];clear hKK;as_aux_lemma=>
        repeat'((conv=>whnf);((with_reducible refine Ac ?_ ?_);focus (and_intros<;>first|omega|kernel_rfl|(simp;done)|decide)))
        all_goals(try(conv=>whnf))
        generalize hKK:F7 Tryd.prog _ _=KK;as_aux_lemma=>
         repeat'((conv=>whnf);first|((with_reducible refine Ac ?_ ?_);focus (and_intros<;>first|omega|(intro _ hh;cases hh;done)|(simp;done)))|((with_reducible refine Ct.mk ?_);refine⟨_,ar2,?_⟩;rintro _ _ ⟨rfl,rfl⟩))
         all_goals(try(conv=>whnf))
         rw[←hKK];clear hKK;as_aux_lemma=>
          repeat'((conv=>whnf);first|((with_reducible refine Ax (by first|(with_reducible exact Ai (by assumption))|(with_reducible rfl)) (fun hb=>?_));(try rw[hb]);(try simp only[Aa]at hb))|((with_reducible refine Ac ?_ ?_);focus (and_intros<;>first|(intro _ hh;cases hh;done)|(simp;done)|decide))|((with_reducible refine Ct.mk ?_);refine⟨_,hso,?_⟩;rintro _ _ ⟨rfl,rfl⟩)|((with_reducible refine Ct.mk ?_);refine⟨_,hsc,?_⟩;rintro _ _ ⟨rfl,rfl⟩))
          all_goals(try(conv=>whnf))
          all_goals(refine Am1.mk ⟨?_,by kernel_rfl⟩ (by kernel_rfl))
          all_goals rfl
theorem Bhb(w:List (List Ef))(t:Txn)(c:Ef)(hbd:t.ifs.length+t.th.length+t.el.length≤1000000000000000000):
 Fn Tryd.prog Atn [.v (.list (w.map fun l=>I.list (l.map Ef.Bx))),.v t.Bx,.v c.Bx] (Is (.v (.bool true)) [.no,.no,.no]):=by
 cases hz:(Az0 w 0).2 with
 |false=>exact A0x w t c hbd (.inl hz)
 |true=>
  cases hG:t.Axo with
  |true=>exact A0x w t c hbd (.inr (.inl hG))
  |false=>
   by_cases hcb:c.big
   ·exact A0x w t c hbd (.inr (.inr hcb))
   ·exact A9p w t c hbd hz hG hcb

open Go.ChangeShapes Go.Deep
inductive Sh where
 |int (k:IntKind)
 |bool
 |str
 |st (l:List Sh)
 |sl (sz:Nat) (e:Sh)
 |ar (sz n:Nat) (e:Sh)
 deriving Inhabited
mutual
def Sh.ok(P:Program):TypeId→Sh→Bool
 |t,.int k=>match P.underlying t with
  |some (.int k')=>k==k'
  |_=>false
 |t,.bool=>match P.underlying t with
  |some .bool=>true
  |_=>false
 |t,.str=>match P.underlying t with
  |some .string=>true
  |_=>false
 |t,.st l=>match P.underlying t with
  |some (.struct fs)=>Sh.oks P 0 (P.cellsOf t) fs.toList l
  |_=>false
 |t,.sl sz e=>match P.underlying t with
  |some (.slice e')=>P.cellsOf e'==sz&&sz != 0&&Sh.ok P e' e
  |_=>false
 |t,.ar sz n e=>match P.underlying t with
  |some (.array m e')=>P.cellsOf e'==sz&&m==n&&P.cellsOf t==n*sz&&Sh.ok P e' e
  |_=>false
def Sh.oks(P:Program):Nat→Nat→List Field→List Sh→Bool
 |off,tot,[],[]=>off==tot
 |off,tot,f::fs,s::l=>f.offset==off&&Sh.ok P f.type s&&Sh.oks P (off+P.cellsOf f.type) tot fs l
 |_,_,_,_=>false
end
mutual
def Fits:Sh→I→Prop
 | .int k,x=>∃n,x= .int k n∧(Lit.int k n).wf=true
 | .bool,x=>∃b,x= .bool b
 | .str,x=>∃s,x= .str s
 | .st l,x=>∃xs,x= .agg xs∧A9v l xs
 | .sl sz e,x=>∃xs,x= .list xs∧∀y∈xs,Fits e y∧y.size=sz
 | .ar sz n e,x=>∃xs,x= .arr sz xs∧xs.length=n∧∀y∈xs,Fits e y∧y.size=sz
def A9v:List Sh→List I→Prop
 | [],xs=>xs=[]
 |s::l,xs=>∃y ys,xs=y::ys∧Fits s y∧A9v l ys
end
def De(w:World):Mem:=fun b=>w.heap[b]?
section
variable{H:Type}{enc:TypeId × Value → H}{P:Program}{w:World}{base:Nat}{sp:Nat → Bool}{held:Bool}
theorem Su{a:Addr}{n:Nat}{cs:List Value}(h:w.cells? base a n=some cs)(h0:0<n):∃bl ty fz,a=⟨a.block,a.off,none⟩∧w.heap[a.block]?=some (.cells bl ty fz)∧a.off+n≤bl.size∧(bl.toList.drop a.off).take n=cs:=by
 obtain⟨_,hl,hc⟩:=World.cells?_some h;have Avj:∀i,i<n→∃v,w.cell? (a.add i)=some v:=fun i hi=>⟨cs[i]'(by omega),by rw[hc i hi,Ae]⟩
 obtain⟨v,hv⟩:=Avj 0 h0;unfold World.cell? at hv;rw[show a.add 0=a from by simp[Addr.add]]at hv
 split at hv
 ·rename_i bl ty fz hb;split at hv
  ·cases hv
  ·rename_i hs;have Aug:a.spot=none:=by cases hsp:a.spot<;>simp[hsp]at hs ⊢
   have A79:∀i,w.cell? (a.add i)=bl[a.off+i]?:=by
    intro i;unfold World.cell? Addr.add;by_cases hi:i=0
    ·simp[hi,hb,Aug]
    ·simp[hi,hb]
   have Hr:a.off+n≤bl.size:=by
    obtain⟨v',hv'⟩:=Avj (n - 1) (by omega)
    rw[A79]at hv';have:=(Ht.1 hv').1;omega
   refine⟨bl,ty,fz,?_,hb,Hr,?_⟩
   ·cases a;simp at Aug;simp[Aug]
   ·apply List.ext_getElem?;intro i;by_cases hi:i<n
    ·rw[Am5,if_pos hi,Ae3, ←hc i hi,A79];simp
    ·rw[Aic (by simp;omega),Aic (by omega)]
 ·cases hv
theorem F9.A8h{G:Mem}{sz:Nat}:∀{n:Nat} {cells:List Value} {p:I→Prop},n*sz≤cells.length→(∀i,i<n→∃x,D8 G x ((cells.drop (i*sz)).take sz)∧p x)→∃xs,xs.length=n∧F9 G xs (cells.take (n*sz))∧∀x∈xs,p x
 |0,cells,p,_,_=>⟨[],rfl,by simp[F9],by simp⟩
 |n+1,cells,p,hl,h=>by
  have hm:(n+1)*sz=sz+n*sz:=by rw[Aj7];omega
  obtain⟨x,h1,h2⟩:=h 0 (by omega)
  simp only[Nat.zero_mul,List.drop_zero]at h1;obtain⟨xs,h3,h4,h5⟩:=F9.A8h (sz:=sz) (n:=n) (cells:=cells.drop sz) (p:=p) (by rw[Ei];omega) fun i hi=>by
   obtain⟨y,g1,g2⟩:=h (i+1) (by omega)
   refine⟨y,?_,g2⟩;rw[List.drop_drop,show sz+i*sz=(i+1)*sz by rw[Aj7];omega]
   exact g1
  refine⟨x::xs,by simp[h3],?_,?_⟩
  ·rw[hm,List.take_add];simp only[F9];exact⟨_,_,rfl,h1,h4⟩
  ·intro y hy;rcases List.mem_cons.mp hy with rfl|hy
   ·exact h2
   ·exact h5 y hy
theorem Ab4:∀{l:List Sh} {fs:List Field} {off tot:Nat},Sh.oks P off tot fs l=true→off≤tot
 | [],[],_,_,h=>by simp only[Sh.oks,beq_iff_eq]at h;omega
 |s::l,f::fs,off,tot,h=>by
  simp only[Sh.oks,Ap]at h;have:=Ab4 h.2;omega
 | [],_::_,_,_,h=>by simp[Sh.oks]at h
 |_::_,[],_,_,h=>by simp[Sh.oks]at h
mutual
theorem A1n:∀(sh:Sh) {t:TypeId} {fuel:Nat} {cs:List Value} {x:DataW H × List MemPlace},sh.ok P t=true→DataW.trod enc P w base (fun _=>sp 0) held fuel t cs=some x→
 ∃y,D8 (De w) y cs∧Fits sh y
 | .int k,t,fuel,cs,x,ho,h=>by
   simp only[Sh.ok]at ho;split at ho
   ·rename_i k' ht;rw[beq_iff_eq]at ho;subst ho;obtain⟨n,rfl,_,hw⟩:=DataW.trod_int ht h;exact⟨.int k n,by simp[D8],n,rfl,hw⟩
   ·cases ho
 | .bool,t,fuel,cs,x,ho,h=>by
   simp only[Sh.ok]at ho;split at ho
   ·rename_i ht;obtain⟨b,rfl,_⟩:=DataW.trod_bool ht h;exact⟨.bool b,by simp[D8],b,rfl⟩
   ·cases ho
 | .str,t,fuel,cs,x,ho,h=>by
   simp only[Sh.ok]at ho;split at ho
   ·rename_i ht;obtain⟨s,rfl,_,hs⟩:=DataW.trod_string ht h;obtain⟨⟨s⟩⟩:=s;exact⟨.str s,by simp only[D8];exact⟨trivial,hs⟩,s,rfl⟩
   ·cases ho
 | .st l,t,fuel,cs,x,ho,h=>by
   simp only[Sh.ok]at ho;split at ho
   ·rename_i fs ht;cases fuel with
    |zero=>simp[DataW.trod]at h
    |succ fuel=>
     simp only[DataW.trod,ht]at h;split at h
     ·rename_i hl;obtain⟨xs,h1,_⟩:=Ad7.1 h;obtain⟨ys,h2,h3⟩:=A7y l (off:=0) ho h1;refine⟨.agg ys,?_,ys,rfl,h3⟩;simp only[D8];simpa[←hl]using h2
     ·cases h
   ·cases ho
 | .sl sz e,t,fuel,cs,x,ho,h=>by
   simp only[Sh.ok]at ho;split at ho
   ·rename_i e' ht;simp only[Ap,beq_iff_eq,bne_iff_ne,ne_eq]at ho;obtain⟨⟨Hr,hz⟩,he⟩:=ho;rcases open_slice ht h with⟨rfl,_⟩|⟨a,len,cap,m,n,D,Pl,rfl,_,hlc,hcm,hm,_,hx⟩
    ·exact⟨.list [],by simp only[D8];exact⟨none,0,rfl,Bz _,Cr _,.inl trivial⟩,[],rfl,by simp⟩
    ·by_cases h0:len=0
     ·subst h0;exact⟨.list [],by simp only[D8];exact⟨some a,cap,rfl,Cr _,hcm,.inl trivial⟩,[],rfl,by simp⟩
     ·have hmm:len≤m:=by subst hm;split<;>omega
      have Ars:∀i,i<len→∃cs' y,w.cells? base (a.add (i*sz)) sz=some cs'∧D8 (De w) y cs'∧Fits e y∧y.size=sz:=by
       intro i hi;obtain⟨cs',g1,g2⟩:=hx i (by omega)
       obtain⟨y,g3,g4⟩:=A1n e he g2;rw[Hr]at g1;have hlen:=(World.cells?_some g1).2.1;exact⟨cs',y,g1,g3,g4,by rw[←D8.length _ _ g3,hlen]⟩
      obtain⟨cs0,_,c1,_⟩:=Ars 0 (by omega)
      rw[Nat.zero_mul,show a.add 0=a by simp[Addr.add]]at c1
      obtain⟨bl,ty,fz,ha,hb,hs0,_⟩:=Su c1 (by omega)
      have hat:∀i,i<len→a.off+i*sz+sz≤bl.size∧∃y,D8 (De w) y (((bl.toList.drop a.off).drop (i*sz)).take sz)∧Fits e y∧y.size=sz:=by
       intro i hi;obtain⟨cs',y,g1,g2,g3,g4⟩:=Ars i hi;obtain⟨bl',ty',fz',k1,k2,k3,k4⟩:=Su g1 (by omega)
       have e1:(a.add (i*sz)).block=a.block:=by unfold Addr.add;split<;>rfl
       have e2:(a.add (i*sz)).off=a.off+i*sz:=by unfold Addr.add;split<;>rename_i hh<;>simp[hh]
       rw[e1,hb]at k2;cases k2;rw[e2]at k3 k4;refine⟨k3,y,?_,g3,g4⟩;rw[List.drop_drop,k4];exact g2
      have A23:=(hat (len - 1) (by omega)).1
      have hmul:(len - 1)*sz+sz=len*sz:=by
       obtain⟨q,rfl⟩:∃q,len=q+1:=⟨len - 1,by omega⟩
       rw[Amh,Aj7,Nat.one_mul]
      obtain⟨xs,x1,x2,x3⟩:=F9.A8h (G:=De w) (sz:=sz) (n:=len) (cells:=bl.toList.drop a.off) (p:=fun y=>Fits e y∧y.size=sz) (by simp;omega) fun i hi=>(hat i hi).2
      refine⟨.list xs,?_,xs,rfl,x3⟩;simp only[D8];refine⟨some a,cap,by rw[x1],by omega,hcm,.inr ⟨a.block,a.off,bl,ty,fz,sz,by rw[←ha],hb,fun y hy=>(x3 y hy).2,by rw[x1];omega,by rw[x1];exact x2⟩⟩
   ·cases ho
 | .ar sz n e,t,fuel,cs,x,ho,h=>by
   simp only[Sh.ok]at ho;split at ho
   ·rename_i m e' ht;simp only[Ap,beq_iff_eq]at ho;obtain⟨⟨⟨Hr,rfl⟩,Bui⟩,he⟩:=ho;obtain⟨xs,fu,rfl,_,hl,hxl,hx⟩:=DataW.trod_array ht h;rw[Bui]at hl;rw[Hr]at hx;obtain⟨ys,y1,y2,y3⟩:=F9.A8h (G:=De w) (sz:=sz) (n:=m) (cells:=cs) (p:=fun y=>Fits e y∧y.size=sz) (by omega) fun i hi=>by
     obtain⟨d,hd⟩:∃d,xs[i]?=some d:=⟨_,Ae (by omega)⟩
     have h1:=hx i hi;rw[hd]at h1;obtain⟨y,g1,g2⟩:=A1n e he h1;refine⟨y,g1,g2,?_⟩;rw[←D8.length _ _ g1,Hg,Ei];have:(i+1)*sz≤m*sz:=Jh _ (by omega)
     rw[Aj7,Nat.one_mul]at this;omega
    refine⟨.arr sz ys,?_,ys,rfl,y1,y3⟩;rw[Am2 (by omega)]at y2
    simp only[D8];exact⟨y2,fun y hy=>(y3 y hy).2⟩
   ·cases ho
theorem A7y:∀(l:List Sh) {fs:List Field} {off tot fuel:Nat} {cs:List Value} {xs:List (DataW H × List MemPlace)},Sh.oks P off tot fs l=true→
 (fs.mapM fun f=>DataW.trod enc P w base (fun _=>sp 0) held fuel f.type ((cs.drop f.offset).take (P.cellsOf f.type)))=some xs→∃ys,F9 (De w) ys ((cs.take tot).drop off)∧A9v l ys
 | [],fs,off,tot,fuel,cs,xs,ho,h=>by
   cases fs with
   |nil=>
    simp only[Sh.oks,beq_iff_eq]at ho;subst ho;exact⟨[],by simp[F9],rfl⟩
   |cons f fs=>simp[Sh.oks]at ho
 |s::l,fs,off,tot,fuel,cs,xs,ho,h=>by
  cases fs with
  |nil=>simp[Sh.oks]at ho
  |cons f fs=>
   simp only[Sh.oks,Ap,beq_iff_eq]at ho;obtain⟨⟨rfl,h1⟩,h2⟩:=ho;simp only[List.mapM_cons]at h;obtain⟨y,g1,g2⟩:=Ai7.1 h;obtain⟨z,g3,g4⟩:=Ai7.1 g2;obtain⟨u,g5,g6⟩:=A1n s h1 g1;obtain⟨us,g7,g8⟩:=A7y l (cs:=cs) h2 g3;refine⟨u::us,?_,u,us,rfl,g6,g8⟩;simp only[F9];have hle:=Ab4 h2;refine⟨_,_,?_,g5,g7⟩;have e1:(cs.drop f.offset).take (P.cellsOf f.type)=((cs.take tot).drop f.offset).take (P.cellsOf f.type):=by
    rw[List.drop_take,List.take_take,U6 (by omega)]
   rw[e1, ←List.drop_drop,Fj]
end
end
end Go.Ab
