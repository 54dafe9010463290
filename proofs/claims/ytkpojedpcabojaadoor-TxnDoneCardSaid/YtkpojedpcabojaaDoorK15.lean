/- Lemmas -/
import Derived.Test.YtkpojedpcabojaaDoorK13
set_option linter.unusedVariables false
set_option linter.unusedSimpArgs false
set_option maxRecDepth 100000
set_option maxHeartbeats 40000000
namespace Go.Ab
open Go.Proofs
theorem law_done_no(w:List (List Ef))(t:Txn)(hbd:t.ifs.length+t.th.length+t.el.length≤1000000000000000000)(h:(Az0 w 0).2=false∨t.Axo=true):
 Fn Tryd.prog F_exchequerlaw14_TxnDone [.v (.list (w.map fun l=>I.list (l.map Ef.Bx))),.v t.Bx] (Is (.v (.bool true)) [.no,.no]):=by
 refine of_exchequerlaw14_TxnDoneT ?_ (by simp)
 have hg:=Dm t hbd;have hbo:=A9i w 0;generalize Az0 w 0=Z at*;obtain⟨s,b⟩:=Z;unfold Axm at hbo;dsimp only at hbo h;generalize s.ref=R at*;have hcs:b=false∨(b=true∧t.Axo=true):=by
  cases b with
  |false=>exact .inl rfl
  |true=>exact .inr ⟨rfl,by rcases h with h|h;(cases h);exact h⟩
 clear h;rcases hcs with rfl|⟨rfl,h⟩
 rotate_left;rw[h]at hg;all_goals
  repeat'((conv=>whnf);first|((with_reducible refine A5 (fun hb=>?_) (fun hb=>?_))<;>first|(exact absurd hb (by decide))|((try rw[hb]);(try simp only[Aa]at hb)))|((with_reducible refine Ac ?_ ?_);focus (and_intros<;>first|(intro _ hh;cases hh;done)|decide))|((with_reducible refine Ct.mk ?_);refine⟨_,B0,?_⟩;rintro _ _ ⟨rfl,rfl⟩))
  all_goals(try(conv=>whnf))
  generalize hKK:F7 Tryd.prog _ _=KK;as_aux_lemma=>
   repeat'((conv=>whnf);first|((with_reducible refine Ac ?_ ?_);focus (and_intros<;>first|omega|kernel_rfl|(intro _ hh;cases hh;done)|(simp;done)))|((with_reducible refine Ct.mk ?_);refine⟨_,hbo,?_⟩;rintro _ _ ⟨rfl,rfl⟩))
   all_goals(try(conv=>whnf))
   rw[←hKK];clear hKK;as_aux_lemma=>
    repeat'((conv=>whnf);first|((with_reducible refine Ax (by first|(with_reducible assumption)|(with_reducible rfl)) (fun hb=>?_));(try rw[hb]);(try simp only[Aa]at hb))|((with_reducible refine Aw (by(with_reducible rfl)) (fun hb=>?_));(try rw[hb]);(try simp only[Aa]at hb))|((with_reducible refine A5 (fun hb=>?_) (fun hb=>?_))<;>first|(exact absurd hb (by decide))|((try rw[hb]);(try simp only[Aa]at hb)))|((with_reducible refine Ac ?_ ?_);focus (and_intros<;>first|omega|kernel_rfl|(intro _ hh;cases hh;done)|(simp;done)|decide))|((with_reducible refine Ct.mk ?_);refine⟨_,hg,?_⟩;rintro _ _ ⟨rfl,rfl⟩))
    all_goals(try(conv=>whnf))
    all_goals((apply dKq<;>kernel_rfl))
theorem Bg9{m:Nat}{s:Cn}(hI:Akb m s)(n:Az)(x:Sp):(s.Avs n x).length≤m:=by
 unfold Cn.Avs Cn.inX Lh;rw[Bh];exact Kq (List.length_filter_le _ _) (Kq (Anb _ _) hI.lb.len)
theorem Bht{m:Nat}{s:Cn}(hI:Akb m s)(n:Az)(d:Act):(s.Ayo n d).length≤m+1:=by
 unfold Cn.Ayo;split
 ·simp
 ·split
  ·rw[Bh];have:=Bg9 hI n d.x;omega
  ·simp
theorem Bas{α:Type}{b:Nat}:∀{l:List (List α)},(∀x∈l,x.length≤b)→l.flatten.length≤l.length*b
 | [],_=>by simp
 |x::r,h=>by
  have h1:=h x (B2 ..);have h2:=Bas (l:=r) fun y hy=>h y (B4 _ hy)
  rw[List.flatten_cons,Hq,Ho,Aj7];omega
theorem Bk4{m:Nat}{s:Cn}(hI:Akb m s){n:Az}{ifs:List Cm}{th el:List Act}:(s.runM n ifs th el).chs.length≤8*(m+1):=by
 by_cases he:(s.runM n ifs th el).e=0
 ·obtain⟨_,_,acts,_,h8,_,h2,_⟩:=Bhg he;rw[h2];have:=Bas (b:=m+1) (l:=acts.map (s.Ayo n)) fun x hx=>by obtain⟨d,_,rfl⟩:=X4.1 hx;exact Bht hI n d
  rw[Bh]at this;exact Kq this (Jh _ h8)
 ·rw[(Bdr he).2];simp
theorem spec_writeL{m:Nat}{s:Cn}{cs:List Ef}(h:Akb m s)(hm:m+cs.length≤81000)(n:Az)(hn:n.length≤1000)(hcs:cs.length≤40000):
 Fn Tryd.prog Da [sP s,.v (.str n),.v (.list (cs.map Ef.Bx))] (Is (.tup [.i (ti (s.Acg n cs).2.1),.i (ti (s.Acg n cs).2.2)]) [sP (s.Acg n cs).1,.no,.no]):=by
 unfold Cn.Acg;cases hf:s.fi n with
 |none=>exact Ai8 s n cs hf
 |some i=>
  dsimp only;cases hF:K6 cs []with
  |none=>exact Ae8 s n cs i hf hcs none rfl hF
  |some F=>
   have hrv:=h.rv n;exact Aa9 Aep Aex s n cs i hf hn hcs hm h.lb (h.tb n) (by omega) F (some F) rfl hF _ rfl
def lastQ(C:List Ef)(k:Az)(i q:Nat):Bool:=((C.drop (i+1)).take q).all fun d=> !decide (d.key=k)
theorem law_done_yes(w:List (List Ef))(t:Txn)(hbd:t.ifs.length+t.th.length+t.el.length≤1000000000000000000)(hz:(Az0 w 0).2=true)(hG:t.Axo=false):
 Fn Tryd.prog F_exchequerlaw14_TxnDone [.v (.list (w.map fun l=>I.list (l.map Ef.Bx))),.v t.Bx] (Is (.v (.bool true)) [.no,.no]):=by
 refine of_exchequerlaw14_TxnDoneT ?_ (by simp)
 have hg:=Dm t hbd;rw[hG]at hg;have hbo:=A9i w 0;obtain⟨m,hm,hI⟩:=Bfu w 0;generalize Az0 w 0=Z at*;obtain⟨s,b⟩:=Z;unfold Axm at hbo;dsimp only at hbo hz hI;subst hz;generalize s.ref=R at*;obtain⟨g1,g2,g3⟩:=Txn.Bhz hG;obtain⟨ifs,th,el⟩:=t;dsimp only at g1 g2 g3;have h8:=hI.len;have ar:=Aky hI.inv (by omega) hI.c tQ ifs th el (by omega) (by omega)
 by_cases he:(s.runM tQ ifs th el).e=0
 case neg=>
  have hC0:=(Bdr he).2;generalize s.runM tQ ifs th el=RN at*;obtain⟨yes,O,C,e⟩:=RN;dsimp only[Rn.sv]at ar hC0 he;subst hC0;have ge:¬(!decide (e=0))=false:=by simpa using he
  repeat'((conv=>whnf);first|((with_reducible refine A5 (fun hb=>?_) (fun hb=>?_))<;>first|(exact absurd hb (by decide))|((try rw[hb]);(try simp only[Aa]at hb)))|((with_reducible refine Ac ?_ ?_);focus (and_intros<;>first|(intro _ hh;cases hh;done)|decide))|((with_reducible refine Ct.mk ?_);refine⟨_,B0,?_⟩;rintro _ _ ⟨rfl,rfl⟩))
  all_goals(try(conv=>whnf))
  generalize hKK:F7 Tryd.prog _ _=KK;as_aux_lemma=>
   repeat'((conv=>whnf);first|((with_reducible refine Ac ?_ ?_);focus (and_intros<;>first|omega|kernel_rfl|(intro _ hh;cases hh;done)|(simp;done)))|((with_reducible refine Ct.mk ?_);refine⟨_,hbo,?_⟩;rintro _ _ ⟨rfl,rfl⟩))
   all_goals(try(conv=>whnf))
   rw[←hKK];clear hKK;as_aux_lemma=>
    repeat'((conv=>whnf);first|((with_reducible refine Aw (by first|(with_reducible assumption)|(with_reducible rfl)) (fun hb=>?_));(try rw[hb]);(try simp only[Aa]at hb))|((with_reducible refine A5 (fun hb=>?_) (fun hb=>?_))<;>first|(exact absurd hb (by decide))|((try rw[hb]);(try simp only[Aa]at hb)))|((with_reducible refine Ac ?_ ?_);focus (and_intros<;>first|omega|kernel_rfl|(intro _ hh;cases hh;done)|(simp;done)|decide))|((with_reducible refine Ct.mk ?_);refine⟨_,hg,?_⟩;rintro _ _ ⟨rfl,rfl⟩))
    all_goals(try(conv=>whnf))
    generalize hKK:F7 Tryd.prog _ _=KK;as_aux_lemma=>
     repeat'((conv=>whnf);first|((with_reducible refine Ac ?_ ?_);focus (and_intros<;>first|omega|(intro _ hh;cases hh;done)|(simp;done)))|((with_reducible refine Ct.mk ?_);refine⟨_,ar,?_⟩;rintro _ _ ⟨rfl,rfl⟩))
     all_goals(try(conv=>whnf))
     rw[←hKK];clear hKK;as_aux_lemma=>
      repeat'((conv=>whnf);first|((with_reducible refine Ax (by(with_reducible exact Ai (by assumption))) (fun hb=>?_));(try rw[hb]);(try simp only[Aa]at hb))|((with_reducible refine Ac ?_ ?_);focus (and_intros<;>(with_reducible rfl)))|(with_reducible intro Cq))
      all_goals(try(conv=>whnf))
      (apply dKq<;>kernel_rfl)
 obtain⟨⟨d1,d2⟩,d3⟩:=done_look hI.inv hI.c hI.k1 (n:=tQ) (ifs:=ifs) (th:=th) (el:=el) he;have hCl:=Bk4 hI.inv (n:=tQ) (ifs:=ifs) (th:=th) (el:=el);have hrv:=hI.inv.rv tQ;have A26:=spec_rev s tQ;have hwt:=spec_writeL (cs:=(s.runM tQ ifs th el).chs) hI.inv (by omega) tQ (by decide) (by omega)
 have hI2:=hI.inv.write tQ (s.runM tQ ifs th el).chs;generalize s.runM tQ ifs th el=RN at*;obtain⟨yes,O,C,e⟩:=RN;dsimp only[Rn.sv]at ar he d1 d2 d3 hCl hwt hI2;subst he;generalize s.Acg tQ C=Z at*;obtain⟨s',n,f⟩:=Z;dsimp only at d1 d2 d3 hwt hI2;subst d1;generalize (s.Zp tQ).rev=rev at*;have hCm:(C.map Ef.Bx).length=C.length:=Bh _;have hwr:IntKind.i64.wrap (rev+1)=rev+1:=Bf (by omega)
 have gn1:¬decide (n<rev)=true:=by rw[d2];split<;>simp<;>omega
 have gn2:¬decide (IntKind.i64.wrap (rev+1)<n)=true:=by rw[hwr,d2];split<;>simp<;>omega
 have gn3:decide (n=rev)=true→¬decide ((0:Int)<(C.length:Int))=true:=by
  intro h;rw[d2]at h;split at h
  ·rename_i hC;rw[hC];simp
  ·simp at h;omega
 clear d2;repeat'((conv=>whnf);first|((with_reducible refine A5 (fun hb=>?_) (fun hb=>?_))<;>first|(exact absurd hb (by decide))|((try rw[hb]);(try simp only[Aa]at hb)))|((with_reducible refine Ac ?_ ?_);focus (and_intros<;>first|(intro _ hh;cases hh;done)|decide))|((with_reducible refine Ct.mk ?_);refine⟨_,B0,?_⟩;rintro _ _ ⟨rfl,rfl⟩))
 all_goals(try(conv=>whnf))
 generalize hKK:F7 Tryd.prog _ _=KK;as_aux_lemma=>
  repeat'((conv=>whnf);first|((with_reducible refine Ac ?_ ?_);focus (and_intros<;>first|omega|kernel_rfl|(intro _ hh;cases hh;done)|(simp;done)))|((with_reducible refine Ct.mk ?_);refine⟨_,hbo,?_⟩;rintro _ _ ⟨rfl,rfl⟩))
  all_goals(try(conv=>whnf))
  rw[←hKK];clear hKK;as_aux_lemma=>
   repeat'((conv=>whnf);first|((with_reducible refine Aw (by first|(with_reducible assumption)|(with_reducible rfl)) (fun hb=>?_));(try rw[hb]);(try simp only[Aa]at hb))|((with_reducible refine A5 (fun hb=>?_) (fun hb=>?_))<;>first|(exact absurd hb (by decide))|((try rw[hb]);(try simp only[Aa]at hb)))|((with_reducible refine Ac ?_ ?_);focus (and_intros<;>first|omega|kernel_rfl|(intro _ hh;cases hh;done)|(simp;done)|decide))|((with_reducible refine Ct.mk ?_);refine⟨_,hg,?_⟩;rintro _ _ ⟨rfl,rfl⟩))
   all_goals(try(conv=>whnf))
   generalize hKK:F7 Tryd.prog _ _=KK;as_aux_lemma=>
    repeat'((conv=>whnf);first|((with_reducible refine Ac ?_ ?_);focus (and_intros<;>first|omega|(intro _ hh;cases hh;done)|(simp;done)))|((with_reducible refine Ct.mk ?_);refine⟨_,ar,?_⟩;rintro _ _ ⟨rfl,rfl⟩))
    all_goals(try(conv=>whnf))
    rw[←hKK];clear hKK;as_aux_lemma=>
     repeat'((conv=>whnf);first|((with_reducible refine A5 (fun hb=>?_) (fun hb=>?_))<;>first|(exact absurd hb (by decide))|((try rw[hb]);(try simp only[Aa]at hb)))|((with_reducible refine Ac ?_ ?_);focus (and_intros<;>first|kernel_rfl|(simp;done)|decide)))
     all_goals(try(conv=>whnf))
     generalize hKK:F7 Tryd.prog _ _=KK;as_aux_lemma=>
      repeat'((conv=>whnf);first|((with_reducible refine Ac ?_ ?_);focus (and_intros<;>first|(intro _ hh;cases hh;done)|(simp;done)))|((with_reducible refine Ct.mk ?_);refine⟨_,A26,?_⟩;rintro _ _ ⟨rfl,rfl⟩))
      all_goals(try(conv=>whnf))
      rw[←hKK];clear hKK;as_aux_lemma=>
       repeat'((conv=>whnf);((with_reducible refine Ac ?_ ?_);focus (and_intros<;>first|kernel_rfl|(simp;done)|decide)))
       all_goals(try(conv=>whnf))
       generalize hKK:F7 Tryd.prog _ _=KK;as_aux_lemma=>
        repeat'((conv=>whnf);first|((with_reducible refine Ac ?_ ?_);focus (and_intros<;>first|omega|(intro _ hh;cases hh;done)|(simp;done)))|((with_reducible refine Ct.mk ?_);refine⟨_,hwt,?_⟩;rintro _ _ ⟨rfl,rfl⟩))
        all_goals(try(conv=>whnf))
        rw[←hKK];clear hKK;as_aux_lemma=>
         have hd4:∀j c,C[j]?=some c→c.key.length≤64∧(lastQ C c.key j (C.length - (j+1))=true→∃P,s'.An4 tQ (Arf c.key) 0 1=(P,false,0)∧(if c.gone=true then P=[]else ∃a b,P=[⟨c.key,c.val,a,b⟩])):=fun j c hj=>by
          obtain⟨e1,e2⟩:=d3 j c hj;refine⟨e1,fun hl=>e2 fun d hd=>?_⟩
          unfold lastQ at hl;rw[Am2 (by rw[Ei];omega),Aia]at hl
          simpa using hl d hd
         have By0:C.length≤40000:=by omega
         have hm2:101*m+C.length+1≤80000:=by omega
         clear d3 hCl;have gn7:¬decide (n=rev)=true∨(¬decide (n=rev)=false∧¬decide ((0:Int)<((C.map Ef.Bx).length:Int))=true):=by
          cases hnr:decide (n=rev)with
          |true=>exact .inr ⟨by simp,by rw[hCm];exact gn3 hnr⟩
          |false=>exact .inl (by simp)
         clear gn3;rcases gn7 with gn5|⟨gn5,gn6⟩
         all_goals(
          repeat'((conv=>whnf);first|((with_reducible refine Ax (by first|(with_reducible exact Ai (by assumption))|(with_reducible rfl)) (fun hb=>?_));(try rw[hb]);(try simp only[Aa]at hb);(try subst hb))|((with_reducible refine Aw (by first|(with_reducible assumption)|(with_reducible exact Ak (by assumption))|(with_reducible rfl)) (fun hb=>?_));(try rw[hb]);(try simp only[Aa]at hb))|((with_reducible refine A5 (fun hb=>?_) (fun hb=>?_))<;>first|(exact absurd hb (by decide))|((try rw[hb]);(try simp only[Aa]at hb)))|((with_reducible refine Ac ?_ ?_);focus (and_intros<;>(with_reducible rfl)))|(with_reducible intro Cq)|((try dsimp only);rw[hCm]))
          all_goals(try(conv=>whnf)))
         all_goals
          refine Afm.by (X:=Nat) (fun j=>[(107,.v (ti (j:Int)))]) (fun j=>j≤C.length) (fun j=>C.length - j) 0 (by kernel_rfl) (Cr _) ?_
          rintro j hj
          (try dsimp only at hj ⊢)
          by_cases hjl:j<C.length
          case neg=>
           have h3:¬decide ((j:Int)<(C.length:Int))=true:=by simp;omega
           repeat'((conv=>whnf);((with_reducible refine Aw (by first|(with_reducible assumption)|(with_reducible exact Ak (by assumption))) (fun hb=>?_));(try rw[hb]);(try simp only[Aa]at hb)))
           all_goals(try(conv=>whnf))
           (apply dKq<;>kernel_rfl)
          have hw:IntKind.i64.wrap ((j:Int)+1)=((j+1:Nat):Int):=(Bf (by omega)).trans (by omega)
          obtain⟨c,hc⟩:∃x,C[j]?=some x:=⟨_,Ae hjl⟩;have h3:¬decide ((j:Int)<(C.length:Int))=false:=by simp;omega
          obtain⟨e1,e2⟩:=hd4 j c hc;obtain⟨ck,cv,cg⟩:=c;dsimp only at e1 e2;repeat'((conv=>whnf);first|((with_reducible refine Ax (by(with_reducible exact Ai (by assumption))) (fun hb=>?_));(try rw[hb]);(try simp only[Aa]at hb))|((with_reducible refine Ac ?_ ?_);focus (and_intros<;>first|omega|(with_reducible rfl)|kernel_rfl|exact size_map (fun _=>rfl)))|(with_reducible intro Cq)|((try dsimp only);(rw[B6 hc]))|((try dsimp only);rw[hCm])|(skip;rw[hw]))
          all_goals(try(conv=>whnf))
          obtain⟨D,hD⟩:∃D,D=C.drop (j+1):=⟨_,rfl⟩;have hDg:∀q d,D[q]?=some d→C[j+1+q]?=some d:=fun q d h=>by rw[hD,Ae3]at h;exact h
          have hDl:D.length=C.length - (j+1):=by rw[hD,Ei]
          have hDD:List.drop ((j+1:Nat):Int).toNat (List.take ((C.length:Nat):Int).toNat (C.map Ef.Bx))=D.map Ef.Bx:=by rw[←hCm,Anj,Anj,Aoy, ←List.map_drop,hD]
          have hDm:(D.map Ef.Bx).length=D.length:=Bh _;have hlq:∀q d,D[q]?=some d→lastQ C ck j (q+1)=(lastQ C ck j q&& !decide (d.key=ck)):=fun q d h=>by
           unfold lastQ;rw[←hD,Amx,h,List.all_append];simp
          have hl0:lastQ C ck j 0=true:=by unfold lastQ;rw[List.take_zero];rfl
          have hlD:lastQ C ck j (C.length - (j+1))=lastQ C ck j D.length:=by rw[hDl]
          rw[hlD]at e2;have hrg:Fn Tryd.prog C9 [sP s',.v (.str tQ),.v (.agg [.str ck,.str (ck++[0])]),.v (ti 0),.v (ti 1)] (Is (.tup [.i (.list ((s'.An4 tQ (Arf ck) 0 1).1.map Pr.Bx)),.i (.bool (s'.An4 tQ (Arf ck) 0 1).2.1),.i (ti (s'.An4 tQ (Arf ck) 0 1).2.2)]) [sP s',.no,.no,.no,.no]):=Aff hI2 (by omega) tQ (by decide) (Arf ck) 0 1
          have hln:ck.length+[(0:UInt8)].length≤maxLen:=by simp[maxLen];omega
          clear hd4;simp only[hDD];refine Afm.by (X:=Nat) (fun q=>[(117,.v (ti (q:Int))),(19,.v (.bool (lastQ C ck j q)))]) (fun q=>q≤D.length) (fun q=>D.length - q) 0 (by rw[hl0];kernel_rfl) (Cr _) ?_
          rintro q hq
          (try dsimp only at hq ⊢)
          by_cases hql:q<D.length
          ·have hwq:IntKind.i64.wrap ((q:Int)+1)=((q+1:Nat):Int):=(Bf (by omega)).trans (by omega)
           obtain⟨d,hd⟩:∃x,D[q]?=some x:=⟨_,Ae hql⟩;have h5:¬decide ((q:Int)<(D.length:Int))=false:=by simp;omega
           have hlq1:=hlq q d hd;obtain⟨dk,dv,dg⟩:=d;dsimp only at hlq1;cases hb1:lastQ C ck j q with
           |false=>
            rw[hb1]at hlq1;repeat'((conv=>whnf);first|((with_reducible refine Ax (by first|(with_reducible assumption)|((with_reducible refine decide_eq_true ?_);omega)) (fun hb=>?_));(try rw[hb]);(try simp only[Aa]at hb))|((with_reducible refine Aw (by first|(with_reducible assumption)|(with_reducible rfl)) (fun hb=>?_));(try rw[hb]);(try simp only[Aa]at hb))|((with_reducible refine Ac ?_ ?_);focus (and_intros<;>first|omega|kernel_rfl))|((try dsimp only);(rw[B6 hd]))|(skip;rw[hDm])|(skip;rw[hwq]))
            all_goals(try(conv=>whnf))
            refine Round.by (q+1) ?_ (by omega) (by omega)
            try dsimp only
            rw[hlq1];show norm _ _=upd _ _
            kernel_rfl
           |true=>
            rw[hb1]at hlq1;repeat'((conv=>whnf);first|((with_reducible refine Ax (by first|(with_reducible assumption)|((with_reducible refine decide_eq_true ?_);omega)|(with_reducible rfl)) (fun hb=>?_));(try rw[hb]);(try simp only[Aa]at hb))|((with_reducible refine Ac ?_ ?_);focus (and_intros<;>first|omega|kernel_rfl|(simp;done)))|((try dsimp only);(rw[B6 hd]))|((try dsimp only);rw[hDm])|(skip;rw[hwq]))
            all_goals(try(conv=>whnf))
            refine Round.by (q+1) ?_ (by omega) (by omega)
            try dsimp only
            rw[hlq1,Bool.true_and];show norm _ _=upd _ _
            kernel_rfl
          have h5:¬decide ((q:Int)<(D.length:Int))=true:=by simp;omega
          obtain rfl:q=D.length:=by omega
          cases hb1:lastQ C ck j D.length with
          |false=>
           repeat'((conv=>whnf);first|((with_reducible refine Ax (by first|(with_reducible assumption)|((with_reducible refine decide_eq_true ?_);omega)) (fun hb=>?_));(try rw[hb]);(try simp only[Aa]at hb))|((with_reducible refine Aw (by first|(with_reducible assumption)|((with_reducible refine decide_eq_false ?_);omega)|(with_reducible rfl)) (fun hb=>?_));(try rw[hb]);(try simp only[Aa]at hb))|((with_reducible refine Ac ?_ ?_);focus (and_intros<;>first|omega|kernel_rfl|(intro _ hh;cases hh;done)|(simp;done)|decide))|((with_reducible refine Ai2.mkV ?_ ?_ ?_ (fun Cq=>?_));(focus (as_aux_lemma=>kernel_rfl));(focus (as_aux_lemma=>kernel_rfl));(focus (as_aux_lemma=>kernel_rfl));(try simp only[Bv,Bg,Dg,or_false,false_or,or_assoc,forall_eq_or_imp,forall_eq,false_implies,implies_true,forall_const,and_true,true_and]at Cq))|((try dsimp only);rw[hDm])|((with_reducible refine Ct.mk ?_);refine⟨_,hrg,?_⟩;rintro _ _ ⟨rfl,rfl⟩)|(skip;rw[hw]))
           all_goals(try(conv=>whnf))
           all_goals first
            |(exfalso;omega)
            |(refine Round.by (j+1) ?_ (by omega) (by omega)
              try dsimp only
              show norm _ _=upd _ _
              kernel_rfl)
          |true=>
           obtain⟨P,hP1,hP2⟩:=e2 hb1;rw[hP1]at hrg;dsimp only at hrg;cases cg with
           |true=>
            rw[if_pos rfl]at hP2;subst hP2;repeat'((conv=>whnf);first|((with_reducible refine Ax (by first|(with_reducible assumption)|((with_reducible refine decide_eq_true ?_);omega)|(with_reducible rfl)) (fun hb=>?_));(try rw[hb]);(try simp only[Aa]at hb))|((with_reducible refine Aw (by first|(with_reducible assumption)|((with_reducible refine decide_eq_false ?_);omega)|(with_reducible rfl)) (fun hb=>?_));(try rw[hb]);(try simp only[Aa]at hb))|((with_reducible refine A5 (fun hb=>?_) (fun hb=>?_))<;>first|(exfalso;((simp only[An]at hb<;>omega)))|((try rw[hb]);(try simp only[Aa]at hb)))|((with_reducible refine Ac ?_ ?_);focus (and_intros<;>first|omega|(with_reducible rfl)|kernel_rfl|(intro _ hh;cases hh;done)|(simp;done)|decide))|((with_reducible refine Ai2.mkV ?_ ?_ ?_ (fun Cq=>?_));(focus (as_aux_lemma=>kernel_rfl));(focus (as_aux_lemma=>kernel_rfl));(focus (as_aux_lemma=>kernel_rfl));(try simp only[Bv,Bg,Dg,or_false,false_or,or_assoc,forall_eq_or_imp,forall_eq,false_implies,implies_true,forall_const,and_true,true_and]at Cq))|((try dsimp only);rw[hDm])|((with_reducible refine Ct.mk ?_);refine⟨_,hrg,?_⟩;rintro _ _ ⟨rfl,rfl⟩)|((try dsimp only);rw[hw]))
            all_goals(try(conv=>whnf))
            all_goals first
             |(exfalso;omega)
             |(refine Round.by (j+1) ?_ (by omega) (by omega)
               try dsimp only
               show norm _ _=upd _ _
               kernel_rfl)
           |false=>
            rw[if_neg (by simp)]at hP2
            obtain⟨pa,pb,rfl⟩:=hP2;have gv:¬(!decide (cv=cv))=true:=by simp
            repeat'((conv=>whnf);first|((with_reducible refine Ax (by first|(with_reducible assumption)|((with_reducible refine decide_eq_true ?_);omega)|(with_reducible rfl)) (fun hb=>?_));(try rw[hb]);(try simp only[Aa]at hb))|((with_reducible refine Aw (by first|(with_reducible assumption)|(with_reducible exact Ak (by assumption))|((with_reducible refine decide_eq_false ?_);omega)|(with_reducible rfl)) (fun hb=>?_));(try rw[hb]);(try simp only[Aa]at hb))|((with_reducible refine A5 (fun hb=>?_) (fun hb=>?_))<;>first|(exfalso;((simp only[An]at hb<;>omega)))|((try rw[hb]);(try simp only[Aa]at hb)))|((with_reducible refine Ac ?_ ?_);focus (and_intros<;>first|omega|(with_reducible rfl)|kernel_rfl|(intro _ hh;cases hh;done)|(simp;done)|decide))|((with_reducible refine Ai2.mkV ?_ ?_ ?_ (fun Cq=>?_));(focus (as_aux_lemma=>kernel_rfl));(focus (as_aux_lemma=>kernel_rfl));(focus (as_aux_lemma=>kernel_rfl));(try simp only[Bv,Bg,Dg,or_false,false_or,or_assoc,forall_eq_or_imp,forall_eq,false_implies,implies_true,forall_const,and_true,true_and]at Cq))|((try dsimp only);rw[hDm])|((with_reducible refine Ct.mk ?_);refine⟨_,hrg,?_⟩;rintro _ _ ⟨rfl,rfl⟩)|((try dsimp only);rw[hw]))
            all_goals(try(conv=>whnf))
            all_goals first
             |(exfalso;omega)
             |(refine Round.by (j+1) ?_ (by omega) (by omega)
               try dsimp only
               show norm _ _=upd _ _
               kernel_rfl)
theorem law_done(w:List (List Ef))(t:Txn)(hbd:t.ifs.length+t.th.length+t.el.length≤1000000000000000000):
 Fn Tryd.prog F_exchequerlaw14_TxnDone [.v (.list (w.map fun l=>I.list (l.map Ef.Bx))),.v t.Bx] (Is (.v (.bool true)) [.no,.no]):=by
 cases hz:(Az0 w 0).2 with
 |false=>exact law_done_no w t hbd (.inl hz)
 |true=>
  cases hG:t.Axo with
  |true=>exact law_done_no w t hbd (.inr hG)
  |false=>exact law_done_yes w t hbd hz hG
end Go.Ab
