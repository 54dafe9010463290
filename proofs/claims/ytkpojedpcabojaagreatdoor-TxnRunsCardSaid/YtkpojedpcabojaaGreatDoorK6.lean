/- Lemmas -/
import Derived.Test.YtkpojedpcabojaaGreatDoorK11
set_option linter.unusedVariables false
set_option linter.unusedSimpArgs false
set_option maxRecDepth 100000
set_option maxHeartbeats 40000000
namespace Go.Ab
open Go.Proofs
theorem Apv(s:Cn)(n:Az)(x:Sp):(s.An4 n x 0 1).1.length≤1:=by
 unfold Cn.An4;split
 ·simp
 ·split
  ·simp
  ·split
   ·simp
   ·split
    ·simp
    ·have:=B8 (n:=n) (x:=x) (rev:=if(0:Int)=0 then(s.Zp n).rev else 0) (l:=s.l.drop (Km (Kh (B7 n [])) s.l)) (out:=[]) (most:=1) (by simp)
     dsimp only;omega
theorem Apz{m:Nat}{s:Cn}(hI:Akb m s)(hm:m≤80000)(n:Az)(hn:n.length≤1000)(ifs:List Cm)(hl:ifs.length≤1000)(hk:∀c∈ifs,c.key.length≤1000):
 Fn Tryz.prog Apf [sP s,.v (.str n),.v (.list (ifs.map Cm.Bx))] (Is (.v (.bool (s.Aqu n ifs))) [sP s,.no,.no]):=by
 refine Ao2 ?_ (by simp)
 have hl1:(ifs.map Cm.Bx).length=ifs.length:=Bh _;obtain⟨C4,Ajz⟩:∃R,s.Aqu n ifs=R:=⟨_,rfl⟩;rw[Ajz];repeat'((conv=>whnf);first|(with_reducible refine Ac ?_ ?_);focus (and_intros<;>(with_reducible rfl))|with_reducible intro Cq|(try dsimp only);rw[hl1])
 all_goals(try(conv=>whnf))
 refine Afm.by (X:=Nat) (fun j=>[(16,.v (ti (j:Int)))]) (fun j=>j≤ifs.length∧s.Aqu n (ifs.drop j)=C4) (fun j=>ifs.length - j) 0 (by kernel_rfl) ⟨Cr _,Ajz⟩ ?_
 rintro j ⟨hj,hR⟩
 (try dsimp only at hj hR ⊢)
 have hw:=zwj (j:=j) (by omega)
 by_cases hjl:j<ifs.length
 case neg=>
  have h3:¬decide ((j:Int)<(ifs.length:Int))=true:=by simp;omega
  rw[Db (by omega)]at hR
  have hR:true=C4:=hR;subst hR;repeat'((conv=>whnf);((with_reducible refine Aw (by(with_reducible exact Ak (by assumption))) fun hb=>?_);(try rw[hb]);(try simp only[Aa]at hb)))
  all_goals(try(conv=>whnf))
  (apply Dj<;>kernel_rfl)
 obtain⟨c,hc⟩:∃x,ifs[j]?=some x:=⟨_,Ae hjl⟩;have h3:¬decide ((j:Int)<(ifs.length:Int))=false:=by simp;omega
 have hdr:ifs.drop j=c::ifs.drop (j+1):=by rw[Cc hjl];rw[Ae hjl]at hc;cases hc;rfl
 have hkc:=hk c (Cb hc);rw[hdr]at hR;unfold Cn.Aqu at hR;have Atw:=Akx c.key (by omega)
 have hrg:Fn Tryz.prog C9 [sP s,.v (.str n),.v (.agg [.str c.key,.str (c.key++[0])]),.v (ti 0),.v (ti 1)] (Is (.tup [.i (.list ((s.An4 n (Arf c.key) 0 1).1.map Pr.Bx)),.i (.bool (s.An4 n (Arf c.key) 0 1).2.1),.i (ti (s.An4 n (Arf c.key) 0 1).2.2)]) [sP s,.no,.no,.no,.no]):=Aff hI hm n hn (Arf c.key) 0 1;have hP1:=Apv s n (Arf c.key);unfold Cn.Be4 at hR;generalize s.An4 n (Arf c.key) 0 1=Z at*;obtain⟨P,mo,er⟩:=Z;dsimp only at hR hrg hP1;obtain⟨ck,cw,cr,cv⟩:=c;dsimp only at hR hrg Atw;generalize hX:s.Aqu n (ifs.drop (j+1))=NX at hR;generalize Bzf:ck++[(0:UInt8)]=ck0 at Atw hrg
 match P,hP1 with
 | [],_=>
   by_cases c1:cw=1
   ·subst c1;have hR:false=C4:=hR;subst hR;repeat'((conv=>whnf);first|(with_reducible first|refine Ax (by exact Ai (by assumption)) fun hb=>?_|refine Aw (by first|assumption|rfl) fun hb=>?_);(try rw[hb]);try simp only[Aa]at hb|((with_reducible refine A5 (fun hb=>?_) fun hb=>?_)<;>first|exact absurd hb (by decide)|(try rw[hb]);(try simp only[Aa]at hb);(try(with_reducible exact absurd trivial hb)))|(with_reducible refine Ac ?_ ?_);focus (and_intros<;>first|omega|with_reducible rfl|kernel_rfl|intro _ hh;cases hh;done|simp;done|decide)|with_reducible intro Cq|(with_reducible refine Ai2.mkV ?_ ?_ ?_ fun Cq=>?_);(iterate 3 focus (as_aux_lemma=>kernel_rfl));try simp only[zRL]at Cq|(try dsimp only);rw[B6 hc]|(with_reducible refine Ct.mk ?_);(first|refine⟨_,Atw,?_⟩|refine⟨_,hrg,?_⟩);rintro _ _ ⟨rfl,rfl⟩)
    all_goals(try(conv=>whnf))
    (apply Dj<;>kernel_rfl)
   have g1:¬decide (cw=1)=true:=by simpa using c1
   by_cases c2:cw=2
   ·subst c2
    replace hR:NX=C4:=hR
    repeat'((conv=>whnf);first|(with_reducible first|refine Ax (by exact Ai (by assumption)) fun hb=>?_|refine Aw (by exact Ak (by assumption)) fun hb=>?_);(try rw[hb]);try simp only[Aa]at hb|((with_reducible refine A5 (fun hb=>?_) fun hb=>?_)<;>first|exact absurd hb (by decide)|(try rw[hb]);(try simp only[Aa]at hb);(try(with_reducible exact absurd trivial hb)))|(with_reducible refine Ac ?_ ?_);focus (and_intros<;>first|omega|with_reducible rfl|kernel_rfl|intro _ hh;cases hh;done|simp;done|decide)|with_reducible intro Cq|(try dsimp only);rw[B6 hc]|(with_reducible refine Ct.mk ?_);(first|refine⟨_,Atw,?_⟩|refine⟨_,hrg,?_⟩);rintro _ _ ⟨rfl,rfl⟩|(try dsimp only);rw[hw])
    all_goals(try(conv=>whnf))
    refine Round.by (j+1) ?_ ⟨by omega,hX.trans hR⟩ (by omega)
    try dsimp only
    show norm _ _=Cx _ _
    kernel_rfl
   have g2:¬decide (cw=2)=true:=by simpa using c2
   by_cases c3:cw=3
   ·subst c3;by_cases c0:cr=0
    ·subst c0
     replace hR:NX=C4:=hR
     repeat'((conv=>whnf);first|(with_reducible first|refine Ax (by first|exact Ai (by assumption)|rfl) fun hb=>?_|refine Aw (by first|exact Ak (by assumption)|rfl) fun hb=>?_);(try rw[hb]);try simp only[Aa]at hb|((with_reducible refine A5 (fun hb=>?_) fun hb=>?_)<;>first|exact absurd hb (by decide)|(try rw[hb]);(try simp only[Aa]at hb);(try(with_reducible exact absurd trivial hb)))|(with_reducible refine Ac ?_ ?_);focus (and_intros<;>first|omega|with_reducible rfl|kernel_rfl|intro _ hh;cases hh;done|simp;done|decide)|with_reducible intro Cq|(with_reducible refine Ai2.mkV ?_ ?_ ?_ fun Cq=>?_);(iterate 3 focus (as_aux_lemma=>kernel_rfl));try simp only[zRL]at Cq|(try dsimp only);rw[B6 hc]|(with_reducible refine Ct.mk ?_);(first|refine⟨_,Atw,?_⟩|refine⟨_,hrg,?_⟩);rintro _ _ ⟨rfl,rfl⟩|(try dsimp only);rw[hw])
     all_goals(try(conv=>whnf))
     refine Round.by (j+1) ?_ ⟨by omega,hX.trans hR⟩ (by omega)
     try dsimp only
     show norm _ _=Cx _ _
     kernel_rfl
    ·have g0:¬(!decide (cr=0))=false:=by simpa using c0
     have hR:false=C4:=by rw[←hR];simp[Ed,c0]
     subst hR;repeat'((conv=>whnf);first|(with_reducible first|refine Ax (by first|exact Ai (by assumption)|rfl) fun hb=>?_|refine Aw (by first|assumption|exact Ak (by assumption)|rfl) fun hb=>?_);(try rw[hb]);try simp only[Aa]at hb|((with_reducible refine A5 (fun hb=>?_) fun hb=>?_)<;>first|exact absurd hb (by decide)|(try rw[hb]);(try simp only[Aa]at hb);(try(with_reducible exact absurd trivial hb)))|(with_reducible refine Ac ?_ ?_);focus (and_intros<;>first|omega|with_reducible rfl|kernel_rfl|intro _ hh;cases hh;done|simp;done|decide)|with_reducible intro Cq|(with_reducible refine Ai2.mkV ?_ ?_ ?_ fun Cq=>?_);(iterate 3 focus (as_aux_lemma=>kernel_rfl));try simp only[zRL]at Cq|(try dsimp only);rw[B6 hc]|(with_reducible refine Ct.mk ?_);(first|refine⟨_,Atw,?_⟩|refine⟨_,hrg,?_⟩);rintro _ _ ⟨rfl,rfl⟩)
     all_goals(try(conv=>whnf))
     (apply Dj<;>kernel_rfl)
   have g3:¬decide (cw=3)=true:=by simpa using c3
   have hR:false=C4:=by rw[←hR];simp[Ed,c1,c2,c3]
   subst hR;by_cases c4:cw=4
   ·subst c4;repeat'((conv=>whnf);first|(with_reducible first|refine Ax (by exact Ai (by assumption)) fun hb=>?_|refine Aw (by first|assumption|exact Ak (by assumption)|rfl) fun hb=>?_);(try rw[hb]);try simp only[Aa]at hb|((with_reducible refine A5 (fun hb=>?_) fun hb=>?_)<;>first|exact absurd hb (by decide)|(try rw[hb]);(try simp only[Aa]at hb);(try(with_reducible exact absurd trivial hb)))|(with_reducible refine Ac ?_ ?_);focus (and_intros<;>first|omega|with_reducible rfl|kernel_rfl|intro _ hh;cases hh;done|simp;done|decide)|with_reducible intro Cq|(with_reducible refine Ai2.mkV ?_ ?_ ?_ fun Cq=>?_);(iterate 3 focus (as_aux_lemma=>kernel_rfl));try simp only[zRL]at Cq|(try dsimp only);rw[B6 hc]|(with_reducible refine Ct.mk ?_);(first|refine⟨_,Atw,?_⟩|refine⟨_,hrg,?_⟩);rintro _ _ ⟨rfl,rfl⟩)
    all_goals(try(conv=>whnf))
    (apply Dj<;>kernel_rfl)
   have g4:¬decide (cw=4)=true:=by simpa using c4
   repeat'((conv=>whnf);first|(with_reducible first|refine Ax (by exact Ai (by assumption)) fun hb=>?_|refine Aw (by first|assumption|exact Ak (by assumption)) fun hb=>?_);(try rw[hb]);try simp only[Aa]at hb|((with_reducible refine A5 (fun hb=>?_) fun hb=>?_)<;>first|exact absurd hb (by decide)|(try rw[hb]);try simp only[Aa]at hb)|(with_reducible refine Ac ?_ ?_);focus (and_intros<;>first|omega|with_reducible rfl|kernel_rfl|intro _ hh;cases hh;done|simp;done|decide)|with_reducible intro Cq|(try dsimp only);rw[B6 hc]|(with_reducible refine Ct.mk ?_);(first|refine⟨_,Atw,?_⟩|refine⟨_,hrg,?_⟩);rintro _ _ ⟨rfl,rfl⟩)
   all_goals(try(conv=>whnf))
   (apply Dj<;>kernel_rfl)
 | [p],_=>
   obtain⟨pk,pv,pm,pr⟩:=p;by_cases c1:cw=1
   ·subst c1;by_cases c0:pv=cv
    ·have g0:¬(!decide (pv=cv))=true:=by simpa using c0
     replace hR:NX=C4:=by rw[←hR];simp[Ed,c0]
     repeat'((conv=>whnf);first|(with_reducible refine Ax (by first|exact Ai (by assumption)|rfl) fun hb=>?_);(try rw[hb]);try simp only[Aa]at hb|(with_reducible refine Aw (by exact Ak (by assumption)) fun hb=>?_);(try rw[hb]);(try simp only[Aa]at hb);try subst hb|((with_reducible refine A5 (fun hb=>?_) fun hb=>?_)<;>first|exfalso;((simp only[An]at hb<;>omega))|(try rw[hb]);(try simp only[Aa]at hb);(try(with_reducible exact absurd trivial hb)))|(with_reducible refine Ac ?_ ?_);focus (and_intros<;>first|omega|with_reducible rfl|kernel_rfl|intro _ hh;cases hh;done|simp;done|decide)|with_reducible intro Cq|(with_reducible refine Ai2.mkV ?_ ?_ ?_ fun Cq=>?_);(iterate 3 focus (as_aux_lemma=>kernel_rfl));try simp only[zRL]at Cq|(try dsimp only);rw[B6 hc]|(with_reducible refine Ct.mk ?_);(first|refine⟨_,Atw,?_⟩|refine⟨_,hrg,?_⟩);rintro _ _ ⟨rfl,rfl⟩|(try dsimp only);rw[hw])
     all_goals(try(conv=>whnf))
     refine Round.by (j+1) ?_ ⟨by omega,hX.trans hR⟩ (by omega)
     try dsimp only
     show norm _ _=Cx _ _
     kernel_rfl
    ·have g0:¬(!decide (pv=cv))=false:=by simpa using c0
     have hR:false=C4:=by rw[←hR];simp[Ed,c0]
     subst hR;repeat'((conv=>whnf);first|(with_reducible refine Ax (by first|exact Ai (by assumption)|rfl) fun hb=>?_);(try rw[hb]);try simp only[Aa]at hb|((with_reducible refine A5 (fun hb=>?_) fun hb=>?_)<;>first|exfalso;((simp only[An]at hb<;>omega))|(try rw[hb]);(try simp only[Aa]at hb);(try(with_reducible exact absurd trivial hb)))|(with_reducible refine Ac ?_ ?_);focus (and_intros<;>first|omega|with_reducible rfl|kernel_rfl|intro _ hh;cases hh;done|simp;done|decide)|with_reducible intro Cq|(with_reducible refine Ai2.mkV ?_ ?_ ?_ fun Cq=>?_);(iterate 3 focus (as_aux_lemma=>kernel_rfl));try simp only[zRL]at Cq|(try dsimp only);rw[B6 hc]|(with_reducible refine Ct.mk ?_);(first|refine⟨_,Atw,?_⟩|refine⟨_,hrg,?_⟩);rintro _ _ ⟨rfl,rfl⟩)
     all_goals(try(conv=>whnf))
     (apply Dj<;>kernel_rfl)
   have g1:¬decide (cw=1)=true:=by simpa using c1
   by_cases c2:cw=2
   ·subst c2;have hR:false=C4:=hR;subst hR;repeat'((conv=>whnf);first|(with_reducible first|refine Ax (by exact Ai (by assumption)) fun hb=>?_|refine Aw (by first|assumption|exact Ak (by assumption)) fun hb=>?_);(try rw[hb]);try simp only[Aa]at hb|((with_reducible refine A5 (fun hb=>?_) fun hb=>?_)<;>first|exfalso;((simp only[An]at hb<;>omega))|(try rw[hb]);(try simp only[Aa]at hb);(try(with_reducible exact absurd trivial hb)))|(with_reducible refine Ac ?_ ?_);focus (and_intros<;>first|omega|with_reducible rfl|kernel_rfl|intro _ hh;cases hh;done|simp;done|decide)|with_reducible intro Cq|(try dsimp only);rw[B6 hc]|(with_reducible refine Ct.mk ?_);(first|refine⟨_,Atw,?_⟩|refine⟨_,hrg,?_⟩);rintro _ _ ⟨rfl,rfl⟩)
    all_goals(try(conv=>whnf))
    (apply Dj<;>kernel_rfl)
   have g2:¬decide (cw=2)=true:=by simpa using c2
   by_cases c3:cw=3
   ·subst c3;by_cases c0:pr=cr
    ·have g0:¬(!decide (pr=cr))=true:=by simpa using c0
     have g5:¬decide (pr=cr)=false:=by simpa using c0
     replace hR:NX=C4:=by rw[←hR];simp[Ed,c0]
     repeat'((conv=>whnf);first|(with_reducible refine Ax (by first|exact Ai (by assumption)|rfl) fun hb=>?_);(try rw[hb]);(try simp only[Aa]at hb);try subst hb|(with_reducible refine Aw (by exact Ak (by assumption)) fun hb=>?_);(try rw[hb]);try simp only[Aa]at hb|((with_reducible refine A5 (fun hb=>?_) fun hb=>?_)<;>first|exact absurd hb (by decide)|exfalso;((simp only[An]at hb<;>omega))|(try rw[hb]);(try simp only[Aa]at hb);(try(with_reducible exact absurd trivial hb)))|(with_reducible refine Ac ?_ ?_);focus (and_intros<;>first|omega|with_reducible rfl|kernel_rfl|intro _ hh;cases hh;done|simp;done|decide)|with_reducible intro Cq|(with_reducible refine Ai2.mkV ?_ ?_ ?_ fun Cq=>?_);(iterate 3 focus (as_aux_lemma=>kernel_rfl));try simp only[zRL]at Cq|(try dsimp only);rw[B6 hc]|(with_reducible refine Ct.mk ?_);(first|refine⟨_,Atw,?_⟩|refine⟨_,hrg,?_⟩);rintro _ _ ⟨rfl,rfl⟩|(try dsimp only);rw[hw])
     all_goals(try(conv=>whnf))
     refine Round.by (j+1) ?_ ⟨by omega,hX.trans hR⟩ (by omega)
     try dsimp only
     show norm _ _=Cx _ _
     kernel_rfl
    ·have g0:¬(!decide (pr=cr))=false:=by simpa using c0
     have g5:¬decide (pr=cr)=true:=by simpa using c0
     have hR:false=C4:=by rw[←hR];simp[Ed,c0]
     subst hR;repeat'((conv=>whnf);first|(with_reducible first|refine Ax (by first|exact Ai (by assumption)|rfl) fun hb=>?_|refine Aw (by first|assumption|exact Ak (by assumption)|rfl) fun hb=>?_);(try rw[hb]);try simp only[Aa]at hb|((with_reducible refine A5 (fun hb=>?_) fun hb=>?_)<;>first|exact absurd hb (by decide)|exfalso;((simp only[An]at hb<;>omega))|(try rw[hb]);(try simp only[Aa]at hb);(try(with_reducible exact absurd trivial hb)))|(with_reducible refine Ac ?_ ?_);focus (and_intros<;>first|omega|with_reducible rfl|kernel_rfl|intro _ hh;cases hh;done|simp;done|decide)|with_reducible intro Cq|(with_reducible refine Ai2.mkV ?_ ?_ ?_ fun Cq=>?_);(iterate 3 focus (as_aux_lemma=>kernel_rfl));try simp only[zRL]at Cq|(try dsimp only);rw[B6 hc]|(with_reducible refine Ct.mk ?_);(first|refine⟨_,Atw,?_⟩|refine⟨_,hrg,?_⟩);rintro _ _ ⟨rfl,rfl⟩)
     all_goals(try(conv=>whnf))
     (apply Dj<;>kernel_rfl)
   have g3:¬decide (cw=3)=true:=by simpa using c3
   by_cases c4:cw=4
   ·subst c4;by_cases c0:pr<cr
    ·have g0:¬(!decide (pr<cr))=true:=by simpa using c0
     replace hR:NX=C4:=by rw[←hR];simp[Ed,c0]
     repeat'((conv=>whnf);first|(with_reducible first|refine Ax (by first|exact Ai (by assumption)|rfl) fun hb=>?_|refine Aw (by exact Ak (by assumption)) fun hb=>?_);(try rw[hb]);try simp only[Aa]at hb|((with_reducible refine A5 (fun hb=>?_) fun hb=>?_)<;>first|exfalso;((simp only[An]at hb<;>omega))|(try rw[hb]);(try simp only[Aa]at hb);(try(with_reducible exact absurd trivial hb)))|(with_reducible refine Ac ?_ ?_);focus (and_intros<;>first|omega|with_reducible rfl|kernel_rfl|intro _ hh;cases hh;done|simp;done|decide)|with_reducible intro Cq|(with_reducible refine Ai2.mkV ?_ ?_ ?_ fun Cq=>?_);(iterate 3 focus (as_aux_lemma=>kernel_rfl));try simp only[zRL]at Cq|(try dsimp only);rw[B6 hc]|(with_reducible refine Ct.mk ?_);(first|refine⟨_,Atw,?_⟩|refine⟨_,hrg,?_⟩);rintro _ _ ⟨rfl,rfl⟩|(try dsimp only);rw[hw])
     all_goals(try(conv=>whnf))
     refine Round.by (j+1) ?_ ⟨by omega,hX.trans hR⟩ (by omega)
     try dsimp only
     show norm _ _=Cx _ _
     kernel_rfl
    ·have g0:¬(!decide (pr<cr))=false:=by simpa using c0
     have hR:false=C4:=by rw[←hR];simp[Ed,c0]
     subst hR;repeat'((conv=>whnf);first|(with_reducible first|refine Ax (by first|exact Ai (by assumption)|rfl) fun hb=>?_|refine Aw (by first|assumption|exact Ak (by assumption)) fun hb=>?_);(try rw[hb]);try simp only[Aa]at hb|((with_reducible refine A5 (fun hb=>?_) fun hb=>?_)<;>first|exfalso;((simp only[An]at hb<;>omega))|(try rw[hb]);(try simp only[Aa]at hb);(try(with_reducible exact absurd trivial hb)))|(with_reducible refine Ac ?_ ?_);focus (and_intros<;>first|omega|with_reducible rfl|kernel_rfl|intro _ hh;cases hh;done|simp;done|decide)|with_reducible intro Cq|(with_reducible refine Ai2.mkV ?_ ?_ ?_ fun Cq=>?_);(iterate 3 focus (as_aux_lemma=>kernel_rfl));try simp only[zRL]at Cq|(try dsimp only);rw[B6 hc]|(with_reducible refine Ct.mk ?_);(first|refine⟨_,Atw,?_⟩|refine⟨_,hrg,?_⟩);rintro _ _ ⟨rfl,rfl⟩)
     all_goals(try(conv=>whnf))
     (apply Dj<;>kernel_rfl)
   have g4:¬decide (cw=4)=true:=by simpa using c4
   have hR:false=C4:=by rw[←hR];simp[Ed,c1,c2,c3,c4]
   subst hR;repeat'((conv=>whnf);first|(with_reducible first|refine Ax (by exact Ai (by assumption)) fun hb=>?_|refine Aw (by first|assumption|exact Ak (by assumption)) fun hb=>?_);(try rw[hb]);try simp only[Aa]at hb|((with_reducible refine A5 (fun hb=>?_) fun hb=>?_)<;>first|exact absurd hb (by decide)|(try rw[hb]);try simp only[Aa]at hb)|(with_reducible refine Ac ?_ ?_);focus (and_intros<;>first|omega|with_reducible rfl|kernel_rfl|intro _ hh;cases hh;done|simp;done|decide)|with_reducible intro Cq|(try dsimp only);rw[B6 hc]|(with_reducible refine Ct.mk ?_);(first|refine⟨_,Atw,?_⟩|refine⟨_,hrg,?_⟩);rintro _ _ ⟨rfl,rfl⟩)
   all_goals(try(conv=>whnf))
   (apply Dj<;>kernel_rfl)
 |_::_::_,h=>simp at h

open Go.Proofs
theorem Anc{m:Nat}{s:Cn}(hI:Akb m s)(hm:m≤80000)(hC:Atm s)(n:Az)(hn:n.length≤1000)(hf:(s.fi n).isSome=true)(x:Sp)(hx:SpR x):
 Fn Tryz.prog Aqg [sP s,.v (.str n),.v x.Bx] (Is (.v (.list ((s.Avs n x).map I.str))) [sP s,.no,.no]):=by
 refine Apu ?_ (by simp)
 have hN:=Am7 hI hC n;have hlb:=hI.lb.len;obtain⟨E,hE⟩:∃E,s.inX n x=E:=⟨_,rfl⟩;have hEl:E.length≤80000:=by
  rw[←hE];unfold Cn.inX;exact Kq (List.length_filter_le _ _) (by have:=hN.len;omega)
 have Bs2:∀p∈E,p.1.length≤64:=fun p hp=>by
  rw[←hE]at hp;exact hN.k64 p (Ajh.1 hp).1
 have Beo:=fun q hq=>Asc hI hC hf hx (q:=q) hq
 unfold Cn.Avs;rw[hE]at Beo ⊢;rw[show(E.map (·.1)).map I.str=E.map fun p=>I.str p.1 by rw[List.map_map];rfl]
 obtain⟨xf,xt⟩:=x;dsimp only at Beo
 (skip)
 all_goals(try(conv=>whnf))
 refine Afm.by (X:=Nat × Bool × Az) (fun y=>[(8,.v (.bool y.2.1)),(7,.vec 9 1 ((E.take y.1).map fun p=>I.str p.1)),(5,.box (T.one (F.i (Sp.mk y.2.2 xt).Bx)))]) (fun y=>y.1≤E.length∧y.2.2=H7 ⟨xf,xt⟩ E y.1∧(if y.2.1=true then(y.1=0∨y.1<E.length)else y.1=E.length)) (fun y=>(E.length - y.1)+(if y.2.1=true then 1 else 0)) (0,true,xf) (by kernel_rfl) ⟨Cr _,rfl,by simp⟩ ?_
 rintro⟨q,mo,FR⟩ ⟨hq,hF,hmo⟩
 (try dsimp only at hq hF hmo ⊢)
 cases mo with
 |false=>
  have hmo:q=E.length:=by simpa using hmo
  subst hmo;rw[List.take_length];repeat'((conv=>whnf);first|(with_reducible refine Aw (by rfl) fun hb=>?_);(try rw[hb]);try simp only[Aa]at hb|(with_reducible refine Ac ?_ ?_);focus (and_intros<;>first|omega|with_reducible rfl|simp;done))
  all_goals(try(conv=>whnf))
  (apply Dj<;>kernel_rfl)
 |true=>
  have hmo:q=0∨q<E.length:=by simpa using hmo
  have hrg:=Aff hI hm n hn ⟨FR,xt⟩ 0 16;have hpg:=Beo q hmo;rw[←hF]at hpg;rw[hpg]at hrg;dsimp only at hrg;obtain⟨AL,hAL⟩:∃A,A=(E.drop q).take 16:=⟨_,rfl⟩;have hAl:AL.length=min 16 (E.length - q):=by rw[hAL,Hg,Ei]
  have hAg:∀j p,AL[j]?=some p→E[q+j]?=some p:=fun j p hj=>by
   rw[hAL,Am5]at hj;split at hj
   ·rw[Ae3]at hj;exact hj
   ·cases hj
  rw[←hAL]at hrg;obtain⟨MO,hMO⟩:∃M,M=decide (16<(E.drop q).length):=⟨_,rfl⟩;rw[←hMO]at hrg;rw[Ei]at hMO;have hAP:∀j p,AL[j]?=some p→(AL.map Ayx)[j]?=some (Ayx p):=fun j p hj=>by rw[Ev,hj];rfl
  have Bm4:(AL.map Ayx).length=AL.length:=Bh _;generalize AL.map Ayx=AP at hrg hAP Bm4;have Bs0:(AP.map Pr.Bx).length=AL.length:=by rw[Bh,Bm4]
  repeat'((conv=>whnf);first|(with_reducible refine Ax (by first|assumption|rfl) fun hb=>?_);(try rw[hb]);try simp only[Aa]at hb|(with_reducible refine Ac ?_ ?_);focus (and_intros<;>first|omega|with_reducible rfl|kernel_rfl|intro _ hh;cases hh;done|simp;done|decide)|with_reducible intro Cq|(with_reducible refine Ct.mk ?_);refine⟨_,hrg,?_⟩;rintro _ _ ⟨rfl,rfl⟩|(try dsimp only);rw[Bs0])
  all_goals(try(conv=>whnf))
  refine Afm.by (X:=Nat × Az) (fun y=>[(23,.v (ti (y.1:Int))),(7,.vec 9 1 ((E.take (q+y.1)).map fun p=>I.str p.1)),(5,.box (T.one (F.i (Sp.mk y.2 xt).Bx)))]) (fun y=>y.1≤AL.length∧y.2=H7 ⟨xf,xt⟩ E (q+y.1)) (fun y=>AL.length - y.1) (0,FR) (by kernel_rfl) ⟨Cr _,hF⟩ ?_
  rintro⟨j,F2⟩ ⟨hj,hF2⟩
  (try dsimp only at hj hF2 ⊢)
  have hwj:=zwj (j:=j) (by omega)
  by_cases hjl:j<AL.length
  case neg=>
   have h3:¬decide ((j:Int)<(AL.length:Int))=true:=by simp;omega
   obtain rfl:j=AL.length:=by omega
   repeat'((conv=>whnf);((with_reducible refine Aw (by(with_reducible exact Ak (by assumption))) fun hb=>?_);(try rw[hb]);(try simp only[Aa]at hb)))
   all_goals(try(conv=>whnf))
   refine Round.by (q+AL.length,MO,F2) ?_ ⟨(by show q+AL.length≤E.length;omega),hF2,?_⟩ ?_
   ·try dsimp only
    show norm _ _=Cx _ _
    kernel_rfl
   ·cases MO with
    |true=>
     have:16<E.length - q:=by simpa using hMO.symm
     show q+AL.length=0∨q+AL.length<E.length;omega
    |false=>
     have:¬16<E.length - q:=by simpa using hMO.symm
     show q+AL.length=E.length;omega
   ·cases MO with
    |true=>
     have:16<E.length - q:=by simpa using hMO.symm
     simp;omega
    |false=>
     simp;omega
  obtain⟨p,hp'⟩:∃x,AL[j]?=some x:=⟨_,Ae hjl⟩;have h3:¬decide ((j:Int)<(AL.length:Int))=false:=by simp;omega
  have hpE:=hAg j p hp';have ho:=hAP j p hp';have h64:=Bs2 p (Cb hpE);have hnF:=Ajo (x:=⟨xf,xt⟩) hpE;have hT:(E.take (q+j+1)).map (fun p=>I.str p.1)=(E.take (q+j)).map (fun p=>I.str p.1)++[.str p.1]:=by rw[Amx,hpE];simp
  have hTl:((E.take (q+j)).map fun p=>I.str p.1).length≤80000:=by simp;omega
  obtain⟨pk,⟨pr,pm,pv,pg2⟩⟩:=p;dsimp only[Ayx]at ho h64 hnF hT;have hln:pk.length+[(0:UInt8)].length≤maxLen:=by simp[maxLen];omega
  repeat'((conv=>whnf);first|(with_reducible refine Ax (by first|assumption|exact Ai (by assumption)) fun hb=>?_);(try rw[hb]);try simp only[Aa]at hb|(with_reducible refine Ac ?_ ?_);focus (and_intros<;>first|omega|with_reducible rfl|kernel_rfl|exact Ah (by rfl)|simp only[An];omega|simp;done)|(try dsimp only);(first|rw[B6 ho]|rw[hwj]))
  all_goals(try(conv=>whnf))
  refine Round.by (j+1,pk++[0]) ?_ ⟨by omega,hnF.symm⟩ (by dsimp only;omega)
  try dsimp only
  rw[show q+(j+1)=q+j+1 from rfl,hT];show norm _ _=Cx _ _
  kernel_rfl
end Go.Ab
