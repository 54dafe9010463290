/- Lemmas -/
import Derived.Test.YtkpojedpcabojaaDoorK3
set_option linter.unusedVariables false
set_option linter.unusedSimpArgs false
set_option maxRecDepth 100000
set_option maxHeartbeats 40000000
namespace Go.Ab
open Go.Proofs
abbrev spsI(l:List Sp):List I:=l.map Sp.toI
theorem Cx(l:List Sp)(x:Sp):spsI l++[x.toI]=spsI (l++[x]):=by simp[spsI]
theorem Akx(k:Az)(h:k.length≤100000):Fn Tryd.prog Am0 [.v (.str k)] (Is (.v (.agg [.str k,.str (k++[0])])) [.no]):=Ary k h
def C4:List Act→List Sp→List Sp
 | [],o=>o
 |d::r,o=>C4 r (if d.kind=1 then o++[d.x]else o)
def Cp:List Act→List Sp→List Sp
 | [],o=>o
 |d::r,o=>Cp r (if d.kind=2 then o++[spK1 d.key]else if d.kind=3 then o++[d.x]else o)
theorem Aj5:∀{l:List Act} {o:List Sp},C4 l o=o++l.filterMap Ana
 | [],o=>by simp[C4]
 |d::r,o=>by
  unfold C4;rw[Aj5,List.filterMap_cons];unfold Ana;split<;>simp
theorem Ago:∀{l:List Act} {o:List Sp},Cp l o=o++l.filterMap Aiy
 | [],o=>by simp[Cp]
 |d::r,o=>by
  unfold Cp;rw[Ago,List.filterMap_cons];unfold Aiy;split
  ·simp
  ·split<;>simp
theorem Amk(ifs:List Cm)(th el:List Act)(hl:ifs.length+th.length+el.length≤1000)(hk:∀c∈ifs,c.key.length≤1000):
 Fn Tryd.prog Apg [.v (.list (ifs.map Cm.toI)),.v (.list (th.map Act.toI)),.v (.list (el.map Act.toI))] (Is (.v (.list (spsI (C3 ifs th el)))) [.no,.no,.no]):=by
 refine Ao3 ?_ (by simp)
 have hl1:(ifs.map Cm.toI).length=ifs.length:=List.length_map _;obtain⟨RES,hRES⟩:∃R,C3 ifs th el=R:=⟨_,rfl⟩;rw[hRES];repeat'((conv=>whnf);first|((with_reducible refine Exists.intro ?_ ?_);focus (and_intros<;>(with_reducible rfl)))|(with_reducible intro hfact)|((try dsimp only);rw[hl1]))
 all_goals(try(conv=>whnf))
 refine LoopWq.by (X:=Nat × List Sp) (fun y=>[(14,.v (ti (y.1:Int))),(7,.vec Dt 2 (spsI y.2))]) (fun y=>y.1≤ifs.length∧y.2=(ifs.take y.1).map fun c=>spK1 c.key) (fun y=>ifs.length - y.1) (0,[]) (by kernel_rfl) ⟨Nat.zero_le _,rfl⟩ ?_
 rintro⟨j,OUT⟩ ⟨hj,hO⟩
 (try dsimp only at hj hO ⊢)
 have hw:IntKind.i64.wrap ((j:Int)+1)=((j+1:Nat):Int):=(Bf (by omega)).trans (by omega)
 have hOl:(spsI OUT).length≤1000:=by rw[hO];simp[spsI];omega
 have hOl1:OUT.length≤1000:=by rw[hO];simp;omega
 by_cases hjl:j<ifs.length
 ·obtain⟨c,hc⟩:∃x,ifs[j]?=some x:=⟨_,List.getElem?_eq_getElem hjl⟩;have h3:¬decide ((j:Int)<(ifs.length:Int))=false:=by simp;omega
  have hkc:=hk c (List.mem_of_getElem? hc);have hnx:OUT++[spK1 c.key]=(ifs.take (j+1)).map fun c=>spK1 c.key:=by rw[List.take_add_one,hc,hO];simp
  obtain⟨ck,cw,cr,cv⟩:=c;dsimp only at hkc hnx;have hkey:=Akx ck (by omega)
  have hcv:(Cm.mk ck cw cr cv).toI= .agg [.str ck,ti cw,ti cr,.str cv]:=rfl;repeat'((conv=>whnf);first|((with_reducible refine Ax (by(with_reducible exact Bool.of_not_eq_false (by assumption))) (fun hb=>?_));(try rw[hb]);(try simp only[Aa]at hb))|((with_reducible refine Exists.intro ?_ ?_);focus (and_intros<;>first|omega|(with_reducible rfl)|kernel_rfl|(intro _ hh;cases hh;done)|exact Ah (by rfl)|(simp only[An];omega)|(simp;done)|decide))|((try dsimp only);(rw[B6 hc]))|((with_reducible refine CallWp.mk ?_);refine⟨_,hkey,?_⟩;rintro _ _ ⟨rfl,rfl⟩)|((try dsimp only);rw[hw]))
  all_goals(try(conv=>whnf))
  refine Round.by (j+1,OUT++[spK1 ck]) ?_ ⟨by omega,hnx⟩ (by dsimp only;omega)
  try dsimp only
  rw[←Cx];show norm _ _=upd _ _
  kernel_rfl
 have h3:¬decide ((j:Int)<(ifs.length:Int))=true:=by simp;omega
 rw[List.take_of_length_le (by omega)]at hO
 have hcc:=Gy th el (by omega)
 have hL:((th++el).map Act.toI).length=(th++el).length:=List.length_map _;have hLl:(th++el).length≤1000:=by rw[List.length_append];omega
 have hR:C4 (th++el) OUT=RES:=by rw[Aj5,hO, ←hRES];rfl
 clear hRES;generalize hAL:th++el=L at*;repeat'((conv=>whnf);first|((with_reducible refine Aw (by(with_reducible exact Bool.of_not_eq_true (by assumption))) (fun hb=>?_));(try rw[hb]);(try simp only[Aa]at hb))|((with_reducible refine Exists.intro ?_ ?_);focus (and_intros<;>first|(with_reducible rfl)|kernel_rfl|(intro _ hh;cases hh;done)|exact Ah (by rfl)|(simp;done)|decide))|(with_reducible intro hfact)|((with_reducible refine CallWp.mk ?_);refine⟨_,hcc,?_⟩;rintro _ _ ⟨rfl,rfl⟩)|((try dsimp only);rw[hL]))
 all_goals(try(conv=>whnf))
 refine LoopWq.by (X:=Nat × List Sp) (fun y=>[(30,.v (ti (y.1:Int))),(7,.vec Dt 2 (spsI y.2))]) (fun y=>y.1≤L.length∧y.2.length≤1000+y.1∧C4 (L.drop y.1) y.2=RES) (fun y=>L.length - y.1) (0,OUT) (by kernel_rfl) ⟨Nat.zero_le _,(by show OUT.length≤1000+0;simpa[spsI]using hOl),hR⟩ ?_
 rintro⟨q,O2⟩ ⟨hq,hO2,hQ⟩
 (try dsimp only at hq hO2 hQ ⊢)
 have hwq:IntKind.i64.wrap ((q:Int)+1)=((q+1:Nat):Int):=(Bf (by omega)).trans (by omega)
 have hOl2:(spsI O2).length≤2000:=by simp[spsI];omega
 by_cases hql:q<L.length
 case neg=>
  have h5:¬decide ((q:Int)<(L.length:Int))=true:=by simp;omega
  rw[List.drop_eq_nil_of_le (by omega)]at hQ
  have hQ:O2=RES:=hQ;subst hQ;repeat'((conv=>whnf);first|((with_reducible refine Aw (by(with_reducible exact Bool.of_not_eq_true (by assumption))) (fun hb=>?_));(try rw[hb]);(try simp only[Aa]at hb))|((with_reducible refine Exists.intro ?_ ?_);focus (and_intros<;>first|omega|(with_reducible rfl)|(simp;done))))
  all_goals(try(conv=>whnf))
  (apply dKq<;>kernel_rfl)
 obtain⟨d,hd⟩:∃x,L[q]?=some x:=⟨_,List.getElem?_eq_getElem hql⟩;have h5:¬decide ((q:Int)<(L.length:Int))=false:=by simp;omega
 have hdr:L.drop q=d::L.drop (q+1):=by rw[List.drop_eq_getElem_cons hql];rw[List.getElem?_eq_getElem hql]at hd;cases hd;rfl
 rw[hdr]at hQ;unfold C4 at hQ;obtain⟨dk,⟨xf,xt⟩,dkey,dv,dr,dm⟩:=d;dsimp only at hQ;by_cases k1:dk=1
 ·subst k1;rw[if_pos rfl]at hQ;repeat'((conv=>whnf);first|((with_reducible refine Ax (by(with_reducible exact Bool.of_not_eq_false (by assumption))) (fun hb=>?_));(try rw[hb]);(try simp only[Aa]at hb))|((with_reducible refine And.intro (fun hb=>?_) (fun hb=>?_))<;>(((try rw[hb]);(try simp only[Aa]at hb);(try(with_reducible exact absurd trivial hb)))))|((with_reducible refine Exists.intro ?_ ?_);focus (and_intros<;>first|omega|(with_reducible rfl)|kernel_rfl|exact Ah (by rfl)|(simp only[An];omega)|(simp;done)))|((try dsimp only);(rw[B6 hd]))|((try dsimp only);rw[hwq]))
  all_goals(try(conv=>whnf))
  refine Round.by (q+1,O2++[⟨xf,xt⟩]) ?_ ⟨by omega,by simp;omega,hQ⟩ (by dsimp only;omega)
  try dsimp only
  rw[←Cx];show norm _ _=upd _ _
  kernel_rfl
 ·rw[if_neg k1]at hQ;have g1:¬decide (dk=1)=true:=by simpa using k1
  repeat'((conv=>whnf);first|((with_reducible refine Ax (by(with_reducible exact Bool.of_not_eq_false (by assumption))) (fun hb=>?_));(try rw[hb]);(try simp only[Aa]at hb))|((with_reducible refine Aw (by(with_reducible exact Bool.of_not_eq_true (by assumption))) (fun hb=>?_));(try rw[hb]);(try simp only[Aa]at hb))|((with_reducible refine Exists.intro ?_ ?_);focus (and_intros<;>first|omega|kernel_rfl|(simp;done)))|((try dsimp only);(rw[B6 hd]))|((try dsimp only);rw[hwq]))
  all_goals(try(conv=>whnf))
  refine Round.by (q+1,O2) ?_ ⟨by omega,by dsimp only;omega,hQ⟩ (by dsimp only;omega)
  try dsimp only
  show norm _ _=upd _ _
  kernel_rfl
theorem Akz(th el:List Act)(hl:th.length+el.length≤1000)(hk:∀c∈th++el,c.key.length≤1000):
 Fn Tryd.prog Aoi [.v (.list (th.map Act.toI)),.v (.list (el.map Act.toI))] (Is (.v (.list (spsI (B9 th el)))) [.no,.no]):=by
 refine Aob ?_ (by simp)
 obtain⟨RES,hRES⟩:∃R,B9 th el=R:=⟨_,rfl⟩;rw[hRES];have hcc:=Gy th el (by omega)
 have hL:((th++el).map Act.toI).length=(th++el).length:=List.length_map _;have hLl:(th++el).length≤1000:=by rw[List.length_append];omega
 have hR:Cp (th++el) []=RES:=by rw[Ago, ←hRES];rfl
 clear hRES;generalize hAL:th++el=L at*;repeat'((conv=>whnf);first|((with_reducible refine Exists.intro ?_ ?_);focus (and_intros<;>first|(with_reducible rfl)|kernel_rfl|(intro _ hh;cases hh;done)|exact Ah (by rfl)|(simp;done)|decide))|(with_reducible intro hfact)|((with_reducible refine CallWp.mk ?_);refine⟨_,hcc,?_⟩;rintro _ _ ⟨rfl,rfl⟩)|((try dsimp only);rw[hL]))
 all_goals(try(conv=>whnf))
 refine LoopWq.by (X:=Nat × List Sp) (fun y=>[(13,.v (ti (y.1:Int))),(5,.vec Dt 2 (spsI y.2))]) (fun y=>y.1≤L.length∧y.2.length≤y.1∧Cp (L.drop y.1) y.2=RES) (fun y=>L.length - y.1) (0,[]) (by kernel_rfl) ⟨Nat.zero_le _,Nat.le_refl _,hR⟩ ?_
 rintro⟨q,O2⟩ ⟨hq,hO2,hQ⟩
 (try dsimp only at hq hO2 hQ ⊢)
 have hwq:IntKind.i64.wrap ((q:Int)+1)=((q+1:Nat):Int):=(Bf (by omega)).trans (by omega)
 have hOl2:(spsI O2).length≤2000:=by simp[spsI];omega
 by_cases hql:q<L.length
 case neg=>
  have h5:¬decide ((q:Int)<(L.length:Int))=true:=by simp;omega
  rw[List.drop_eq_nil_of_le (by omega)]at hQ
  have hQ:O2=RES:=hQ;subst hQ;repeat'((conv=>whnf);first|((with_reducible refine Aw (by(with_reducible exact Bool.of_not_eq_true (by assumption))) (fun hb=>?_));(try rw[hb]);(try simp only[Aa]at hb))|((with_reducible refine Exists.intro ?_ ?_);focus (and_intros<;>first|omega|(with_reducible rfl)|(simp;done))))
  all_goals(try(conv=>whnf))
  (apply dKq<;>kernel_rfl)
 obtain⟨d,hd⟩:∃x,L[q]?=some x:=⟨_,List.getElem?_eq_getElem hql⟩;have h5:¬decide ((q:Int)<(L.length:Int))=false:=by simp;omega
 have hdr:L.drop q=d::L.drop (q+1):=by rw[List.drop_eq_getElem_cons hql];rw[List.getElem?_eq_getElem hql]at hd;cases hd;rfl
 have hkd:=hk d (List.mem_of_getElem? hd);rw[hdr]at hQ;unfold Cp at hQ;obtain⟨dk,⟨xf,xt⟩,dkey,dv,dr,dm⟩:=d;dsimp only at hQ hkd;have hkey:=Akx dkey (by omega)
 by_cases k2:dk=2
 ·subst k2;rw[if_pos rfl]at hQ;repeat'((conv=>whnf);first|((with_reducible refine Ax (by(with_reducible exact Bool.of_not_eq_false (by assumption))) (fun hb=>?_));(try rw[hb]);(try simp only[Aa]at hb))|((with_reducible refine And.intro (fun hb=>?_) (fun hb=>?_))<;>(((try rw[hb]);(try simp only[Aa]at hb);(try(with_reducible exact absurd trivial hb)))))|((with_reducible refine Exists.intro ?_ ?_);focus (and_intros<;>first|omega|(with_reducible rfl)|kernel_rfl|(intro _ hh;cases hh;done)|exact Ah (by rfl)|(simp only[An];omega)|(simp;done)|decide))|((try dsimp only);(rw[B6 hd]))|((with_reducible refine CallWp.mk ?_);refine⟨_,hkey,?_⟩;rintro _ _ ⟨rfl,rfl⟩)|((try dsimp only);rw[hwq]))
  all_goals(try(conv=>whnf))
  refine Round.by (q+1,O2++[spK1 dkey]) ?_ ⟨by omega,by simp;omega,hQ⟩ (by dsimp only;omega)
  try dsimp only
  rw[←Cx];show norm _ _=upd _ _
  kernel_rfl
 rw[if_neg k2]at hQ;have g2:¬decide (dk=2)=true:=by simpa using k2
 by_cases k3:dk=3
 ·subst k3;rw[if_pos rfl]at hQ;repeat'((conv=>whnf);first|((with_reducible refine Ax (by(with_reducible exact Bool.of_not_eq_false (by assumption))) (fun hb=>?_));(try rw[hb]);(try simp only[Aa]at hb))|((with_reducible refine Aw (by(with_reducible exact Bool.of_not_eq_true (by assumption))) (fun hb=>?_));(try rw[hb]);(try simp only[Aa]at hb))|((with_reducible refine And.intro (fun hb=>?_) (fun hb=>?_))<;>(((try rw[hb]);(try simp only[Aa]at hb);(try(with_reducible exact absurd trivial hb)))))|((with_reducible refine Exists.intro ?_ ?_);focus (and_intros<;>first|omega|(with_reducible rfl)|kernel_rfl|exact Ah (by rfl)|(simp only[An];omega)|(simp;done)))|((try dsimp only);(rw[B6 hd]))|((try dsimp only);rw[hwq]))
  all_goals(try(conv=>whnf))
  refine Round.by (q+1,O2++[⟨xf,xt⟩]) ?_ ⟨by omega,by simp;omega,hQ⟩ (by dsimp only;omega)
  try dsimp only
  rw[←Cx];show norm _ _=upd _ _
  kernel_rfl
 ·rw[if_neg k3]at hQ;have g3:¬decide (dk=3)=true:=by simpa using k3
  repeat'((conv=>whnf);first|((with_reducible refine Ax (by(with_reducible exact Bool.of_not_eq_false (by assumption))) (fun hb=>?_));(try rw[hb]);(try simp only[Aa]at hb))|((with_reducible refine Aw (by(with_reducible exact Bool.of_not_eq_true (by assumption))) (fun hb=>?_));(try rw[hb]);(try simp only[Aa]at hb))|((with_reducible refine Exists.intro ?_ ?_);focus (and_intros<;>first|omega|kernel_rfl|(simp;done)))|((try dsimp only);(rw[B6 hd]))|((try dsimp only);rw[hwq]))
  all_goals(try(conv=>whnf))
  refine Round.by (q+1,O2) ?_ ⟨by omega,by dsimp only;omega,hQ⟩ (by dsimp only;omega)
  try dsimp only
  show norm _ _=upd _ _
  kernel_rfl

open Go.Proofs
theorem Apv(s:Sto)(n:Az)(x:Sp):(s.rangeM n x 0 1).1.length≤1:=by
 unfold Sto.rangeM;split
 ·simp
 ·split
  ·simp
  ·split
   ·simp
   ·split
    ·simp
    ·have:=B8 (n:=n) (x:=x) (rev:=if(0:Int)=0 then(s.tal n).rev else 0) (l:=s.l.drop (Km (Kh (B7 n [])) s.l)) (out:=[]) (most:=1) (by simp)
     dsimp only;omega
theorem Apz{m:Nat}{s:Sto}(hI:SInv m s)(hm:m≤80000)(n:Az)(hn:n.length≤1000)(ifs:List Cm)(hl:ifs.length≤1000)(hk:∀c∈ifs,c.key.length≤1000):
 Fn Tryd.prog Apf [sP s,.v (.str n),.v (.list (ifs.map Cm.toI))] (Is (.v (.bool (s.holdsM n ifs))) [sP s,.no,.no]):=by
 refine Ao2 ?_ (by simp)
 have hl1:(ifs.map Cm.toI).length=ifs.length:=List.length_map _;obtain⟨RES,hRES⟩:∃R,s.holdsM n ifs=R:=⟨_,rfl⟩;rw[hRES];repeat'((conv=>whnf);first|((with_reducible refine Exists.intro ?_ ?_);focus (and_intros<;>(with_reducible rfl)))|(with_reducible intro hfact)|((try dsimp only);rw[hl1]))
 all_goals(try(conv=>whnf))
 refine LoopWq.by (X:=Nat) (fun j=>[(16,.v (ti (j:Int)))]) (fun j=>j≤ifs.length∧s.holdsM n (ifs.drop j)=RES) (fun j=>ifs.length - j) 0 (by kernel_rfl) ⟨Nat.zero_le _,hRES⟩ ?_
 rintro j ⟨hj,hR⟩
 (try dsimp only at hj hR ⊢)
 have hw:IntKind.i64.wrap ((j:Int)+1)=((j+1:Nat):Int):=(Bf (by omega)).trans (by omega)
 by_cases hjl:j<ifs.length
 case neg=>
  have h3:¬decide ((j:Int)<(ifs.length:Int))=true:=by simp;omega
  rw[List.drop_eq_nil_of_le (by omega)]at hR
  have hR:true=RES:=hR;subst hR;repeat'((conv=>whnf);((with_reducible refine Aw (by(with_reducible exact Bool.of_not_eq_true (by assumption))) (fun hb=>?_));(try rw[hb]);(try simp only[Aa]at hb)))
  all_goals(try(conv=>whnf))
  (apply dKq<;>kernel_rfl)
 obtain⟨c,hc⟩:∃x,ifs[j]?=some x:=⟨_,List.getElem?_eq_getElem hjl⟩;have h3:¬decide ((j:Int)<(ifs.length:Int))=false:=by simp;omega
 have hdr:ifs.drop j=c::ifs.drop (j+1):=by rw[List.drop_eq_getElem_cons hjl];rw[List.getElem?_eq_getElem hjl]at hc;cases hc;rfl
 have hkc:=hk c (List.mem_of_getElem? hc);rw[hdr]at hR;unfold Sto.holdsM at hR;have hkey:=Akx c.key (by omega)
 have hrg:Fn Tryd.prog C9 [sP s,.v (.str n),.v (.agg [.str c.key,.str (c.key++[0])]),.v (ti 0),.v (ti 1)] (Is (.tup [.i (.list ((s.rangeM n (spK1 c.key) 0 1).1.map Pr.toI)),.i (.bool (s.rangeM n (spK1 c.key) 0 1).2.1),.i (ti (s.rangeM n (spK1 c.key) 0 1).2.2)]) [sP s,.no,.no,.no,.no]):=Aff hI hm n hn (spK1 c.key) 0 1;have hP1:=Apv s n (spK1 c.key);unfold Sto.nowK at hR;generalize s.rangeM n (spK1 c.key) 0 1=Z at*;obtain⟨P,mo,er⟩:=Z;dsimp only at hR hrg hP1;obtain⟨ck,cw,cr,cv⟩:=c;dsimp only at hR hrg hkey;generalize hX:s.holdsM n (ifs.drop (j+1))=NX at hR;generalize hspx:ck++[(0:UInt8)]=ck0 at hkey hrg;rcases P with _|⟨⟨pk,pv,pm,pr⟩,_|⟨p2,P3⟩⟩
 case cons.cons=>simp at hP1
 all_goals clear hP1
 all_goals(
  repeat'((conv=>whnf);first|((with_reducible refine Ax (by first|(with_reducible exact Bool.of_not_eq_false (by assumption))|(with_reducible rfl)) (fun hb=>?_));(try rw[hb]);(try simp only[Aa]at hb))|((with_reducible refine Aw (by(with_reducible rfl)) (fun hb=>?_));(try rw[hb]);(try simp only[Aa]at hb))|((with_reducible refine And.intro (fun hb=>?_) (fun hb=>?_))<;>first|(exact absurd hb (by decide))|(exfalso;((simp only[An]at hb<;>omega)))|((try rw[hb]);(try simp only[Aa]at hb);(try subst hb)))|((with_reducible refine Exists.intro ?_ ?_);focus (and_intros<;>first|omega|(with_reducible rfl)|kernel_rfl|(intro _ hh;cases hh;done)|(simp;done)|decide))|(with_reducible intro hfact)|((with_reducible refine Drawn.mkV ?_ ?_ ?_ (fun hfact=>?_));(focus (as_aux_lemma=>kernel_rfl));(focus (as_aux_lemma=>kernel_rfl));(focus (as_aux_lemma=>kernel_rfl));(try simp only[dRS]at hfact))|((try dsimp only);(rw[B6 hc]))|((with_reducible refine CallWp.mk ?_);refine⟨_,hkey,?_⟩;rintro _ _ ⟨rfl,rfl⟩)|((with_reducible refine CallWp.mk ?_);refine⟨_,hrg,?_⟩;rintro _ _ ⟨rfl,rfl⟩)|((try dsimp only);rw[hw]))
  all_goals(try(conv=>whnf)))
 all_goals(simp[Ed, *]at hR)
 all_goals first
  |(refine Round.by (j+1) ?_ ⟨by omega,hX.trans hR⟩ (by omega)
    try dsimp only
    show norm _ _=upd _ _
    kernel_rfl)
  |(subst hR
    (apply dKq<;>kernel_rfl))

open Go.Proofs
theorem Anc{m:Nat}{s:Sto}(hI:SInv m s)(hm:m≤80000)(hC:CInv s)(n:Az)(hn:n.length≤1000)(hf:(s.fi n).isSome=true)(x:Sp)(hx:SpR x):
 Fn Tryd.prog Aqg [sP s,.v (.str n),.v x.toI] (Is (.v (.list ((s.keysX n x).map I.str))) [sP s,.no,.no]):=by
 refine Apu ?_ (by simp)
 have hN:=Am7 hI hC n;have hlb:=hI.lb.len;obtain⟨E,hE⟩:∃E,s.inX n x=E:=⟨_,rfl⟩;have hEl:E.length≤80000:=by
  rw[←hE];unfold Sto.inX;exact Nat.le_trans (List.length_filter_le _ _) (by have:=hN.len;omega)
 have hE64:∀p∈E,p.1.length≤64:=fun p hp=>by
  rw[←hE]at hp;exact hN.k64 p (List.mem_filter.1 hp).1
 have hpage:=fun q hq=>Asc hI hC hf hx (q:=q) hq
 unfold Sto.keysX;rw[hE]at hpage ⊢;rw[show(E.map (·.1)).map I.str=E.map fun p=>I.str p.1 by rw[List.map_map];rfl]
 obtain⟨xf,xt⟩:=x;dsimp only at hpage
 (skip)
 all_goals(try(conv=>whnf))
 refine LoopWq.by (X:=Nat × Bool × Az) (fun y=>[(8,.v (.bool y.2.1)),(7,.vec 9 1 ((E.take y.1).map fun p=>I.str p.1)),(5,.box (T.one (F.i (Sp.mk y.2.2 xt).toI)))]) (fun y=>y.1≤E.length∧y.2.2=H7 ⟨xf,xt⟩ E y.1∧(if y.2.1=true then(y.1=0∨y.1<E.length)else y.1=E.length)) (fun y=>(E.length - y.1)+(if y.2.1=true then 1 else 0)) (0,true,xf) (by kernel_rfl) ⟨Nat.zero_le _,rfl,by simp⟩ ?_
 rintro⟨q,mo,FR⟩ ⟨hq,hF,hmo⟩
 (try dsimp only at hq hF hmo ⊢)
 cases mo with
 |false=>
  have hmo:q=E.length:=by simpa using hmo
  subst hmo;rw[List.take_length];repeat'((conv=>whnf);first|((with_reducible refine Aw (by(with_reducible rfl)) (fun hb=>?_));(try rw[hb]);(try simp only[Aa]at hb))|((with_reducible refine Exists.intro ?_ ?_);focus (and_intros<;>first|omega|(with_reducible rfl)|(simp;done))))
  all_goals(try(conv=>whnf))
  (apply dKq<;>kernel_rfl)
 |true=>
  have hmo:q=0∨q<E.length:=by simpa using hmo
  have hrg:=Aff hI hm n hn ⟨FR,xt⟩ 0 16;have hpg:=hpage q hmo;rw[←hF]at hpg;rw[hpg]at hrg;dsimp only at hrg;obtain⟨AL,hAL⟩:∃A,A=(E.drop q).take 16:=⟨_,rfl⟩;have hAl:AL.length=min 16 (E.length - q):=by rw[hAL,List.length_take,List.length_drop]
  have hAg:∀j p,AL[j]?=some p→E[q+j]?=some p:=fun j p hj=>by
   rw[hAL,List.getElem?_take]at hj;split at hj
   ·rw[List.getElem?_drop]at hj;exact hj
   ·cases hj
  rw[←hAL]at hrg;obtain⟨MO,hMO⟩:∃M,M=decide (16<(E.drop q).length):=⟨_,rfl⟩;rw[←hMO]at hrg;rw[List.length_drop]at hMO;have hAP:∀j p,AL[j]?=some p→(AL.map prOf)[j]?=some (prOf p):=fun j p hj=>by rw[List.getElem?_map,hj];rfl
  have hAPl:(AL.map prOf).length=AL.length:=List.length_map _;generalize AL.map prOf=AP at hrg hAP hAPl;have hAPI:(AP.map Pr.toI).length=AL.length:=by rw[List.length_map,hAPl]
  repeat'((conv=>whnf);first|((with_reducible refine Ax (by first|(with_reducible assumption)|(with_reducible rfl)) (fun hb=>?_));(try rw[hb]);(try simp only[Aa]at hb))|((with_reducible refine Exists.intro ?_ ?_);focus (and_intros<;>first|omega|(with_reducible rfl)|kernel_rfl|(intro _ hh;cases hh;done)|(simp;done)|decide))|(with_reducible intro hfact)|((with_reducible refine CallWp.mk ?_);refine⟨_,hrg,?_⟩;rintro _ _ ⟨rfl,rfl⟩)|((try dsimp only);rw[hAPI]))
  all_goals(try(conv=>whnf))
  refine LoopWq.by (X:=Nat × Az) (fun y=>[(23,.v (ti (y.1:Int))),(7,.vec 9 1 ((E.take (q+y.1)).map fun p=>I.str p.1)),(5,.box (T.one (F.i (Sp.mk y.2 xt).toI)))]) (fun y=>y.1≤AL.length∧y.2=H7 ⟨xf,xt⟩ E (q+y.1)) (fun y=>AL.length - y.1) (0,FR) (by kernel_rfl) ⟨Nat.zero_le _,hF⟩ ?_
  rintro⟨j,F2⟩ ⟨hj,hF2⟩
  (try dsimp only at hj hF2 ⊢)
  have hwj:IntKind.i64.wrap ((j:Int)+1)=((j+1:Nat):Int):=(Bf (by omega)).trans (by omega)
  by_cases hjl:j<AL.length
  case neg=>
   have h3:¬decide ((j:Int)<(AL.length:Int))=true:=by simp;omega
   obtain rfl:j=AL.length:=by omega
   repeat'((conv=>whnf);((with_reducible refine Aw (by(with_reducible exact Bool.of_not_eq_true (by assumption))) (fun hb=>?_));(try rw[hb]);(try simp only[Aa]at hb)))
   all_goals(try(conv=>whnf))
   refine Round.by (q+AL.length,MO,F2) ?_ ⟨(by show q+AL.length≤E.length;omega),hF2,?_⟩ ?_
   ·try dsimp only
    show norm _ _=upd _ _
    kernel_rfl
   ·cases MO with
    |true=>
     have:16<E.length - q:=by simpa using hMO.symm
     show q+AL.length=0∨q+AL.length<E.length;omega
    |false=>
     have:¬16<E.length - q:=by simpa using hMO.symm
     show q+AL.length=E.length;omega
   ·cases MO with
    |true=>
     have:16<E.length - q:=by simpa using hMO.symm
     simp;omega
    |false=>
     simp;omega
  obtain⟨p,hp'⟩:∃x,AL[j]?=some x:=⟨_,List.getElem?_eq_getElem hjl⟩;have h3:¬decide ((j:Int)<(AL.length:Int))=false:=by simp;omega
  have hpE:=hAg j p hp';have ho:=hAP j p hp';have h64:=hE64 p (List.mem_of_getElem? hpE);have hnF:=Ajo (x:=⟨xf,xt⟩) hpE;have hT:(E.take (q+j+1)).map (fun p=>I.str p.1)=(E.take (q+j)).map (fun p=>I.str p.1)++[.str p.1]:=by rw[List.take_add_one,hpE];simp
  have hTl:((E.take (q+j)).map fun p=>I.str p.1).length≤80000:=by simp;omega
  obtain⟨pk,⟨pr,pm,pv,pg2⟩⟩:=p;dsimp only[prOf]at ho h64 hnF hT;have hln:pk.length+[(0:UInt8)].length≤maxLen:=by simp[maxLen];omega
  repeat'((conv=>whnf);first|((with_reducible refine Ax (by first|(with_reducible assumption)|(with_reducible exact Bool.of_not_eq_false (by assumption))) (fun hb=>?_));(try rw[hb]);(try simp only[Aa]at hb))|((with_reducible refine Exists.intro ?_ ?_);focus (and_intros<;>first|omega|(with_reducible rfl)|kernel_rfl|exact Ah (by rfl)|(simp only[An];omega)|(simp;done)))|((try dsimp only);(rw[B6 ho]))|((try dsimp only);rw[hwj]))
  all_goals(try(conv=>whnf))
  refine Round.by (j+1,pk++[0]) ?_ ⟨by omega,hnF.symm⟩ (by dsimp only;omega)
  try dsimp only
  rw[show q+(j+1)=q+j+1 from rfl,hT];show norm _ _=upd _ _
  kernel_rfl

open Go.Proofs
def G6(x:Az):List Az→Nat→Int
 | [],_=> -1
 |y::r,k=>if x=y then(k:Int)else G6 x r (k+1)
theorem An0{x:Az}:∀{l:List Az} {k:Nat},decide (0≤G6 x l k)=decide (x∈l)
 | [],k=>by simp[G6]
 |y::r,k=>by
  unfold G6;by_cases e:x=y
  ·rw[if_pos e];simp[e]
  ·rw[if_neg e,An0];simp[e]
theorem Apx(l:List Az)(x:Az):Fn Tryd.prog Ez [.v (.list (l.map I.str)),.v (.str x)] (Is (.v (ti (G6 x l 0))) [.no,.no]):=by
 refine Et ?_ (by simp)
 have hl1:(l.map I.str).length=l.length:=List.length_map _;obtain⟨RES,hRES⟩:∃R,G6 x l 0=R:=⟨_,rfl⟩;rw[hRES];repeat'((conv=>whnf);first|((with_reducible refine Exists.intro ?_ ?_);focus (and_intros<;>(with_reducible rfl)))|(with_reducible intro hfact)|((try dsimp only);rw[hl1]))
 all_goals(try(conv=>whnf))
 have hmax:l.length≤9223372036854775807:=by simpa[maxLen]using hfact
 refine LoopWq.by (X:=Nat) (fun j=>[(8,.v (ti (j:Int)))]) (fun j=>j≤l.length∧G6 x (l.drop j) j=RES) (fun j=>l.length - j) 0 (by kernel_rfl) ⟨Nat.zero_le _,hRES⟩ ?_
 rintro j ⟨hj,hR⟩
 (try dsimp only at hj hR ⊢)
 by_cases hjl:j<l.length
 case neg=>
  have h3:¬decide ((j:Int)<(l.length:Int))=true:=by simp;omega
  rw[List.drop_eq_nil_of_le (by omega)]at hR
  have hR:(-1:Int)=RES:=hR;subst hR;repeat'((conv=>whnf);((with_reducible refine Aw (by(with_reducible exact Bool.of_not_eq_true (by assumption))) (fun hb=>?_));(try rw[hb]);(try simp only[Aa]at hb)))
  all_goals(try(conv=>whnf))
  (apply dKq<;>kernel_rfl)
 have hw:IntKind.i64.wrap ((j:Int)+1)=((j+1:Nat):Int):=(Bf (by omega)).trans (by omega)
 obtain⟨y,hy⟩:∃x,l[j]?=some x:=⟨_,List.getElem?_eq_getElem hjl⟩;have h3:¬decide ((j:Int)<(l.length:Int))=false:=by simp;omega
 have hdr:l.drop j=y::l.drop (j+1):=by rw[List.drop_eq_getElem_cons hjl];rw[List.getElem?_eq_getElem hjl]at hy;cases hy;rfl
 rw[hdr]at hR;unfold G6 at hR;by_cases e:x=y
 ·have g1:¬decide (x=y)=false:=by simpa using e
  rw[if_pos e]at hR;subst hR;repeat'((conv=>whnf);first|((with_reducible refine Ax (by(with_reducible exact Bool.of_not_eq_false (by assumption))) (fun hb=>?_));(try rw[hb]);(try simp only[Aa]at hb);(try subst hb))|((with_reducible refine Exists.intro ?_ ?_);focus (and_intros<;>first|omega|kernel_rfl))|((try dsimp only);(rw[B6 hy])))
  all_goals(try(conv=>whnf))
  (apply dKq<;>kernel_rfl)
 ·have g1:¬decide (x=y)=true:=by simpa using e
  rw[if_neg e]at hR;repeat'((conv=>whnf);first|((with_reducible refine Ax (by(with_reducible exact Bool.of_not_eq_false (by assumption))) (fun hb=>?_));(try rw[hb]);(try simp only[Aa]at hb))|((with_reducible refine Aw (by(with_reducible exact Bool.of_not_eq_true (by assumption))) (fun hb=>?_));(try rw[hb]);(try simp only[Aa]at hb))|((with_reducible refine Exists.intro ?_ ?_);focus (and_intros<;>first|omega|kernel_rfl))|((try dsimp only);(rw[B6 hy]))|(skip;rw[hw]))
  all_goals(try(conv=>whnf))
  refine Round.by (j+1) ?_ ⟨by omega,hR⟩ (by omega)
  try dsimp only
  show norm _ _=upd _ _
  kernel_rfl
theorem F0(l:List Az)(x:Az):Fn Tryd.prog D5 [.v (.list (l.map I.str)),.v (.str x)] (Is (.v (.bool (decide (x∈l)))) [.no,.no]):=by
 refine Dy ?_ (by simp)
 have hi:=Apx l x;rw[←An0 (k:=0)];generalize G6 x l 0=R at*;repeat'((conv=>whnf);first|((with_reducible refine Exists.intro ?_ ?_);focus (and_intros<;>first|(intro _ hh;cases hh;done)|(simp;done)|decide))|((with_reducible refine CallWp.mk ?_);refine⟨_,hi,?_⟩;rintro _ _ ⟨rfl,rfl⟩))
 all_goals(try(conv=>whnf))
 (apply dKq<;>kernel_rfl)
abbrev Rn.sv(r:Rn):SV:=.tup [.i (.bool r.yes),.i (.list (r.outs.map Ou.toI)),.i (.list (r.chs.map Chg.toI)),.i (ti r.e)]
theorem Cv(l:List Ou)(o:Ou):l.map Ou.toI++[o.toI]=(l++[o]).map Ou.toI:=by simp
theorem Aon(l:List Chg)(o:Chg):l.map Chg.toI++[o.toI]=(l++[o]).map Chg.toI:=by simp
theorem Arw(s:Sto)(n:Az)(ifs:List Cm)(th el:List Act)(hnd:(s.sp.map (·.1)).Nodup)(hsl:s.sp.length≤1000)(hf:s.fi n=none):
 Fn Tryd.prog F4 [sP s,.v (.str n),.v (.list (ifs.map Cm.toI)),.v (.list (th.map Act.toI)),.v (.list (el.map Act.toI))] (Is (⟨false,[],[],16⟩:Rn).sv [sP s,.no,.no,.no,.no]):=by
 refine Ajw ?_ (by simp)
 have hsp:=Fs s hnd hsl;have hct:=F0 s.names n;rw[decide_eq_false (fun c=>by rw[Agp,hf]at c;cases c)]at hct
 generalize s.names=NM at*;repeat'((conv=>whnf);first|((with_reducible refine And.intro (fun hb=>?_) (fun hb=>?_))<;>first|(exact absurd hb (by decide))|((try rw[hb]);(try simp only[Aa]at hb)))|((with_reducible refine Exists.intro ?_ ?_);focus (and_intros<;>first|kernel_rfl|(intro _ hh;cases hh;done)|(simp;done)|decide))|((with_reducible refine CallWp.mk ?_);refine⟨_,hsp,?_⟩;rintro _ _ ⟨rfl,rfl⟩)|((with_reducible refine CallWp.mk ?_);refine⟨_,hct,?_⟩;rintro _ _ ⟨rfl,rfl⟩))
 all_goals(try(conv=>whnf))
 (apply dKq<;>kernel_rfl)
theorem Ar7(s:Sto)(n:Az)(ifs:List Cm)(th el:List Act)(hnd:(s.sp.map (·.1)).Nodup)(hsl:s.sp.length≤1000)(hf:(s.fi n).isSome=true)(hl:ifs.length+th.length+el.length≤1000)(hr:Cu ifs th el=false):
 Fn Tryd.prog F4 [sP s,.v (.str n),.v (.list (ifs.map Cm.toI)),.v (.list (th.map Act.toI)),.v (.list (el.map Act.toI))] (Is (⟨false,[],[],1⟩:Rn).sv [sP s,.no,.no,.no,.no]):=by
 refine Ajw ?_ (by simp)
 have hsp:=Fs s hnd hsl;have hct:=F0 s.names n;have hrt:=Aga ifs th el hl;rw[hr]at hrt;rw[decide_eq_true (Agp.2 hf)]at hct;generalize s.names=NM at*;repeat'((conv=>whnf);first|((with_reducible refine And.intro (fun hb=>?_) (fun hb=>?_))<;>first|(exact absurd hb (by decide))|((try rw[hb]);(try simp only[Aa]at hb)))|((with_reducible refine Exists.intro ?_ ?_);focus (and_intros<;>first|kernel_rfl|(intro _ hh;cases hh;done)|(simp;done)|decide))|((with_reducible refine CallWp.mk ?_);refine⟨_,hsp,?_⟩;rintro _ _ ⟨rfl,rfl⟩)|((with_reducible refine CallWp.mk ?_);refine⟨_,hct,?_⟩;rintro _ _ ⟨rfl,rfl⟩)|((with_reducible refine CallWp.mk ?_);refine⟨_,hrt,?_⟩;rintro _ _ ⟨rfl,rfl⟩))
 all_goals(try(conv=>whnf))
 (apply dKq<;>kernel_rfl)
theorem Arv{m:Nat}{s:Sto}(hI:SInv m s)(hm:m≤80000)(hC:CInv s)(n:Az)(ifs:List Cm)(th el:List Act)(hsl:s.sp.length≤1000)(hf:(s.fi n).isSome=true)(hl:ifs.length+th.length+el.length≤1000)(hr:Cu ifs th el=true)
 (YES:Bool) (hY:s.holdsM n ifs=YES) (L:List Act) (hL:(if YES=true then th else el)=L) (RES:List Ou × List Chg × Int) (hRES:s.actGo n L [] []=RES) (RUN:Rn) (hRUN:(if RES.2.2=0 then(⟨YES,RES.1,RES.2.1,0⟩:Rn)else⟨false,[],[],RES.2.2⟩)=RUN):
 Fn Tryd.prog F4 [sP s,.v (.str n),.v (.list (ifs.map Cm.toI)),.v (.list (th.map Act.toI)),.v (.list (el.map Act.toI))] (Is RUN.sv [sP s,.no,.no,.no,.no]):=by
 refine Ajw ?_ (by simp)
 obtain⟨i0,hi0⟩:=Option.isSome_iff_exists.1 hf;have hn:=hI.name hi0;obtain⟨hr1,hr2,hr3⟩:=Akt hr;have hsp:=Fs s hI.nd hsl;have hct:=F0 s.names n;have hrt:=Aga ifs th el hl;have hho:=Apz hI hm n (by omega) ifs (by omega) fun c hc=>by have:=(hr2 c hc).1;omega
 rw[hr]at hrt;rw[hY]at hho;rw[decide_eq_true (Agp.2 hf)]at hct;have hLl:L.length≤8:=by rw[←hL];split<;>omega
 have hLok:∀d∈L,d.ok:=fun d hd=>by
  rw[←hL]at hd;split at hd
  ·exact hr3 d (List.mem_append_left _ hd)
  ·exact hr3 d (List.mem_append_right _ hd)
 have hLm:(L.map Act.toI).length=L.length:=List.length_map _;have hkl:∀x:Sp,(s.keysX n x).length≤80000:=fun x=>by
  unfold Sto.keysX Sto.inX;rw[List.length_map];exact Nat.le_trans (List.length_filter_le _ _) (by have:=(Am7 hI hC n).len;have:=hI.lb.len;omega)
 generalize hNM:s.names=NM at*;have hYY:YES=true∨YES=false:=by cases YES<;>simp
 rcases hYY with rfl|rfl
 all_goals simp only[if_true,Bool.false_eq_true,if_false]at hL
 all_goals replace hL:=hL.symm
 all_goals subst hL
 all_goals(
  repeat'((conv=>whnf);first|((with_reducible refine Ax (by first|(with_reducible assumption)|(with_reducible rfl)) (fun hb=>?_));(try rw[hb]);(try simp only[Aa]at hb))|((with_reducible refine Aw (by first|(with_reducible assumption)|(with_reducible rfl)) (fun hb=>?_));(try rw[hb]);(try simp only[Aa]at hb))|((with_reducible refine And.intro (fun hb=>?_) (fun hb=>?_))<;>first|(exact absurd hb (by decide))|((try rw[hb]);(try simp only[Aa]at hb)))|((with_reducible refine Exists.intro ?_ ?_);focus (and_intros<;>first|(with_reducible rfl)|kernel_rfl|(intro _ hh;cases hh;done)|(simp;done)|decide))|(with_reducible intro hfact)|((with_reducible refine CallWp.mk ?_);refine⟨_,hsp,?_⟩;rintro _ _ ⟨rfl,rfl⟩)|((with_reducible refine CallWp.mk ?_);refine⟨_,hct,?_⟩;rintro _ _ ⟨rfl,rfl⟩)|((with_reducible refine CallWp.mk ?_);refine⟨_,hrt,?_⟩;rintro _ _ ⟨rfl,rfl⟩)|((with_reducible refine CallWp.mk ?_);refine⟨_,hho,?_⟩;rintro _ _ ⟨rfl,rfl⟩)|((try dsimp only);rw[hLm]))
  all_goals(try(conv=>whnf)))
 all_goals
  refine LoopWq.by (X:=Nat × List Ou × List Chg) (fun y=>[(48,.v (ti (y.1:Int))),(16,.vec Anr 3 (y.2.1.map Ou.toI)),(17,.vec E1 3 (y.2.2.map Chg.toI))]) (fun y=>y.1≤L.length∧y.2.1.length≤y.1∧y.2.2.length≤y.1*80001∧s.actGo n (L.drop y.1) y.2.1 y.2.2=RES) (fun y=>L.length - y.1) (0,[],[]) (by kernel_rfl) ⟨Nat.zero_le _,Nat.le_refl _,by simp,hRES⟩ ?_
  rintro⟨j,O,C⟩ ⟨hj,hOl,hCl,hR⟩
  (try dsimp only at hj hOl hCl hR ⊢)
  have hw:IntKind.i64.wrap ((j:Int)+1)=((j+1:Nat):Int):=(Bf (by omega)).trans (by omega)
  have hOl2:(O.map Ou.toI).length≤8:=by rw[List.length_map];omega
  have hCl2:(C.map Chg.toI).length≤1000000:=by rw[List.length_map];omega
  by_cases hjl:j<L.length
  case neg=>
   have h3:¬decide ((j:Int)<(L.length:Int))=true:=by simp;omega
   rw[List.drop_eq_nil_of_le (by omega)]at hR
   have hR:(O,C,0)=RES:=hR;subst hR;rw[if_pos rfl]at hRUN;subst hRUN;repeat'((conv=>whnf);first|((with_reducible refine Aw (by first|(with_reducible assumption)|(with_reducible exact Bool.of_not_eq_true (by assumption))) (fun hb=>?_));(try rw[hb]);(try simp only[Aa]at hb))|((with_reducible refine Exists.intro ?_ ?_);focus (and_intros<;>first|omega|(with_reducible rfl)|(simp;done))))
   all_goals(try(conv=>whnf))
   (apply dKq<;>kernel_rfl)
  have hms:L.length - (j+1)<L.length - j:=Nat.sub_lt_sub_left hjl (Nat.lt_succ_self j);have hO1:∀o:Ou,(O++[o]).length≤j+1:=fun o=>by rw[List.length_append];exact Nat.add_le_add_right hOl 1
  have hC1:C.length≤(j+1)*80001:=Nat.le_trans hCl (Nat.mul_le_mul_right _ (Nat.le_succ j));have hjl1:j+1≤L.length:=hjl;obtain⟨d,hd⟩:∃x,L[j]?=some x:=⟨_,List.getElem?_eq_getElem hjl⟩;have h3:¬decide ((j:Int)<(L.length:Int))=false:=by simp;omega
  have hdr:L.drop j=d::L.drop (j+1):=by rw[List.drop_eq_getElem_cons hjl];rw[List.getElem?_eq_getElem hjl]at hd;cases hd;rfl
  have hdo:=hLok d (List.mem_of_getElem? hd);rw[hdr]at hR;unfold Sto.actGo at hR;obtain⟨dk,dx,dkey,dv,dr,dm⟩:=d;unfold Act.ok at hdo;dsimp only at hdo;have hkl':=hkl dx;by_cases k1:dk=1
  ·subst k1;rw[if_pos rfl]at hdo;have hrg:=Aff hI hm n (by omega) dx dr (if dm=0 then 16 else dm)
   unfold Sto.actE Sto.actO Sto.actC Ako at hR;dsimp only at hR;simp only[if_true,show ¬(1:Int)=2 by decide,show ¬(1:Int)=3 by decide,if_false,List.append_nil]at hR
   generalize s.rangeM n dx dr (if dm=0 then 16 else dm)=Z at*
   obtain⟨P,mo,er⟩:=Z;dsimp only at hR hrg;obtain⟨xf,xt⟩:=dx;by_cases m0:dm=0
   ·subst m0;rw[if_pos rfl]at hrg;by_cases e0:er=0
    ·subst e0;rw[if_pos rfl]at hR;repeat'((conv=>whnf);first|((with_reducible refine Ax (by first|(with_reducible assumption)|(with_reducible exact Bool.of_not_eq_false (by assumption))) (fun hb=>?_));(try rw[hb]);(try simp only[Aa]at hb))|((with_reducible refine And.intro (fun hb=>?_) (fun hb=>?_))<;>first|(exact absurd hb (by decide))|((try rw[hb]);(try simp only[Aa]at hb);(try(with_reducible exact absurd trivial hb))))|((with_reducible refine Exists.intro ?_ ?_);focus (and_intros<;>first|omega|(with_reducible rfl)|kernel_rfl|(intro _ hh;cases hh;done)|exact Ah (by rfl)|(simp only[An];omega)|(simp;done)|decide))|((try dsimp only);(rw[B6 hd]))|((with_reducible refine CallWp.mk ?_);refine⟨_,hrg,?_⟩;rintro _ _ ⟨rfl,rfl⟩)|((try dsimp only);rw[hw]))
     all_goals(try(conv=>whnf))
     refine Round.by (j+1,O++[⟨P,mo,0⟩],C) ?_ ⟨hjl1,hO1 _,hC1,hR⟩ hms;try dsimp only
     rw[←Cv];show norm _ _=upd _ _
     kernel_rfl
    ·rw[if_neg e0]at hR;subst hR;rw[if_neg e0]at hRUN;subst hRUN;have g0:¬(!decide (er=0))=false:=by simpa using e0
     repeat'((conv=>whnf);first|((with_reducible refine Ax (by first|(with_reducible assumption)|(with_reducible exact Bool.of_not_eq_false (by assumption))) (fun hb=>?_));(try rw[hb]);(try simp only[Aa]at hb))|((with_reducible refine And.intro (fun hb=>?_) (fun hb=>?_))<;>(((try rw[hb]);(try simp only[Aa]at hb);(try(with_reducible exact absurd trivial hb)))))|((with_reducible refine Exists.intro ?_ ?_);focus (and_intros<;>first|omega|kernel_rfl|(intro _ hh;cases hh;done)|(simp;done)|decide))|((try dsimp only);(rw[B6 hd]))|((with_reducible refine CallWp.mk ?_);refine⟨_,hrg,?_⟩;rintro _ _ ⟨rfl,rfl⟩))
     all_goals(try(conv=>whnf))
     (apply dKq<;>kernel_rfl)
   ·rw[if_neg m0]at hrg;have gm:¬decide (dm=0)=true:=by simpa using m0
    by_cases e0:er=0
    ·subst e0;rw[if_pos rfl]at hR;repeat'((conv=>whnf);first|((with_reducible refine Ax (by first|(with_reducible assumption)|(with_reducible exact Bool.of_not_eq_false (by assumption))) (fun hb=>?_));(try rw[hb]);(try simp only[Aa]at hb))|((with_reducible refine Aw (by first|(with_reducible assumption)|(with_reducible exact Bool.of_not_eq_true (by assumption))) (fun hb=>?_));(try rw[hb]);(try simp only[Aa]at hb))|((with_reducible refine And.intro (fun hb=>?_) (fun hb=>?_))<;>first|(exact absurd hb (by decide))|((try rw[hb]);(try simp only[Aa]at hb);(try(with_reducible exact absurd trivial hb))))|((with_reducible refine Exists.intro ?_ ?_);focus (and_intros<;>first|omega|(with_reducible rfl)|kernel_rfl|(intro _ hh;cases hh;done)|exact Ah (by rfl)|(simp only[An];omega)|(simp;done)|decide))|((try dsimp only);(rw[B6 hd]))|((with_reducible refine CallWp.mk ?_);refine⟨_,hrg,?_⟩;rintro _ _ ⟨rfl,rfl⟩)|((try dsimp only);rw[hw]))
     all_goals(try(conv=>whnf))
     refine Round.by (j+1,O++[⟨P,mo,0⟩],C) ?_ ⟨hjl1,hO1 _,hC1,hR⟩ hms;try dsimp only
     rw[←Cv];show norm _ _=upd _ _
     kernel_rfl
    ·rw[if_neg e0]at hR;subst hR;rw[if_neg e0]at hRUN;subst hRUN;have g0:¬(!decide (er=0))=false:=by simpa using e0
     repeat'((conv=>whnf);first|((with_reducible refine Ax (by first|(with_reducible assumption)|(with_reducible exact Bool.of_not_eq_false (by assumption))) (fun hb=>?_));(try rw[hb]);(try simp only[Aa]at hb))|((with_reducible refine Aw (by first|(with_reducible assumption)|(with_reducible exact Bool.of_not_eq_true (by assumption))) (fun hb=>?_));(try rw[hb]);(try simp only[Aa]at hb))|((with_reducible refine And.intro (fun hb=>?_) (fun hb=>?_))<;>(((try rw[hb]);(try simp only[Aa]at hb);(try(with_reducible exact absurd trivial hb)))))|((with_reducible refine Exists.intro ?_ ?_);focus (and_intros<;>first|omega|kernel_rfl|(intro _ hh;cases hh;done)|(simp;done)|decide))|((try dsimp only);(rw[B6 hd]))|((with_reducible refine CallWp.mk ?_);refine⟨_,hrg,?_⟩;rintro _ _ ⟨rfl,rfl⟩))
     all_goals(try(conv=>whnf))
     (apply dKq<;>kernel_rfl)
  rw[if_neg k1]at hdo;have g1:¬decide (dk=1)=true:=by simpa using k1
  by_cases k2:dk=2
  ·subst k2;unfold Sto.actE Sto.actO Sto.actC at hR;dsimp only at hR;simp only[show ¬(2:Int)=1 by decide,if_true,show ¬(2:Int)=3 by decide,if_false]at hR
   obtain⟨xf,xt⟩:=dx;repeat'((conv=>whnf);first|((with_reducible refine Ax (by first|(with_reducible assumption)|(with_reducible exact Bool.of_not_eq_false (by assumption))) (fun hb=>?_));(try rw[hb]);(try simp only[Aa]at hb))|((with_reducible refine Aw (by first|(with_reducible assumption)|(with_reducible exact Bool.of_not_eq_true (by assumption))) (fun hb=>?_));(try rw[hb]);(try simp only[Aa]at hb))|((with_reducible refine And.intro (fun hb=>?_) (fun hb=>?_))<;>(((try rw[hb]);(try simp only[Aa]at hb);(try(with_reducible exact absurd trivial hb)))))|((with_reducible refine Exists.intro ?_ ?_);focus (and_intros<;>first|omega|(with_reducible rfl)|kernel_rfl|exact Ah (by rfl)|(simp only[An];omega)|(simp;done)))|((try dsimp only);(rw[B6 hd]))|((try dsimp only);rw[hw]))
   all_goals(try(conv=>whnf))
   refine Round.by (j+1,O++[⟨[],false,0⟩],C++[⟨dkey,dv,false⟩]) ?_ ⟨hjl1,hO1 _,by simp;omega,hR⟩ hms
   try dsimp only
   rw[←Cv, ←Aon];show norm _ _=upd _ _
   kernel_rfl
  rw[if_neg k2]at hdo;obtain⟨k3,hxr⟩:=hdo;subst k3;have hkk:=Anc hI hm hC n (by omega) hf dx hxr
  unfold Sto.actE Sto.actO Sto.actC at hR;dsimp only at hR;simp only[show ¬(3:Int)=1 by decide,if_true,show ¬(3:Int)=2 by decide,if_false]at hR
  generalize s.keysX n dx=KX at*;obtain⟨xf,xt⟩:=dx;have hKm:(KX.map I.str).length=KX.length:=List.length_map _;repeat'((conv=>whnf);first|((with_reducible refine Ax (by first|(with_reducible assumption)|(with_reducible exact Bool.of_not_eq_false (by assumption))) (fun hb=>?_));(try rw[hb]);(try simp only[Aa]at hb))|((with_reducible refine Aw (by first|(with_reducible assumption)|(with_reducible exact Bool.of_not_eq_true (by assumption))|((with_reducible refine decide_eq_false ?_);(with_reducible assumption))) (fun hb=>?_));(try rw[hb]);(try simp only[Aa]at hb))|((with_reducible refine And.intro (fun hb=>?_) (fun hb=>?_))<;>(((try rw[hb]);(try simp only[Aa]at hb);(try(with_reducible exact absurd trivial hb)))))|((with_reducible refine Exists.intro ?_ ?_);focus (and_intros<;>first|omega|(with_reducible rfl)|kernel_rfl|(intro _ hh;cases hh;done)|(simp;done)|decide))|(with_reducible intro hfact)|((try dsimp only);(rw[B6 hd]))|((with_reducible refine CallWp.mk ?_);refine⟨_,hkk,?_⟩;rintro _ _ ⟨rfl,rfl⟩)|((try dsimp only);rw[hKm]))
  all_goals(try(conv=>whnf))
  refine LoopWq.by (X:=Nat) (fun i=>[(97,.v (ti (i:Int))),(17,.vec E1 3 ((C++(KX.take i).map fun k=>(⟨k,[],true⟩:Chg)).map Chg.toI)),(20,.box (T.one (F.i (.agg [.list [],.bool false,ti (i:Int)]))))]) (fun i=>i≤KX.length) (fun i=>KX.length - i) 0 (by simp only[List.take_zero,List.map_nil,List.append_nil];kernel_rfl) (Nat.zero_le _) ?_
  rintro i hi
  (try dsimp only at hi ⊢)
  have hwi:IntKind.i64.wrap ((i:Int)+1)=((i+1:Nat):Int):=(Bf (by omega)).trans (by omega)
  have hCl3:((C++(KX.take i).map fun k=>(⟨k,[],true⟩:Chg)).map Chg.toI).length≤1000000:=by simp;omega
  by_cases hil:i<KX.length
  ·obtain⟨k,hk⟩:∃x,KX[i]?=some x:=⟨_,List.getElem?_eq_getElem hil⟩;have h5:¬decide ((i:Int)<(KX.length:Int))=false:=by simp;omega
   have hnx:(C++(KX.take (i+1)).map fun k=>(⟨k,[],true⟩:Chg)).map Chg.toI=(C++(KX.take i).map fun k=>(⟨k,[],true⟩:Chg)).map Chg.toI++[.agg [.str k,.str [],.bool true]]:=by rw[List.take_add_one,hk];simp[Chg.toI]
   repeat'((conv=>whnf);first|((with_reducible refine Ax (by first|(with_reducible assumption)|(with_reducible exact Bool.of_not_eq_false (by assumption))) (fun hb=>?_));(try rw[hb]);(try simp only[Aa]at hb))|((with_reducible refine Exists.intro ?_ ?_);focus (and_intros<;>first|omega|(with_reducible rfl)|kernel_rfl|exact Ah (by rfl)|(simp only[An];omega)|(simp;done)))|((try dsimp only);(rw[B6 hk]))|(skip;rw[hwi]))
   all_goals(try(conv=>whnf))
   refine Round.by (i+1) ?_ (by omega) (by omega)
   try dsimp only
   rw[hnx];show norm _ _=upd _ _
   kernel_rfl
  have h5:¬decide ((i:Int)<(KX.length:Int))=true:=by simp;omega
  obtain rfl:i=KX.length:=by omega
  rw[List.take_length];repeat'((conv=>whnf);first|((with_reducible refine Aw (by first|(with_reducible assumption)|(with_reducible exact Bool.of_not_eq_true (by assumption))) (fun hb=>?_));(try rw[hb]);(try simp only[Aa]at hb))|((with_reducible refine Exists.intro ?_ ?_);focus (and_intros<;>first|omega|(with_reducible rfl)|kernel_rfl|exact Ah (by rfl)|(simp only[An];omega)|(simp;done)))|(skip;rw[hw]))
  all_goals(try(conv=>whnf))
  refine Round.by (j+1,O++[⟨[],false,(KX.length:Int)⟩],C++KX.map fun k=>(⟨k,[],true⟩:Chg)) ?_ ⟨hjl1,hO1 _,by simp;omega,hR⟩ hms
  try dsimp only
  rw[←Cv];show norm _ _=upd _ _
  kernel_rfl

def K1(s:Sto):Prop:=∀h∈s.l,1≤(C1 h.at_).2.1.length
theorem Aro{FF:List Chg}(h:∀c∈FF,c.ok){k:Az}(hk:k∈Dc (FF.map Chg.key)):1≤k.length:=by
 obtain⟨q,_,h2,h3⟩:=Adz (Aje.1 hk);have h4:=h _ (List.mem_of_getElem? h2);rw[←h3];exact h4.1.1
theorem Anf{n:Az}{F:List Chg}(hn:n.length<256):∀{KK:List Az} {x:WSt},(∀k∈KK,1≤k.length)→(∀h∈x.l,1≤(C1 h.at_).2.1.length)→∀h∈(Ge n F KK x).l,1≤(C1 h.at_).2.1.length
 | [],x,_,h=>h
 |k::KK,x,hk,h=>by
  unfold Ge;refine Anf hn (fun y hy=>hk y (List.mem_cons_of_mem _ hy)) ?_
  rcases Q7 n k (getF F k) x with e|⟨v,_,e,_⟩
  ·rw[e];exact h
  ·rw[e];intro y hy;rcases Ajm hy with h1|rfl|⟨e,_,_,rfl⟩
   ·exact h y h1
   ·dsimp only;rw[Mt hn];exact hk k (List.mem_cons_self ..)
   ·dsimp only;rw[Mt hn];exact hk k (List.mem_cons_self ..)
theorem K1.write{m:Nat}{s:Sto}(h:SInv m s)(hk:K1 s)(n:Az)(cs:List Chg):K1 (s.writeM n cs).1:=by
 unfold Sto.writeM;split
 ·exact hk
 ·rename_i i hi;split
  ·exact hk
  ·rename_i F hF;obtain⟨_,f2,_⟩:=Agz hF (by simp) (by simp)
   exact Anf (h.name hi) (fun k hk=>Aro f2 hk) hk
theorem K1.comp{s:Sto}(hk:K1 s)(n:Az)(rev:Int):K1 (s.compM n rev).1:=by
 unfold Sto.compM;split
 ·exact hk
 ·split
  ·obtain⟨c1,_⟩:=Ahp (n:=n) (rev:=rev) (l:=s.l) (x:=⟨[],0⟩);rw[List.nil_append]at c1;intro x hx;dsimp only at hx;rw[c1]at hx;obtain⟨y,hy,e⟩:=List.mem_filterMap.1 hx;rw[(Agy e).1];exact hk y hy
  ·exact hk

open Go.Proofs
theorem inv1:SInv 0 aw1:=by
 have h1:=Ajr.open (nm:=D9 [116]) [116] Aha;rw[Ai9]at h1;exact h1

open Go.Proofs
abbrev tQ:Az:=[116]

open Go.Proofs
structure QInv(j:Nat)(s:Sto):Prop where
 inv:SInv (101*j) s
 c:CInv s
 v:VInv s
 nm:s.sp.map (·.1)=[tQ]
theorem QInv.len{j:Nat}{s:Sto}(h:QInv j s):s.sp.length=1:=by
 have:=congrArg List.length h.nm;simpa using this
theorem QInv.write{j:Nat}{s:Sto}(h:QInv j s){cs:List Chg}(hcs:cs.length≤100):QInv (j+1) (s.writeM tQ cs).1:=by
 refine⟨(h.inv.write tQ cs).mono (by omega),h.c.write h.inv tQ cs,h.v.write h.inv tQ cs,?_⟩
 rw[←h.nm];unfold Sto.writeM;split
 ·rfl
 ·rename_i i hi;split
  ·rfl
  ·exact Agj hi
theorem QInv.t{j:Nat}{s:Sto}(h:QInv j s):∃i,s.fi tQ=some i:=by
 have:s.fi tQ=(aw1).fi tQ:=Ajf (s:=aw1) (s':=s) (by rw[h.nm];rfl) tQ
 exact⟨0,this⟩
theorem QInv.u{j:Nat}{s:Sto}(h:QInv j s):s.fi [117]=none:=Ajf (s:=aw1) (s':=s) (by rw[h.nm];rfl) [117]
theorem Aqs:QInv 0 aw1:=by
 have hc:CInv ⟨[],[]⟩:=⟨fun n=>⟨rfl,rfl⟩,by intro h hh;cases hh⟩
 have hv:VInv ⟨[],[]⟩:=fun n=>rfl
 have h1:=hc.open (D9 tQ) tQ;have h2:=hv.open (D9 tQ) tQ;rw[Ai9]at h1 h2;exact⟨inv1,h1,h2,rfl⟩

structure Txn where
 ifs:List Cm
 th:List Act
 el:List Act
def Txn.toI(t:Txn):I:=.agg [.list (t.ifs.map Cm.toI),.list (t.th.map Act.toI),.list (t.el.map Act.toI)]
def Cm.big(c:Cm):Prop:=1000<c.key.length∨1000<c.val.length
instance(c:Cm):Decidable c.big:=by unfold Cm.big;infer_instance
def Act.big(d:Act):Prop:=1000<d.key.length∨1000<d.val.length∨1000<d.x.f.length∨1000<d.x.t.length
instance(d:Act):Decidable d.big:=by unfold Act.big;infer_instance
def Ajk:List Cm→Bool
 | []=>false
 |c::r=>if c.big then true else Ajk r
def A6:List Act→Bool
 | []=>false
 |d::r=>if d.big then true else A6 r
def Txn.great(t:Txn):Bool:=if 60<t.ifs.length+t.th.length+t.el.length then true else if Ajk t.ifs=true then true else if A6 t.th=true then true else A6 t.el
theorem Aoo:∀{l:List Cm},Ajk l=false→∀c∈l,¬c.big
 | [],_,c,h=>by cases h
 |d::r,h,c,hc=>by
  unfold Ajk at h;split at h
  ·cases h
  ·rcases List.mem_cons.1 hc with rfl|hc
   ·assumption
   ·exact Aoo h c hc
theorem Akc:∀{l:List Act},A6 l=false→∀c∈l,¬c.big
 | [],_,c,h=>by cases h
 |d::r,h,c,hc=>by
  unfold A6 at h;split at h
  ·cases h
  ·rcases List.mem_cons.1 hc with rfl|hc
   ·assumption
   ·exact Akc h c hc
theorem Txn.great_no{t:Txn}(h:t.great=false):t.ifs.length+t.th.length+t.el.length≤60∧(∀c∈t.ifs,¬c.big)∧∀d∈t.th++t.el,¬d.big:=by
 unfold Txn.great at h;split at h
 ·cases h
 ·split at h
  ·cases h
  ·split at h
   ·cases h
   ·rename_i h1 h2 h3;refine⟨by omega,Aoo (by simpa using h2),fun d hd=>?_⟩
    rcases List.mem_append.1 hd with hd|hd
    ·exact Akc (by simpa using h3) d hd
    ·exact Akc h d hd
structure BInv(j:Nat)(s:Sto):Prop extends QInv j s where
 k1:K1 s
theorem BInv.write{j:Nat}{s:Sto}(h:BInv j s){cs:List Chg}(hcs:cs.length≤100):BInv (j+1) (s.writeM tQ cs).1:=⟨h.toQInv.write hcs,h.k1.write h.inv tQ cs⟩
theorem BInv.comp{j:Nat}{s:Sto}(h:BInv j s)(hj:j≤700)(fl:Int):BInv j (s.compM tQ fl).1:=by
 refine⟨⟨h.inv.comp (by omega) tQ fl,h.c.comp h.inv tQ fl,h.v.comp tQ fl,?_⟩,h.k1.comp tQ fl⟩
 rw[←h.nm];unfold Sto.compM;split
 ·rfl
 ·rename_i i hi;split
  ·exact Agj hi
  ·rfl
end Go.Ab
