/- Lemmas -/
import Derived.Test.YtkpojedpcabojaaDoorV25
set_option linter.unusedVariables false
set_option linter.unusedSimpArgs false
set_option maxRecDepth 100000
set_option maxHeartbeats 40000000
namespace Go.Ab
open Go.Proofs
theorem Dm(t:Txn)(hbd:t.ifs.length+t.th.length+t.el.length≤1000000000000000000):Fn Tryd.prog Gt [.v t.Bx] (Is (.v (.bool t.Axo)) [.no]):=by
 refine Gn ?_ (by simp)
 obtain⟨ifs,th,el⟩:=t;unfold Txn.Axo;dsimp only at hbd ⊢;have hl1:(ifs.map Cm.Bx).length=ifs.length:=Bh _;have hl2:(th.map Act.Bx).length=th.length:=Bh _;have hl3:(el.map Act.Bx).length=el.length:=Bh _;have hs1:IntKind.i64.wrap ((ifs.length:Int)+(th.length:Int))=(ifs.length:Int)+(th.length:Int):=Bf (by omega)
 have hs2:IntKind.i64.wrap ((ifs.length:Int)+(th.length:Int)+(el.length:Int))=((ifs.length+th.length+el.length:Nat):Int):=(Bf (by omega)).trans (by omega)
 by_cases h60:60<ifs.length+th.length+el.length
 ·rw[if_pos h60];have g60:¬decide ((60:Int)<IntKind.i64.wrap (IntKind.i64.wrap ((ifs.length:Int)+(th.length:Int))+(el.length:Int)))=false:=by rw[hs1,hs2];simp;omega
  repeat'((conv=>whnf);first|((with_reducible refine A5 (fun hb=>?_) (fun hb=>?_))<;>(((try rw[hb]);(try simp only[Aa]at hb))))|((with_reducible refine Ac ?_ ?_);focus (and_intros<;>first|omega|(with_reducible rfl)|kernel_rfl|(simp;done)))|(with_reducible intro Cq)|((try dsimp only);rw[hl1])|(skip;rw[hl2])|(skip;rw[hl3])|(skip;rw[hs1])|(skip;rw[hs2]))
  all_goals(try(conv=>whnf))
  all_goals first
   |(exfalso;rw[hs1,hs2]at hb;omega)
   |(apply dKq<;>kernel_rfl)
 rw[if_neg h60];have g60:¬decide ((60:Int)<IntKind.i64.wrap (IntKind.i64.wrap ((ifs.length:Int)+(th.length:Int))+(el.length:Int)))=true:=by rw[hs1,hs2];simp;omega
 obtain⟨RES,Ajz⟩:∃R,(if Ajk ifs=true then true else if A6 th=true then true else A6 el)=R:=⟨_,rfl⟩
 rw[Ajz];repeat'((conv=>whnf);first|((with_reducible refine A5 (fun hb=>?_) (fun hb=>?_))<;>(((try rw[hb]);(try simp only[Aa]at hb))))|((with_reducible refine Ac ?_ ?_);focus (and_intros<;>first|omega|(with_reducible rfl)|kernel_rfl|(simp;done)))|(with_reducible intro Cq)|((try dsimp only);rw[hl1])|(skip;rw[hl2])|(skip;rw[hl3])|(skip;rw[hs1])|(skip;rw[hs2]))
 all_goals(try(conv=>whnf))
 all_goals(try(exfalso;rw[hs1,hs2]at hb;omega))
 refine Afm.by (X:=Nat) (fun j=>[(26,.v (ti (j:Int)))]) (fun j=>j≤ifs.length∧(if Ajk (ifs.drop j)=true then true else if A6 th=true then true else A6 el)=RES) (fun j=>ifs.length - j) 0 (by kernel_rfl) ⟨Cr _,Ajz⟩ ?_
 rintro j ⟨hj,hR⟩
 (try dsimp only at hj hR ⊢)
 have hw:IntKind.i64.wrap ((j:Int)+1)=((j+1:Nat):Int):=(Bf (by omega)).trans (by omega)
 by_cases hjl:j<ifs.length
 ·obtain⟨c,hc⟩:∃x,ifs[j]?=some x:=⟨_,Ae hjl⟩;have h3:¬decide ((j:Int)<(ifs.length:Int))=false:=by simp;omega
  have hdr:ifs.drop j=c::ifs.drop (j+1):=by rw[Cc hjl];rw[Ae hjl]at hc;cases hc;rfl
  rw[hdr]at hR;unfold Ajk at hR;obtain⟨ck,cw,cr,cv⟩:=c;by_cases hb:(Cm.mk ck cw cr cv).big
  ·rw[if_pos hb]at hR;have hR:true=RES:=hR;subst hR;unfold Cm.big at hb
   (try dsimp only at hb)
   repeat'((conv=>whnf);first|((with_reducible refine Ax (by first|(with_reducible assumption)|(with_reducible exact Ai (by assumption))|(with_reducible rfl)) (fun hb=>?_));(try rw[hb]);(try simp only[Aa]at hb))|((with_reducible refine Aw (by first|(with_reducible exact Ak (by assumption))|(with_reducible rfl)) (fun hb=>?_));(try rw[hb]);(try simp only[Aa]at hb))|((with_reducible refine A5 (fun hb=>?_) (fun hb=>?_))<;>first|(exfalso;((simp only[An]at hb<;>omega)))|((try rw[hb]);(try simp only[Aa]at hb)))|((with_reducible refine Ac ?_ ?_);focus (and_intros<;>first|omega|(with_reducible rfl)|kernel_rfl|(simp;done)))|(with_reducible intro Cq)|((try dsimp only);(rw[B6 hc])))
   all_goals(try(conv=>whnf))
   all_goals first
    |(exfalso;omega)
    |(apply dKq<;>kernel_rfl)
  ·rw[if_neg hb]at hR;unfold Cm.big at hb
   (try dsimp only at hb)
   repeat'((conv=>whnf);first|((with_reducible refine Ax (by(with_reducible exact Ai (by assumption))) (fun hb=>?_));(try rw[hb]);(try simp only[Aa]at hb))|((with_reducible refine Aw (by first|(with_reducible exact Ak (by assumption))|(with_reducible rfl)) (fun hb=>?_));(try rw[hb]);(try simp only[Aa]at hb))|((with_reducible refine A5 (fun hb=>?_) (fun hb=>?_))<;>first|(exfalso;((simp only[An]at hb<;>omega)))|((try rw[hb]);(try simp only[Aa]at hb)))|((with_reducible refine Ac ?_ ?_);focus (and_intros<;>first|omega|(with_reducible rfl)|kernel_rfl|(simp;done)))|(with_reducible intro Cq)|((try dsimp only);(rw[B6 hc]))|((try dsimp only);rw[hw]))
   all_goals(try(conv=>whnf))
   refine Round.by (j+1) ?_ ⟨by omega,hR⟩ (by omega)
   try dsimp only
   show norm _ _=upd _ _
   kernel_rfl
 have h3:¬decide ((j:Int)<(ifs.length:Int))=true:=by simp;omega
 rw[Db (by omega)]at hR
 replace hR:(if A6 th=true then true else A6 el)=RES:=hR
 repeat'((conv=>whnf);first|((with_reducible refine Aw (by(with_reducible exact Ak (by assumption))) (fun hb=>?_));(try rw[hb]);(try simp only[Aa]at hb))|((with_reducible refine Ac ?_ ?_);focus (and_intros<;>first|omega|(with_reducible rfl)|kernel_rfl|exact Ah (by rfl)|(simp;done)))|(with_reducible intro Cq))
 all_goals(try(conv=>whnf))
 refine Afm.by (X:=Nat) (fun y=>[(47,.v (ti (y:Int)))]) (fun y=>y≤2∧(if y=0 then(if A6 th=true then true else A6 el)else if y=1 then A6 el else false)=RES) (fun y=>2 - y) 0 (by kernel_rfl) ⟨Cr _,hR⟩ ?_
 clear hR;rintro y ⟨hy,hR⟩
 (try dsimp only at hy hR ⊢)
 match y,hy,hR with
 |0,_,hR=>
  replace hR:(if A6 th=true then true else A6 el)=RES:=hR
  have hLm:(th.map Act.Bx).length=th.length:=Bh _;repeat'((conv=>whnf);first|((with_reducible refine A5 (fun hb=>?_) (fun hb=>?_))<;>first|(exfalso;((simp only[An]at hb<;>omega)))|((try rw[hb]);(try simp only[Aa]at hb)))|((with_reducible refine Ac ?_ ?_);focus (and_intros<;>first|omega|(with_reducible rfl)|kernel_rfl|(simp;done)))|(with_reducible intro Cq)|((try dsimp only);rw[hLm]))
  all_goals(try(conv=>whnf))
  refine Afm.by (X:=Nat) (fun q=>[(53,.v (ti (q:Int)))]) (fun q=>q≤th.length∧(if A6 (th.drop q)=true then true else(A6 el))=RES) (fun q=>th.length - q) 0 (by kernel_rfl) ⟨Cr _,hR⟩ ?_
  rintro q ⟨hq,hQ⟩
  (try dsimp only at hq hQ ⊢)
  have hw2:IntKind.i64.wrap ((q:Int)+1)=((q+1:Nat):Int):=(Bf (by omega)).trans (by omega)
  by_cases hql:q<th.length
  case neg=>
   have h6:¬decide ((q:Int)<(th.length:Int))=true:=by simp;omega
   rw[Db (by omega)]at hQ
   have hQ:(if(1:Nat)=0 then(if A6 th=true then true else A6 el)else if(1:Nat)=1 then A6 el else false)=RES:=hQ
   repeat'((conv=>whnf);((with_reducible refine Aw (by(with_reducible exact Ak (by assumption))) (fun hb=>?_));(try rw[hb]);(try simp only[Aa]at hb)))
   all_goals(try(conv=>whnf))
   refine Round.by 1 ?_ ⟨by omega,hQ⟩ (by omega)
   try dsimp only
   show norm _ _=upd _ _
   kernel_rfl
  obtain⟨d,hd⟩:∃x,th[q]?=some x:=⟨_,Ae hql⟩;have h6:¬decide ((q:Int)<(th.length:Int))=false:=by simp;omega
  have hab:A6 (d::th.drop (q+1))=(if d.big then true else A6 (th.drop (q+1))):=rfl
  have hdq:th.drop q=d::th.drop (q+1):=by rw[Cc hql];rw[Ae hql]at hd;cases hd;rfl
  rw[hdq,hab]at hQ;obtain⟨dk,⟨xf,xt⟩,Awk,dv,dr,dm⟩:=d;by_cases hb:(Act.mk dk ⟨xf,xt⟩ Awk dv dr dm).big
  ·rw[if_pos hb]at hQ;have hQ:true=RES:=hQ;subst hQ;unfold Act.big at hb
   (try dsimp only at hb)
   repeat'((conv=>whnf);first|((with_reducible refine Ax (by first|(with_reducible assumption)|(with_reducible exact Ai (by assumption))|(with_reducible rfl)) (fun hb=>?_));(try rw[hb]);(try simp only[Aa]at hb))|((with_reducible refine Aw (by first|(with_reducible exact Ak (by assumption))|(with_reducible rfl)) (fun hb=>?_));(try rw[hb]);(try simp only[Aa]at hb))|((with_reducible refine A5 (fun hb=>?_) (fun hb=>?_))<;>first|(exfalso;((simp only[An]at hb<;>omega)))|((try rw[hb]);(try simp only[Aa]at hb)))|((with_reducible refine Ac ?_ ?_);focus (and_intros<;>first|omega|(with_reducible rfl)|kernel_rfl|(simp;done)))|(with_reducible intro Cq)|((try dsimp only);(rw[B6 hd])))
   all_goals(try(conv=>whnf))
   all_goals first
    |(exfalso;omega)
    |(apply dKq<;>kernel_rfl)
  ·rw[if_neg hb]at hQ;unfold Act.big at hb
   (try dsimp only at hb)
   repeat'((conv=>whnf);first|((with_reducible refine Ax (by(with_reducible exact Ai (by assumption))) (fun hb=>?_));(try rw[hb]);(try simp only[Aa]at hb))|((with_reducible refine Aw (by first|(with_reducible exact Ak (by assumption))|(with_reducible rfl)) (fun hb=>?_));(try rw[hb]);(try simp only[Aa]at hb))|((with_reducible refine A5 (fun hb=>?_) (fun hb=>?_))<;>first|(exfalso;((simp only[An]at hb<;>omega)))|((try rw[hb]);(try simp only[Aa]at hb)))|((with_reducible refine Ac ?_ ?_);focus (and_intros<;>first|omega|(with_reducible rfl)|kernel_rfl|(simp;done)))|(with_reducible intro Cq)|((try dsimp only);(rw[B6 hd]))|((try dsimp only);rw[hw2]))
   all_goals(try(conv=>whnf))
   refine Round.by (q+1) ?_ ⟨by omega,hQ⟩ (by omega)
   try dsimp only
   show norm _ _=upd _ _
   kernel_rfl
 |1,_,hR=>
  replace hR:(if A6 el=true then true else false)=RES:=by rw[←hR];cases A6 el<;>rfl
  have hLm:(el.map Act.Bx).length=el.length:=Bh _;repeat'((conv=>whnf);first|((with_reducible refine A5 (fun hb=>?_) (fun hb=>?_))<;>first|(exfalso;((simp only[An]at hb<;>omega)))|((try rw[hb]);(try simp only[Aa]at hb)))|((with_reducible refine Ac ?_ ?_);focus (and_intros<;>first|omega|(with_reducible rfl)|kernel_rfl|(simp;done)))|(with_reducible intro Cq)|((try dsimp only);rw[hLm]))
  all_goals(try(conv=>whnf))
  refine Afm.by (X:=Nat) (fun q=>[(53,.v (ti (q:Int)))]) (fun q=>q≤el.length∧(if A6 (el.drop q)=true then true else false)=RES) (fun q=>el.length - q) 0 (by kernel_rfl) ⟨Cr _,hR⟩ ?_
  rintro q ⟨hq,hQ⟩
  (try dsimp only at hq hQ ⊢)
  have hw2:IntKind.i64.wrap ((q:Int)+1)=((q+1:Nat):Int):=(Bf (by omega)).trans (by omega)
  by_cases hql:q<el.length
  case neg=>
   have h6:¬decide ((q:Int)<(el.length:Int))=true:=by simp;omega
   rw[Db (by omega)]at hQ
   have hQ:(if(2:Nat)=0 then(if A6 th=true then true else A6 el)else if(2:Nat)=1 then A6 el else false)=RES:=hQ
   repeat'((conv=>whnf);((with_reducible refine Aw (by(with_reducible exact Ak (by assumption))) (fun hb=>?_));(try rw[hb]);(try simp only[Aa]at hb)))
   all_goals(try(conv=>whnf))
   refine Round.by 2 ?_ ⟨by omega,hQ⟩ (by omega)
   try dsimp only
   show norm _ _=upd _ _
   kernel_rfl
  obtain⟨d,hd⟩:∃x,el[q]?=some x:=⟨_,Ae hql⟩;have h6:¬decide ((q:Int)<(el.length:Int))=false:=by simp;omega
  have hab:A6 (d::el.drop (q+1))=(if d.big then true else A6 (el.drop (q+1))):=rfl
  have hdq:el.drop q=d::el.drop (q+1):=by rw[Cc hql];rw[Ae hql]at hd;cases hd;rfl
  rw[hdq,hab]at hQ;obtain⟨dk,⟨xf,xt⟩,Awk,dv,dr,dm⟩:=d;by_cases hb:(Act.mk dk ⟨xf,xt⟩ Awk dv dr dm).big
  ·rw[if_pos hb]at hQ;have hQ:true=RES:=hQ;subst hQ;unfold Act.big at hb
   (try dsimp only at hb)
   repeat'((conv=>whnf);first|((with_reducible refine Ax (by first|(with_reducible assumption)|(with_reducible exact Ai (by assumption))|(with_reducible rfl)) (fun hb=>?_));(try rw[hb]);(try simp only[Aa]at hb))|((with_reducible refine Aw (by first|(with_reducible exact Ak (by assumption))|(with_reducible rfl)) (fun hb=>?_));(try rw[hb]);(try simp only[Aa]at hb))|((with_reducible refine A5 (fun hb=>?_) (fun hb=>?_))<;>first|(exfalso;((simp only[An]at hb<;>omega)))|((try rw[hb]);(try simp only[Aa]at hb)))|((with_reducible refine Ac ?_ ?_);focus (and_intros<;>first|omega|(with_reducible rfl)|kernel_rfl|(simp;done)))|(with_reducible intro Cq)|((try dsimp only);(rw[B6 hd])))
   all_goals(try(conv=>whnf))
   all_goals first
    |(exfalso;omega)
    |(apply dKq<;>kernel_rfl)
  ·rw[if_neg hb]at hQ;unfold Act.big at hb
   (try dsimp only at hb)
   repeat'((conv=>whnf);first|((with_reducible refine Ax (by(with_reducible exact Ai (by assumption))) (fun hb=>?_));(try rw[hb]);(try simp only[Aa]at hb))|((with_reducible refine Aw (by first|(with_reducible exact Ak (by assumption))|(with_reducible rfl)) (fun hb=>?_));(try rw[hb]);(try simp only[Aa]at hb))|((with_reducible refine A5 (fun hb=>?_) (fun hb=>?_))<;>first|(exfalso;((simp only[An]at hb<;>omega)))|((try rw[hb]);(try simp only[Aa]at hb)))|((with_reducible refine Ac ?_ ?_);focus (and_intros<;>first|omega|(with_reducible rfl)|kernel_rfl|(simp;done)))|(with_reducible intro Cq)|((try dsimp only);(rw[B6 hd]))|((try dsimp only);rw[hw2]))
   all_goals(try(conv=>whnf))
   refine Round.by (q+1) ?_ ⟨by omega,hQ⟩ (by omega)
   try dsimp only
   show norm _ _=upd _ _
   kernel_rfl
 |2,_,hR=>
  have hR:false=RES:=hR;subst hR;repeat'((conv=>whnf);((with_reducible refine A5 (fun hb=>?_) (fun hb=>?_))<;>first|(exfalso;((simp only[An]at hb<;>omega)))|((try rw[hb]);(try simp only[Aa]at hb))))
  all_goals(try(conv=>whnf))
  (apply dKq<;>kernel_rfl)
 |y+3,hy,_=>omega
end Go.Ab
