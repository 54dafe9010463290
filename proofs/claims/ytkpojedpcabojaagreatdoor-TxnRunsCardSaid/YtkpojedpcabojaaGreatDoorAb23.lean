/- Lemmas -/
import Derived.Test.YtkpojedpcabojaaGreatDoorK10
import Derived.Deep.Slices
import Derived.ChangeSame
import Derived.ChangeArms
import Derived.ProofKit
import Derived.OpenShut
set_option linter.unusedVariables false
set_option linter.unusedSimpArgs false
set_option maxRecDepth 100000
set_option maxHeartbeats 40000000
namespace Go.Ab
open Go.Proofs
theorem Dm(t:Txn)(hbd:t.ifs.length+t.th.length+t.el.length≤1000000000000000000):Fn Tryz.prog Gt [.v t.Bx] (Is (.v (.bool t.Axo)) [.no]):=by
 refine Gn ?_ (by simp)
 obtain⟨ifs,th,el⟩:=t;unfold Txn.Axo;dsimp only at hbd ⊢;have hl1:(ifs.map Cm.Bx).length=ifs.length:=Bh _;have hl2:(th.map Act.Bx).length=th.length:=Bh _;have hl3:(el.map Act.Bx).length=el.length:=Bh _;have hs1:IntKind.i64.wrap ((ifs.length:Int)+(th.length:Int))=(ifs.length:Int)+(th.length:Int):=Bf (by omega)
 have hs2:IntKind.i64.wrap ((ifs.length:Int)+(th.length:Int)+(el.length:Int))=((ifs.length+th.length+el.length:Nat):Int):=(Bf (by omega)).trans (by omega)
 by_cases h60:60<ifs.length+th.length+el.length
 ·rw[if_pos h60];have g60:¬decide ((60:Int)<IntKind.i64.wrap (IntKind.i64.wrap ((ifs.length:Int)+(th.length:Int))+(el.length:Int)))=false:=by rw[hs1,hs2];simp;omega
  repeat'((conv=>whnf);first|(with_reducible refine A5 (fun hb=>?_) fun hb=>?_)<;>(((try rw[hb]);(try simp only[Aa]at hb)))|(with_reducible refine Ac ?_ ?_);focus (and_intros<;>first|omega|with_reducible rfl|kernel_rfl|simp;done)|with_reducible intro Cq|(try dsimp only);rw[hl1]|skip;rw[hl2]|skip;rw[hl3]|skip;rw[hs1]|skip;rw[hs2])
  all_goals(try(conv=>whnf))
  all_goals first
   |(exfalso;rw[hs1,hs2]at hb;omega)
   |(apply Dj<;>kernel_rfl)
 rw[if_neg h60];have g60:¬decide ((60:Int)<IntKind.i64.wrap (IntKind.i64.wrap ((ifs.length:Int)+(th.length:Int))+(el.length:Int)))=true:=by rw[hs1,hs2];simp;omega
 obtain⟨C4,Ajz⟩:∃R,(if Ajk ifs=true then true else if A6 th=true then true else A6 el)=R:=⟨_,rfl⟩
 rw[Ajz];repeat'((conv=>whnf);first|(with_reducible refine A5 (fun hb=>?_) fun hb=>?_)<;>(((try rw[hb]);(try simp only[Aa]at hb)))|(with_reducible refine Ac ?_ ?_);focus (and_intros<;>first|omega|with_reducible rfl|kernel_rfl|simp;done)|with_reducible intro Cq|(try dsimp only);rw[hl1]|skip;rw[hl2]|skip;rw[hl3]|skip;rw[hs1]|skip;rw[hs2])
 all_goals(try(conv=>whnf))
 all_goals(try(exfalso;rw[hs1,hs2]at hb;omega))
 refine Afm.by (X:=Nat) (fun j=>[(26,.v (ti (j:Int)))]) (fun j=>j≤ifs.length∧(if Ajk (ifs.drop j)=true then true else if A6 th=true then true else A6 el)=C4) (fun j=>ifs.length - j) 0 (by kernel_rfl) ⟨Cr _,Ajz⟩ ?_
 rintro j ⟨hj,hR⟩
 (try dsimp only at hj hR ⊢)
 have hw:=zwj (j:=j) (by omega)
 by_cases hjl:j<ifs.length
 ·obtain⟨c,hc⟩:∃x,ifs[j]?=some x:=⟨_,Ae hjl⟩;have h3:¬decide ((j:Int)<(ifs.length:Int))=false:=by simp;omega
  have hdr:ifs.drop j=c::ifs.drop (j+1):=by rw[Cc hjl];rw[Ae hjl]at hc;cases hc;rfl
  rw[hdr]at hR;unfold Ajk at hR;obtain⟨ck,cw,cr,cv⟩:=c;by_cases hb:(Cm.mk ck cw cr cv).big
  ·rw[if_pos hb]at hR;have hR:true=C4:=hR;subst hR;unfold Cm.big at hb
   (try dsimp only at hb)
   repeat'((conv=>whnf);first|(with_reducible first|refine Ax (by first|assumption|exact Ai (by assumption)|rfl) fun hb=>?_|refine Aw (by first|exact Ak (by assumption)|rfl) fun hb=>?_);(try rw[hb]);try simp only[Aa]at hb|((with_reducible refine A5 (fun hb=>?_) fun hb=>?_)<;>first|exfalso;((simp only[An]at hb<;>omega))|(try rw[hb]);try simp only[Aa]at hb)|(with_reducible refine Ac ?_ ?_);focus (and_intros<;>first|omega|with_reducible rfl|kernel_rfl|simp;done)|with_reducible intro Cq|(try dsimp only);rw[B6 hc])
   all_goals(try(conv=>whnf))
   all_goals first
    |(exfalso;omega)
    |(apply Dj<;>kernel_rfl)
  ·rw[if_neg hb]at hR;unfold Cm.big at hb
   (try dsimp only at hb)
   repeat'((conv=>whnf);first|(with_reducible first|refine Ax (by exact Ai (by assumption)) fun hb=>?_|refine Aw (by first|exact Ak (by assumption)|rfl) fun hb=>?_);(try rw[hb]);try simp only[Aa]at hb|((with_reducible refine A5 (fun hb=>?_) fun hb=>?_)<;>first|exfalso;((simp only[An]at hb<;>omega))|(try rw[hb]);try simp only[Aa]at hb)|(with_reducible refine Ac ?_ ?_);focus (and_intros<;>first|omega|with_reducible rfl|kernel_rfl|simp;done)|with_reducible intro Cq|(try dsimp only);(first|rw[B6 hc]|rw[hw]))
   all_goals(try(conv=>whnf))
   refine Round.by (j+1) ?_ ⟨by omega,hR⟩ (by omega)
   try dsimp only
   show norm _ _=Cx _ _
   kernel_rfl
 have h3:¬decide ((j:Int)<(ifs.length:Int))=true:=by simp;omega
 rw[Db (by omega)]at hR
 replace hR:(if A6 th=true then true else A6 el)=C4:=hR
 repeat'((conv=>whnf);first|(with_reducible refine Aw (by exact Ak (by assumption)) fun hb=>?_);(try rw[hb]);try simp only[Aa]at hb|(with_reducible refine Ac ?_ ?_);focus (and_intros<;>first|omega|with_reducible rfl|kernel_rfl|exact Ah (by rfl)|simp;done)|with_reducible intro Cq)
 all_goals(try(conv=>whnf))
 refine Afm.by (X:=Nat) (fun y=>[(47,.v (ti (y:Int)))]) (fun y=>y≤2∧(if y=0 then(if A6 th=true then true else A6 el)else if y=1 then A6 el else false)=C4) (fun y=>2 - y) 0 (by kernel_rfl) ⟨Cr _,hR⟩ ?_
 clear hR;rintro y ⟨hy,hR⟩
 (try dsimp only at hy hR ⊢)
 match y,hy,hR with
 |0,_,hR=>
  replace hR:(if A6 th=true then true else A6 el)=C4:=hR
  have hLm:(th.map Act.Bx).length=th.length:=Bh _;repeat'((conv=>whnf);first|((with_reducible refine A5 (fun hb=>?_) fun hb=>?_)<;>first|exfalso;((simp only[An]at hb<;>omega))|(try rw[hb]);try simp only[Aa]at hb)|(with_reducible refine Ac ?_ ?_);focus (and_intros<;>first|omega|with_reducible rfl|kernel_rfl|simp;done)|with_reducible intro Cq|(try dsimp only);rw[hLm])
  all_goals(try(conv=>whnf))
  refine Afm.by (X:=Nat) (fun q=>[(53,.v (ti (q:Int)))]) (fun q=>q≤th.length∧(if A6 (th.drop q)=true then true else(A6 el))=C4) (fun q=>th.length - q) 0 (by kernel_rfl) ⟨Cr _,hR⟩ ?_
  rintro q ⟨hq,hQ⟩
  (try dsimp only at hq hQ ⊢)
  have hw2:=zwj (j:=q) (by omega)
  by_cases hql:q<th.length
  case neg=>
   have h6:¬decide ((q:Int)<(th.length:Int))=true:=by simp;omega
   rw[Db (by omega)]at hQ
   have hQ:(if(1:Nat)=0 then(if A6 th=true then true else A6 el)else if(1:Nat)=1 then A6 el else false)=C4:=hQ
   repeat'((conv=>whnf);((with_reducible refine Aw (by(with_reducible exact Ak (by assumption))) fun hb=>?_);(try rw[hb]);(try simp only[Aa]at hb)))
   all_goals(try(conv=>whnf))
   refine Round.by 1 ?_ ⟨by omega,hQ⟩ (by omega)
   try dsimp only
   show norm _ _=Cx _ _
   kernel_rfl
  obtain⟨d,hd⟩:∃x,th[q]?=some x:=⟨_,Ae hql⟩;have h6:¬decide ((q:Int)<(th.length:Int))=false:=by simp;omega
  have hab:A6 (d::th.drop (q+1))=(if d.big then true else A6 (th.drop (q+1))):=rfl
  have hdq:th.drop q=d::th.drop (q+1):=by rw[Cc hql];rw[Ae hql]at hd;cases hd;rfl
  rw[hdq,hab]at hQ;obtain⟨dk,⟨xf,xt⟩,Awk,dv,dr,dm⟩:=d;by_cases hb:(Act.mk dk ⟨xf,xt⟩ Awk dv dr dm).big
  ·rw[if_pos hb]at hQ;have hQ:true=C4:=hQ;subst hQ;unfold Act.big at hb
   (try dsimp only at hb)
   repeat'((conv=>whnf);first|(with_reducible first|refine Ax (by first|assumption|exact Ai (by assumption)|rfl) fun hb=>?_|refine Aw (by first|exact Ak (by assumption)|rfl) fun hb=>?_);(try rw[hb]);try simp only[Aa]at hb|((with_reducible refine A5 (fun hb=>?_) fun hb=>?_)<;>first|exfalso;((simp only[An]at hb<;>omega))|(try rw[hb]);try simp only[Aa]at hb)|(with_reducible refine Ac ?_ ?_);focus (and_intros<;>first|omega|with_reducible rfl|kernel_rfl|simp;done)|with_reducible intro Cq|(try dsimp only);rw[B6 hd])
   all_goals(try(conv=>whnf))
   all_goals first
    |(exfalso;omega)
    |(apply Dj<;>kernel_rfl)
  ·rw[if_neg hb]at hQ;unfold Act.big at hb
   (try dsimp only at hb)
   repeat'((conv=>whnf);first|(with_reducible first|refine Ax (by exact Ai (by assumption)) fun hb=>?_|refine Aw (by first|exact Ak (by assumption)|rfl) fun hb=>?_);(try rw[hb]);try simp only[Aa]at hb|((with_reducible refine A5 (fun hb=>?_) fun hb=>?_)<;>first|exfalso;((simp only[An]at hb<;>omega))|(try rw[hb]);try simp only[Aa]at hb)|(with_reducible refine Ac ?_ ?_);focus (and_intros<;>first|omega|with_reducible rfl|kernel_rfl|simp;done)|with_reducible intro Cq|(try dsimp only);(first|rw[B6 hd]|rw[hw2]))
   all_goals(try(conv=>whnf))
   refine Round.by (q+1) ?_ ⟨by omega,hQ⟩ (by omega)
   try dsimp only
   show norm _ _=Cx _ _
   kernel_rfl
 |1,_,hR=>
  replace hR:(if A6 el=true then true else false)=C4:=by rw[←hR];cases A6 el<;>rfl
  have hLm:(el.map Act.Bx).length=el.length:=Bh _;repeat'((conv=>whnf);first|((with_reducible refine A5 (fun hb=>?_) fun hb=>?_)<;>first|exfalso;((simp only[An]at hb<;>omega))|(try rw[hb]);try simp only[Aa]at hb)|(with_reducible refine Ac ?_ ?_);focus (and_intros<;>first|omega|with_reducible rfl|kernel_rfl|simp;done)|with_reducible intro Cq|(try dsimp only);rw[hLm])
  all_goals(try(conv=>whnf))
  refine Afm.by (X:=Nat) (fun q=>[(53,.v (ti (q:Int)))]) (fun q=>q≤el.length∧(if A6 (el.drop q)=true then true else false)=C4) (fun q=>el.length - q) 0 (by kernel_rfl) ⟨Cr _,hR⟩ ?_
  rintro q ⟨hq,hQ⟩
  (try dsimp only at hq hQ ⊢)
  have hw2:=zwj (j:=q) (by omega)
  by_cases hql:q<el.length
  case neg=>
   have h6:¬decide ((q:Int)<(el.length:Int))=true:=by simp;omega
   rw[Db (by omega)]at hQ
   have hQ:(if(2:Nat)=0 then(if A6 th=true then true else A6 el)else if(2:Nat)=1 then A6 el else false)=C4:=hQ
   repeat'((conv=>whnf);((with_reducible refine Aw (by(with_reducible exact Ak (by assumption))) fun hb=>?_);(try rw[hb]);(try simp only[Aa]at hb)))
   all_goals(try(conv=>whnf))
   refine Round.by 2 ?_ ⟨by omega,hQ⟩ (by omega)
   try dsimp only
   show norm _ _=Cx _ _
   kernel_rfl
  obtain⟨d,hd⟩:∃x,el[q]?=some x:=⟨_,Ae hql⟩;have h6:¬decide ((q:Int)<(el.length:Int))=false:=by simp;omega
  have hab:A6 (d::el.drop (q+1))=(if d.big then true else A6 (el.drop (q+1))):=rfl
  have hdq:el.drop q=d::el.drop (q+1):=by rw[Cc hql];rw[Ae hql]at hd;cases hd;rfl
  rw[hdq,hab]at hQ;obtain⟨dk,⟨xf,xt⟩,Awk,dv,dr,dm⟩:=d;by_cases hb:(Act.mk dk ⟨xf,xt⟩ Awk dv dr dm).big
  ·rw[if_pos hb]at hQ;have hQ:true=C4:=hQ;subst hQ;unfold Act.big at hb
   (try dsimp only at hb)
   repeat'((conv=>whnf);first|(with_reducible first|refine Ax (by first|assumption|exact Ai (by assumption)|rfl) fun hb=>?_|refine Aw (by first|exact Ak (by assumption)|rfl) fun hb=>?_);(try rw[hb]);try simp only[Aa]at hb|((with_reducible refine A5 (fun hb=>?_) fun hb=>?_)<;>first|exfalso;((simp only[An]at hb<;>omega))|(try rw[hb]);try simp only[Aa]at hb)|(with_reducible refine Ac ?_ ?_);focus (and_intros<;>first|omega|with_reducible rfl|kernel_rfl|simp;done)|with_reducible intro Cq|(try dsimp only);rw[B6 hd])
   all_goals(try(conv=>whnf))
   all_goals first
    |(exfalso;omega)
    |(apply Dj<;>kernel_rfl)
  ·rw[if_neg hb]at hQ;unfold Act.big at hb
   (try dsimp only at hb)
   repeat'((conv=>whnf);first|(with_reducible first|refine Ax (by exact Ai (by assumption)) fun hb=>?_|refine Aw (by first|exact Ak (by assumption)|rfl) fun hb=>?_);(try rw[hb]);try simp only[Aa]at hb|((with_reducible refine A5 (fun hb=>?_) fun hb=>?_)<;>first|exfalso;((simp only[An]at hb<;>omega))|(try rw[hb]);try simp only[Aa]at hb)|(with_reducible refine Ac ?_ ?_);focus (and_intros<;>first|omega|with_reducible rfl|kernel_rfl|simp;done)|with_reducible intro Cq|(try dsimp only);(first|rw[B6 hd]|rw[hw2]))
   all_goals(try(conv=>whnf))
   refine Round.by (q+1) ?_ ⟨by omega,hQ⟩ (by omega)
   try dsimp only
   show norm _ _=Cx _ _
   kernel_rfl
 |2,_,hR=>
  have hR:false=C4:=hR;subst hR;repeat'((conv=>whnf);((with_reducible refine A5 (fun hb=>?_) fun hb=>?_)<;>first|(exfalso;((simp only[An]at hb<;>omega)))|((try rw[hb]);(try simp only[Aa]at hb))))
  all_goals(try(conv=>whnf))
  (apply Dj<;>kernel_rfl)
 |y+3,hy,_=>omega

open Go.Proofs
theorem Bg9{m:Nat}{s:Cn}(hI:Akb m s)(n:Az)(x:Sp):(s.Avs n x).length≤m:=by
 unfold Cn.Avs Cn.inX Lh;rw[Bh];exact Kq (List.length_filter_le _ _) (Kq (Anb _ _) hI.lb.len)
theorem Bht{m:Nat}{s:Cn}(hI:Akb m s)(n:Az)(d:Act):(s.Ayo n d).length≤m+1:=by
 unfold Cn.Ayo;split
 ·simp
 ·split
  ·rw[Bh];have:=Bg9 hI n d.x;omega
  ·simp
theorem Bas{α:Type}{b:Nat}:∀{l:List (List α)},(∀x∈l,x.length≤b)→l.flatten.length≤l.length*b
 | [],_=>by simp
 |x::r,h=>by
  have h1:=h x (B2 ..);have h2:=Bas (l:=r) fun y hy=>h y (B4 _ hy)
  rw[List.flatten_cons,Hq,Ho,Aj7];omega
theorem Bk4{m:Nat}{s:Cn}(hI:Akb m s){n:Az}{ifs:List Cm}{th el:List Act}:(s.runM n ifs th el).chs.length≤8*(m+1):=by
 by_cases he:(s.runM n ifs th el).e=0
 ·obtain⟨_,_,acts,_,h8,_,h2,_⟩:=Bhg he;rw[h2];have:=Bas (b:=m+1) (l:=acts.map (s.Ayo n)) fun x hx=>by obtain⟨d,_,rfl⟩:=X4.1 hx;exact Bht hI n d
  rw[Bh]at this;exact Kq this (Jh _ h8)
 ·rw[(Bdr he).2];simp

open Go.Proofs
theorem Bcf(l:List Ef)(hl:l.length≤1000000):Fn Tryz.prog Ayj [.v (.list (l.map Ef.Bx)),.v (.list (l.map Ef.Bx))] (Is (.v (.bool true)) [.no,.no]):=by
 refine Aya ?_ (by simp)
 have hlm:(l.map Ef.Bx).length=l.length:=Bh _;have g1:¬(!decide ((((l.map Ef.Bx).length:Nat):Int)=((l.map Ef.Bx).length:Int)))=true:=by simp
 have g2:¬(!decide (((l.length:Nat):Int)=(l.length:Int)))=true:=by simp
 repeat'((conv=>whnf);first|(with_reducible refine Aw (by exact Ak (by assumption)) fun hb=>?_);(try rw[hb]);try simp only[Aa]at hb|(with_reducible refine Ac ?_ ?_);focus (and_intros<;>(with_reducible rfl))|with_reducible intro Cq)
 all_goals(try(conv=>whnf))
 refine Afm.by (X:=Nat) (fun j=>[(5,.v (ti (j:Int)))]) (fun j=>j≤l.length) (fun j=>l.length - j) 0 (by kernel_rfl) (Cr _) ?_
 rintro j hj
 (try dsimp only at hj ⊢)
 have hw:=zwj (j:=j) (by omega)
 by_cases hjl:j<l.length
 case neg=>
  have h3:¬decide ((j:Int)<(l.length:Int))=true:=by simp;omega
  repeat'((conv=>whnf);first|(with_reducible refine Aw (by first|exact Ak (by assumption)|refine decide_eq_false ?_;omega) fun hb=>?_);(try rw[hb]);try simp only[Aa]at hb|(with_reducible refine Ac ?_ ?_);focus (and_intros<;>(with_reducible rfl))|with_reducible intro Cq|skip;rw[hlm])
  all_goals(try(conv=>whnf))
  (apply Dj<;>kernel_rfl)
 obtain⟨x,hx⟩:∃x,l[j]?=some x:=⟨_,Ae hjl⟩;have h3:¬decide ((j:Int)<(l.length:Int))=false:=by simp;omega
 obtain⟨xk,xv,xg⟩:=x;have g:¬(!(decide (xk=xk)&&(decide (xv=xv)&&(decide (xg=xg)&&true))))=true:=by simp
 repeat'((conv=>whnf);first|(with_reducible first|refine Ax (by first|assumption|exact Ai (by assumption)|refine decide_eq_true ?_;omega) fun hb=>?_|refine Aw (by exact Ak (by assumption)) fun hb=>?_);(try rw[hb]);try simp only[Aa]at hb|(with_reducible refine Ac ?_ ?_);focus (and_intros<;>first|omega|with_reducible rfl|kernel_rfl)|with_reducible intro Cq|(with_reducible refine Ai2.mkV ?_ ?_ ?_ fun Cq=>?_);(iterate 3 focus (as_aux_lemma=>kernel_rfl));try simp only[zRL]at Cq|(try dsimp only);(first|rw[hlm]|rw[B6 hx])|skip;rw[hw])
 all_goals(try(conv=>whnf))
 refine Round.by (j+1) ?_ (by omega) (by omega)
 try dsimp only
 show norm _ _=Cx _ _
 kernel_rfl
theorem A9r(l:List Ou)(hl:l.length≤1000000)(hp:∀o∈l,o.prs.length≤100000):Fn Tryz.prog Azy [.v (.list (l.map Ou.Bx)),.v (.list (l.map Ou.Bx))] (Is (.v (.bool true)) [.no,.no]):=by
 refine Azo ?_ (by simp)
 have hlm:(l.map Ou.Bx).length=l.length:=Bh _;have g1:¬(!decide ((((l.map Ou.Bx).length:Nat):Int)=((l.map Ou.Bx).length:Int)))=true:=by simp
 have g2:¬(!decide (((l.length:Nat):Int)=(l.length:Int)))=true:=by simp
 repeat'((conv=>whnf);first|(with_reducible refine Aw (by exact Ak (by assumption)) fun hb=>?_);(try rw[hb]);try simp only[Aa]at hb|(with_reducible refine Ac ?_ ?_);focus (and_intros<;>(with_reducible rfl))|with_reducible intro Cq)
 all_goals(try(conv=>whnf))
 refine Afm.by (X:=Nat) (fun j=>[(5,.v (ti (j:Int)))]) (fun j=>j≤l.length) (fun j=>l.length - j) 0 (by kernel_rfl) (Cr _) ?_
 rintro j hj
 (try dsimp only at hj ⊢)
 have hw:=zwj (j:=j) (by omega)
 by_cases hjl:j<l.length
 case neg=>
  have h3:¬decide ((j:Int)<(l.length:Int))=true:=by simp;omega
  repeat'((conv=>whnf);first|(with_reducible refine Aw (by first|exact Ak (by assumption)|refine decide_eq_false ?_;omega) fun hb=>?_);(try rw[hb]);try simp only[Aa]at hb|(with_reducible refine Ac ?_ ?_);focus (and_intros<;>(with_reducible rfl))|with_reducible intro Cq|skip;rw[hlm])
  all_goals(try(conv=>whnf))
  (apply Dj<;>kernel_rfl)
 obtain⟨x,hx⟩:∃x,l[j]?=some x:=⟨_,Ae hjl⟩;have h3:¬decide ((j:Int)<(l.length:Int))=false:=by simp;omega
 have hpl:=hp x (Cb hx);obtain⟨P,mo,ct⟩:=x;dsimp only at hpl;have hs:=A8o P P hpl;rw[decide_eq_true rfl]at hs;have g3:¬(!decide (mo=mo))=true:=by simp
 have g4:¬(!decide (ct=ct))=true:=by simp
 repeat'((conv=>whnf);first|(with_reducible first|refine Ax (by first|exact Ai (by assumption)|refine decide_eq_true ?_;omega) fun hb=>?_|refine Aw (by first|exact Ak (by assumption)|rfl) fun hb=>?_);(try rw[hb]);try simp only[Aa]at hb|((with_reducible refine A5 (fun hb=>?_) fun hb=>?_)<;>first|exact absurd hb (by decide)|(try rw[hb]);try simp only[Aa]at hb)|(with_reducible refine Ac ?_ ?_);focus (and_intros<;>first|omega|with_reducible rfl|kernel_rfl|intro _ hh;cases hh;done|simp;done|decide)|with_reducible intro Cq|(with_reducible refine Ai2.mkV ?_ ?_ ?_ fun Cq=>?_);(iterate 3 focus (as_aux_lemma=>kernel_rfl));try simp only[zRL]at Cq|(try dsimp only);(first|rw[hlm]|rw[B6 hx])|(with_reducible refine Aq3.mk ?_);refine⟨_,_,hs,?_⟩|(try dsimp only);rw[hw])
 all_goals(try(conv=>whnf))
 refine Round.by (j+1) ?_ (by omega) (by omega)
 try dsimp only
 show norm _ _=Cx _ _
 kernel_rfl
theorem Bi7{s:Cn}{n:Az}{ifs:List Cm}{th el:List Act}:(s.runM n ifs th el).outs.length≤8∧∀o∈(s.runM n ifs th el).outs,o.prs.length≤16:=by
 by_cases he:(s.runM n ifs th el).e=0
 ·obtain⟨_,_,acts,_,h8,h2,_,_⟩:=Bhg he;rw[h2];refine⟨by rw[Bh];exact h8,fun o ho=>?_⟩
  obtain⟨d,_,rfl⟩:=X4.1 ho;unfold Cn.A0d;split
  ·exact Be8 _ _ _ _ _
  ·split<;>simp
 ·rw[(Bdr he).1];simp

open Go.Proofs
theorem Br3{j:Nat}{s:Cn}(h:Ayk j s):s.fi [117]=none:=by
 cases hf:s.fi [117]with
 |none=>rfl
 |some i=>
  have h1:=Aiv.1 (show(s.fi [117]).isSome=true by rw[hf];rfl)
  rw[h.nm]at h1;simp at h1
theorem A8v(w:List (List Ef))(fl:Int)(t:Txn)(hbd:t.ifs.length+t.th.length+t.el.length≤1000000000000000000)(h:(Az0 w fl).2=false∨t.Axo=true):
 Fn Tryz.prog Asy [.v (.list (w.map fun l=>I.list (l.map Ef.Bx))),.v (ti fl),.v t.Bx] (Is (.v (.bool true)) [.no,.no,.no]):=by
 refine Aut ?_ (by simp)
 have hg:=Dm t hbd;have hbo:=A9i w fl;generalize Az0 w fl=Z at*;obtain⟨s,b⟩:=Z;unfold Axm at hbo;dsimp only at hbo h;generalize s.ref=R at*;have hcs:b=false∨(b=true∧t.Axo=true):=by
  cases b with
  |false=>exact .inl rfl
  |true=>exact .inr ⟨rfl,by rcases h with h|h;(cases h);exact h⟩
 clear h;rcases hcs with rfl|⟨rfl,h⟩
 rotate_left;rw[h]at hg;all_goals
  repeat'((conv=>whnf);first|((with_reducible refine A5 (fun hb=>?_) fun hb=>?_)<;>first|exact absurd hb (by decide)|(try rw[hb]);try simp only[Aa]at hb)|(with_reducible refine Ac ?_ ?_);focus (and_intros<;>first|intro _ hh;cases hh;done|decide)|(with_reducible refine Ct.mk ?_);refine⟨_,B0,?_⟩;rintro _ _ ⟨rfl,rfl⟩)
  all_goals(try(conv=>whnf))
  generalize hKK:F7 Tryz.prog _ _=KK;as_aux_lemma=>
   repeat'((conv=>whnf);first|(with_reducible refine Ac ?_ ?_);focus (and_intros<;>first|omega|kernel_rfl|intro _ hh;cases hh;done|simp;done)|(with_reducible refine Ct.mk ?_);refine⟨_,hbo,?_⟩;rintro _ _ ⟨rfl,rfl⟩)
   all_goals(try(conv=>whnf))
   rw[←hKK];clear hKK;as_aux_lemma=>
    repeat'((conv=>whnf);first|(with_reducible first|refine Ax (by first|assumption|rfl) fun hb=>?_|refine Aw (by rfl) fun hb=>?_);(try rw[hb]);try simp only[Aa]at hb|((with_reducible refine A5 (fun hb=>?_) fun hb=>?_)<;>first|exact absurd hb (by decide)|(try rw[hb]);try simp only[Aa]at hb)|(with_reducible refine Ac ?_ ?_);focus (and_intros<;>first|omega|kernel_rfl|intro _ hh;cases hh;done|simp;done|decide)|(with_reducible refine Ct.mk ?_);refine⟨_,hg,?_⟩;rintro _ _ ⟨rfl,rfl⟩)
    all_goals(try(conv=>whnf))
    all_goals((apply Dj<;>kernel_rfl))
theorem Bft(w:List (List Ef))(fl:Int)(t:Txn)(hbd:t.ifs.length+t.th.length+t.el.length≤1000000000000000000)(hz:(Az0 w fl).2=true)(hG:t.Axo=false):
 Fn Tryz.prog Asy [.v (.list (w.map fun l=>I.list (l.map Ef.Bx))),.v (ti fl),.v t.Bx] (Is (.v (.bool true)) [.no,.no,.no]):=by
 refine Aut ?_ (by simp)
 have hg:=Dm t hbd;rw[hG]at hg;have hbo:=A9i w fl;obtain⟨m,hm,hI⟩:=Bfu w fl;generalize Az0 w fl=Z at*;obtain⟨s,b⟩:=Z;unfold Axm at hbo;dsimp only at hbo hz hI;subst hz;obtain⟨g1,g2,g3⟩:=Txn.Bhz hG;obtain⟨ifs,th,el⟩:=t;dsimp only at g1 g2 g3;have k1:∀c∈ifs,c.key.length≤1000:=fun c hc=>by have:=g2 c hc;unfold Cm.big at this;omega
 have h8:=hI.len;have hfu:s.fi [117]=none:=Br3 hI.toAyk;have ar:=Aky hI.inv (by omega) hI.c tQ ifs th el (by omega) (by omega)
 have arr:=Bkv hI.inv (by omega) hI.c tQ ifs th el (by omega) (by omega)
 have au:=Aky hI.inv (by omega) hI.c [117] ifs th el (by omega) (by omega)
 rw[show s.runM [117] ifs th el=⟨false,[],[],16⟩by unfold Cn.runM;rw[hfu];rfl]at au
 have ht1:=Apz hI.inv (by omega) tQ (by decide) ifs (by omega) k1
 have ht2:=A2g hI.inv (by omega) (by omega) hI.c tQ ifs (by omega) k1
 have hu1:=Apz hI.inv (by omega) [117] (by decide) ifs (by omega) k1
 have hu2:=A2g hI.inv (by omega) (by omega) hI.c [117] ifs (by omega) k1
 have hdu:=Bk1 hI.inv (by omega) (by omega)
 have hsa:=Bgb s.ref s.ref (Bkq hI.inv (by omega) (by omega) hI.c) (Bkq hI.inv (by omega) (by omega) hI.c)
 rw[decide_eq_true rfl]at hsa;obtain⟨ho1,ho2⟩:=Bi7 (s:=s) (n:=tQ) (ifs:=ifs) (th:=th) (el:=el);have hc1:=Bk4 hI.inv (n:=tQ) (ifs:=ifs) (th:=th) (el:=el);generalize s.ref=R at*;generalize s.runM tQ ifs th el=RN at*;generalize s.Aqu tQ ifs=HT at*;generalize s.Aqu [117] ifs=HU at*;obtain⟨yes,O,C,e⟩:=RN;dsimp only[Rn.sv]at ar arr au ho1 ho2 hc1;have hso:=A9r O (by omega) (fun o ho=>Kq (ho2 o ho) (by omega))
 have hsc:=Bcf C (by omega)
 have gy:¬(!decide (yes=yes))=true:=by simp
 have ge:¬(!decide (e=e))=true:=by simp
 have gT:¬decide (HT=HT)=false:=by simp
 have gU:¬decide (HU=HU)=false:=by simp
 have hti:Js ((R.map Spc.Bx).map D.it)=some (R.map Spc.Bx):=Ad _;repeat'((conv=>whnf);first|((with_reducible refine A5 (fun hb=>?_) fun hb=>?_)<;>first|exact absurd hb (by decide)|(try rw[hb]);try simp only[Aa]at hb)|(with_reducible refine Ac ?_ ?_);focus (and_intros<;>first|intro _ hh;cases hh;done|decide)|(with_reducible refine Ct.mk ?_);refine⟨_,B0,?_⟩;rintro _ _ ⟨rfl,rfl⟩)
 all_goals(try(conv=>whnf))
 generalize hKK:F7 Tryz.prog _ _=KK;as_aux_lemma=>
  repeat'((conv=>whnf);first|(with_reducible refine Ac ?_ ?_);focus (and_intros<;>first|omega|kernel_rfl|intro _ hh;cases hh;done|simp;done)|(with_reducible refine Ct.mk ?_);refine⟨_,hbo,?_⟩;rintro _ _ ⟨rfl,rfl⟩)
  all_goals(try(conv=>whnf))
  rw[←hKK];clear hKK;as_aux_lemma=>
   repeat'((conv=>whnf);first|(with_reducible refine Aw (by first|assumption|rfl) fun hb=>?_);(try rw[hb]);try simp only[Aa]at hb|((with_reducible refine A5 (fun hb=>?_) fun hb=>?_)<;>first|exact absurd hb (by decide)|(try rw[hb]);try simp only[Aa]at hb)|(with_reducible refine Ac ?_ ?_);focus (and_intros<;>first|omega|kernel_rfl|intro _ hh;cases hh;done|simp;done|decide)|(with_reducible refine Ct.mk ?_);refine⟨_,hg,?_⟩;rintro _ _ ⟨rfl,rfl⟩)
   all_goals(try(conv=>whnf))
   generalize hKK:F7 Tryz.prog _ _=KK;as_aux_lemma=>
    repeat'((conv=>whnf);first|(with_reducible refine Ac ?_ ?_);focus (and_intros<;>first|omega|intro _ hh;cases hh;done|simp;done)|(with_reducible refine Ct.mk ?_);refine⟨_,ar,?_⟩;rintro _ _ ⟨rfl,rfl⟩)
    all_goals(try(conv=>whnf))
    rw[←hKK];clear hKK;as_aux_lemma=>
     repeat'((conv=>whnf);((with_reducible refine Ac ?_ ?_);focus (and_intros<;>first|omega|kernel_rfl|(simp;done)|decide)))
     all_goals(try(conv=>whnf))
     generalize hKK:F7 Tryz.prog _ _=KK;as_aux_lemma=>
      repeat'((conv=>whnf);first|(with_reducible refine Ac ?_ ?_);focus (and_intros<;>first|omega|intro _ hh;cases hh;done|simp;done)|(with_reducible refine Ct.mk ?_);refine⟨_,arr,?_⟩;rintro _ _ ⟨rfl,rfl⟩)
      all_goals(try(conv=>whnf))
      rw[←hKK];clear hKK;as_aux_lemma=>
       repeat'((conv=>whnf);first|(with_reducible refine Aw (by first|assumption|exact Ak (by assumption)|rfl) fun hb=>?_);(try rw[hb]);try simp only[Aa]at hb|((with_reducible refine A5 (fun hb=>?_) fun hb=>?_)<;>first|exact absurd hb (by decide)|(try rw[hb]);try simp only[Aa]at hb)|(with_reducible refine Ac ?_ ?_);focus (and_intros<;>first|omega|kernel_rfl|intro _ hh;cases hh;done|simp;done|decide)|(with_reducible refine Ct.mk ?_);(first|refine⟨_,hso,?_⟩|refine⟨_,hsc,?_⟩);rintro _ _ ⟨rfl,rfl⟩)
       all_goals(try(conv=>whnf))
       generalize hKK:F7 Tryz.prog _ _=KK;as_aux_lemma=>
        repeat'((conv=>whnf);first|(with_reducible refine Ac ?_ ?_);focus (and_intros<;>first|omega|intro _ hh;cases hh;done|simp;done)|(with_reducible refine Ct.mk ?_);refine⟨_,au,?_⟩;rintro _ _ ⟨rfl,rfl⟩)
        all_goals(try(conv=>whnf))
        rw[←hKK];clear hKK;as_aux_lemma=>
         repeat'((conv=>whnf);first|(with_reducible refine Ax (by first|exact Ai (by assumption)|refine decide_eq_true ?_;omega|rfl) fun hb=>?_);(try rw[hb]);try simp only[Aa]at hb|(with_reducible refine Ac ?_ ?_);focus (and_intros<;>first|omega|with_reducible rfl|kernel_rfl|intro _ hh;cases hh;done|simp;done|decide)|(with_reducible refine Ai2.mkV ?_ ?_ ?_ fun Cq=>?_);(iterate 3 focus (as_aux_lemma=>kernel_rfl));try simp only[zRL]at Cq|(with_reducible refine Aq3.mk ?_);refine⟨_,_,ht1,?_⟩|(with_reducible refine Aq3.mk ?_);refine⟨_,_,ht2,?_⟩|(with_reducible refine Aq3.mk ?_);refine⟨_,_,hu1,?_⟩|(with_reducible refine Aq3.mk ?_);refine⟨_,_,hu2,?_⟩|(with_reducible refine Aq3.mk ?_);refine⟨_,_,hdu,?_⟩|(with_reducible refine Aq3.mk ?_);refine⟨_,_,hsa,?_⟩|(with_reducible apply Ba);(focus (simp only[D.at,D.put,D.Xw,D.Fh,Mg,Jo,D.Bx,Js,Ad,Af,hti]<;>exact rfl)))
         all_goals(try(conv=>whnf))
         all_goals(refine Am1.mk ⟨?_,by kernel_rfl⟩ (by kernel_rfl))
         all_goals kernel_rfl
theorem Bmh(w:List (List Ef))(fl:Int)(t:Txn)(hbd:t.ifs.length+t.th.length+t.el.length≤1000000000000000000):
 Fn Tryz.prog Asy [.v (.list (w.map fun l=>I.list (l.map Ef.Bx))),.v (ti fl),.v t.Bx] (Is (.v (.bool true)) [.no,.no,.no]):=by
 cases hz:(Az0 w fl).2 with
 |false=>exact A8v w fl t hbd (.inl hz)
 |true=>
  cases hG:t.Axo with
  |true=>exact A8v w fl t hbd (.inr hG)
  |false=>exact Bft w fl t hbd hz hG

open Go.ChangeShapes Go.Deep
inductive Sh where
 |int (k:IntKind)
 |bool
 |str
 |st (l:List Sh)
 |sl (sz:Nat) (e:Sh)
 |ar (sz n:Nat) (e:Sh)
 deriving Inhabited
mutual
def Sh.ok(P:Program):TypeId→Sh→Bool
 |t,.int k=>match P.underlying t with
  |some (.int k')=>k==k'
  |_=>false
 |t,.bool=>match P.underlying t with
  |some .bool=>true
  |_=>false
 |t,.str=>match P.underlying t with
  |some .string=>true
  |_=>false
 |t,.st l=>match P.underlying t with
  |some (.struct fs)=>Sh.oks P 0 (P.cellsOf t) fs.toList l
  |_=>false
 |t,.sl sz e=>match P.underlying t with
  |some (.slice e')=>P.cellsOf e'==sz&&sz != 0&&Sh.ok P e' e
  |_=>false
 |t,.ar sz n e=>match P.underlying t with
  |some (.array m e')=>P.cellsOf e'==sz&&m==n&&P.cellsOf t==n*sz&&Sh.ok P e' e
  |_=>false
def Sh.oks(P:Program):Nat→Nat→List Field→List Sh→Bool
 |off,tot,[],[]=>off==tot
 |off,tot,f::fs,s::l=>f.offset==off&&Sh.ok P f.type s&&Sh.oks P (off+P.cellsOf f.type) tot fs l
 |_,_,_,_=>false
end
mutual
def Fits:Sh→I→Prop
 | .int k,x=>∃n,x= .int k n∧(Lit.int k n).wf=true
 | .bool,x=>∃b,x= .bool b
 | .str,x=>∃s,x= .str s
 | .st l,x=>∃xs,x= .agg xs∧A9v l xs
 | .sl sz e,x=>∃xs,x= .list xs∧∀y∈xs,Fits e y∧y.size=sz
 | .ar sz n e,x=>∃xs,x= .arr sz xs∧xs.length=n∧∀y∈xs,Fits e y∧y.size=sz
def A9v:List Sh→List I→Prop
 | [],xs=>xs=[]
 |s::l,xs=>∃y ys,xs=y::ys∧Fits s y∧A9v l ys
end
def De(w:World):Mem:=fun b=>w.heap[b]?
section
variable{H:Type}{enc:TypeId × Value → H}{P:Program}{w:World}{base:Nat}{sp:Nat → Bool}{held:Bool}
theorem Su{a:Addr}{n:Nat}{cs:List Value}(h:w.cells? base a n=some cs)(h0:0<n):∃bl ty fz,a=⟨a.block,a.off,none⟩∧w.heap[a.block]?=some (.cells bl ty fz)∧a.off+n≤bl.size∧(bl.toList.drop a.off).take n=cs:=by
 obtain⟨_,hl,hc⟩:=World.cells?_some h;have Avj:∀i,i<n→∃v,w.cell? (a.add i)=some v:=fun i hi=>⟨cs[i]'(by omega),by rw[hc i hi,Ae]⟩
 obtain⟨v,hv⟩:=Avj 0 h0;unfold World.cell? at hv;rw[show a.add 0=a from by simp[Addr.add]]at hv
 split at hv
 ·rename_i bl ty fz hb;split at hv
  ·cases hv
  ·rename_i hs;have Aug:a.spot=none:=by cases hsp:a.spot<;>simp[hsp]at hs ⊢
   have A79:∀i,w.cell? (a.add i)=bl[a.off+i]?:=by
    intro i;unfold World.cell? Addr.add;by_cases hi:i=0
    ·simp[hi,hb,Aug]
    ·simp[hi,hb]
   have Hr:a.off+n≤bl.size:=by
    obtain⟨v',hv'⟩:=Avj (n - 1) (by omega)
    rw[A79]at hv';have:=(Ht.1 hv').1;omega
   refine⟨bl,ty,fz,?_,hb,Hr,?_⟩
   ·cases a;simp at Aug;simp[Aug]
   ·apply List.ext_getElem?;intro i;by_cases hi:i<n
    ·rw[Am5,if_pos hi,Ae3, ←hc i hi,A79];simp
    ·rw[Aic (by simp;omega),Aic (by omega)]
 ·cases hv
theorem F9.A8h{G:Mem}{sz:Nat}:∀{n:Nat} {cells:List Value} {p:I→Prop},n*sz≤cells.length→(∀i,i<n→∃x,D8 G x ((cells.drop (i*sz)).take sz)∧p x)→∃xs,xs.length=n∧F9 G xs (cells.take (n*sz))∧∀x∈xs,p x
 |0,cells,p,_,_=>⟨[],rfl,by simp[F9],by simp⟩
 |n+1,cells,p,hl,h=>by
  have hm:(n+1)*sz=sz+n*sz:=by rw[Aj7];omega
  obtain⟨x,h1,h2⟩:=h 0 (by omega)
  simp only[Nat.zero_mul,List.drop_zero]at h1;obtain⟨xs,h3,h4,h5⟩:=F9.A8h (sz:=sz) (n:=n) (cells:=cells.drop sz) (p:=p) (by rw[Ei];omega) fun i hi=>by
   obtain⟨y,g1,g2⟩:=h (i+1) (by omega)
   refine⟨y,?_,g2⟩;rw[List.drop_drop,show sz+i*sz=(i+1)*sz by rw[Aj7];omega]
   exact g1
  refine⟨x::xs,by simp[h3],?_,?_⟩
  ·rw[hm,List.take_add];simp only[F9];exact⟨_,_,rfl,h1,h4⟩
  ·intro y hy;rcases List.mem_cons.mp hy with rfl|hy
   ·exact h2
   ·exact h5 y hy
theorem Ab4:∀{l:List Sh} {fs:List Field} {off tot:Nat},Sh.oks P off tot fs l=true→off≤tot
 | [],[],_,_,h=>by simp only[Sh.oks,beq_iff_eq]at h;omega
 |s::l,f::fs,off,tot,h=>by
  simp only[Sh.oks,Ap]at h;have:=Ab4 h.2;omega
 | [],_::_,_,_,h=>by simp[Sh.oks]at h
 |_::_,[],_,_,h=>by simp[Sh.oks]at h
mutual
theorem A1n:∀(sh:Sh) {t:TypeId} {fuel:Nat} {cs:List Value} {x:DataW H × List MemPlace},sh.ok P t=true→DataW.trod enc P w base (fun _=>sp 0) held fuel t cs=some x→
 ∃y,D8 (De w) y cs∧Fits sh y
 | .int k,t,fuel,cs,x,ho,h=>by
   simp only[Sh.ok]at ho;split at ho
   ·rename_i k' ht;rw[beq_iff_eq]at ho;subst ho;obtain⟨n,rfl,_,hw⟩:=DataW.trod_int ht h;exact⟨.int k n,by simp[D8],n,rfl,hw⟩
   ·cases ho
 | .bool,t,fuel,cs,x,ho,h=>by
   simp only[Sh.ok]at ho;split at ho
   ·rename_i ht;obtain⟨b,rfl,_⟩:=DataW.trod_bool ht h;exact⟨.bool b,by simp[D8],b,rfl⟩
   ·cases ho
 | .str,t,fuel,cs,x,ho,h=>by
   simp only[Sh.ok]at ho;split at ho
   ·rename_i ht;obtain⟨s,rfl,_,hs⟩:=DataW.trod_string ht h;obtain⟨⟨s⟩⟩:=s;exact⟨.str s,by simp only[D8];exact⟨trivial,hs⟩,s,rfl⟩
   ·cases ho
 | .st l,t,fuel,cs,x,ho,h=>by
   simp only[Sh.ok]at ho;split at ho
   ·rename_i fs ht;cases fuel with
    |zero=>simp[DataW.trod]at h
    |succ fuel=>
     simp only[DataW.trod,ht]at h;split at h
     ·rename_i hl;obtain⟨xs,h1,_⟩:=Ad7.1 h;obtain⟨ys,h2,h3⟩:=A7y l (off:=0) ho h1;refine⟨.agg ys,?_,ys,rfl,h3⟩;simp only[D8];simpa[←hl]using h2
     ·cases h
   ·cases ho
 | .sl sz e,t,fuel,cs,x,ho,h=>by
   simp only[Sh.ok]at ho;split at ho
   ·rename_i e' ht;simp only[Ap,beq_iff_eq,bne_iff_ne,ne_eq]at ho;obtain⟨⟨Hr,hz⟩,he⟩:=ho;rcases open_slice ht h with⟨rfl,_⟩|⟨a,len,cap,m,n,D,Pl,rfl,_,hlc,hcm,hm,_,hx⟩
    ·exact⟨.list [],by simp only[D8];exact⟨none,0,rfl,Bz _,Cr _,.inl trivial⟩,[],rfl,by simp⟩
    ·by_cases h0:len=0
     ·subst h0;exact⟨.list [],by simp only[D8];exact⟨some a,cap,rfl,Cr _,hcm,.inl trivial⟩,[],rfl,by simp⟩
     ·have hmm:len≤m:=by subst hm;split<;>omega
      have Ars:∀i,i<len→∃cs' y,w.cells? base (a.add (i*sz)) sz=some cs'∧D8 (De w) y cs'∧Fits e y∧y.size=sz:=by
       intro i hi;obtain⟨cs',g1,g2⟩:=hx i (by omega)
       obtain⟨y,g3,g4⟩:=A1n e he g2;rw[Hr]at g1;have hlen:=(World.cells?_some g1).2.1;exact⟨cs',y,g1,g3,g4,by rw[←D8.length _ _ g3,hlen]⟩
      obtain⟨cs0,_,c1,_⟩:=Ars 0 (by omega)
      rw[Nat.zero_mul,show a.add 0=a by simp[Addr.add]]at c1
      obtain⟨bl,ty,fz,ha,hb,hs0,_⟩:=Su c1 (by omega)
      have C3:∀i,i<len→a.off+i*sz+sz≤bl.size∧∃y,D8 (De w) y (((bl.toList.drop a.off).drop (i*sz)).take sz)∧Fits e y∧y.size=sz:=by
       intro i hi;obtain⟨cs',y,g1,g2,g3,g4⟩:=Ars i hi;obtain⟨bl',ty',fz',k1,k2,k3,k4⟩:=Su g1 (by omega)
       have e1:(a.add (i*sz)).block=a.block:=by unfold Addr.add;split<;>rfl
       have e2:(a.add (i*sz)).off=a.off+i*sz:=by unfold Addr.add;split<;>rename_i hh<;>simp[hh]
       rw[e1,hb]at k2;cases k2;rw[e2]at k3 k4;refine⟨k3,y,?_,g3,g4⟩;rw[List.drop_drop,k4];exact g2
      have A23:=(C3 (len - 1) (by omega)).1
      have hmul:(len - 1)*sz+sz=len*sz:=by
       obtain⟨q,rfl⟩:∃q,len=q+1:=⟨len - 1,by omega⟩
       rw[Amh,Aj7,Nat.one_mul]
      obtain⟨xs,x1,x2,x3⟩:=F9.A8h (G:=De w) (sz:=sz) (n:=len) (cells:=bl.toList.drop a.off) (p:=fun y=>Fits e y∧y.size=sz) (by simp;omega) fun i hi=>(C3 i hi).2
      refine⟨.list xs,?_,xs,rfl,x3⟩;simp only[D8];refine⟨some a,cap,by rw[x1],by omega,hcm,.inr ⟨a.block,a.off,bl,ty,fz,sz,by rw[←ha],hb,fun y hy=>(x3 y hy).2,by rw[x1];omega,by rw[x1];exact x2⟩⟩
   ·cases ho
 | .ar sz n e,t,fuel,cs,x,ho,h=>by
   simp only[Sh.ok]at ho;split at ho
   ·rename_i m e' ht;simp only[Ap,beq_iff_eq]at ho;obtain⟨⟨⟨Hr,rfl⟩,Bui⟩,he⟩:=ho;obtain⟨xs,fu,rfl,_,hl,hxl,hx⟩:=DataW.trod_array ht h;rw[Bui]at hl;rw[Hr]at hx;obtain⟨ys,y1,y2,y3⟩:=F9.A8h (G:=De w) (sz:=sz) (n:=m) (cells:=cs) (p:=fun y=>Fits e y∧y.size=sz) (by omega) fun i hi=>by
     obtain⟨d,hd⟩:∃d,xs[i]?=some d:=⟨_,Ae (by omega)⟩
     have h1:=hx i hi;rw[hd]at h1;obtain⟨y,g1,g2⟩:=A1n e he h1;refine⟨y,g1,g2,?_⟩;rw[←D8.length _ _ g1,Hg,Ei];have:(i+1)*sz≤m*sz:=Jh _ (by omega)
     rw[Aj7,Nat.one_mul]at this;omega
    refine⟨.arr sz ys,?_,ys,rfl,y1,y3⟩;rw[Am2 (by omega)]at y2
    simp only[D8];exact⟨y2,fun y hy=>(y3 y hy).2⟩
   ·cases ho
theorem A7y:∀(l:List Sh) {fs:List Field} {off tot fuel:Nat} {cs:List Value} {xs:List (DataW H × List MemPlace)},Sh.oks P off tot fs l=true→
 (fs.mapM fun f=>DataW.trod enc P w base (fun _=>sp 0) held fuel f.type ((cs.drop f.offset).take (P.cellsOf f.type)))=some xs→∃ys,F9 (De w) ys ((cs.take tot).drop off)∧A9v l ys
 | [],fs,off,tot,fuel,cs,xs,ho,h=>by
   cases fs with
   |nil=>
    simp only[Sh.oks,beq_iff_eq]at ho;subst ho;exact⟨[],by simp[F9],rfl⟩
   |cons f fs=>simp[Sh.oks]at ho
 |s::l,fs,off,tot,fuel,cs,xs,ho,h=>by
  cases fs with
  |nil=>simp[Sh.oks]at ho
  |cons f fs=>
   simp only[Sh.oks,Ap,beq_iff_eq]at ho;obtain⟨⟨rfl,h1⟩,h2⟩:=ho;simp only[List.mapM_cons]at h;obtain⟨y,g1,g2⟩:=Ai7.1 h;obtain⟨z,g3,g4⟩:=Ai7.1 g2;obtain⟨u,g5,g6⟩:=A1n s h1 g1;obtain⟨us,g7,g8⟩:=A7y l (cs:=cs) h2 g3;refine⟨u::us,?_,u,us,rfl,g6,g8⟩;simp only[F9];have hle:=Ab4 h2;refine⟨_,_,?_,g5,g7⟩;have e1:(cs.drop f.offset).take (P.cellsOf f.type)=((cs.take tot).drop f.offset).take (P.cellsOf f.type):=by
    rw[List.drop_take,List.take_take,U6 (by omega)]
   rw[e1, ←List.drop_drop,Fj]
end
end

open Go.ChangeShapes Go.Deep
theorem Fm{α β:Type}{f g:α→Option β}:∀{l:List α} {xs:List β},l.mapM f=some xs→(∀a∈l,∀y∈xs,f a=some y→g a=some y)→l.mapM g=some xs
 | [],xs,h,_=>by simpa using h
 |a::l,xs,h,hg=>by
  simp only[List.mapM_cons]at h ⊢;obtain⟨y,g1,g2⟩:=Ai7.1 h;obtain⟨z,g3,g4⟩:=Ai7.1 g2;cases g4;rw[hg a (B2 ..) y (B2 ..) g1];have:=Fm (l:=l) g3 fun b hb x hx=>hg b (B4 _ hb) x (B4 _ hx)
  simp[this]
section
variable{H:Type}{enc:TypeId × Value → H}{P:Program}{W W':World}{sp':Nat → Bool}{held:Bool}
theorem Zg(hk:∀(b:Nat) (o:Obj),W.heap[b]?=some o→W'.heap[b]?=some o){a:Addr}{v:Value}(h:W.cell? a=some v):W'.cell? a=some v:=by
 unfold World.cell? at h ⊢;split at h
 ·rename_i bl ty fz hb;rw[hk _ _ hb];exact h
 ·cases h
theorem Xa(hk:∀(b:Nat) (o:Obj),W.heap[b]?=some o→W'.heap[b]?=some o){a:Addr}{n:Nat}{cs:List Value}(h:W.cells? 0 a n=some cs):W'.cells? 0 a n=some cs:=by
 unfold World.cells? at h ⊢;split at h
 ·rename_i h0;rw[if_pos h0];exact Fm h fun i _ y _ hy=>Zg hk hy
 ·cases h
theorem Hc(hk:∀(b:Nat) (o:Obj),W.heap[b]?=some o→W'.heap[b]?=some o):∀(fuel:Nat) (sh:Sh) {t:TypeId} {cs:List Value} {x:DataW H × List MemPlace},sh.ok P t=true→
 DataW.trod enc P W 0 (fun _=>true) held fuel t cs=some x→(∀p∈x.2,sp' p.block=true)→DataW.trod enc P W' 0 sp' held fuel t cs=some x
 |0,sh,t,cs,x,ho,h,hp=>by simp[DataW.trod]at h
 |fuel+1,.int k,t,cs,x,ho,h,hp=>by
  simp only[Sh.ok]at ho;split at ho
  ·rename_i k' ht;obtain⟨n,rfl,rfl,hw⟩:=DataW.trod_int ht h;simp[DataW.trod,ht,hw]
  ·cases ho
 |fuel+1,.bool,t,cs,x,ho,h,hp=>by
  simp only[Sh.ok]at ho;split at ho
  ·rename_i ht;obtain⟨b,rfl,rfl⟩:=DataW.trod_bool ht h;simp[DataW.trod,ht]
  ·cases ho
 |fuel+1,.str,t,cs,x,ho,h,hp=>by
  simp only[Sh.ok]at ho;split at ho
  ·rename_i ht;obtain⟨s,rfl,rfl,hs⟩:=DataW.trod_string ht h;simp[DataW.trod,ht,hs]
  ·cases ho
 |fuel+1,.st l,t,cs,x,ho,h,hp=>by
  simp only[Sh.ok]at ho;split at ho
  ·rename_i fs ht;simp only[DataW.trod,ht]at h ⊢;split at h
   ·rename_i hl;rw[if_pos hl];obtain⟨xs,h1,rfl⟩:=Ad7.1 h;have fld:∀(l:List Sh) (fs:List Field) (off tot:Nat) (xs:List (DataW H × List MemPlace)),Sh.oks P off tot fs l=true→
     (fs.mapM fun f=>DataW.trod enc P W 0 (fun _=>true) held fuel f.type ((cs.drop f.offset).take (P.cellsOf f.type)))=some xs→(∀y∈xs,∀p∈y.2,sp' p.block=true)→
     (fs.mapM fun f=>DataW.trod enc P W' 0 sp' held fuel f.type ((cs.drop f.offset).take (P.cellsOf f.type)))=some xs:=by
     intro l;induction l with
     |nil=>
      intro fs off tot xs ho h hp;cases fs with
      |nil=>simpa using h
      |cons f fs=>simp[Sh.oks]at ho
     |cons s l ih=>
      intro fs off tot xs ho h hp;cases fs with
      |nil=>simp[Sh.oks]at ho
      |cons f fs=>
       simp only[Sh.oks,Ap,beq_iff_eq]at ho;simp only[List.mapM_cons]at h ⊢;obtain⟨y,g1,g2⟩:=Ai7.1 h;obtain⟨z,g3,g4⟩:=Ai7.1 g2;cases g4;rw[Hc hk fuel s ho.1.2 g1 (hp y (B2 ..))];have:=ih fs _ _ z ho.2 g3 fun y hy=>hp y (B4 _ hy)
       simp[this]
    rw[fld l fs.toList 0 _ xs ho h1 fun y hy p hp'=>hp p (List.mem_flatMap.2 ⟨y,hy,hp'⟩)]
    rfl
   ·cases h
  ·cases ho
 |fuel+1,.ar sz n e,t,cs,x,ho,h,hp=>by
  simp only[Sh.ok]at ho;split at ho
  ·rename_i m e' ht;simp only[Ap,beq_iff_eq]at ho;simp only[DataW.trod,ht]at h ⊢;split at h
   ·rename_i hl;rw[if_pos hl];obtain⟨xs,h1,rfl⟩:=Ad7.1 h;rw[Fm h1 fun i _ y hy h2=>Hc hk fuel e ho.2 h2 fun p hp'=>hp p (List.mem_flatMap.2 ⟨y,hy,hp'⟩)]
    rfl
   ·cases h
  ·cases ho
 |fuel+1,.sl sz e,t,cs,x,ho,h,hp=>by
  simp only[Sh.ok]at ho;split at ho
  ·rename_i e' ht;simp only[Ap,beq_iff_eq,bne_iff_ne,ne_eq]at ho;obtain⟨⟨Hr,hz⟩,he⟩:=ho;have elem:∀{a:Addr} {i:Nat} {y:DataW H × List MemPlace},(∀p∈y.2,sp' p.block=true)→((W.cells? 0 (a.add (i*P.cellsOf e')) (P.cellsOf e')).bind (DataW.trod enc P W 0 (fun _=>true) held fuel e'))=some y→
    ((W'.cells? 0 (a.add (i*P.cellsOf e')) (P.cellsOf e')).bind (DataW.trod enc P W' 0 sp' held fuel e'))=some y:=by
    intro a i y hy h;obtain⟨cs',g1,g2⟩:=Ai7.1 h;rw[Xa hk g1];exact Hc hk fuel e he g2 hy
   have hcs:cs=[.slice none 0 0]∨∃a len cap,cs=[.slice (some a) len cap]:=by
    rcases open_slice ht h with⟨h1,_⟩|⟨a,len,cap,_,_,_,_,h1,_⟩
    ·exact .inl h1
    ·exact .inr ⟨a,len,cap,h1⟩
   rcases hcs with rfl|⟨a,len,cap,rfl⟩
   ·simp only[DataW.trod,ht]at h ⊢;exact h
   ·simp only[DataW.trod,ht]at h ⊢;split at h
    ·rename_i hc;rw[if_pos hc];obtain⟨elems,g1,g2⟩:=Ai7.1 h;obtain⟨rest,g3,rfl⟩:=Ad7.1 g2;have Ars:0<elems.length+rest.length→sp' a.block=true:=by
      intro h0;refine hp (.cell a.block (a.off+0)) (Aau _ ?_);unfold MemPlace.row;refine X4.2 ⟨0,Agu.2 (Nat.mul_pos h0 (by omega)),rfl⟩
     have hel:∀y∈elems++rest,∀p∈y.2,sp' p.block=true:=fun y hy p hp'=>hp p (Ac6 _ (List.mem_flatMap.2 ⟨y,hy,hp'⟩))
     have k1:=Fm g1 fun i _ y hy h=>elem (hel y (Aau _ hy)) h
     rw[k1];simp only[if_true]at g3;have k2:(if sp' a.block=true then(List.range (cap - len)).mapM fun j=>((W'.cells? 0 (a.add ((len+j)*P.cellsOf e')) (P.cellsOf e')).bind (DataW.trod enc P W' 0 sp' held fuel e'))else some [])=some rest:=by
      have k3:=Fm g3 fun j _ y hy h=>elem (hel y (Ac6 _ hy)) h
      cases hs:sp' a.block with
      |true=>rw[if_pos rfl];exact k3
      |false=>
       rw[if_neg (by decide)]
       have hr0:rest=[]:=by
        cases rest with
        |nil=>rfl
        |cons r rs=>
         have:=Ars (by simp;omega)
         rw[hs]at this;cases this
       rw[hr0]
     simp only[Option.bind_some];rw[k2];rfl
    ·cases h
  ·cases ho
end
end Go.Ab
