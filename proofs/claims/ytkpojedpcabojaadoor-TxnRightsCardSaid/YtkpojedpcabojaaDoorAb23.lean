/- Lemmas -/
import Derived.Test.YtkpojedpcabojaaDoorK11
import Derived.Deep.Slices
import Derived.ChangeSame
import Derived.ChangeArms
import Derived.ProofKit
import Derived.OpenShut
set_option linter.unusedVariables false
set_option linter.unusedSimpArgs false
set_option maxRecDepth 100000
set_option maxHeartbeats 40000000
namespace Go.Ab
open Go.Proofs
theorem Asg{e:TypeId}{sz:Nat}{l:List I}{n:Nat}{u:I}{r:List Nat}(h:l[n]?=some u):(SV.vec e sz l).hit 0 (n::r)=hitI (n*sz) (u.sub r):=by
 show(match l[n]? with|some y=>hitI (n*sz) (y.sub r)|none=>none)=_
 rw[h]
theorem Am4{e:TypeId}{sz:Nat}{l:List I}{n:Nat}{u:I}{r:List Nat}(h:l[n]?=some u):(SV.vec e sz l).hit 0 ([n]++r)=hitI (n*sz) (u.sub r):=Asg h
theorem Akd{L:List Act}{q:Nat}{d:Act}(h:L[q]?=some d):(L.map Act.toI)[Int.toNat (q:Int)]?=some d.toI:=by rw[Int.toNat_natCast,List.getElem?_map,h];rfl
theorem Aod(ifs:List Cm)(th el:List Act)(hl:ifs.length+th.length+el.length≤1000):
 Fn Tryd.prog R2 [.v (.list (ifs.map Cm.toI)),.v (.list (th.map Act.toI)),.v (.list (el.map Act.toI))] (Is (.v (.bool (Cu ifs th el))) [.no,.no,.no]):=by
 refine H4 ?_ (by simp)
 unfold Cu;have hl1:(ifs.map Cm.toI).length=ifs.length:=List.length_map _;have hl2:(th.map Act.toI).length=th.length:=List.length_map _;have hl3:(el.map Act.toI).length=el.length:=List.length_map _;by_cases hb:4<ifs.length∨8<th.length∨8<el.length
 ·rw[if_pos hb];repeat'((conv=>whnf);first|((with_reducible refine Ax (by first|((with_reducible refine decide_eq_true ?_);omega)|(with_reducible rfl)) (fun hb=>?_));(try rw[hb]);(try simp only[Aa]at hb))|((with_reducible refine Aw (by(with_reducible rfl)) (fun hb=>?_));(try rw[hb]);(try simp only[Aa]at hb))|((with_reducible refine And.intro (fun hb=>?_) (fun hb=>?_))<;>(((try rw[hb]);(try simp only[Aa]at hb))))|((with_reducible refine Exists.intro ?_ ?_);focus (and_intros<;>(with_reducible rfl)))|(with_reducible intro hfact)|(skip;rw[hl1])|(skip;rw[hl2])|(skip;rw[hl3]))
  all_goals(try(conv=>whnf))
  all_goals first
   |(exfalso;omega)
   |(apply dKq<;>kernel_rfl)
 rw[if_neg hb];obtain⟨RES,hRES⟩:∃R,(if cmGo ifs=true then(if Bc th=true then(if Bc el=true then true else false)else false)else false)=R:=⟨_,rfl⟩
 rw[show(if cmGo ifs=true then Bc (th++el)else false)=RES by rw[←hRES,Am1];cases Bc th<;>cases Bc el<;>rfl]
 repeat'((conv=>whnf);first|((with_reducible refine Aw (by first|((with_reducible refine decide_eq_false ?_);omega)|(with_reducible rfl)) (fun hb=>?_));(try rw[hb]);(try simp only[Aa]at hb))|((with_reducible refine Exists.intro ?_ ?_);focus (and_intros<;>(with_reducible rfl)))|(with_reducible intro hfact)|((try dsimp only);rw[hl1])|(skip;rw[hl2])|(skip;rw[hl3]))
 all_goals(try(conv=>whnf))
 refine LoopWq.by (X:=Nat) (fun j=>[(7,.v (ti (j:Int)))]) (fun j=>j≤ifs.length∧(if cmGo (ifs.drop j)=true then(if Bc th=true then(if Bc el=true then true else false)else false)else false)=RES) (fun j=>ifs.length - j) 0 (by kernel_rfl) ⟨Nat.zero_le _,hRES⟩ ?_
 clear hRES;rintro j ⟨hj,hR⟩
 (try dsimp only at hj hR ⊢)
 have hw:IntKind.i64.wrap ((j:Int)+1)=((j+1:Nat):Int):=(Bf (by omega)).trans (by omega)
 by_cases hjl:j<ifs.length
 ·obtain⟨c,hc⟩:∃x,ifs[j]?=some x:=⟨_,List.getElem?_eq_getElem hjl⟩;have h3:¬decide ((j:Int)<(ifs.length:Int))=false:=by simp;omega
  have hdr:ifs.drop j=c::ifs.drop (j+1):=by rw[List.drop_eq_getElem_cons hjl];rw[List.getElem?_eq_getElem hjl]at hc;cases hc;rfl
  rw[hdr]at hR;unfold cmGo at hR;obtain⟨ck,cw,cr,cv⟩:=c;have hk:=Amh ck;by_cases hok:(Cm.mk ck cw cr cv).ok
  ·rw[if_pos hok]at hR;unfold Cm.ok at hok;dsimp only at hok;rw[decide_eq_true hok.1]at hk;repeat'((conv=>whnf);first|((with_reducible refine Ax (by first|(with_reducible exact Bool.of_not_eq_false (by assumption))|((with_reducible refine decide_eq_true ?_);omega)) (fun hb=>?_));(try rw[hb]);(try simp only[Aa]at hb))|((with_reducible refine Aw (by(with_reducible rfl)) (fun hb=>?_));(try rw[hb]);(try simp only[Aa]at hb))|((with_reducible refine And.intro (fun hb=>?_) (fun hb=>?_))<;>first|(exact absurd hb (by decide))|(exfalso;((simp only[An]at hb<;>omega)))|((try rw[hb]);(try simp only[Aa]at hb)))|((with_reducible refine Exists.intro ?_ ?_);focus (and_intros<;>first|omega|(with_reducible rfl)|kernel_rfl|(intro _ hh;cases hh;done)|(simp;done)|decide))|(with_reducible intro hfact)|((try dsimp only);(rw[B6 hc]))|((try dsimp only);rw[hl1])|((with_reducible refine CallWp.mk ?_);refine⟨_,hk,?_⟩;rintro _ _ ⟨rfl,rfl⟩)|((try dsimp only);rw[hw]))
   all_goals(try(conv=>whnf))
   all_goals first
    |(exfalso;omega)
    |(exact absurd trivial (by assumption))
    |(refine Round.by (j+1) ?_ ⟨by omega,hR⟩ (by omega)
      try dsimp only
      show norm _ _=upd _ _
      kernel_rfl)
  ·rw[if_neg hok]at hR;have hR:false=RES:=hR;subst hR;unfold Cm.ok at hok;dsimp only at hok;cases h1:decide (1≤ck.length∧ck.length≤64)<;>rw[h1]at hk<;>simp only[decide_eq_true_eq,decide_eq_false_iff_not]at h1;all_goals skip
   all_goals(
    repeat'((conv=>whnf);first|((with_reducible refine Ax (by first|(with_reducible exact Bool.of_not_eq_false (by assumption))|((with_reducible refine decide_eq_true ?_);omega)|(with_reducible rfl)) (fun hb=>?_));(try rw[hb]);(try simp only[Aa]at hb))|((with_reducible refine Aw (by first|(with_reducible assumption)|(with_reducible rfl)) (fun hb=>?_));(try rw[hb]);(try simp only[Aa]at hb))|((with_reducible refine And.intro (fun hb=>?_) (fun hb=>?_))<;>first|(exact absurd hb (by decide))|(exfalso;((simp only[An]at hb<;>omega)))|((try rw[hb]);(try simp only[Aa]at hb)))|((with_reducible refine Exists.intro ?_ ?_);focus (and_intros<;>first|omega|(with_reducible rfl)|kernel_rfl|(intro _ hh;cases hh;done)|(simp;done)|decide))|(with_reducible intro hfact)|((try dsimp only);(rw[B6 hc]))|((try dsimp only);rw[hl1])|((with_reducible refine CallWp.mk ?_);refine⟨_,hk,?_⟩;rintro _ _ ⟨rfl,rfl⟩))
    all_goals(try(conv=>whnf)))
   all_goals first
    |(exfalso;omega)
    |(exact absurd trivial (by assumption))
    |(apply dKq<;>kernel_rfl)
 have h3:¬decide ((j:Int)<(ifs.length:Int))=true:=by simp;omega
 rw[List.drop_eq_nil_of_le (by omega),show cmGo []=true from rfl,if_pos rfl]at hR
 repeat'((conv=>whnf);first|((with_reducible refine Aw (by first|(with_reducible exact Bool.of_not_eq_true (by assumption))|((with_reducible refine decide_eq_false ?_);omega)) (fun hb=>?_));(try rw[hb]);(try simp only[Aa]at hb))|((with_reducible refine Exists.intro ?_ ?_);focus (and_intros<;>(with_reducible rfl)))|(with_reducible intro hfact)|((try dsimp only);rw[hl1]))
 all_goals(try(conv=>whnf))
 refine LoopWq.by (X:=Nat) (fun j=>[(9,.v (ti (j:Int)))]) (fun j=>j≤th.length∧(if Bc (th.drop j)=true then(if Bc el=true then true else false)else false)=RES) (fun j=>th.length - j) 0 (by kernel_rfl) ⟨Nat.zero_le _,hR⟩ ?_
 clear hR;rintro q ⟨hq,hQ⟩
 (try dsimp only at hq hQ ⊢)
 have hwq:IntKind.i64.wrap ((q:Int)+1)=((q+1:Nat):Int):=(Bf (by omega)).trans (by omega)
 by_cases hql:q<th.length
 ·obtain⟨d,hd⟩:∃x,th[q]?=some x:=⟨_,List.getElem?_eq_getElem hql⟩;have h5:¬decide ((q:Int)<(th.length:Int))=false:=by simp;omega
  have hdr:th.drop q=d::th.drop (q+1):=by rw[List.drop_eq_getElem_cons hql];rw[List.getElem?_eq_getElem hql]at hd;cases hd;rfl
  have hab:Bc (d::th.drop (q+1))=(if d.ok then Bc (th.drop (q+1))else false):=rfl
  rw[hdr,hab]at hQ;have ha:=Amg d;by_cases hok:d.ok
  ·rw[if_pos hok]at hQ;rw[decide_eq_true hok]at ha;repeat'((conv=>whnf);first|((with_reducible refine Ax (by first|(with_reducible exact Bool.of_not_eq_false (by assumption))|((with_reducible refine decide_eq_true ?_);omega)) (fun hb=>?_));(try rw[hb]);(try simp only[Aa]at hb))|((with_reducible refine And.intro (fun hb=>?_) (fun hb=>?_))<;>first|(exact absurd hb (by decide))|((try rw[hb]);(try simp only[Aa]at hb)))|((with_reducible refine Exists.intro ?_ ?_);focus (and_intros<;>first|omega|(with_reducible rfl)|kernel_rfl|(intro _ hh;cases hh;done)|(simp;done)|decide))|(with_reducible intro hfact)|((try dsimp only);(rw[B6 hd]))|((try dsimp only);rw[hl2])|((with_reducible refine CallWp.mk ?_);refine⟨_,ha,?_⟩;rintro _ _ ⟨rfl,rfl⟩)|(skip;rw[hwq]))
   all_goals(try(conv=>whnf))
   refine Round.by (q+1) ?_ ⟨by omega,hQ⟩ (by omega)
   try dsimp only
   show norm _ _=upd _ _
   kernel_rfl
  ·rw[if_neg hok]at hQ;have hQ:false=RES:=hQ;subst hQ;rw[decide_eq_false hok]at ha;repeat'((conv=>whnf);first|((with_reducible refine Ax (by first|(with_reducible exact Bool.of_not_eq_false (by assumption))|((with_reducible refine decide_eq_true ?_);omega)) (fun hb=>?_));(try rw[hb]);(try simp only[Aa]at hb))|((with_reducible refine And.intro (fun hb=>?_) (fun hb=>?_))<;>first|(exact absurd hb (by decide))|((try rw[hb]);(try simp only[Aa]at hb)))|((with_reducible refine Exists.intro ?_ ?_);focus (and_intros<;>first|omega|(with_reducible rfl)|kernel_rfl|(intro _ hh;cases hh;done)|(simp;done)|decide))|(with_reducible intro hfact)|((try dsimp only);(rw[B6 hd]))|((try dsimp only);rw[hl2])|((with_reducible refine CallWp.mk ?_);refine⟨_,ha,?_⟩;rintro _ _ ⟨rfl,rfl⟩))
   all_goals(try(conv=>whnf))
   (apply dKq<;>kernel_rfl)
 have h5:¬decide ((q:Int)<(th.length:Int))=true:=by simp;omega
 rw[List.drop_eq_nil_of_le (by omega),show Bc []=true from rfl,if_pos rfl]at hQ
 replace hR:=hQ
 clear hQ;repeat'((conv=>whnf);first|((with_reducible refine Aw (by first|(with_reducible exact Bool.of_not_eq_true (by assumption))|((with_reducible refine decide_eq_false ?_);omega)) (fun hb=>?_));(try rw[hb]);(try simp only[Aa]at hb))|((with_reducible refine Exists.intro ?_ ?_);focus (and_intros<;>(with_reducible rfl)))|(with_reducible intro hfact)|((try dsimp only);rw[hl2]))
 all_goals(try(conv=>whnf))
 refine LoopWq.by (X:=Nat) (fun j=>[(10,.v (ti (j:Int)))]) (fun j=>j≤el.length∧(if Bc (el.drop j)=true then true else false)=RES) (fun j=>el.length - j) 0 (by kernel_rfl) ⟨Nat.zero_le _,hR⟩ ?_
 clear hR;rintro q2 ⟨hq2,hQ⟩
 (try dsimp only at hq2 hQ ⊢)
 have hwq2:IntKind.i64.wrap ((q2:Int)+1)=((q2+1:Nat):Int):=(Bf (by omega)).trans (by omega)
 by_cases hql2:q2<el.length
 ·obtain⟨d2,hd2⟩:∃x,el[q2]?=some x:=⟨_,List.getElem?_eq_getElem hql2⟩;have h52:¬decide ((q2:Int)<(el.length:Int))=false:=by simp;omega
  have hdr:el.drop q2=d2::el.drop (q2+1):=by rw[List.drop_eq_getElem_cons hql2];rw[List.getElem?_eq_getElem hql2]at hd2;cases hd2;rfl
  have hab:Bc (d2::el.drop (q2+1))=(if d2.ok then Bc (el.drop (q2+1))else false):=rfl
  rw[hdr,hab]at hQ;have ha:=Amg d2;by_cases hok:d2.ok
  ·rw[if_pos hok]at hQ;rw[decide_eq_true hok]at ha;repeat'((conv=>whnf);first|((with_reducible refine Ax (by first|(with_reducible exact Bool.of_not_eq_false (by assumption))|((with_reducible refine decide_eq_true ?_);omega)) (fun hb=>?_));(try rw[hb]);(try simp only[Aa]at hb))|((with_reducible refine And.intro (fun hb=>?_) (fun hb=>?_))<;>first|(exact absurd hb (by decide))|((try rw[hb]);(try simp only[Aa]at hb)))|((with_reducible refine Exists.intro ?_ ?_);focus (and_intros<;>first|omega|(with_reducible rfl)|kernel_rfl|(intro _ hh;cases hh;done)|(simp;done)|decide))|(with_reducible intro hfact)|((try dsimp only);(rw[B6 hd2]))|((try dsimp only);rw[hl3])|((with_reducible refine CallWp.mk ?_);refine⟨_,ha,?_⟩;rintro _ _ ⟨rfl,rfl⟩)|(skip;rw[hwq2]))
   all_goals(try(conv=>whnf))
   refine Round.by (q2+1) ?_ ⟨by omega,hQ⟩ (by omega)
   try dsimp only
   show norm _ _=upd _ _
   kernel_rfl
  ·rw[if_neg hok]at hQ;have hQ:false=RES:=hQ;subst hQ;rw[decide_eq_false hok]at ha;repeat'((conv=>whnf);first|((with_reducible refine Ax (by first|(with_reducible exact Bool.of_not_eq_false (by assumption))|((with_reducible refine decide_eq_true ?_);omega)) (fun hb=>?_));(try rw[hb]);(try simp only[Aa]at hb))|((with_reducible refine And.intro (fun hb=>?_) (fun hb=>?_))<;>first|(exact absurd hb (by decide))|((try rw[hb]);(try simp only[Aa]at hb)))|((with_reducible refine Exists.intro ?_ ?_);focus (and_intros<;>first|omega|(with_reducible rfl)|kernel_rfl|(intro _ hh;cases hh;done)|(simp;done)|decide))|(with_reducible intro hfact)|((try dsimp only);(rw[B6 hd2]))|((try dsimp only);rw[hl3])|((with_reducible refine CallWp.mk ?_);refine⟨_,ha,?_⟩;rintro _ _ ⟨rfl,rfl⟩))
   all_goals(try(conv=>whnf))
   (apply dKq<;>kernel_rfl)
 have h52:¬decide ((q2:Int)<(el.length:Int))=true:=by simp;omega
 rw[List.drop_eq_nil_of_le (by omega),show Bc []=true from rfl,if_pos rfl]at hQ
 have hQ:true=RES:=hQ;subst hQ;repeat'((conv=>whnf);first|((with_reducible refine Aw (by first|(with_reducible exact Bool.of_not_eq_true (by assumption))|((with_reducible refine decide_eq_false ?_);omega)) (fun hb=>?_));(try rw[hb]);(try simp only[Aa]at hb))|((with_reducible refine Exists.intro ?_ ?_);focus (and_intros<;>(with_reducible rfl)))|(with_reducible intro hfact)|(skip;rw[hl3]))
 all_goals(try(conv=>whnf))
 (apply dKq<;>kernel_rfl)
theorem Aoc(ifs:List Cm)(th el:List Act)(hl:ifs.length+th.length+el.length≤1000)(hk:∀c∈ifs,c.key.length≤1000):
 Fn Tryd.prog Q3 [.v (.list (ifs.map Cm.toI)),.v (.list (th.map Act.toI)),.v (.list (el.map Act.toI))] (Is (.v (.list (spsI (C3 ifs th el)))) [.no,.no,.no]):=by
 refine H3 ?_ (by simp)
 have hl1:(ifs.map Cm.toI).length=ifs.length:=List.length_map _;have hl2:(th.map Act.toI).length=th.length:=List.length_map _;have hl3:(el.map Act.toI).length=el.length:=List.length_map _;obtain⟨RES,hRES⟩:∃R,C3 ifs th el=R:=⟨_,rfl⟩;rw[hRES];repeat'((conv=>whnf);((with_reducible refine Exists.intro ?_ ?_);focus (and_intros<;>omega)))
 all_goals(try(conv=>whnf))
 refine LoopWq.by (X:=Nat × List Sp) (fun y=>[(8,.v (ti (y.1:Int))),(7,.vec Dt 2 (spsI y.2))]) (fun y=>y.1≤ifs.length∧y.2=(ifs.take y.1).map fun c=>spK1 c.key) (fun y=>ifs.length - y.1) (0,[]) (by kernel_rfl) ⟨Nat.zero_le _,rfl⟩ ?_
 rintro⟨j,OUT⟩ ⟨hj,hO⟩
 (try dsimp only at hj hO ⊢)
 have hw:IntKind.i64.wrap ((j:Int)+1)=((j+1:Nat):Int):=(Bf (by omega)).trans (by omega)
 have hOl:(spsI OUT).length≤1000:=by rw[hO];simp[spsI];omega
 have hOl1:OUT.length≤1000:=by rw[hO];simp;omega
 by_cases hjl:j<ifs.length
 ·obtain⟨c,hc⟩:∃x,ifs[j]?=some x:=⟨_,List.getElem?_eq_getElem hjl⟩;have h3:¬decide ((j:Int)<(ifs.length:Int))=false:=by simp;omega
  have hkc:=hk c (List.mem_of_getElem? hc);have hnx:OUT++[spK1 c.key]=(ifs.take (j+1)).map fun c=>spK1 c.key:=by rw[List.take_add_one,hc,hO];simp
  obtain⟨ck,cw,cr,cv⟩:=c;dsimp only at hkc hnx;have hkey:=Ami ck (by omega)
  repeat'((conv=>whnf);first|((with_reducible refine Ax (by first|(with_reducible exact Bool.of_not_eq_false (by assumption))|((with_reducible refine decide_eq_true ?_);omega)) (fun hb=>?_));(try rw[hb]);(try simp only[Aa]at hb))|((with_reducible refine Exists.intro ?_ ?_);focus (and_intros<;>first|omega|(with_reducible rfl)|kernel_rfl|(intro _ hh;cases hh;done)|exact Ah (by rfl)|(simp only[An];omega)|(simp;done)|decide))|(with_reducible intro hfact)|((try dsimp only);(rw[B6 hc]))|((try dsimp only);rw[hl1])|((with_reducible refine CallWp.mk ?_);refine⟨_,hkey,?_⟩;rintro _ _ ⟨rfl,rfl⟩)|(skip;rw[hw]))
  all_goals(try(conv=>whnf))
  refine Round.by (j+1,OUT++[spK1 ck]) ?_ ⟨by omega,hnx⟩ (by dsimp only;omega)
  try dsimp only
  rw[←Cx];show norm _ _=upd _ _
  kernel_rfl
 have h3:¬decide ((j:Int)<(ifs.length:Int))=true:=by simp;omega
 rw[List.take_of_length_le (by omega)]at hO
 have hR:C4 (th++el) OUT=RES:=by rw[Aj5,hO, ←hRES];rfl
 clear hRES;have hsz1:=Er th;have hsz2:=Er el;repeat'((conv=>whnf);first|((with_reducible refine Aw (by first|(with_reducible exact Bool.of_not_eq_true (by assumption))|((with_reducible refine decide_eq_false ?_);omega)) (fun hb=>?_));(try rw[hb]);(try simp only[Aa]at hb))|((with_reducible refine Exists.intro ?_ ?_);focus (and_intros<;>first|(exact hsz1)|(exact hsz2)|omega|(with_reducible rfl)|(simp only[An];omega)|(simp;done)))|(with_reducible intro hfact)|((try dsimp only);rw[hl1]))
 all_goals(try(conv=>whnf))
 have hme:th.map Act.toI++el.map Act.toI=(th++el).map Act.toI:=by simp
 simp only[List.nil_append,hme];have hL:((th++el).map Act.toI).length=(th++el).length:=List.length_map _;have hLl:(th++el).length≤1000:=by rw[List.length_append];omega
 clear hme hsz1 hsz2;generalize hAL:th++el=L at*;refine LoopWq.by (X:=Nat × List Sp) (fun y=>[(10,.v (ti (y.1:Int))),(7,.vec Dt 2 (spsI y.2))]) (fun y=>y.1≤L.length∧y.2.length≤1000+y.1∧C4 (L.drop y.1) y.2=RES) (fun y=>L.length - y.1) (0,OUT) (by kernel_rfl) ⟨Nat.zero_le _,hOl1,hR⟩ ?_
 rintro⟨q,O2⟩ ⟨hq,hO2,hQ⟩
 (try dsimp only at hq hO2 hQ ⊢)
 have hwq:IntKind.i64.wrap ((q:Int)+1)=((q+1:Nat):Int):=(Bf (by omega)).trans (by omega)
 have hOl2:(spsI O2).length≤2000:=by simp[spsI];omega
 by_cases hql:q<L.length
 case neg=>
  have h5:¬decide ((q:Int)<(L.length:Int))=true:=by simp;omega
  rw[List.drop_eq_nil_of_le (by omega)]at hQ
  have hQ:O2=RES:=hQ;subst hQ;repeat'((conv=>whnf);first|((with_reducible refine Aw (by first|(with_reducible exact Bool.of_not_eq_true (by assumption))|((with_reducible refine decide_eq_false ?_);omega)) (fun hb=>?_));(try rw[hb]);(try simp only[Aa]at hb))|((with_reducible refine Exists.intro ?_ ?_);focus (and_intros<;>first|omega|(with_reducible rfl)|(simp;done)))|(with_reducible intro hfact)|(skip;rw[hL]))
  all_goals(try(conv=>whnf))
  (apply dKq<;>kernel_rfl)
 obtain⟨d,hd⟩:∃x,L[q]?=some x:=⟨_,List.getElem?_eq_getElem hql⟩;have h5:¬decide ((q:Int)<(L.length:Int))=false:=by simp;omega
 have hdr:L.drop q=d::L.drop (q+1):=by rw[List.drop_eq_getElem_cons hql];rw[List.getElem?_eq_getElem hql]at hd;cases hd;rfl
 rw[hdr]at hQ;unfold C4 at hQ;obtain⟨dk,⟨xf,xt⟩,dkey,dv,dr,dm⟩:=d;dsimp only at hQ;by_cases k1:dk=1
 ·subst k1;rw[if_pos rfl]at hQ;repeat'((conv=>whnf);first|((with_reducible refine Ax (by first|(with_reducible exact Bool.of_not_eq_false (by assumption))|((with_reducible refine decide_eq_true ?_);omega)) (fun hb=>?_));(try rw[hb]);(try simp only[Aa]at hb))|((with_reducible refine And.intro (fun hb=>?_) (fun hb=>?_))<;>(((try rw[hb]);(try simp only[Aa]at hb);(try(with_reducible exact absurd trivial hb)))))|((with_reducible refine Exists.intro ?_ ?_);focus (and_intros<;>first|omega|(with_reducible rfl)|kernel_rfl|exact Ah (by rfl)|(simp only[An];omega)|(simp;done)))|(with_reducible intro hfact)|((try dsimp only);rw[Am4 (Akd hd)])|((try dsimp only);rw[hL])|(skip;rw[hwq]))
  all_goals(try(conv=>whnf))
  refine Round.by (q+1,O2++[⟨xf,xt⟩]) ?_ ⟨by omega,by simp;omega,hQ⟩ (by dsimp only;omega)
  try dsimp only
  rw[←Cx];show norm _ _=upd _ _
  kernel_rfl
 ·rw[if_neg k1]at hQ;have g1:¬decide (dk=1)=true:=by simpa using k1
  repeat'((conv=>whnf);first|((with_reducible refine Ax (by first|(with_reducible exact Bool.of_not_eq_false (by assumption))|((with_reducible refine decide_eq_true ?_);omega)) (fun hb=>?_));(try rw[hb]);(try simp only[Aa]at hb))|((with_reducible refine Aw (by(with_reducible exact Bool.of_not_eq_true (by assumption))) (fun hb=>?_));(try rw[hb]);(try simp only[Aa]at hb))|((with_reducible refine Exists.intro ?_ ?_);focus (and_intros<;>first|omega|(with_reducible rfl)|kernel_rfl|(simp;done)))|(with_reducible intro hfact)|((try dsimp only);rw[Am4 (Akd hd)])|((try dsimp only);rw[hL])|(skip;rw[hwq]))
  all_goals(try(conv=>whnf))
  refine Round.by (q+1,O2) ?_ ⟨by omega,by dsimp only;omega,hQ⟩ (by dsimp only;omega)
  try dsimp only
  show norm _ _=upd _ _
  kernel_rfl
theorem Anm(th el:List Act)(hl:th.length+el.length≤1000)(hk:∀c∈th++el,c.key.length≤1000):
 Fn Tryd.prog Hm [.v (.list (th.map Act.toI)),.v (.list (el.map Act.toI))] (Is (.v (.list (spsI (B9 th el)))) [.no,.no]):=by
 refine Hh ?_ (by simp)
 obtain⟨RES,hRES⟩:∃R,B9 th el=R:=⟨_,rfl⟩;rw[hRES];have hl2:(th.map Act.toI).length=th.length:=List.length_map _;have hl3:(el.map Act.toI).length=el.length:=List.length_map _;have hsz1:=Er th;have hsz2:=Er el;have hR:Cp (th++el) []=RES:=by rw[Ago, ←hRES];rfl
 clear hRES;repeat'((conv=>whnf);((with_reducible refine Exists.intro ?_ ?_);focus (and_intros<;>first|(exact hsz1)|(exact hsz2)|omega|(with_reducible rfl)|(simp only[An];omega)|(simp;done))))
 all_goals(try(conv=>whnf))
 have hme:th.map Act.toI++el.map Act.toI=(th++el).map Act.toI:=by simp
 simp only[List.nil_append,hme];have hL:((th++el).map Act.toI).length=(th++el).length:=List.length_map _;have hLl:(th++el).length≤1000:=by rw[List.length_append];omega
 clear hme hsz1 hsz2;generalize hAL:th++el=L at*;refine LoopWq.by (X:=Nat × List Sp) (fun y=>[(7,.v (ti (y.1:Int))),(5,.vec Dt 2 (spsI y.2))]) (fun y=>y.1≤L.length∧y.2.length≤y.1∧Cp (L.drop y.1) y.2=RES) (fun y=>L.length - y.1) (0,[]) (by kernel_rfl) ⟨Nat.zero_le _,Nat.le_refl _,hR⟩ ?_
 rintro⟨q,O2⟩ ⟨hq,hO2,hQ⟩
 (try dsimp only at hq hO2 hQ ⊢)
 have hwq:IntKind.i64.wrap ((q:Int)+1)=((q+1:Nat):Int):=(Bf (by omega)).trans (by omega)
 have hOl2:(spsI O2).length≤2000:=by simp[spsI];omega
 by_cases hql:q<L.length
 case neg=>
  have h5:¬decide ((q:Int)<(L.length:Int))=true:=by simp;omega
  rw[List.drop_eq_nil_of_le (by omega)]at hQ
  have hQ:O2=RES:=hQ;subst hQ;repeat'((conv=>whnf);first|((with_reducible refine Aw (by first|(with_reducible exact Bool.of_not_eq_true (by assumption))|((with_reducible refine decide_eq_false ?_);omega)) (fun hb=>?_));(try rw[hb]);(try simp only[Aa]at hb))|((with_reducible refine Exists.intro ?_ ?_);focus (and_intros<;>first|omega|(with_reducible rfl)|(simp;done)))|(with_reducible intro hfact)|(skip;rw[hL]))
  all_goals(try(conv=>whnf))
  (apply dKq<;>kernel_rfl)
 obtain⟨d,hd⟩:∃x,L[q]?=some x:=⟨_,List.getElem?_eq_getElem hql⟩;have h5:¬decide ((q:Int)<(L.length:Int))=false:=by simp;omega
 have hdr:L.drop q=d::L.drop (q+1):=by rw[List.drop_eq_getElem_cons hql];rw[List.getElem?_eq_getElem hql]at hd;cases hd;rfl
 have hkd:=hk d (List.mem_of_getElem? hd);rw[hdr]at hQ;unfold Cp at hQ;obtain⟨dk,⟨xf,xt⟩,dkey,dv,dr,dm⟩:=d;dsimp only at hQ hkd;have hkey:=Ami dkey (by omega)
 by_cases k2:dk=2
 ·subst k2;rw[if_pos rfl]at hQ;repeat'((conv=>whnf);first|((with_reducible refine Ax (by first|(with_reducible exact Bool.of_not_eq_false (by assumption))|((with_reducible refine decide_eq_true ?_);omega)) (fun hb=>?_));(try rw[hb]);(try simp only[Aa]at hb))|((with_reducible refine And.intro (fun hb=>?_) (fun hb=>?_))<;>first|(exfalso;((simp only[An]at hb<;>omega)))|((try rw[hb]);(try simp only[Aa]at hb);(try(with_reducible exact absurd trivial hb))))|((with_reducible refine Exists.intro ?_ ?_);focus (and_intros<;>first|omega|(with_reducible rfl)|kernel_rfl|(intro _ hh;cases hh;done)|exact Ah (by rfl)|(simp only[An];omega)|(simp;done)|decide))|(with_reducible intro hfact)|((try dsimp only);rw[Am4 (Akd hd)])|((try dsimp only);rw[hL])|((with_reducible refine CallWp.mk ?_);refine⟨_,hkey,?_⟩;rintro _ _ ⟨rfl,rfl⟩)|((try dsimp only);rw[hwq]))
  all_goals(try(conv=>whnf))
  refine Round.by (q+1,O2++[spK1 dkey]) ?_ ⟨by omega,by simp;omega,hQ⟩ (by dsimp only;omega)
  try dsimp only
  rw[←Cx];show norm _ _=upd _ _
  kernel_rfl
 rw[if_neg k2]at hQ;have g2:¬decide (dk=2)=true:=by simpa using k2
 by_cases k3:dk=3
 ·subst k3;rw[if_pos rfl]at hQ;repeat'((conv=>whnf);first|((with_reducible refine Ax (by first|(with_reducible exact Bool.of_not_eq_false (by assumption))|((with_reducible refine decide_eq_true ?_);omega)) (fun hb=>?_));(try rw[hb]);(try simp only[Aa]at hb))|((with_reducible refine Aw (by(with_reducible exact Bool.of_not_eq_true (by assumption))) (fun hb=>?_));(try rw[hb]);(try simp only[Aa]at hb))|((with_reducible refine And.intro (fun hb=>?_) (fun hb=>?_))<;>(((try rw[hb]);(try simp only[Aa]at hb);(try(with_reducible exact absurd trivial hb)))))|((with_reducible refine Exists.intro ?_ ?_);focus (and_intros<;>first|omega|(with_reducible rfl)|kernel_rfl|exact Ah (by rfl)|(simp only[An];omega)|(simp;done)))|(with_reducible intro hfact)|((try dsimp only);rw[Am4 (Akd hd)])|((try dsimp only);rw[hL])|(skip;rw[hwq]))
  all_goals(try(conv=>whnf))
  refine Round.by (q+1,O2++[⟨xf,xt⟩]) ?_ ⟨by omega,by simp;omega,hQ⟩ (by dsimp only;omega)
  try dsimp only
  rw[←Cx];show norm _ _=upd _ _
  kernel_rfl
 ·rw[if_neg k3]at hQ;have g3:¬decide (dk=3)=true:=by simpa using k3
  repeat'((conv=>whnf);first|((with_reducible refine Ax (by first|(with_reducible exact Bool.of_not_eq_false (by assumption))|((with_reducible refine decide_eq_true ?_);omega)) (fun hb=>?_));(try rw[hb]);(try simp only[Aa]at hb))|((with_reducible refine Aw (by(with_reducible exact Bool.of_not_eq_true (by assumption))) (fun hb=>?_));(try rw[hb]);(try simp only[Aa]at hb))|((with_reducible refine Exists.intro ?_ ?_);focus (and_intros<;>first|omega|(with_reducible rfl)|kernel_rfl|(simp;done)))|(with_reducible intro hfact)|((try dsimp only);rw[Am4 (Akd hd)])|((try dsimp only);rw[hL])|(skip;rw[hwq]))
  all_goals(try(conv=>whnf))
  refine Round.by (q+1,O2) ?_ ⟨by omega,by dsimp only;omega,hQ⟩ (by dsimp only;omega)
  try dsimp only
  show norm _ _=upd _ _
  kernel_rfl

open Go.Proofs
theorem Amj(l:List Sp)(hl:l.length≤100000):Fn Tryd.prog Agu [.v (.list (spsI l)),.v (.list (spsI l))] (Is (.v (.bool true)) [.no,.no]):=by
 refine Zp ?_ (by simp)
 have hlm:(l.map Sp.toI).length=l.length:=List.length_map _;have g1:¬(!decide ((((l.map Sp.toI).length:Nat):Int)=((l.map Sp.toI).length:Int)))=true:=by simp
 have g2:¬(!decide (((l.length:Nat):Int)=(l.length:Int)))=true:=by simp
 repeat'((conv=>whnf);first|((with_reducible refine Aw (by(with_reducible exact Bool.of_not_eq_true (by assumption))) (fun hb=>?_));(try rw[hb]);(try simp only[Aa]at hb))|((with_reducible refine Exists.intro ?_ ?_);focus (and_intros<;>(with_reducible rfl)))|(with_reducible intro hfact))
 all_goals(try(conv=>whnf))
 refine LoopWq.by (X:=Nat) (fun j=>[(5,.v (ti (j:Int)))]) (fun j=>j≤l.length) (fun j=>l.length - j) 0 (by kernel_rfl) (Nat.zero_le _) ?_
 rintro j hj
 (try dsimp only at hj ⊢)
 have hw:IntKind.i64.wrap ((j:Int)+1)=((j+1:Nat):Int):=(Bf (by omega)).trans (by omega)
 by_cases hjl:j<l.length
 case neg=>
  have h3:¬decide ((j:Int)<(l.length:Int))=true:=by simp;omega
  repeat'((conv=>whnf);first|((with_reducible refine And.intro (fun hb=>?_) (fun hb=>?_))<;>first|(exfalso;((simp only[An]at hb<;>omega)))|((try rw[hb]);(try simp only[Aa]at hb)))|((with_reducible refine Exists.intro ?_ ?_);focus (and_intros<;>(with_reducible rfl)))|(with_reducible intro hfact)|(skip;rw[hlm]))
  all_goals(try(conv=>whnf))
  (apply dKq<;>kernel_rfl)
 obtain⟨x,hx⟩:∃x,l[j]?=some x:=⟨_,List.getElem?_eq_getElem hjl⟩;have h3:¬decide ((j:Int)<(l.length:Int))=false:=by simp;omega
 obtain⟨xf,xt⟩:=x;have g:¬(!(decide (xf=xf)&&(decide (xt=xt)&&true)))=true:=by simp
 repeat'((conv=>whnf);first|((with_reducible refine Aw (by(with_reducible exact Bool.of_not_eq_true (by assumption))) (fun hb=>?_));(try rw[hb]);(try simp only[Aa]at hb))|((with_reducible refine And.intro (fun hb=>?_) (fun hb=>?_))<;>first|(exfalso;((simp only[An]at hb<;>omega)))|((try rw[hb]);(try simp only[Aa]at hb)))|((with_reducible refine Exists.intro ?_ ?_);focus (and_intros<;>first|omega|(with_reducible rfl)|kernel_rfl))|(with_reducible intro hfact)|((with_reducible refine Drawn.mkV ?_ ?_ ?_ (fun hfact=>?_));(focus (as_aux_lemma=>kernel_rfl));(focus (as_aux_lemma=>kernel_rfl));(focus (as_aux_lemma=>kernel_rfl));(try simp only[dRS]at hfact))|((try dsimp only);rw[hlm])|((try dsimp only);(rw[B6 hx]))|(skip;rw[hw]))
 all_goals(try(conv=>whnf))
 refine Round.by (j+1) ?_ (by omega) (by omega)
 try dsimp only
 show norm _ _=upd _ _
 kernel_rfl
theorem Aqv{ifs:List Cm}{th el:List Act}:(C3 ifs th el).length≤ifs.length+th.length+el.length:=by
 unfold C3;have:=List.length_filterMap_le Ana (th++el);rw[List.length_append]at this ⊢;rw[List.length_map];omega
theorem Ap4{th el:List Act}:(B9 th el).length≤th.length+el.length:=by
 unfold B9;have:=List.length_filterMap_le Aiy (th++el);rw[List.length_append]at this;omega
theorem Aqo(t:Txn)(hbd:t.ifs.length+t.th.length+t.el.length≤1000000000000000000):Fn Tryd.prog Gr [.v t.toI] (Is (.v (.bool true)) [.no]):=by
 refine Gj ?_ (by simp)
 have hg:=Dm t hbd;cases hG:t.great with
 |true=>
  rw[hG]at hg;repeat'((conv=>whnf);first|((with_reducible refine Ax (by first|(with_reducible assumption)|(with_reducible rfl)) (fun hb=>?_));(try rw[hb]);(try simp only[Aa]at hb))|((with_reducible refine And.intro (fun hb=>?_) (fun hb=>?_))<;>first|(exact absurd hb (by decide))|((try rw[hb]);(try simp only[Aa]at hb)))|((with_reducible refine Exists.intro ?_ ?_);focus (and_intros<;>first|omega|kernel_rfl|(intro _ hh;cases hh;done)|(simp;done)|decide))|((with_reducible refine CallWp.mk ?_);refine⟨_,B0,?_⟩;rintro _ _ ⟨rfl,rfl⟩)|((with_reducible refine CallWp.mk ?_);refine⟨_,hg,?_⟩;rintro _ _ ⟨rfl,rfl⟩))
  all_goals(try(conv=>whnf))
  (apply dKq<;>kernel_rfl)
 |false=>
  rw[hG]at hg;obtain⟨g1,g2,g3⟩:=Txn.great_no hG;obtain⟨ifs,th,el⟩:=t;dsimp only at g1 g2 g3;have k1:∀c∈ifs,c.key.length≤1000:=fun c hc=>by have:=g2 c hc;unfold Cm.big at this;omega
  have k2:∀d∈th++el,d.key.length≤1000:=fun d hd=>by have:=g3 d hd;unfold Act.big at this;omega
  have a1:=Aga ifs th el (by omega)
  have a2:=Aod ifs th el (by omega)
  have a3:=Amk ifs th el (by omega) k1
  have a4:=Aoc ifs th el (by omega) k1
  have a5:=Akz th el (by omega) k2
  have a6:=Anm th el (by omega) k2
  have hr1:=Aqv (ifs:=ifs) (th:=th) (el:=el);have hr2:=Ap4 (th:=th) (el:=el);have a7:=Amj (C3 ifs th el) (by omega)
  have a8:=Amj (B9 th el) (by omega)
  generalize C3 ifs th el=RD at*;generalize B9 th el=WR at*;generalize Cu ifs th el=B at*;have hB:¬decide (B=B)=false:=by simp
  repeat'((conv=>whnf);first|((with_reducible refine Ax (by first|(with_reducible exact Bool.of_not_eq_false (by assumption))|(with_reducible rfl)) (fun hb=>?_));(try rw[hb]);(try simp only[Aa]at hb))|((with_reducible refine Aw (by first|(with_reducible assumption)|(with_reducible rfl)) (fun hb=>?_));(try rw[hb]);(try simp only[Aa]at hb))|((with_reducible refine And.intro (fun hb=>?_) (fun hb=>?_))<;>first|(exact absurd hb (by decide))|((try rw[hb]);(try simp only[Aa]at hb)))|((with_reducible refine Exists.intro ?_ ?_);focus (and_intros<;>first|omega|kernel_rfl|(intro _ hh;cases hh;done)|(simp;done)|decide))|((with_reducible refine Drawn.mkV ?_ ?_ ?_ (fun hfact=>?_));(focus (as_aux_lemma=>kernel_rfl));(focus (as_aux_lemma=>kernel_rfl));(focus (as_aux_lemma=>kernel_rfl));(try simp only[dRS]at hfact))|((with_reducible refine CallWp.mk ?_);refine⟨_,B0,?_⟩;rintro _ _ ⟨rfl,rfl⟩)|((with_reducible refine CallWp.mk ?_);refine⟨_,hg,?_⟩;rintro _ _ ⟨rfl,rfl⟩)|((with_reducible refine CallIs.mk ?_);refine⟨_,_,a1,?_⟩)|((with_reducible refine CallIs.mk ?_);refine⟨_,_,a2,?_⟩)|((with_reducible refine CallIs.mk ?_);refine⟨_,_,a3,?_⟩)|((with_reducible refine CallIs.mk ?_);refine⟨_,_,a4,?_⟩)|((with_reducible refine CallIs.mk ?_);refine⟨_,_,a5,?_⟩)|((with_reducible refine CallIs.mk ?_);refine⟨_,_,a6,?_⟩)|((with_reducible refine CallIs.mk ?_);refine⟨_,_,a7,?_⟩)|((with_reducible refine CallIs.mk ?_);refine⟨_,_,a8,?_⟩))
  all_goals(try(conv=>whnf))
  all_goals((apply dKq<;>kernel_rfl))

open Go.ChangeShapes Go.Deep
inductive Sh where
 |int (k:IntKind)
 |bool
 |str
 |st (l:List Sh)
 |sl (sz:Nat) (e:Sh)
 |ar (sz n:Nat) (e:Sh)
 deriving Inhabited
mutual
def Sh.ok(P:Program):TypeId→Sh→Bool
 |t,.int k=>match P.underlying t with
  |some (.int k')=>k==k'
  |_=>false
 |t,.bool=>match P.underlying t with
  |some .bool=>true
  |_=>false
 |t,.str=>match P.underlying t with
  |some .string=>true
  |_=>false
 |t,.st l=>match P.underlying t with
  |some (.struct fs)=>Sh.oks P 0 (P.cellsOf t) fs.toList l
  |_=>false
 |t,.sl sz e=>match P.underlying t with
  |some (.slice e')=>P.cellsOf e'==sz&&sz != 0&&Sh.ok P e' e
  |_=>false
 |t,.ar sz n e=>match P.underlying t with
  |some (.array m e')=>P.cellsOf e'==sz&&m==n&&P.cellsOf t==n*sz&&Sh.ok P e' e
  |_=>false
def Sh.oks(P:Program):Nat→Nat→List Field→List Sh→Bool
 |off,tot,[],[]=>off==tot
 |off,tot,f::fs,s::l=>f.offset==off&&Sh.ok P f.type s&&Sh.oks P (off+P.cellsOf f.type) tot fs l
 |_,_,_,_=>false
end
mutual
def Fits:Sh→I→Prop
 | .int k,x=>∃n,x= .int k n∧(Lit.int k n).wf=true
 | .bool,x=>∃b,x= .bool b
 | .str,x=>∃s,x= .str s
 | .st l,x=>∃xs,x= .agg xs∧FitsL l xs
 | .sl sz e,x=>∃xs,x= .list xs∧∀y∈xs,Fits e y∧y.size=sz
 | .ar sz n e,x=>∃xs,x= .arr sz xs∧xs.length=n∧∀y∈xs,Fits e y∧y.size=sz
def FitsL:List Sh→List I→Prop
 | [],xs=>xs=[]
 |s::l,xs=>∃y ys,xs=y::ys∧Fits s y∧FitsL l ys
end
def De(w:World):Mem:=fun b=>w.heap[b]?
section
variable{H:Type}{enc:TypeId × Value → H}{P:Program}{w:World}{base:Nat}{sp:Nat → Bool}{held:Bool}
theorem Su{a:Addr}{n:Nat}{cs:List Value}(h:w.cells? base a n=some cs)(h0:0<n):∃bl ty fz,a=⟨a.block,a.off,none⟩∧w.heap[a.block]?=some (.cells bl ty fz)∧a.off+n≤bl.size∧(bl.toList.drop a.off).take n=cs:=by
 obtain⟨_,hl,hc⟩:=World.cells?_some h;have hget:∀i,i<n→∃v,w.cell? (a.add i)=some v:=fun i hi=>⟨cs[i]'(by omega),by rw[hc i hi,List.getElem?_eq_getElem]⟩
 obtain⟨v,hv⟩:=hget 0 h0;unfold World.cell? at hv;rw[show a.add 0=a from by simp[Addr.add]]at hv
 split at hv
 ·rename_i bl ty fz hb;split at hv
  ·cases hv
  ·rename_i hs;have hspot:a.spot=none:=by cases hsp:a.spot<;>simp[hsp]at hs ⊢
   have hadd:∀i,w.cell? (a.add i)=bl[a.off+i]?:=by
    intro i;unfold World.cell? Addr.add;by_cases hi:i=0
    ·simp[hi,hb,hspot]
    ·simp[hi,hb]
   have hsz:a.off+n≤bl.size:=by
    obtain⟨v',hv'⟩:=hget (n - 1) (by omega)
    rw[hadd]at hv';have:=(Array.getElem?_eq_some_iff.1 hv').1;omega
   refine⟨bl,ty,fz,?_,hb,hsz,?_⟩
   ·cases a;simp at hspot;simp[hspot]
   ·apply List.ext_getElem?;intro i;by_cases hi:i<n
    ·rw[List.getElem?_take,if_pos hi,List.getElem?_drop, ←hc i hi,hadd];simp
    ·rw[List.getElem?_eq_none (by simp;omega),List.getElem?_eq_none (by omega)]
 ·cases hv
theorem RepIs.of_rows{G:Mem}{sz:Nat}:∀{n:Nat} {cells:List Value} {p:I→Prop},n*sz≤cells.length→(∀i,i<n→∃x,RepI G x ((cells.drop (i*sz)).take sz)∧p x)→∃xs,xs.length=n∧RepIs G xs (cells.take (n*sz))∧∀x∈xs,p x
 |0,cells,p,_,_=>⟨[],rfl,by simp[RepIs],by simp⟩
 |n+1,cells,p,hl,h=>by
  have hm:(n+1)*sz=sz+n*sz:=by rw[Nat.add_mul];omega
  obtain⟨x,h1,h2⟩:=h 0 (by omega)
  simp only[Nat.zero_mul,List.drop_zero]at h1;obtain⟨xs,h3,h4,h5⟩:=RepIs.of_rows (sz:=sz) (n:=n) (cells:=cells.drop sz) (p:=p) (by rw[List.length_drop];omega) fun i hi=>by
   obtain⟨y,g1,g2⟩:=h (i+1) (by omega)
   refine⟨y,?_,g2⟩;rw[List.drop_drop,show sz+i*sz=(i+1)*sz by rw[Nat.add_mul];omega]
   exact g1
  refine⟨x::xs,by simp[h3],?_,?_⟩
  ·rw[hm,List.take_add];simp only[RepIs];exact⟨_,_,rfl,h1,h4⟩
  ·intro y hy;rcases List.mem_cons.mp hy with rfl|hy
   ·exact h2
   ·exact h5 y hy
theorem Ab4:∀{l:List Sh} {fs:List Field} {off tot:Nat},Sh.oks P off tot fs l=true→off≤tot
 | [],[],_,_,h=>by simp only[Sh.oks,beq_iff_eq]at h;omega
 |s::l,f::fs,off,tot,h=>by
  simp only[Sh.oks,Bool.and_eq_true]at h;have:=Ab4 h.2;omega
 | [],_::_,_,_,h=>by simp[Sh.oks]at h
 |_::_,[],_,_,h=>by simp[Sh.oks]at h
mutual
theorem trod_item:∀(sh:Sh) {t:TypeId} {fuel:Nat} {cs:List Value} {x:DataW H × List MemPlace},sh.ok P t=true→DataW.trod enc P w base (fun _=>sp 0) held fuel t cs=some x→
 ∃y,RepI (De w) y cs∧Fits sh y
 | .int k,t,fuel,cs,x,ho,h=>by
   simp only[Sh.ok]at ho;split at ho
   ·rename_i k' ht;rw[beq_iff_eq]at ho;subst ho;obtain⟨n,rfl,_,hw⟩:=DataW.trod_int ht h;exact⟨.int k n,by simp[RepI],n,rfl,hw⟩
   ·cases ho
 | .bool,t,fuel,cs,x,ho,h=>by
   simp only[Sh.ok]at ho;split at ho
   ·rename_i ht;obtain⟨b,rfl,_⟩:=DataW.trod_bool ht h;exact⟨.bool b,by simp[RepI],b,rfl⟩
   ·cases ho
 | .str,t,fuel,cs,x,ho,h=>by
   simp only[Sh.ok]at ho;split at ho
   ·rename_i ht;obtain⟨s,rfl,_,hs⟩:=DataW.trod_string ht h;obtain⟨⟨s⟩⟩:=s;exact⟨.str s,by simp only[RepI];exact⟨trivial,hs⟩,s,rfl⟩
   ·cases ho
 | .st l,t,fuel,cs,x,ho,h=>by
   simp only[Sh.ok]at ho;split at ho
   ·rename_i fs ht;cases fuel with
    |zero=>simp[DataW.trod]at h
    |succ fuel=>
     simp only[DataW.trod,ht]at h;split at h
     ·rename_i hl;obtain⟨xs,h1,_⟩:=Option.map_eq_some_iff.1 h;obtain⟨ys,h2,h3⟩:=trod_items l (off:=0) ho h1;refine⟨.agg ys,?_,ys,rfl,h3⟩;simp only[RepI];simpa[←hl]using h2
     ·cases h
   ·cases ho
 | .sl sz e,t,fuel,cs,x,ho,h=>by
   simp only[Sh.ok]at ho;split at ho
   ·rename_i e' ht;simp only[Bool.and_eq_true,beq_iff_eq,bne_iff_ne,ne_eq]at ho;obtain⟨⟨hsz,hz⟩,he⟩:=ho;rcases open_slice ht h with⟨rfl,_⟩|⟨a,len,cap,m,n,D,Pl,rfl,_,hlc,hcm,hm,_,hx⟩
    ·exact⟨.list [],by simp only[RepI];exact⟨none,0,rfl,Nat.le_refl _,Nat.zero_le _,.inl trivial⟩,[],rfl,by simp⟩
    ·by_cases h0:len=0
     ·subst h0;exact⟨.list [],by simp only[RepI];exact⟨some a,cap,rfl,Nat.zero_le _,hcm,.inl trivial⟩,[],rfl,by simp⟩
     ·have hmm:len≤m:=by subst hm;split<;>omega
      have hrow:∀i,i<len→∃cs' y,w.cells? base (a.add (i*sz)) sz=some cs'∧RepI (De w) y cs'∧Fits e y∧y.size=sz:=by
       intro i hi;obtain⟨cs',g1,g2⟩:=hx i (by omega)
       obtain⟨y,g3,g4⟩:=trod_item e he g2;rw[hsz]at g1;have hlen:=(World.cells?_some g1).2.1;exact⟨cs',y,g1,g3,g4,by rw[←RepI.length _ _ g3,hlen]⟩
      obtain⟨cs0,_,c1,_⟩:=hrow 0 (by omega)
      rw[Nat.zero_mul,show a.add 0=a by simp[Addr.add]]at c1
      obtain⟨bl,ty,fz,ha,hb,hs0,_⟩:=Su c1 (by omega)
      have hat:∀i,i<len→a.off+i*sz+sz≤bl.size∧∃y,RepI (De w) y (((bl.toList.drop a.off).drop (i*sz)).take sz)∧Fits e y∧y.size=sz:=by
       intro i hi;obtain⟨cs',y,g1,g2,g3,g4⟩:=hrow i hi;obtain⟨bl',ty',fz',k1,k2,k3,k4⟩:=Su g1 (by omega)
       have e1:(a.add (i*sz)).block=a.block:=by unfold Addr.add;split<;>rfl
       have e2:(a.add (i*sz)).off=a.off+i*sz:=by unfold Addr.add;split<;>rename_i hh<;>simp[hh]
       rw[e1,hb]at k2;cases k2;rw[e2]at k3 k4;refine⟨k3,y,?_,g3,g4⟩;rw[List.drop_drop,k4];exact g2
      have hlast:=(hat (len - 1) (by omega)).1
      have hmul:(len - 1)*sz+sz=len*sz:=by
       obtain⟨q,rfl⟩:∃q,len=q+1:=⟨len - 1,by omega⟩
       rw[Nat.add_sub_cancel,Nat.add_mul,Nat.one_mul]
      obtain⟨xs,x1,x2,x3⟩:=RepIs.of_rows (G:=De w) (sz:=sz) (n:=len) (cells:=bl.toList.drop a.off) (p:=fun y=>Fits e y∧y.size=sz) (by simp;omega) fun i hi=>(hat i hi).2
      refine⟨.list xs,?_,xs,rfl,x3⟩;simp only[RepI];refine⟨some a,cap,by rw[x1],by omega,hcm,.inr ⟨a.block,a.off,bl,ty,fz,sz,by rw[←ha],hb,fun y hy=>(x3 y hy).2,by rw[x1];omega,by rw[x1];exact x2⟩⟩
   ·cases ho
 | .ar sz n e,t,fuel,cs,x,ho,h=>by
   simp only[Sh.ok]at ho;split at ho
   ·rename_i m e' ht;simp only[Bool.and_eq_true,beq_iff_eq]at ho;obtain⟨⟨⟨hsz,rfl⟩,htot⟩,he⟩:=ho;obtain⟨xs,fu,rfl,_,hl,hxl,hx⟩:=DataW.trod_array ht h;rw[htot]at hl;rw[hsz]at hx;obtain⟨ys,y1,y2,y3⟩:=RepIs.of_rows (G:=De w) (sz:=sz) (n:=m) (cells:=cs) (p:=fun y=>Fits e y∧y.size=sz) (by omega) fun i hi=>by
     obtain⟨d,hd⟩:∃d,xs[i]?=some d:=⟨_,List.getElem?_eq_getElem (by omega)⟩
     have h1:=hx i hi;rw[hd]at h1;obtain⟨y,g1,g2⟩:=trod_item e he h1;refine⟨y,g1,g2,?_⟩;rw[←RepI.length _ _ g1,List.length_take,List.length_drop];have:(i+1)*sz≤m*sz:=Nat.mul_le_mul_right _ (by omega)
     rw[Nat.add_mul,Nat.one_mul]at this;omega
    refine⟨.arr sz ys,?_,ys,rfl,y1,y3⟩;rw[List.take_of_length_le (by omega)]at y2
    simp only[RepI];exact⟨y2,fun y hy=>(y3 y hy).2⟩
   ·cases ho
theorem trod_items:∀(l:List Sh) {fs:List Field} {off tot fuel:Nat} {cs:List Value} {xs:List (DataW H × List MemPlace)},Sh.oks P off tot fs l=true→
 (fs.mapM fun f=>DataW.trod enc P w base (fun _=>sp 0) held fuel f.type ((cs.drop f.offset).take (P.cellsOf f.type)))=some xs→∃ys,RepIs (De w) ys ((cs.take tot).drop off)∧FitsL l ys
 | [],fs,off,tot,fuel,cs,xs,ho,h=>by
   cases fs with
   |nil=>
    simp only[Sh.oks,beq_iff_eq]at ho;subst ho;exact⟨[],by simp[RepIs],rfl⟩
   |cons f fs=>simp[Sh.oks]at ho
 |s::l,fs,off,tot,fuel,cs,xs,ho,h=>by
  cases fs with
  |nil=>simp[Sh.oks]at ho
  |cons f fs=>
   simp only[Sh.oks,Bool.and_eq_true,beq_iff_eq]at ho;obtain⟨⟨rfl,h1⟩,h2⟩:=ho;simp only[List.mapM_cons]at h;obtain⟨y,g1,g2⟩:=Option.bind_eq_some_iff.1 h;obtain⟨z,g3,g4⟩:=Option.bind_eq_some_iff.1 g2;obtain⟨u,g5,g6⟩:=trod_item s h1 g1;obtain⟨us,g7,g8⟩:=trod_items l (cs:=cs) h2 g3;refine⟨u::us,?_,u,us,rfl,g6,g8⟩;simp only[RepIs];have hle:=Ab4 h2;refine⟨_,_,?_,g5,g7⟩;have e1:(cs.drop f.offset).take (P.cellsOf f.type)=((cs.take tot).drop f.offset).take (P.cellsOf f.type):=by
    rw[List.drop_take,List.take_take,Nat.min_eq_left (by omega)]
   rw[e1, ←List.drop_drop,List.take_append_drop]
end
end

open Go.ChangeShapes Go.Deep
theorem Fm{α β:Type}{f g:α→Option β}:∀{l:List α} {xs:List β},l.mapM f=some xs→(∀a∈l,∀y∈xs,f a=some y→g a=some y)→l.mapM g=some xs
 | [],xs,h,_=>by simpa using h
 |a::l,xs,h,hg=>by
  simp only[List.mapM_cons]at h ⊢;obtain⟨y,g1,g2⟩:=Option.bind_eq_some_iff.1 h;obtain⟨z,g3,g4⟩:=Option.bind_eq_some_iff.1 g2;cases g4;rw[hg a (List.mem_cons_self ..) y (List.mem_cons_self ..) g1];have:=Fm (l:=l) g3 fun b hb x hx=>hg b (List.mem_cons_of_mem _ hb) x (List.mem_cons_of_mem _ hx)
  simp[this]
section
variable{H:Type}{enc:TypeId × Value → H}{P:Program}{W W':World}{sp':Nat → Bool}{held:Bool}
theorem Zg(hk:∀(b:Nat) (o:Obj),W.heap[b]?=some o→W'.heap[b]?=some o){a:Addr}{v:Value}(h:W.cell? a=some v):W'.cell? a=some v:=by
 unfold World.cell? at h ⊢;split at h
 ·rename_i bl ty fz hb;rw[hk _ _ hb];exact h
 ·cases h
theorem Xa(hk:∀(b:Nat) (o:Obj),W.heap[b]?=some o→W'.heap[b]?=some o){a:Addr}{n:Nat}{cs:List Value}(h:W.cells? 0 a n=some cs):W'.cells? 0 a n=some cs:=by
 unfold World.cells? at h ⊢;split at h
 ·rename_i h0;rw[if_pos h0];exact Fm h fun i _ y _ hy=>Zg hk hy
 ·cases h
theorem Hc(hk:∀(b:Nat) (o:Obj),W.heap[b]?=some o→W'.heap[b]?=some o):∀(fuel:Nat) (sh:Sh) {t:TypeId} {cs:List Value} {x:DataW H × List MemPlace},sh.ok P t=true→
 DataW.trod enc P W 0 (fun _=>true) held fuel t cs=some x→(∀p∈x.2,sp' p.block=true)→DataW.trod enc P W' 0 sp' held fuel t cs=some x
 |0,sh,t,cs,x,ho,h,hp=>by simp[DataW.trod]at h
 |fuel+1,.int k,t,cs,x,ho,h,hp=>by
  simp only[Sh.ok]at ho;split at ho
  ·rename_i k' ht;obtain⟨n,rfl,rfl,hw⟩:=DataW.trod_int ht h;simp[DataW.trod,ht,hw]
  ·cases ho
 |fuel+1,.bool,t,cs,x,ho,h,hp=>by
  simp only[Sh.ok]at ho;split at ho
  ·rename_i ht;obtain⟨b,rfl,rfl⟩:=DataW.trod_bool ht h;simp[DataW.trod,ht]
  ·cases ho
 |fuel+1,.str,t,cs,x,ho,h,hp=>by
  simp only[Sh.ok]at ho;split at ho
  ·rename_i ht;obtain⟨s,rfl,rfl,hs⟩:=DataW.trod_string ht h;simp[DataW.trod,ht,hs]
  ·cases ho
 |fuel+1,.st l,t,cs,x,ho,h,hp=>by
  simp only[Sh.ok]at ho;split at ho
  ·rename_i fs ht;simp only[DataW.trod,ht]at h ⊢;split at h
   ·rename_i hl;rw[if_pos hl];obtain⟨xs,h1,rfl⟩:=Option.map_eq_some_iff.1 h;have fld:∀(l:List Sh) (fs:List Field) (off tot:Nat) (xs:List (DataW H × List MemPlace)),Sh.oks P off tot fs l=true→
     (fs.mapM fun f=>DataW.trod enc P W 0 (fun _=>true) held fuel f.type ((cs.drop f.offset).take (P.cellsOf f.type)))=some xs→(∀y∈xs,∀p∈y.2,sp' p.block=true)→
     (fs.mapM fun f=>DataW.trod enc P W' 0 sp' held fuel f.type ((cs.drop f.offset).take (P.cellsOf f.type)))=some xs:=by
     intro l;induction l with
     |nil=>
      intro fs off tot xs ho h hp;cases fs with
      |nil=>simpa using h
      |cons f fs=>simp[Sh.oks]at ho
     |cons s l ih=>
      intro fs off tot xs ho h hp;cases fs with
      |nil=>simp[Sh.oks]at ho
      |cons f fs=>
       simp only[Sh.oks,Bool.and_eq_true,beq_iff_eq]at ho;simp only[List.mapM_cons]at h ⊢;obtain⟨y,g1,g2⟩:=Option.bind_eq_some_iff.1 h;obtain⟨z,g3,g4⟩:=Option.bind_eq_some_iff.1 g2;cases g4;rw[Hc hk fuel s ho.1.2 g1 (hp y (List.mem_cons_self ..))];have:=ih fs _ _ z ho.2 g3 fun y hy=>hp y (List.mem_cons_of_mem _ hy)
       simp[this]
    rw[fld l fs.toList 0 _ xs ho h1 fun y hy p hp'=>hp p (List.mem_flatMap.2 ⟨y,hy,hp'⟩)]
    rfl
   ·cases h
  ·cases ho
 |fuel+1,.ar sz n e,t,cs,x,ho,h,hp=>by
  simp only[Sh.ok]at ho;split at ho
  ·rename_i m e' ht;simp only[Bool.and_eq_true,beq_iff_eq]at ho;simp only[DataW.trod,ht]at h ⊢;split at h
   ·rename_i hl;rw[if_pos hl];obtain⟨xs,h1,rfl⟩:=Option.map_eq_some_iff.1 h;rw[Fm h1 fun i _ y hy h2=>Hc hk fuel e ho.2 h2 fun p hp'=>hp p (List.mem_flatMap.2 ⟨y,hy,hp'⟩)]
    rfl
   ·cases h
  ·cases ho
 |fuel+1,.sl sz e,t,cs,x,ho,h,hp=>by
  simp only[Sh.ok]at ho;split at ho
  ·rename_i e' ht;simp only[Bool.and_eq_true,beq_iff_eq,bne_iff_ne,ne_eq]at ho;obtain⟨⟨hsz,hz⟩,he⟩:=ho;have elem:∀{a:Addr} {i:Nat} {y:DataW H × List MemPlace},(∀p∈y.2,sp' p.block=true)→((W.cells? 0 (a.add (i*P.cellsOf e')) (P.cellsOf e')).bind (DataW.trod enc P W 0 (fun _=>true) held fuel e'))=some y→
    ((W'.cells? 0 (a.add (i*P.cellsOf e')) (P.cellsOf e')).bind (DataW.trod enc P W' 0 sp' held fuel e'))=some y:=by
    intro a i y hy h;obtain⟨cs',g1,g2⟩:=Option.bind_eq_some_iff.1 h;rw[Xa hk g1];exact Hc hk fuel e he g2 hy
   have hcs:cs=[.slice none 0 0]∨∃a len cap,cs=[.slice (some a) len cap]:=by
    rcases open_slice ht h with⟨h1,_⟩|⟨a,len,cap,_,_,_,_,h1,_⟩
    ·exact .inl h1
    ·exact .inr ⟨a,len,cap,h1⟩
   rcases hcs with rfl|⟨a,len,cap,rfl⟩
   ·simp only[DataW.trod,ht]at h ⊢;exact h
   ·simp only[DataW.trod,ht]at h ⊢;split at h
    ·rename_i hc;rw[if_pos hc];obtain⟨elems,g1,g2⟩:=Option.bind_eq_some_iff.1 h;obtain⟨rest,g3,rfl⟩:=Option.map_eq_some_iff.1 g2;have hrow:0<elems.length+rest.length→sp' a.block=true:=by
      intro h0;refine hp (.cell a.block (a.off+0)) (List.mem_append_left _ ?_);unfold MemPlace.row;refine List.mem_map.2 ⟨0,List.mem_range.2 (Nat.mul_pos h0 (by omega)),rfl⟩
     have hel:∀y∈elems++rest,∀p∈y.2,sp' p.block=true:=fun y hy p hp'=>hp p (List.mem_append_right _ (List.mem_flatMap.2 ⟨y,hy,hp'⟩))
     have k1:=Fm g1 fun i _ y hy h=>elem (hel y (List.mem_append_left _ hy)) h
     rw[k1];simp only[if_true]at g3;have k2:(if sp' a.block=true then(List.range (cap - len)).mapM fun j=>((W'.cells? 0 (a.add ((len+j)*P.cellsOf e')) (P.cellsOf e')).bind (DataW.trod enc P W' 0 sp' held fuel e'))else some [])=some rest:=by
      have k3:=Fm g3 fun j _ y hy h=>elem (hel y (List.mem_append_right _ hy)) h
      cases hs:sp' a.block with
      |true=>rw[if_pos rfl];exact k3
      |false=>
       rw[if_neg (by decide)]
       have hr0:rest=[]:=by
        cases rest with
        |nil=>rfl
        |cons r rs=>
         have:=hrow (by simp;omega)
         rw[hs]at this;cases this
       rw[hr0]
     simp only[Option.bind_some];rw[k2];rfl
    ·cases h
  ·cases ho
end
end Go.Ab
