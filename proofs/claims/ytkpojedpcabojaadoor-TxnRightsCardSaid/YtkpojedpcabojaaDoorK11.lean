/- Lemmas -/
import Derived.Test.YtkpojedpcabojaaDoorV25
set_option linter.unusedVariables false
set_option linter.unusedSimpArgs false
set_option maxRecDepth 100000
set_option maxHeartbeats 40000000
namespace Go.Ab
open Go.Proofs
theorem Aky{m:Nat}{s:Sto}(hI:SInv m s)(hm:m≤80000)(hC:CInv s)(n:Az)(ifs:List Cm)(th el:List Act)(hsl:s.sp.length≤1000)(hl:ifs.length+th.length+el.length≤1000):
 Fn Tryd.prog F4 [sP s,.v (.str n),.v (.list (ifs.map Cm.toI)),.v (.list (th.map Act.toI)),.v (.list (el.map Act.toI))] (Is (s.runM n ifs th el).sv [sP s,.no,.no,.no,.no]):=by
 cases hf:s.fi n with
 |none=>
  rw[show s.runM n ifs th el=⟨false,[],[],16⟩by unfold Sto.runM;rw[hf];rfl]
  exact Arw s n ifs th el hI.nd hsl hf
 |some i=>
  have hfs:(s.fi n).isSome=true:=by rw[hf];rfl
  cases hr:Cu ifs th el with
  |false=>
   rw[show s.runM n ifs th el=⟨false,[],[],1⟩by unfold Sto.runM;rw[hf,hr];rfl]
   exact Ar7 s n ifs th el hI.nd hsl hfs hl hr
  |true=>
   refine Arv hI hm hC n ifs th el hsl hfs hl hr _ rfl _ rfl _ rfl _ ?_;unfold Sto.runM;rw[hf,hr];simp
def aw6:Sto:=⟨[([116],⟨1,0,2,1,1⟩)],[⟨[1,116,97],[⟨1,1,[49],false⟩]⟩]⟩
theorem Aq6:aw1.writeM [116] [⟨[97],[49],false⟩]=(aw6,1,0):=by
 have h1:aw1.fi [116]=some 0:=by rfl
 have h2:K6 [⟨[97],[49],false⟩] []=some [⟨[97],[49],false⟩]:=by rfl
 have h3:Dc (([⟨[97],[49],false⟩]:List Chg).map Chg.key)=[[97]]:=by simp[Dc]
 unfold Sto.writeM;simp only[h1,h2,h3];rfl
theorem inv6:SInv 2 aw6∧CInv aw6:=by
 have h1:=inv1.write [116] [⟨[97],[49],false⟩];have h2:=CInv.write inv1 Aqs.c [116] [⟨[97],[49],false⟩];rw[Aq6]at h1 h2;exact⟨h1,h2⟩
def awI:List Cm:=[⟨[97],1,0,[49]⟩]
def awT:List Act:=[⟨2,⟨[],[]⟩,[98],[50],0,0⟩,⟨3,⟨[],[]⟩,[],[],0,0⟩]
theorem Ar9:aw6.runM [116] awI awT []=⟨true,[⟨[],false,0⟩,⟨[],false,1⟩],[⟨[98],[50],false⟩,⟨[97],[],true⟩],0⟩:=by
 have hk:=An5 inv6.1 (n:=[116]) (k:=[97]) (i:=0) (by rfl) (by decide)
 have hl:Q1 aw6.l (B7 [116] [97])=⟨1,1,[49],false⟩:=by rfl
 rw[hl]at hk;have hv:Lh [116] (aw6.tal [116]).rev aw6.l=[([97],⟨1,1,[49],false⟩)]:=by rfl
 have hx:aw6.keysX [116] ⟨[],[]⟩=[[97]]:=by
  unfold Sto.keysX Sto.inX;rw[hv];rfl
 have hh:aw6.holdsM [116] awI=true:=by
  unfold awI Sto.holdsM Sto.nowK;dsimp only;rw[hk];rfl
 unfold Sto.runM;rw[if_neg (by simp[show aw6.fi [116]=some 0 from rfl]),if_neg (by decide),hh,if_pos rfl]
 unfold awT;simp[Sto.actGo,Sto.actE,Sto.actO,Sto.actC,hx]
theorem Ase:Fn Tryd.prog Da [sP aw1,.v (.str [116]),.v (.list [(Chg.mk [97] [49] false).toI])] (Is (.tup [.i (ti 1),.i (ti 0)]) [sP aw6,.no,.no]):=by
 have hw:=Air inv1 (by omega) [116] [⟨[97],[49],false⟩] (by decide) (by decide)
 rw[Aq6]at hw;exact hw
theorem Asd:Fn Tryd.prog F4 [sP aw6,.v (.str [116]),.v (.list [.agg [.str [97],ti 1,ti 0,.str [49]]]),.v (.list [.agg [ti 2,.agg [.str [],.str []],.str [98],.str [50],ti 0,ti 0],.agg [ti 3,.agg [.str [],.str []],.str [],.str [],ti 0,ti 0]]),.v (.list [])]
 (Is (.tup [.i (.bool true),.i (.list [.agg [.list [],.bool false,ti 0],.agg [.list [],.bool false,ti 1]]),.i (.list [.agg [.str [98],.str [50],.bool false],.agg [.str [97],.str [],.bool true]]),.i (ti 0)]) [sP aw6,.no,.no,.no,.no]):=by
 have h:=Aky inv6.1 (by omega) inv6.2 [116] awI awT [] (by decide) (by decide)
 rw[Ar9]at h;exact h
theorem B0:Fn Tryd.prog Kb [] (Is (.v (.bool true)) []):=by
 refine Hv ?_ (by simp)
 repeat'((conv=>whnf);((with_reducible refine Exists.intro ?_ ?_);focus (and_intros<;>decide)))
 all_goals(try(conv=>whnf))
 generalize hKK:F7 Tryd.prog _ _=KK;as_aux_lemma=>
  repeat'((conv=>whnf);first|((with_reducible refine Exists.intro ?_ ?_);focus (and_intros<;>first|omega|(intro _ hh;cases hh;done)))|((with_reducible refine CallWp.mk ?_);refine⟨_,Adg,?_⟩;rintro _ _ ⟨rfl,rfl⟩))
  all_goals(try(conv=>whnf))
  rw[←hKK];clear hKK;as_aux_lemma=>
   repeat'((conv=>whnf);((with_reducible refine Exists.intro ?_ ?_);focus (and_intros<;>first|kernel_rfl|(simp;done)|decide)))
   all_goals(try(conv=>whnf))
   generalize hKK:F7 Tryd.prog _ _=KK;as_aux_lemma=>
    repeat'((conv=>whnf);first|((with_reducible refine Exists.intro ?_ ?_);focus (and_intros<;>first|(intro _ hh;cases hh;done)|(simp;done)))|((with_reducible refine CallWp.mk ?_);refine⟨_,Ae1,?_⟩;rintro _ _ ⟨rfl,rfl⟩))
    all_goals(try(conv=>whnf))
    rw[←hKK];clear hKK;as_aux_lemma=>
     repeat'((conv=>whnf);((with_reducible refine Exists.intro ?_ ?_);focus (and_intros<;>first|kernel_rfl|exact Ah (by rfl)|(simp;done)|decide)))
     all_goals(try(conv=>whnf))
     generalize hKK:F7 Tryd.prog _ _=KK;as_aux_lemma=>
      repeat'((conv=>whnf);first|((with_reducible refine Exists.intro ?_ ?_);focus (and_intros<;>first|(intro _ hh;cases hh;done)|(simp;done)))|((with_reducible refine CallWp.mk ?_);refine⟨_,Ase,?_⟩;rintro _ _ ⟨rfl,rfl⟩))
      all_goals(try(conv=>whnf))
      rw[←hKK];clear hKK;as_aux_lemma=>
       repeat'((conv=>whnf);((with_reducible refine Exists.intro ?_ ?_);focus (and_intros<;>first|kernel_rfl|exact Ah (by rfl)|(simp;done)|decide)))
       all_goals(try(conv=>whnf))
       generalize hKK:F7 Tryd.prog _ _=KK;as_aux_lemma=>
        repeat'((conv=>whnf);first|((with_reducible refine Exists.intro ?_ ?_);focus (and_intros<;>first|omega|(intro _ hh;cases hh;done)|(simp;done)))|((with_reducible refine CallWp.mk ?_);refine⟨_,Asd,?_⟩;rintro _ _ ⟨rfl,rfl⟩))
        all_goals(try(conv=>whnf))
        rw[←hKK];clear hKK;as_aux_lemma=>
         repeat'((conv=>whnf);first|((with_reducible refine Ax (by first|((with_reducible refine decide_eq_true ?_);omega)|(with_reducible rfl)) (fun hb=>?_));(try rw[hb]);(try simp only[Aa]at hb))|((with_reducible refine And.intro (fun hb=>?_) (fun hb=>?_))<;>first|(exact absurd hb (by decide))|((try rw[hb]);(try simp only[Aa]at hb)))|((with_reducible refine Exists.intro ?_ ?_);focus (and_intros<;>first|omega|(with_reducible rfl)|kernel_rfl))|(with_reducible intro hfact))
         all_goals(try(conv=>whnf))
         (apply dKq<;>kernel_rfl)

open Go.Proofs
theorem Dm(t:Txn)(hbd:t.ifs.length+t.th.length+t.el.length≤1000000000000000000):Fn Tryd.prog Gt [.v t.toI] (Is (.v (.bool t.great)) [.no]):=by
 refine Gn ?_ (by simp)
 obtain⟨ifs,th,el⟩:=t;unfold Txn.great;dsimp only at hbd ⊢;have hl1:(ifs.map Cm.toI).length=ifs.length:=List.length_map _;have hl2:(th.map Act.toI).length=th.length:=List.length_map _;have hl3:(el.map Act.toI).length=el.length:=List.length_map _;have hs1:IntKind.i64.wrap ((ifs.length:Int)+(th.length:Int))=(ifs.length:Int)+(th.length:Int):=Bf (by omega)
 have hs2:IntKind.i64.wrap ((ifs.length:Int)+(th.length:Int)+(el.length:Int))=((ifs.length+th.length+el.length:Nat):Int):=(Bf (by omega)).trans (by omega)
 by_cases h60:60<ifs.length+th.length+el.length
 ·rw[if_pos h60];have g60:¬decide ((60:Int)<IntKind.i64.wrap (IntKind.i64.wrap ((ifs.length:Int)+(th.length:Int))+(el.length:Int)))=false:=by rw[hs1,hs2];simp;omega
  repeat'((conv=>whnf);first|((with_reducible refine And.intro (fun hb=>?_) (fun hb=>?_))<;>(((try rw[hb]);(try simp only[Aa]at hb))))|((with_reducible refine Exists.intro ?_ ?_);focus (and_intros<;>first|omega|(with_reducible rfl)|kernel_rfl|(simp;done)))|(with_reducible intro hfact)|((try dsimp only);rw[hl1])|(skip;rw[hl2])|(skip;rw[hl3])|(skip;rw[hs1])|(skip;rw[hs2]))
  all_goals(try(conv=>whnf))
  all_goals first
   |(exfalso;rw[hs1,hs2]at hb;omega)
   |(apply dKq<;>kernel_rfl)
 rw[if_neg h60];have g60:¬decide ((60:Int)<IntKind.i64.wrap (IntKind.i64.wrap ((ifs.length:Int)+(th.length:Int))+(el.length:Int)))=true:=by rw[hs1,hs2];simp;omega
 obtain⟨RES,hRES⟩:∃R,(if Ajk ifs=true then true else if A6 th=true then true else A6 el)=R:=⟨_,rfl⟩
 rw[hRES];repeat'((conv=>whnf);first|((with_reducible refine And.intro (fun hb=>?_) (fun hb=>?_))<;>(((try rw[hb]);(try simp only[Aa]at hb))))|((with_reducible refine Exists.intro ?_ ?_);focus (and_intros<;>first|omega|(with_reducible rfl)|kernel_rfl|(simp;done)))|(with_reducible intro hfact)|((try dsimp only);rw[hl1])|(skip;rw[hl2])|(skip;rw[hl3])|(skip;rw[hs1])|(skip;rw[hs2]))
 all_goals(try(conv=>whnf))
 all_goals(try(exfalso;rw[hs1,hs2]at hb;omega))
 refine LoopWq.by (X:=Nat) (fun j=>[(26,.v (ti (j:Int)))]) (fun j=>j≤ifs.length∧(if Ajk (ifs.drop j)=true then true else if A6 th=true then true else A6 el)=RES) (fun j=>ifs.length - j) 0 (by kernel_rfl) ⟨Nat.zero_le _,hRES⟩ ?_
 rintro j ⟨hj,hR⟩
 (try dsimp only at hj hR ⊢)
 have hw:IntKind.i64.wrap ((j:Int)+1)=((j+1:Nat):Int):=(Bf (by omega)).trans (by omega)
 by_cases hjl:j<ifs.length
 ·obtain⟨c,hc⟩:∃x,ifs[j]?=some x:=⟨_,List.getElem?_eq_getElem hjl⟩;have h3:¬decide ((j:Int)<(ifs.length:Int))=false:=by simp;omega
  have hdr:ifs.drop j=c::ifs.drop (j+1):=by rw[List.drop_eq_getElem_cons hjl];rw[List.getElem?_eq_getElem hjl]at hc;cases hc;rfl
  rw[hdr]at hR;unfold Ajk at hR;obtain⟨ck,cw,cr,cv⟩:=c;by_cases hb:(Cm.mk ck cw cr cv).big
  ·rw[if_pos hb]at hR;have hR:true=RES:=hR;subst hR;unfold Cm.big at hb
   (try dsimp only at hb)
   repeat'((conv=>whnf);first|((with_reducible refine Ax (by first|(with_reducible assumption)|(with_reducible exact Bool.of_not_eq_false (by assumption))|(with_reducible rfl)) (fun hb=>?_));(try rw[hb]);(try simp only[Aa]at hb))|((with_reducible refine Aw (by first|(with_reducible exact Bool.of_not_eq_true (by assumption))|(with_reducible rfl)) (fun hb=>?_));(try rw[hb]);(try simp only[Aa]at hb))|((with_reducible refine And.intro (fun hb=>?_) (fun hb=>?_))<;>first|(exfalso;((simp only[An]at hb<;>omega)))|((try rw[hb]);(try simp only[Aa]at hb)))|((with_reducible refine Exists.intro ?_ ?_);focus (and_intros<;>first|omega|(with_reducible rfl)|kernel_rfl|(simp;done)))|(with_reducible intro hfact)|((try dsimp only);(rw[B6 hc])))
   all_goals(try(conv=>whnf))
   all_goals first
    |(exfalso;omega)
    |(apply dKq<;>kernel_rfl)
  ·rw[if_neg hb]at hR;unfold Cm.big at hb
   (try dsimp only at hb)
   repeat'((conv=>whnf);first|((with_reducible refine Ax (by(with_reducible exact Bool.of_not_eq_false (by assumption))) (fun hb=>?_));(try rw[hb]);(try simp only[Aa]at hb))|((with_reducible refine Aw (by first|(with_reducible exact Bool.of_not_eq_true (by assumption))|(with_reducible rfl)) (fun hb=>?_));(try rw[hb]);(try simp only[Aa]at hb))|((with_reducible refine And.intro (fun hb=>?_) (fun hb=>?_))<;>first|(exfalso;((simp only[An]at hb<;>omega)))|((try rw[hb]);(try simp only[Aa]at hb)))|((with_reducible refine Exists.intro ?_ ?_);focus (and_intros<;>first|omega|(with_reducible rfl)|kernel_rfl|(simp;done)))|(with_reducible intro hfact)|((try dsimp only);(rw[B6 hc]))|((try dsimp only);rw[hw]))
   all_goals(try(conv=>whnf))
   refine Round.by (j+1) ?_ ⟨by omega,hR⟩ (by omega)
   try dsimp only
   show norm _ _=upd _ _
   kernel_rfl
 have h3:¬decide ((j:Int)<(ifs.length:Int))=true:=by simp;omega
 rw[List.drop_eq_nil_of_le (by omega)]at hR
 replace hR:(if A6 th=true then true else A6 el)=RES:=hR
 repeat'((conv=>whnf);first|((with_reducible refine Aw (by(with_reducible exact Bool.of_not_eq_true (by assumption))) (fun hb=>?_));(try rw[hb]);(try simp only[Aa]at hb))|((with_reducible refine Exists.intro ?_ ?_);focus (and_intros<;>first|omega|(with_reducible rfl)|kernel_rfl|exact Ah (by rfl)|(simp;done)))|(with_reducible intro hfact))
 all_goals(try(conv=>whnf))
 refine LoopWq.by (X:=Nat) (fun y=>[(47,.v (ti (y:Int)))]) (fun y=>y≤2∧(if y=0 then(if A6 th=true then true else A6 el)else if y=1 then A6 el else false)=RES) (fun y=>2 - y) 0 (by kernel_rfl) ⟨Nat.zero_le _,hR⟩ ?_
 clear hR;rintro y ⟨hy,hR⟩
 (try dsimp only at hy hR ⊢)
 match y,hy,hR with
 |0,_,hR=>
  replace hR:(if A6 th=true then true else A6 el)=RES:=hR
  have hLm:(th.map Act.toI).length=th.length:=List.length_map _;repeat'((conv=>whnf);first|((with_reducible refine And.intro (fun hb=>?_) (fun hb=>?_))<;>first|(exfalso;((simp only[An]at hb<;>omega)))|((try rw[hb]);(try simp only[Aa]at hb)))|((with_reducible refine Exists.intro ?_ ?_);focus (and_intros<;>first|omega|(with_reducible rfl)|kernel_rfl|(simp;done)))|(with_reducible intro hfact)|((try dsimp only);rw[hLm]))
  all_goals(try(conv=>whnf))
  refine LoopWq.by (X:=Nat) (fun q=>[(53,.v (ti (q:Int)))]) (fun q=>q≤th.length∧(if A6 (th.drop q)=true then true else(A6 el))=RES) (fun q=>th.length - q) 0 (by kernel_rfl) ⟨Nat.zero_le _,hR⟩ ?_
  rintro q ⟨hq,hQ⟩
  (try dsimp only at hq hQ ⊢)
  have hw2:IntKind.i64.wrap ((q:Int)+1)=((q+1:Nat):Int):=(Bf (by omega)).trans (by omega)
  by_cases hql:q<th.length
  case neg=>
   have h6:¬decide ((q:Int)<(th.length:Int))=true:=by simp;omega
   rw[List.drop_eq_nil_of_le (by omega)]at hQ
   have hQ:(if(1:Nat)=0 then(if A6 th=true then true else A6 el)else if(1:Nat)=1 then A6 el else false)=RES:=hQ
   repeat'((conv=>whnf);((with_reducible refine Aw (by(with_reducible exact Bool.of_not_eq_true (by assumption))) (fun hb=>?_));(try rw[hb]);(try simp only[Aa]at hb)))
   all_goals(try(conv=>whnf))
   refine Round.by 1 ?_ ⟨by omega,hQ⟩ (by omega)
   try dsimp only
   show norm _ _=upd _ _
   kernel_rfl
  obtain⟨d,hd⟩:∃x,th[q]?=some x:=⟨_,List.getElem?_eq_getElem hql⟩;have h6:¬decide ((q:Int)<(th.length:Int))=false:=by simp;omega
  have hab:A6 (d::th.drop (q+1))=(if d.big then true else A6 (th.drop (q+1))):=rfl
  have hdq:th.drop q=d::th.drop (q+1):=by rw[List.drop_eq_getElem_cons hql];rw[List.getElem?_eq_getElem hql]at hd;cases hd;rfl
  rw[hdq,hab]at hQ;obtain⟨dk,⟨xf,xt⟩,dkey,dv,dr,dm⟩:=d;by_cases hb:(Act.mk dk ⟨xf,xt⟩ dkey dv dr dm).big
  ·rw[if_pos hb]at hQ;have hQ:true=RES:=hQ;subst hQ;unfold Act.big at hb
   (try dsimp only at hb)
   repeat'((conv=>whnf);first|((with_reducible refine Ax (by first|(with_reducible assumption)|(with_reducible exact Bool.of_not_eq_false (by assumption))|(with_reducible rfl)) (fun hb=>?_));(try rw[hb]);(try simp only[Aa]at hb))|((with_reducible refine Aw (by first|(with_reducible exact Bool.of_not_eq_true (by assumption))|(with_reducible rfl)) (fun hb=>?_));(try rw[hb]);(try simp only[Aa]at hb))|((with_reducible refine And.intro (fun hb=>?_) (fun hb=>?_))<;>first|(exfalso;((simp only[An]at hb<;>omega)))|((try rw[hb]);(try simp only[Aa]at hb)))|((with_reducible refine Exists.intro ?_ ?_);focus (and_intros<;>first|omega|(with_reducible rfl)|kernel_rfl|(simp;done)))|(with_reducible intro hfact)|((try dsimp only);(rw[B6 hd])))
   all_goals(try(conv=>whnf))
   all_goals first
    |(exfalso;omega)
    |(apply dKq<;>kernel_rfl)
  ·rw[if_neg hb]at hQ;unfold Act.big at hb
   (try dsimp only at hb)
   repeat'((conv=>whnf);first|((with_reducible refine Ax (by(with_reducible exact Bool.of_not_eq_false (by assumption))) (fun hb=>?_));(try rw[hb]);(try simp only[Aa]at hb))|((with_reducible refine Aw (by first|(with_reducible exact Bool.of_not_eq_true (by assumption))|(with_reducible rfl)) (fun hb=>?_));(try rw[hb]);(try simp only[Aa]at hb))|((with_reducible refine And.intro (fun hb=>?_) (fun hb=>?_))<;>first|(exfalso;((simp only[An]at hb<;>omega)))|((try rw[hb]);(try simp only[Aa]at hb)))|((with_reducible refine Exists.intro ?_ ?_);focus (and_intros<;>first|omega|(with_reducible rfl)|kernel_rfl|(simp;done)))|(with_reducible intro hfact)|((try dsimp only);(rw[B6 hd]))|((try dsimp only);rw[hw2]))
   all_goals(try(conv=>whnf))
   refine Round.by (q+1) ?_ ⟨by omega,hQ⟩ (by omega)
   try dsimp only
   show norm _ _=upd _ _
   kernel_rfl
 |1,_,hR=>
  replace hR:(if A6 el=true then true else false)=RES:=by rw[←hR];cases A6 el<;>rfl
  have hLm:(el.map Act.toI).length=el.length:=List.length_map _;repeat'((conv=>whnf);first|((with_reducible refine And.intro (fun hb=>?_) (fun hb=>?_))<;>first|(exfalso;((simp only[An]at hb<;>omega)))|((try rw[hb]);(try simp only[Aa]at hb)))|((with_reducible refine Exists.intro ?_ ?_);focus (and_intros<;>first|omega|(with_reducible rfl)|kernel_rfl|(simp;done)))|(with_reducible intro hfact)|((try dsimp only);rw[hLm]))
  all_goals(try(conv=>whnf))
  refine LoopWq.by (X:=Nat) (fun q=>[(53,.v (ti (q:Int)))]) (fun q=>q≤el.length∧(if A6 (el.drop q)=true then true else false)=RES) (fun q=>el.length - q) 0 (by kernel_rfl) ⟨Nat.zero_le _,hR⟩ ?_
  rintro q ⟨hq,hQ⟩
  (try dsimp only at hq hQ ⊢)
  have hw2:IntKind.i64.wrap ((q:Int)+1)=((q+1:Nat):Int):=(Bf (by omega)).trans (by omega)
  by_cases hql:q<el.length
  case neg=>
   have h6:¬decide ((q:Int)<(el.length:Int))=true:=by simp;omega
   rw[List.drop_eq_nil_of_le (by omega)]at hQ
   have hQ:(if(2:Nat)=0 then(if A6 th=true then true else A6 el)else if(2:Nat)=1 then A6 el else false)=RES:=hQ
   repeat'((conv=>whnf);((with_reducible refine Aw (by(with_reducible exact Bool.of_not_eq_true (by assumption))) (fun hb=>?_));(try rw[hb]);(try simp only[Aa]at hb)))
   all_goals(try(conv=>whnf))
   refine Round.by 2 ?_ ⟨by omega,hQ⟩ (by omega)
   try dsimp only
   show norm _ _=upd _ _
   kernel_rfl
  obtain⟨d,hd⟩:∃x,el[q]?=some x:=⟨_,List.getElem?_eq_getElem hql⟩;have h6:¬decide ((q:Int)<(el.length:Int))=false:=by simp;omega
  have hab:A6 (d::el.drop (q+1))=(if d.big then true else A6 (el.drop (q+1))):=rfl
  have hdq:el.drop q=d::el.drop (q+1):=by rw[List.drop_eq_getElem_cons hql];rw[List.getElem?_eq_getElem hql]at hd;cases hd;rfl
  rw[hdq,hab]at hQ;obtain⟨dk,⟨xf,xt⟩,dkey,dv,dr,dm⟩:=d;by_cases hb:(Act.mk dk ⟨xf,xt⟩ dkey dv dr dm).big
  ·rw[if_pos hb]at hQ;have hQ:true=RES:=hQ;subst hQ;unfold Act.big at hb
   (try dsimp only at hb)
   repeat'((conv=>whnf);first|((with_reducible refine Ax (by first|(with_reducible assumption)|(with_reducible exact Bool.of_not_eq_false (by assumption))|(with_reducible rfl)) (fun hb=>?_));(try rw[hb]);(try simp only[Aa]at hb))|((with_reducible refine Aw (by first|(with_reducible exact Bool.of_not_eq_true (by assumption))|(with_reducible rfl)) (fun hb=>?_));(try rw[hb]);(try simp only[Aa]at hb))|((with_reducible refine And.intro (fun hb=>?_) (fun hb=>?_))<;>first|(exfalso;((simp only[An]at hb<;>omega)))|((try rw[hb]);(try simp only[Aa]at hb)))|((with_reducible refine Exists.intro ?_ ?_);focus (and_intros<;>first|omega|(with_reducible rfl)|kernel_rfl|(simp;done)))|(with_reducible intro hfact)|((try dsimp only);(rw[B6 hd])))
   all_goals(try(conv=>whnf))
   all_goals first
    |(exfalso;omega)
    |(apply dKq<;>kernel_rfl)
  ·rw[if_neg hb]at hQ;unfold Act.big at hb
   (try dsimp only at hb)
   repeat'((conv=>whnf);first|((with_reducible refine Ax (by(with_reducible exact Bool.of_not_eq_false (by assumption))) (fun hb=>?_));(try rw[hb]);(try simp only[Aa]at hb))|((with_reducible refine Aw (by first|(with_reducible exact Bool.of_not_eq_true (by assumption))|(with_reducible rfl)) (fun hb=>?_));(try rw[hb]);(try simp only[Aa]at hb))|((with_reducible refine And.intro (fun hb=>?_) (fun hb=>?_))<;>first|(exfalso;((simp only[An]at hb<;>omega)))|((try rw[hb]);(try simp only[Aa]at hb)))|((with_reducible refine Exists.intro ?_ ?_);focus (and_intros<;>first|omega|(with_reducible rfl)|kernel_rfl|(simp;done)))|(with_reducible intro hfact)|((try dsimp only);(rw[B6 hd]))|((try dsimp only);rw[hw2]))
   all_goals(try(conv=>whnf))
   refine Round.by (q+1) ?_ ⟨by omega,hQ⟩ (by omega)
   try dsimp only
   show norm _ _=upd _ _
   kernel_rfl
 |2,_,hR=>
  have hR:false=RES:=hR;subst hR;repeat'((conv=>whnf);((with_reducible refine And.intro (fun hb=>?_) (fun hb=>?_))<;>first|(exfalso;((simp only[An]at hb<;>omega)))|((try rw[hb]);(try simp only[Aa]at hb))))
  all_goals(try(conv=>whnf))
  (apply dKq<;>kernel_rfl)
 |y+3,hy,_=>omega

open Go.Proofs
theorem Amh(k:Az):Fn Tryd.prog Ajg [.v (.str k)] (Is (.v (.bool (decide (1≤k.length∧k.length≤64)))) [.no]):=by
 refine Ait ?_ (by simp)
 repeat'((conv=>whnf);first|((with_reducible refine Ax (by(with_reducible rfl)) (fun hb=>?_));(try rw[hb]);(try simp only[Aa]at hb))|((with_reducible refine Aw (by(with_reducible rfl)) (fun hb=>?_));(try rw[hb]);(try simp only[Aa]at hb))|((with_reducible refine And.intro (fun hb=>?_) (fun hb=>?_))<;>(((try rw[hb]);(try simp only[Aa]at hb))))|((with_reducible refine Exists.intro ?_ ?_);focus (and_intros<;>(with_reducible rfl)))|(with_reducible intro hfact))
 all_goals(try(conv=>whnf))
 all_goals(refine Done.mk ⟨SV.bool_congr ?_,by kernel_rfl⟩ (by kernel_rfl))
 all_goals(simp only[decide_eq_decide,decide_eq_true_eq,decide_eq_false_iff_not,Bool.false_eq]at*;omega)
theorem Ami(k:Az)(h:k.length≤100000):Fn Tryd.prog Ajh [.v (.str k)] (Is (.v (.agg [.str k,.str (k++[0])])) [.no]):=by
 refine Aiu ?_ (by simp)
 have h1:k.length+[(0:UInt8)].length≤maxLen:=by simp[maxLen];omega
 repeat'((conv=>whnf);((with_reducible refine Exists.intro ?_ ?_);focus (and_intros<;>first|omega|kernel_rfl)))
 all_goals(try(conv=>whnf))
 exact Done.mk ⟨rfl,by kernel_rfl⟩ (by kernel_rfl)
theorem Amg(d:Act):Fn Tryd.prog Ai7 [.v d.toI] (Is (.v (.bool (decide d.ok))) [.no]):=by
 refine Ais ?_ (by simp)
 have hk:=Amh d.key;have hs:=Apa d.x;obtain⟨dk,⟨xf,xt⟩,dkey,dv,dr,dm⟩:=d;unfold Act.ok;dsimp only at hk hs ⊢;by_cases k1:dk=1
 ·subst k1;simp only[if_true];by_cases c1:SpR ⟨xf,xt⟩
  ·rw[decide_eq_true c1]at hs;repeat'((conv=>whnf);first|((with_reducible refine Ax (by(with_reducible rfl)) (fun hb=>?_));(try rw[hb]);(try simp only[Aa]at hb))|((with_reducible refine Aw (by(with_reducible rfl)) (fun hb=>?_));(try rw[hb]);(try simp only[Aa]at hb))|((with_reducible refine And.intro (fun hb=>?_) (fun hb=>?_))<;>(((try rw[hb]);(try simp only[Aa]at hb);(try(with_reducible exact absurd trivial hb)))))|((with_reducible refine Exists.intro ?_ ?_);focus (and_intros<;>first|omega|kernel_rfl|(intro _ hh;cases hh;done)|(simp;done)|decide))|((with_reducible refine CallWp.mk ?_);refine⟨_,hs,?_⟩;rintro _ _ ⟨rfl,rfl⟩))
   all_goals(try(conv=>whnf))
   all_goals first
    |(exact absurd trivial (by assumption))
    |(refine Done.mk ⟨SV.bool_congr ?_,by kernel_rfl⟩ (by kernel_rfl)
      simp only[c1,true_and,decide_eq_decide,decide_eq_true_eq,decide_eq_false_iff_not,Bool.false_eq,Bool.true_eq,Bool.decide_and]at*;first
       |omega
       |(simp[*];done)
       |(simp at*;omega)
       |(rw[eq_comm,decide_eq_false_iff_not];omega))
  ·rw[decide_eq_false c1]at hs;repeat'((conv=>whnf);first|((with_reducible refine Aw (by(with_reducible rfl)) (fun hb=>?_));(try rw[hb]);(try simp only[Aa]at hb))|((with_reducible refine And.intro (fun hb=>?_) (fun hb=>?_))<;>(((try rw[hb]);(try simp only[Aa]at hb);(try(with_reducible exact absurd trivial hb)))))|((with_reducible refine Exists.intro ?_ ?_);focus (and_intros<;>first|omega|kernel_rfl|(intro _ hh;cases hh;done)|(simp;done)|decide))|((with_reducible refine CallWp.mk ?_);refine⟨_,hs,?_⟩;rintro _ _ ⟨rfl,rfl⟩))
   all_goals(try(conv=>whnf))
   all_goals first
    |(exact absurd trivial (by assumption))
    |(refine Done.mk ⟨SV.bool_congr ?_,by kernel_rfl⟩ (by kernel_rfl)
      simp[c1])
 have g1:¬decide (dk=1)=true:=by simpa using k1
 by_cases k2:dk=2
 ·subst k2;simp only[show ¬(2:Int)=1 by decide,if_false,if_true]
  by_cases c1:1≤dkey.length∧dkey.length≤64
  ·rw[decide_eq_true c1]at hk;repeat'((conv=>whnf);first|((with_reducible refine Ax (by(with_reducible rfl)) (fun hb=>?_));(try rw[hb]);(try simp only[Aa]at hb))|((with_reducible refine Aw (by(with_reducible exact Bool.of_not_eq_true (by assumption))) (fun hb=>?_));(try rw[hb]);(try simp only[Aa]at hb))|((with_reducible refine And.intro (fun hb=>?_) (fun hb=>?_))<;>(((try rw[hb]);(try simp only[Aa]at hb);(try(with_reducible exact absurd trivial hb)))))|((with_reducible refine Exists.intro ?_ ?_);focus (and_intros<;>first|omega|(with_reducible rfl)|kernel_rfl|(intro _ hh;cases hh;done)|(simp;done)|decide))|(with_reducible intro hfact)|((with_reducible refine CallWp.mk ?_);refine⟨_,hk,?_⟩;rintro _ _ ⟨rfl,rfl⟩))
   all_goals(try(conv=>whnf))
   all_goals first
    |(exact absurd trivial (by assumption))
    |(refine Done.mk ⟨SV.bool_congr ?_,by kernel_rfl⟩ (by kernel_rfl)
      simp[c1]<;>omega)
  ·rw[decide_eq_false c1]at hk;repeat'((conv=>whnf);first|((with_reducible refine Aw (by first|(with_reducible exact Bool.of_not_eq_true (by assumption))|(with_reducible rfl)) (fun hb=>?_));(try rw[hb]);(try simp only[Aa]at hb))|((with_reducible refine And.intro (fun hb=>?_) (fun hb=>?_))<;>(((try rw[hb]);(try simp only[Aa]at hb);(try(with_reducible exact absurd trivial hb)))))|((with_reducible refine Exists.intro ?_ ?_);focus (and_intros<;>first|omega|kernel_rfl|(intro _ hh;cases hh;done)|(simp;done)|decide))|((with_reducible refine CallWp.mk ?_);refine⟨_,hk,?_⟩;rintro _ _ ⟨rfl,rfl⟩))
   all_goals(try(conv=>whnf))
   all_goals first
    |(exact absurd trivial (by assumption))
    |(refine Done.mk ⟨SV.bool_congr ?_,by kernel_rfl⟩ (by kernel_rfl)
      simp[c1])
 have g2:¬decide (dk=2)=true:=by simpa using k2
 simp only[k1,k2,if_false];by_cases k3:dk=3
 ·subst k3;repeat'((conv=>whnf);first|((with_reducible refine Ax (by(with_reducible rfl)) (fun hb=>?_));(try rw[hb]);(try simp only[Aa]at hb))|((with_reducible refine Aw (by(with_reducible exact Bool.of_not_eq_true (by assumption))) (fun hb=>?_));(try rw[hb]);(try simp only[Aa]at hb))|((with_reducible refine And.intro (fun hb=>?_) (fun hb=>?_))<;>(((try rw[hb]);(try simp only[Aa]at hb);(try(with_reducible exact absurd trivial hb)))))|((with_reducible refine Exists.intro ?_ ?_);focus (and_intros<;>first|omega|kernel_rfl|(intro _ hh;cases hh;done)|(simp;done)|decide))|((with_reducible refine CallWp.mk ?_);refine⟨_,hs,?_⟩;rintro _ _ ⟨rfl,rfl⟩))
  all_goals(try(conv=>whnf))
  all_goals first
   |(exact absurd trivial (by assumption))
   |(refine Done.mk ⟨SV.bool_congr ?_,by kernel_rfl⟩ (by kernel_rfl)
     simp)
 ·have g3:¬decide (dk=3)=true:=by simpa using k3
  repeat'((conv=>whnf);first|((with_reducible refine Aw (by first|(with_reducible exact Bool.of_not_eq_true (by assumption))|(with_reducible rfl)) (fun hb=>?_));(try rw[hb]);(try simp only[Aa]at hb))|((with_reducible refine Exists.intro ?_ ?_);focus (and_intros<;>first|omega|kernel_rfl|(simp;done))))
  all_goals(try(conv=>whnf))
  all_goals(refine Done.mk ⟨SV.bool_congr ?_,by kernel_rfl⟩ (by kernel_rfl))
  all_goals simp[k3]
end Go.Ab
