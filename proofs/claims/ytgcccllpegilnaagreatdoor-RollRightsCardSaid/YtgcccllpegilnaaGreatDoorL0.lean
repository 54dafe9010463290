/- Lemmas -/
import Derived.Test.YtgcccllpegilnaaGreatDoorN22
set_option linter.unusedVariables false
set_option linter.unusedSimpArgs false
set_option maxRecDepth 100000
set_option maxHeartbeats 40000000
namespace Go.Ab
open Go.Proofs
def Nk(r:A8)(u:Bc)(n:Ai):Prop:=(F3 r.Am n).2=true∧(F3 r.Am n).1.Du=u.Du
structure R3(r:A8)(u:Bc):Prop where
 Bp:u.Bp.length≤64
 hash:u.hash.length=32
 many:u.A2.length≤4
 Bes:J3 u.A2
 root:u.name=[114,111,111,116]→u.Du=[]∧u.A2=[]
 Du:u.name≠[114,111,111,116]→(Fc r.Be u.Du).2=true
 rol:u.name≠[114,111,111,116]→∀n∈u.A2,Nk r u n
structure Axj(r:A8)(x:Bh):Prop where
 Du:(Fc r.Be x.Du).2=true
 grs:x.A4.length≤8∧∀i,Lt x.A4 i
structure A8.Vv(r:A8):Prop where
 num:1≤r.rev∧r.rev≤1099511627776∧r.Be.length≤8∧r.Ag.length≤16∧r.Am.length≤16
 rT:J3 (r.Be.map B7.name)
 rU:J3 (r.Ag.map Bc.name)
 rX:J3 (r.Am.map Bh.name)
 Be:∀t∈r.Be,Dq t.mb=true∧Dq t.ks=true
 Am:∀x∈r.Am,Axj r x
 Ag:∀u∈r.Ag,R3 r u
 root:(Je r.Ag [114,111,111,116]).2=true
theorem Aft(r:A8)(hs:r.Small)(b:Bool)(hB:b=true↔r.Vv):Fn Tryz.prog Axb [.v r.Ae] (Is (.v (.bool b)) [.no]):=by
 refine Av8 ?_ (by simp)
 have bad:¬r.Vv→b=false:=fun h=>by
  cases b with
  |false=>rfl
  |true=>exact absurd (hB.1 rfl) h
 obtain⟨b1,b2,b3,b4,b5⟩:=hs;have hs:r.Small:=⟨b1,b2,b3,b4,b5⟩;by_cases h1:1≤r.rev∧r.rev≤1099511627776∧r.Be.length≤8∧r.Ag.length≤16∧r.Am.length≤16
 case neg=>
  obtain rfl:=bad fun h=>h1 h.num
  repeat'((conv=>whnf);first|(apply aI<;>intro hb<;>first|exact absurd hb (by decide)|(exfalso;simp only[Az]at hb<;>omega)|((try rw[hb]);(try simp only[Ad]at hb)))|(refine eI ?_ ?_;focus (and_intros<;>first|omega|exact rfl|(simp;done)))|(intro Aa))
  all_goals(try(conv=>whnf))
  all_goals first|(exfalso;simp at*;omega)|(apply dK<;>kernel_rfl)
 obtain⟨n1,n2,n3,n4,n5⟩:=h1;repeat'((conv=>whnf);first|(apply aI<;>intro hb<;>first|exact absurd hb (by decide)|(exfalso;simp only[Az]at hb<;>omega)|((try rw[hb]);(try simp only[Ad]at hb)))|(refine eI ?_ ?_;focus (and_intros<;>first|omega|exact rfl|(simp;done)|decide))|(intro Aa))
 all_goals(try(conv=>whnf))
 have nT:=Awj r.Be (by omega)
 have nU:=Awk r.Ag (by omega)
 have nX:=Awi r.Am (by omega)
 have lT:(r.Be.map B7.name).length≤1000000:=by rw[List.length_map];omega
 have lU:(r.Ag.map Bc.name).length≤1000000:=by rw[List.length_map];omega
 have lX:(r.Am.map Bh.name).length≤1000000:=by rw[List.length_map];omega
 by_cases hT:J3 (r.Be.map B7.name)
 case neg=>
  have rT:=Kj _ lT false (by simp[hT])
  obtain rfl:=bad fun h=>hT h.rT
  repeat'((conv=>whnf);first|(apply aI<;>intro hb<;>first|exact absurd hb (by decide)|((try rw[hb]);(try simp only[Ad]at hb)))|(refine eI ?_ ?_;focus (and_intros<;>first|(intro _ hh;cases hh;done)|(simp;done)|decide))|(refine Ac.mk ⟨_,nT,?_⟩;rintro _ _ ⟨rfl,rfl⟩)|(refine Ac.mk ⟨_,rT,?_⟩;rintro _ _ ⟨rfl,rfl⟩))
  all_goals(try(conv=>whnf))
  all_goals first|contradiction|(apply dK<;>kernel_rfl)
 have rT:=Kj _ lT true (by simp[hT])
 by_cases hU:J3 (r.Ag.map Bc.name)
 case neg=>
  have rU:=Kj _ lU false (by simp[hU])
  obtain rfl:=bad fun h=>hU h.rU
  repeat'((conv=>whnf);first|(apply aI<;>intro hb<;>first|exact absurd hb (by decide)|((try rw[hb]);(try simp only[Ad]at hb)))|(refine eI ?_ ?_;focus (and_intros<;>first|omega|exact rfl|(intro _ hh;cases hh;done)|(simp;done)|decide))|(refine Ac.mk ⟨_,nT,?_⟩;rintro _ _ ⟨rfl,rfl⟩)|(refine Ac.mk ⟨_,rT,?_⟩;rintro _ _ ⟨rfl,rfl⟩)|(refine Ac.mk ⟨_,nU,?_⟩;rintro _ _ ⟨rfl,rfl⟩)|(refine Ac.mk ⟨_,rU,?_⟩;rintro _ _ ⟨rfl,rfl⟩))
  all_goals(try(conv=>whnf))
  all_goals first|contradiction|(apply dK<;>kernel_rfl)
 have rU:=Kj _ lU true (by simp[hU])
 by_cases hX:J3 (r.Am.map Bh.name)
 case neg=>
  have rX:=Kj _ lX false (by simp[hX])
  obtain rfl:=bad fun h=>hX h.rX
  repeat'((conv=>whnf);first|(apply aI<;>intro hb<;>first|exact absurd hb (by decide)|((try rw[hb]);(try simp only[Ad]at hb)))|(refine eI ?_ ?_;focus (and_intros<;>first|omega|exact rfl|(intro _ hh;cases hh;done)|(simp;done)|decide))|(refine Ac.mk ⟨_,nT,?_⟩;rintro _ _ ⟨rfl,rfl⟩)|(refine Ac.mk ⟨_,rT,?_⟩;rintro _ _ ⟨rfl,rfl⟩)|(refine Ac.mk ⟨_,nU,?_⟩;rintro _ _ ⟨rfl,rfl⟩)|(refine Ac.mk ⟨_,rU,?_⟩;rintro _ _ ⟨rfl,rfl⟩)|(refine Ac.mk ⟨_,nX,?_⟩;rintro _ _ ⟨rfl,rfl⟩)|(refine Ac.mk ⟨_,rX,?_⟩;rintro _ _ ⟨rfl,rfl⟩))
  all_goals(try(conv=>whnf))
  all_goals first|contradiction|(apply dK<;>kernel_rfl)
 have rX:=Kj _ lX true (by simp[hX])
 repeat'((conv=>whnf);first|(apply aI<;>intro hb<;>first|exact absurd hb (by decide)|((try rw[hb]);(try simp only[Ad]at hb)))|(refine eI ?_ ?_;focus (and_intros<;>first|omega|exact rfl|(intro _ hh;cases hh;done)|(simp;done)|decide))|(intro Aa)|(refine Ac.mk ⟨_,nT,?_⟩;rintro _ _ ⟨rfl,rfl⟩)|(refine Ac.mk ⟨_,rT,?_⟩;rintro _ _ ⟨rfl,rfl⟩)|(refine Ac.mk ⟨_,nU,?_⟩;rintro _ _ ⟨rfl,rfl⟩)|(refine Ac.mk ⟨_,rU,?_⟩;rintro _ _ ⟨rfl,rfl⟩)|(refine Ac.mk ⟨_,nX,?_⟩;rintro _ _ ⟨rfl,rfl⟩)|(refine Ac.mk ⟨_,rX,?_⟩;rintro _ _ ⟨rfl,rfl⟩))
 all_goals(try(conv=>whnf))
 clear nT nU nX rT rU rX lT lU lX;refine Bq.by (X:=Nat) (fun k=>[(67,.v (.int .i64 k))]) (fun k=>k≤r.Be.length∧∀i<k,∀t,r.Be[i]?=some t→Dq t.mb=true∧Dq t.ks=true) (fun k=>r.Be.length - k)
  0 (by kernel_rfl) ⟨Nat.zero_le _,by intro i hi;omega⟩ ?_
 rintro k ⟨hk,hA⟩;by_cases Ce:k<r.Be.length
 ·obtain⟨e,he⟩:∃e,r.Be[k]?=some e:=⟨_,List.getElem?_eq_getElem Ce⟩;have Bb:¬decide ((k:Int)<((r.Be.map B7.Ae).length:Int))=false:=by simp[Ce]
  have i1:=Xz e.mb;have i2:=Xz e.ks;have V2:=List.mem_of_getElem? he;by_cases h1:Dq e.mb=true
  case neg=>
   obtain rfl:=bad fun h=>h1 (h.Be e V2).1
   rw[Bool.not_eq_true]at h1;rw[h1]at i1;generalize Dq e.ks=z at i2;repeat'((conv=>whnf);first|(apply aI<;>intro hb<;>first|exact absurd hb (by first|assumption|decide)|((try rw[hb]);(try simp only[Ad]at hb)))|(refine eI ?_ ?_;focus (and_intros<;>first|omega|exact rfl|(intro _ hh;cases hh;done)|(simp;done)|decide))|((try dsimp only);first|rw[Av he]|rw[An he]|rw[Ap he])|(refine Ac.mk ⟨_,i1,?_⟩;rintro _ _ ⟨rfl,rfl⟩))
   all_goals(try(conv=>whnf))
   all_goals first|contradiction|(apply dK<;>kernel_rfl)
  rw[h1]at i1;by_cases h2:Dq e.ks=true
  case neg=>
   obtain rfl:=bad fun h=>h2 (h.Be e V2).2
   rw[Bool.not_eq_true]at h2;rw[h2]at i2;repeat'((conv=>whnf);first|(apply aI<;>intro hb<;>first|exact absurd hb (by first|assumption|decide)|((try rw[hb]);(try simp only[Ad]at hb)))|(refine eI ?_ ?_;focus (and_intros<;>first|omega|exact rfl|(intro _ hh;cases hh;done)|(simp;done)|decide))|((try dsimp only);first|rw[Av he]|rw[An he]|rw[Ap he])|(refine Ac.mk ⟨_,i1,?_⟩;rintro _ _ ⟨rfl,rfl⟩)|(refine Ac.mk ⟨_,i2,?_⟩;rintro _ _ ⟨rfl,rfl⟩))
   all_goals(try(conv=>whnf))
   all_goals first|contradiction|(apply dK<;>kernel_rfl)
  rw[h2]at i2;have hq:Dq e.mb=true∧Dq e.ks=true:=⟨h1,h2⟩;repeat'((conv=>whnf);first|(apply aI<;>intro hb<;>first|exact absurd hb (by first|assumption|decide)|((try rw[hb]);(try simp only[Ad]at hb)))|(refine eI ?_ ?_;focus (and_intros<;>first|omega|exact rfl|(intro _ hh;cases hh;done)|(simp;done)|decide))|((try dsimp only);first|rw[Av he]|rw[An he]|rw[Ap he])|(refine Ac.mk ⟨_,i1,?_⟩;rintro _ _ ⟨rfl,rfl⟩)|(refine Ac.mk ⟨_,i2,?_⟩;rintro _ _ ⟨rfl,rfl⟩))
  all_goals(try(conv=>whnf))
  all_goals first|contradiction|skip
  refine Round.by (k+1) ?_ ⟨Ce,fun i hi t ht=>?_⟩ (by omega)
  ·rw[Ak (n:=r.Be.length) Ce (by simp only[maxLen];omega)]
   show norm _ _=Bt _ _
   kernel_rfl
  ·rcases Nat.lt_succ_iff_lt_or_eq.1 hi with h'|rfl
   ·exact hA i h' t ht
   ·rw[he]at ht;cases ht;exact hq
 have Bb:¬decide ((k:Int)<((r.Be.map B7.Ae).length:Int))=true:=by simp;omega
 have Aww:∀t∈r.Be,Dq t.mb=true∧Dq t.ks=true:=fun t ht=>by
  obtain⟨i,hi⟩:=List.getElem?_of_mem ht;exact hA i (by have:=(List.getElem?_eq_some_iff.1 hi).1;omega) t hi
 obtain rfl:k=r.Be.length:=by omega
 clear hA hk Ce;repeat'((conv=>whnf);first|(apply aI<;>intro hb<;>first|exact absurd hb (by assumption)|((try rw[hb]);(try simp only[Ad]at hb)))|(refine eI ?_ ?_;focus (and_intros<;>first|omega|exact rfl|(simp;done)))|(intro Aa))
 all_goals(try(conv=>whnf))
 clear Bb;refine Bq.by (X:=Nat) (fun k=>[(85,.v (.int .i64 k))]) (fun k=>k≤r.Am.length∧∀i<k,∀x,r.Am[i]?=some x→Axj r x) (fun k=>r.Am.length - k)
  0 (by kernel_rfl) ⟨Nat.zero_le _,by intro i hi;omega⟩ ?_
 rintro k ⟨hk,hA⟩;by_cases Ce:k<r.Am.length
 ·obtain⟨e,he⟩:∃e,r.Am[k]?=some e:=⟨_,List.getElem?_eq_getElem Ce⟩;have Bb:¬decide ((k:Int)<((r.Am.map Bh.Ae).length:Int))=false:=by simp[Ce]
  have i1:=Nv r hs e.Du;have hgl:=b5 e (List.mem_of_getElem? he);cases h1:(Fc r.Be e.Du).2 with
  |false=>
   rw[h1]at i1;obtain rfl:=bad fun h=>by have:=(h.Am e (List.mem_of_getElem? he)).Du;rw[h1]at this;cases this
   repeat'((conv=>whnf);first|(apply aI<;>intro hb<;>first|exact absurd hb (by first|assumption|decide)|((try rw[hb]);(try simp only[Ad]at hb)))|(refine eI ?_ ?_;focus (and_intros<;>first|omega|exact rfl|(intro _ hh;cases hh;done)|(simp;done)|decide))|((try dsimp only);first|rw[Av he]|rw[An he]|rw[Ap he])|(refine Ac.mk ⟨_,i1,?_⟩;rintro _ _ ⟨rfl,rfl⟩))
   all_goals(try(conv=>whnf))
   all_goals first|contradiction|(apply dK<;>kernel_rfl)
  |true=>
  rw[h1]at i1;by_cases hq:e.A4.length≤8∧∀i,Lt e.A4 i
  case neg=>
   have i2:=Zz e.A4 (by omega) false (by simp[-not_and,hq])
   obtain rfl:=bad fun h=>hq (h.Am e (List.mem_of_getElem? he)).grs
   repeat'((conv=>whnf);first|(apply aI<;>intro hb<;>first|exact absurd hb (by first|assumption|decide)|((try rw[hb]);(try simp only[Ad]at hb)))|(refine eI ?_ ?_;focus (and_intros<;>first|omega|exact rfl|(intro _ hh;cases hh;done)|(simp;done)|decide))|((try dsimp only);first|rw[Av he]|rw[An he]|rw[Ap he])|(refine Ac.mk ⟨_,i1,?_⟩;rintro _ _ ⟨rfl,rfl⟩)|(refine Ac.mk ⟨_,i2,?_⟩;rintro _ _ ⟨rfl,rfl⟩))
   all_goals(try(conv=>whnf))
   all_goals first|contradiction|(apply dK<;>kernel_rfl)
  have i2:=Zz e.A4 (by omega) true (by simp[-not_and,hq])
  repeat'((conv=>whnf);first|(apply aI<;>intro hb<;>first|exact absurd hb (by first|assumption|decide)|((try rw[hb]);(try simp only[Ad]at hb)))|(refine eI ?_ ?_;focus (and_intros<;>first|omega|exact rfl|(intro _ hh;cases hh;done)|(simp;done)|decide))|((try dsimp only);first|rw[Av he]|rw[An he]|rw[Ap he])|(refine Ac.mk ⟨_,i1,?_⟩;rintro _ _ ⟨rfl,rfl⟩)|(refine Ac.mk ⟨_,i2,?_⟩;rintro _ _ ⟨rfl,rfl⟩))
  all_goals(try(conv=>whnf))
  all_goals first|contradiction|skip
  refine Round.by (k+1) ?_ ⟨Ce,fun i hi t ht=>?_⟩ (by omega)
  ·rw[Ak (n:=r.Am.length) Ce (by simp only[maxLen];omega)]
   show norm _ _=Bt _ _
   kernel_rfl
  ·rcases Nat.lt_succ_iff_lt_or_eq.1 hi with h'|rfl
   ·exact hA i h' t ht
   ·rw[he]at ht;cases ht;exact⟨h1,hq⟩
 have Bb:¬decide ((k:Int)<((r.Am.map Bh.Ae).length:Int))=true:=by simp;omega
 have Awu:∀x∈r.Am,Axj r x:=fun t ht=>by
  obtain⟨i,hi⟩:=List.getElem?_of_mem ht;exact hA i (by have:=(List.getElem?_eq_some_iff.1 hi).1;omega) t hi
 obtain rfl:k=r.Am.length:=by omega
 clear hA hk Ce;repeat'((conv=>whnf);first|(apply aI<;>intro hb<;>first|exact absurd hb (by assumption)|((try rw[hb]);(try simp only[Ad]at hb)))|(refine eI ?_ ?_;focus (and_intros<;>first|omega|exact rfl|(simp;done)))|(intro Aa))
 all_goals(try(conv=>whnf))
 clear Bb;refine Bq.by (X:=Nat) (fun k=>[(108,.v (.int .i64 k))]) (fun k=>k≤r.Ag.length∧∀i<k,∀u,r.Ag[i]?=some u→R3 r u) (fun k=>r.Ag.length - k)
  0 (by kernel_rfl) ⟨Nat.zero_le _,by intro i hi;omega⟩ ?_
 rintro k ⟨hk,hA⟩;by_cases Ce:k<r.Ag.length
 case neg=>
  have Bb:¬decide ((k:Int)<((r.Ag.map Bc.Ae).length:Int))=true:=by simp;omega
  have A62:∀x∈r.Ag,R3 r x:=fun t ht=>by
   obtain⟨i,hi⟩:=List.getElem?_of_mem ht;exact hA i (by have:=(List.getElem?_eq_some_iff.1 hi).1;omega) t hi
  have i1:=Aih r hs [114,111,111,116];have Kd:b=(Je r.Ag [114,111,111,116]).2:=by
   cases h1:(Je r.Ag [114,111,111,116]).2 with
   |false=>exact bad fun h=>by have:=h.root;rw[h1]at this;cases this
   |true=>exact hB.2 ⟨⟨n1,n2,n3,n4,n5⟩,hT,hU,hX,Aww,Awu,A62,h1⟩
  rw[Kd];generalize Je r.Ag [114,111,111,116]=q at i1;obtain⟨q1,q2⟩:=q;repeat'((conv=>whnf);first|(apply aI<;>intro hb<;>first|exact absurd hb (by assumption)|((try rw[hb]);(try simp only[Ad]at hb)))|(refine eI ?_ ?_;focus (and_intros<;>first|omega|exact rfl|(intro _ hh;cases hh;done)|(simp;done)|decide))|(refine Ac.mk ⟨_,i1,?_⟩;rintro _ _ ⟨rfl,rfl⟩))
  all_goals(try(conv=>whnf))
  all_goals first|contradiction|(apply dK<;>kernel_rfl)
 obtain⟨e,he⟩:∃e,r.Ag[k]?=some e:=⟨_,List.getElem?_eq_getElem Ce⟩;have hm:=List.mem_of_getElem? he;have Bb:¬decide ((k:Int)<((r.Ag.map Bc.Ae).length:Int))=false:=by simp[Ce]
 have hrl:=b4 e hm;have i1:=Ja e.Bp;by_cases hw:e.Bp.length≤64
 case neg=>
  obtain rfl:=bad fun h=>hw (h.Ag e hm).Bp
  rw[decide_eq_false hw]at i1;repeat'((conv=>whnf);first|(apply aI<;>intro hb<;>first|exact absurd hb (by first|assumption|decide)|((try rw[hb]);(try simp only[Ad]at hb)))|(refine eI ?_ ?_;focus (and_intros<;>first|omega|exact rfl|(intro _ hh;cases hh;done)|(simp;done)|decide))|((try dsimp only);first|rw[Av he]|rw[An he]|rw[Ap he])|(refine Ac.mk ⟨_,i1,?_⟩;rintro _ _ ⟨rfl,rfl⟩))
  all_goals(try(conv=>whnf))
  all_goals first|contradiction|(apply dK<;>kernel_rfl)
 rw[decide_eq_true hw]at i1;by_cases hh:e.hash.length=32∧e.A2.length≤4
 case neg=>
  obtain rfl:=bad fun h=>hh ⟨(h.Ag e hm).hash,(h.Ag e hm).many⟩
  repeat'((conv=>whnf);first|(apply aI<;>intro hb<;>first|exact absurd hb (by first|assumption|decide)|(exfalso;simp only[Az]at hb<;>omega)|((try rw[hb]);(try simp only[Ad]at hb)))|(refine eI ?_ ?_;focus (and_intros<;>first|omega|exact rfl|(intro _ hh;cases hh;done)|(simp;done)|decide))|(intro Aa)|((try dsimp only);first|rw[Av he]|rw[An he]|rw[Ap he])|(refine Ac.mk ⟨_,i1,?_⟩;rintro _ _ ⟨rfl,rfl⟩))
  all_goals(try(conv=>whnf))
  all_goals first|contradiction|(exfalso;omega)|skip
  all_goals(apply dK<;>kernel_rfl)
 by_cases hr:J3 e.A2
 case neg=>
  have i2:=Kj _ (show e.A2.length≤1000000 by omega) false (by simp[hr])
  obtain rfl:=bad fun h=>hr (h.Ag e hm).Bes
  repeat'((conv=>whnf);first|(apply aI<;>intro hb<;>first|exact absurd hb (by first|assumption|decide)|(exfalso;simp only[Az]at hb<;>omega)|((try rw[hb]);(try simp only[Ad]at hb)))|(refine eI ?_ ?_;focus (and_intros<;>first|omega|exact rfl|(intro _ hh;cases hh;done)|(simp;done)|decide))|(intro Aa)|((try dsimp only);first|rw[Av he]|rw[An he]|rw[Ap he])|(refine Ac.mk ⟨_,i1,?_⟩;rintro _ _ ⟨rfl,rfl⟩)|(refine Ac.mk ⟨_,i2,?_⟩;rintro _ _ ⟨rfl,rfl⟩))
  all_goals(try(conv=>whnf))
  all_goals first|contradiction|(exfalso;omega)|skip
  all_goals(apply dK<;>kernel_rfl)
 have i2:=Kj _ (show e.A2.length≤1000000 by omega) true (by simp[hr])
 have Mh:R3 r e→∀i<k+1,∀u,r.Ag[i]?=some u→R3 r u:=fun h i hi u hu=>by
  rcases Nat.lt_succ_iff_lt_or_eq.1 hi with h'|rfl
  ·exact hA i h' u hu
  ·rw[he]at hu;cases hu;exact h
 by_cases Dp:e.name=[114,111,111,116]
 ·have hd:¬decide (e.name=[114,111,111,116])=false:=by simp[Dp]
  by_cases hq:e.Du=[]∧e.A2=[]
  case neg=>
   obtain rfl:=bad fun h=>hq ((h.Ag e hm).root Dp)
   by_cases he0:e.Du=[]
   ·have Q9:¬(!decide (e.Du=[]))=true:=by simp[he0]
    have hq3:0<e.A2.length:=by
     cases hrr:e.A2 with
     |nil=>exact absurd ⟨he0,hrr⟩ hq
     |cons a t=>simp
    repeat'((conv=>whnf);first|(apply aI<;>intro hb<;>first|exact absurd hb (by first|assumption|decide)|(exfalso;simp only[Az]at hb<;>omega)|((try rw[hb]);(try simp only[Ad]at hb)))|(refine eI ?_ ?_;focus (and_intros<;>first|omega|exact rfl|(intro _ hh;cases hh;done)|(simp;done)|decide))|(intro Aa)|((try dsimp only);first|rw[Av he]|rw[An he]|rw[Ap he])|(refine Ac.mk ⟨_,i1,?_⟩;rintro _ _ ⟨rfl,rfl⟩)|(refine Ac.mk ⟨_,i2,?_⟩;rintro _ _ ⟨rfl,rfl⟩))
    all_goals(try(conv=>whnf))
    all_goals first|contradiction|(exfalso;omega)|skip
    all_goals(apply dK<;>kernel_rfl)
   ·have Q9:¬(!decide (e.Du=[]))=false:=by simp[he0]
    repeat'((conv=>whnf);first|(apply aI<;>intro hb<;>first|exact absurd hb (by first|assumption|decide)|(exfalso;simp only[Az]at hb<;>omega)|((try rw[hb]);(try simp only[Ad]at hb)))|(refine eI ?_ ?_;focus (and_intros<;>first|omega|exact rfl|(intro _ hh;cases hh;done)|(simp;done)|decide))|(intro Aa)|((try dsimp only);first|rw[Av he]|rw[An he]|rw[Ap he])|(refine Ac.mk ⟨_,i1,?_⟩;rintro _ _ ⟨rfl,rfl⟩)|(refine Ac.mk ⟨_,i2,?_⟩;rintro _ _ ⟨rfl,rfl⟩))
    all_goals(try(conv=>whnf))
    all_goals first|contradiction|(exfalso;omega)|skip
    all_goals(apply dK<;>kernel_rfl)
  have Q9:¬(!decide (e.Du=[]))=true:=by simp[hq.1]
  have hq3:¬0<e.A2.length:=by simp[hq.2]
  repeat'((conv=>whnf);first|(apply aI<;>intro hb<;>first|exact absurd hb (by first|assumption|decide)|(exfalso;simp only[Az]at hb<;>omega)|((try rw[hb]);(try simp only[Ad]at hb)))|(refine eI ?_ ?_;focus (and_intros<;>first|omega|exact rfl|(intro _ hh;cases hh;done)|(simp;done)|decide))|(intro Aa)|((try dsimp only);first|rw[Av he]|rw[An he]|rw[Ap he])|(refine Ac.mk ⟨_,i1,?_⟩;rintro _ _ ⟨rfl,rfl⟩)|(refine Ac.mk ⟨_,i2,?_⟩;rintro _ _ ⟨rfl,rfl⟩))
  all_goals(try(conv=>whnf))
  all_goals first|contradiction|(exfalso;omega)|skip
  refine Round.by (k+1) ?_ ⟨Ce,Mh ⟨hw,hh.1,hh.2,hr,fun _=>hq,fun h=>absurd Dp h,fun h=>absurd Dp h⟩⟩ (by omega)
  rw[Ak (n:=r.Ag.length) Ce (by simp only[maxLen];omega)]
  show norm _ _=Bt _ _
  kernel_rfl
 have hd:¬decide (e.name=[114,111,111,116])=true:=by simp[Dp]
 have i3:=Nv r hs e.Du;cases ht:(Fc r.Be e.Du).2 with
 |false=>
  rw[ht]at i3;obtain rfl:=bad fun h=>by have:=(h.Ag e hm).Du Dp;rw[ht]at this;cases this
  repeat'((conv=>whnf);first|(apply aI<;>intro hb<;>first|exact absurd hb (by first|assumption|decide)|(exfalso;simp only[Az]at hb<;>omega)|((try rw[hb]);(try simp only[Ad]at hb)))|(refine eI ?_ ?_;focus (and_intros<;>first|omega|exact rfl|(intro _ hh;cases hh;done)|(simp;done)|decide))|(intro Aa)|((try dsimp only);first|rw[Av he]|rw[An he]|rw[Ap he])|(refine Ac.mk ⟨_,i1,?_⟩;rintro _ _ ⟨rfl,rfl⟩)|(refine Ac.mk ⟨_,i2,?_⟩;rintro _ _ ⟨rfl,rfl⟩)|(refine Ac.mk ⟨_,i3,?_⟩;rintro _ _ ⟨rfl,rfl⟩))
  all_goals(try(conv=>whnf))
  all_goals first|contradiction|(exfalso;omega)|skip
  all_goals(apply dK<;>kernel_rfl)
 |true=>
 rw[ht]at i3;repeat'((conv=>whnf);first|(apply aI<;>intro hb<;>first|exact absurd hb (by first|assumption|decide)|(exfalso;simp only[Az]at hb<;>omega)|((try rw[hb]);(try simp only[Ad]at hb)))|(refine eI ?_ ?_;focus (and_intros<;>first|omega|exact rfl|(intro _ hh;cases hh;done)|(simp;done)|decide))|(intro Aa)|((try dsimp only);first|rw[Av he]|rw[An he]|rw[Ap he])|(refine Ac.mk ⟨_,i1,?_⟩;rintro _ _ ⟨rfl,rfl⟩)|(refine Ac.mk ⟨_,i2,?_⟩;rintro _ _ ⟨rfl,rfl⟩)|(refine Ac.mk ⟨_,i3,?_⟩;rintro _ _ ⟨rfl,rfl⟩))
 all_goals(try(conv=>whnf))
 all_goals first|contradiction|(exfalso;omega)|skip
 refine Bq.by (X:=Nat) (fun j=>[(158,.v (.int .i64 j))]) (fun j=>j≤e.A2.length∧∀i<j,∀n,e.A2[i]?=some n→Nk r e n) (fun j=>e.A2.length - j)
  0 (by kernel_rfl) ⟨Nat.zero_le _,by intro i hi;omega⟩ ?_
 rintro j ⟨hj,hN⟩;by_cases Jw:j<e.A2.length
 case neg=>
  have Rk:¬decide ((j:Int)<((strs e.A2).length:Int))=true:=by simp;omega
  have Bo2:∀n∈e.A2,Nk r e n:=fun t ht=>by
   obtain⟨i,hi⟩:=List.getElem?_of_mem ht;exact hN i (by have:=(List.getElem?_eq_some_iff.1 hi).1;omega) t hi
  repeat'((conv=>whnf);(apply aI<;>intro hb<;>first|exact absurd hb (by assumption)|((try rw[hb]);(try simp only[Ad]at hb))))
  all_goals(try(conv=>whnf))
  refine Round.by (k+1) ?_ ⟨Ce,Mh ⟨hw,hh.1,hh.2,hr,fun h=>absurd h Dp,fun _=>ht,fun _=>Bo2⟩⟩ (by omega)
  rw[Ak (n:=r.Ag.length) Ce (by simp only[maxLen];omega)]
  show norm _ _=Bt _ _
  kernel_rfl
 obtain⟨n,hn⟩:∃n,e.A2[j]?=some n:=⟨_,List.getElem?_eq_getElem Jw⟩;have Rk:¬decide ((j:Int)<((strs e.A2).length:Int))=false:=by simp[Jw]
 have i4:=Aig r hs n;have Bpg:=List.mem_of_getElem? hn;by_cases hq:Nk r e n
 case neg=>
  obtain rfl:=bad fun h=>hq ((h.Ag e hm).rol Dp n Bpg)
  unfold Nk at hq;generalize F3 r.Am n=q at i4 hq;obtain⟨x,q2⟩:=q;cases q2 with
  |false=>
   repeat'((conv=>whnf);first|(apply aI<;>intro hb<;>first|exact absurd hb (by first|assumption|decide)|((try rw[hb]);(try simp only[Ad]at hb)))|(refine eI ?_ ?_;focus (and_intros<;>first|omega|exact rfl|(intro _ hh;cases hh;done)|(simp;done)|decide))|((try dsimp only);first|rw[Av hn]|rw[An hn]|rw[Ap hn])|(refine Ac.mk ⟨_,i4,?_⟩;rintro _ _ ⟨rfl,rfl⟩))
   all_goals(try(conv=>whnf))
   all_goals first|contradiction|(apply dK<;>kernel_rfl)
  |true=>
   have Aw:¬(!decide (x.Du=e.Du))=false:=by simpa using hq
   repeat'((conv=>whnf);first|(apply aI<;>intro hb<;>first|exact absurd hb (by first|assumption|decide)|((try rw[hb]);(try simp only[Ad]at hb)))|(refine eI ?_ ?_;focus (and_intros<;>first|omega|exact rfl|(intro _ hh;cases hh;done)|(simp;done)|decide))|((try dsimp only);first|rw[Av hn]|rw[An hn]|rw[Ap hn])|(refine Ac.mk ⟨_,i4,?_⟩;rintro _ _ ⟨rfl,rfl⟩))
   all_goals(try(conv=>whnf))
   all_goals first|contradiction|(apply dK<;>kernel_rfl)
 have hq0:=hq;unfold Nk at hq;generalize F3 r.Am n=q at i4 hq;obtain⟨x,q2⟩:=q;obtain⟨hq1,Q9⟩:=hq;dsimp only at hq1 Q9;subst hq1;have Aw:¬(!decide (x.Du=e.Du))=true:=by simpa using Q9
 repeat'((conv=>whnf);first|(apply aI<;>intro hb<;>first|exact absurd hb (by first|assumption|decide)|((try rw[hb]);(try simp only[Ad]at hb)))|(refine eI ?_ ?_;focus (and_intros<;>first|omega|exact rfl|(intro _ hh;cases hh;done)|(simp;done)|decide))|((try dsimp only);first|rw[Av hn]|rw[An hn]|rw[Ap hn])|(refine Ac.mk ⟨_,i4,?_⟩;rintro _ _ ⟨rfl,rfl⟩))
 all_goals(try(conv=>whnf))
 all_goals first|contradiction|skip
 refine Round.by (j+1) ?_ ⟨Jw,fun i hi m hm=>?_⟩ (by omega)
 ·rw[Ak (n:=e.A2.length) Jw (by simp only[maxLen];omega)]
  show norm _ _=Bt _ _
  kernel_rfl
 ·rcases Nat.lt_succ_iff_lt_or_eq.1 hi with h'|rfl
  ·exact hN i h' m hm
  ·rw[hn]at hm;cases hm;exact hq0
set_option maxHeartbeats 4000000

open Go.Proofs
theorem Anp{α:Type}{p:α→Bool}{l:List α}{x:α}(hx:x∈l)(hp:p x=true):∃y,l.find? p=some y∧y∈l∧p y=true:=by
 cases h:l.find? p with
 |none=>exact absurd hp (by simpa using List.find?_eq_none.1 h x hx)
 |some y=>exact⟨y,rfl,List.mem_of_find?_eq_some h,List.find?_some h⟩
theorem Bbe{α:Type}{nm:α→Ai}{l:List α}(h:H5 nm l){x y:α}(hx:x∈l)(hy:y∈l)(e:nm x=nm y):x=y:=by
 obtain⟨i,hi⟩:=List.getElem?_of_mem hx;obtain⟨j,hj⟩:=List.getElem?_of_mem hy;obtain⟨Fh,hi⟩:=List.getElem?_eq_some_iff.1 hi;obtain⟨Kt,hj⟩:=List.getElem?_eq_some_iff.1 hj;have h:=List.pairwise_iff_getElem.1 h;rcases Nat.lt_trichotomy i j with hl|hl|hl
 ·have:=h i j Fh Kt hl;rw[hi,hj,e]at this;exact absurd this (List.lt_irrefl _)
 ·subst hl;rw[←hi, ←hj]
 ·have:=h j i Kt Fh hl;rw[hi,hj,e]at this;exact absurd this (List.lt_irrefl _)
theorem Bg0{l:List Bh}(h:H5 Bh.name l){x:Bh}(hx:x∈l):F3 l x.name=(x,true):=by
 obtain⟨y,h1,h2,h3⟩:=Anp (p:=fun t:Bh=>decide (t.name=x.name)) hx (by simp)
 have:y=x:=Bbe h h2 hx (by simpa using h3)
 unfold F3;rw[h1,this]
theorem A4n{l:List B7}{n:Ai}(h:∃t∈l,t.name=n):(Fc l n).2=true:=by
 obtain⟨x,hx,e⟩:=h;obtain⟨y,h1,h2,h3⟩:=Anp (p:=fun t:B7=>decide (t.name=n)) hx (by simpa using e)
 unfold Fc;rw[h1]
theorem Bg3{l:List Bc}{n:Ai}(h:∃t∈l,t.name=n):(Je l n).2=true:=by
 obtain⟨x,hx,e⟩:=h;obtain⟨y,h1,h2,h3⟩:=Anp (p:=fun t:Bc=>decide (t.name=n)) hx (by simpa using e)
 unfold Je;rw[h1]
theorem Ab1{l:List Ai}(h:l.Pairwise (· < ·))(hn:∀x∈l,D2 x=true):J3 l:=fun i x hx=>by
 refine⟨hn x (List.mem_of_getElem? hx),fun y hi hy=>?_⟩
 obtain⟨Fh,e1⟩:=List.getElem?_eq_some_iff.1 hx;obtain⟨Kt,e2⟩:=List.getElem?_eq_some_iff.1 hy;have:=List.pairwise_iff_getElem.1 h (i - 1) i Kt Fh (by omega)
 rw[e1,e2]at this;exact this
theorem Bg4{l:List Dg}(h:Wg l)(i:Nat):Lt l i:=fun x hx=>by
 refine⟨h.1 x (List.mem_of_getElem? hx),fun hm=>?_⟩
 obtain⟨j,hj⟩:=List.getElem?_of_mem hm;rw[List.getElem?_take]at hj;split at hj
 ·rename_i Bb;obtain⟨Fh,e1⟩:=List.getElem?_eq_some_iff.1 hx;obtain⟨Kt,e2⟩:=List.getElem?_eq_some_iff.1 hj;have:=List.pairwise_iff_getElem.1 h.2 j i Kt Fh Bb;rw[e1,e2]at this;exact this rfl
 ·cases hj
theorem Ber{r:A8}(f:r.Fit)(s:r.Aeg)(o:r.Ok):r.Vv:=by
 obtain⟨hT,hU,hX,hR⟩:=s;refine⟨⟨f.hV.1,f.hV.2,f.hT,f.hU,f.hX⟩,Ab1 (Qa.1 hT) fun x hx=>?_,Ab1 (Qa.1 hU) fun x hx=>?_,Ab1 (Qa.1 hX) fun x hx=>?_,fun t ht=>(o.tn t ht).2,fun x hx=>?_,fun u hu=>?_,Bg3 o.rt⟩
 ·obtain⟨t,ht,rfl⟩:=List.mem_map.1 hx;exact(o.tn t ht).1
 ·obtain⟨t,ht,rfl⟩:=List.mem_map.1 hx;exact(o.un t ht).1
 ·obtain⟨t,ht,rfl⟩:=List.mem_map.1 hx;exact(o.xn t ht).1
 ·exact⟨A4n (o.xn x hx).2.1,f.hG x hx,Bg4 (o.xn x hx).2.2⟩
 ·refine⟨(o.un u hu).2.1,(o.un u hu).2.2,f.hR u hu,Ab1 ?_ fun n hn=>?_,o.ur u hu,fun hn=>A4n (o.ut u hu hn),fun _ n hn=>?_⟩
  ·exact hR u hu
  ·obtain⟨x,hx,e,_⟩:=o.uo u hu n hn;rw[←e];exact(o.xn x hx).1
  ·obtain⟨x,hx,rfl,e⟩:=o.uo u hu n hn;unfold Nk;rw[Bg0 hX hx];exact⟨rfl,e⟩

open Go.Proofs
theorem Vc{l:List Ai}(h:J3 l):l.Pairwise (· < ·)∧∀x∈l,D2 x=true:=by
 refine⟨?_,fun x hx=>?_⟩
 ·rw[List.pairwise_iff_getElem];intro i j hi hj Gv;obtain⟨d,rfl⟩:∃d,j=i+1+d:=⟨j - (i+1),by omega⟩
  clear Gv;induction d with
  |zero=>
   exact(h (i+1) _ (List.getElem?_eq_getElem hj)).2 _ (by omega) (List.getElem?_eq_getElem hi)
  |succ d ih=>
   have h1:=ih (by omega)
   have h2:=(h (i+1+(d+1)) _ (List.getElem?_eq_getElem hj)).2 (l[i+1+d]'(by omega)) (by omega) (List.getElem?_eq_getElem (by omega))
   exact List.lt_trans h1 h2
 ·obtain⟨i,hi⟩:=List.getElem?_of_mem hx;exact(h i x hi).1
theorem A4m{l:List B7}{n:Ai}(h:(Fc l n).2=true):∃t∈l,t.name=n:=by
 unfold Fc at h;split at h
 ·rename_i x hx;exact⟨x,List.mem_of_find?_eq_some hx,by simpa using List.find?_some hx⟩
 ·cases h
theorem Bg2{l:List Bc}{n:Ai}(h:(Je l n).2=true):∃t∈l,t.name=n:=by
 unfold Je at h;split at h
 ·rename_i x hx;exact⟨x,List.mem_of_find?_eq_some hx,by simpa using List.find?_some hx⟩
 ·cases h
theorem Bgz{l:List Bh}{n:Ai}(h:(F3 l n).2=true):(F3 l n).1∈l∧(F3 l n).1.name=n:=by
 unfold F3 at h ⊢;split at h
 ·rename_i x hx;exact⟨List.mem_of_find?_eq_some hx,by simpa using List.find?_some hx⟩
 ·cases h
theorem Bg5{l:List Dg}(h:∀i,Lt l i):Wg l:=by
 refine⟨fun g hg=>?_,?_⟩
 ·obtain⟨i,hi⟩:=List.getElem?_of_mem hg;exact(h i g hi).1
 ·rw[List.Nodup,List.pairwise_iff_getElem];intro i j hi hj Gv e;have:=(h j _ (List.getElem?_eq_getElem hj)).2;rw[←e]at this;exact this (List.mem_iff_getElem?.2 ⟨i,by rw[List.getElem?_take];simp[Gv]⟩)
theorem Bem{r:A8}(h:r.Vv):r.Fit∧r.Aeg∧r.Ok:=by
 obtain⟨⟨n1,n2,n3,n4,n5⟩,rT,rU,rX,Be,Am,Ag,root⟩:=h;refine⟨⟨⟨n1,n2⟩,n3,n4,n5,fun u hu=>(Ag u hu).many,fun x hx=>(Am x hx).grs.1⟩,⟨?_,?_,?_,fun u hu=>?_⟩,⟨fun t ht=>?_,fun u hu=>?_,fun x hx=>?_,fun u hu=>(Ag u hu).root,fun u hu hn=>?_,fun u hu n hn=>?_,?_⟩⟩
 ·exact Qa.2 (Vc rT).1
 ·exact Qa.2 (Vc rU).1
 ·exact Qa.2 (Vc rX).1
 ·rw[Qa];have:=(Vc (Ag u hu).Bes).1;rw[show u.A2.map Gi=u.A2 from List.map_id _];exact this
 ·exact⟨(Vc rT).2 _ (List.mem_map_of_mem ht),Be t ht⟩
 ·exact⟨(Vc rU).2 _ (List.mem_map_of_mem hu),(Ag u hu).Bp,(Ag u hu).hash⟩
 ·exact⟨(Vc rX).2 _ (List.mem_map_of_mem hx),A4m (Am x hx).Du,Bg5 (Am x hx).grs.2⟩
 ·exact A4m ((Ag u hu).Du hn)
 ·by_cases hr:u.name=Aqx
  ·rw[((Ag u hu).root hr).2]at hn;cases hn
  ·have:=(Ag u hu).rol hr n hn;have h2:=Bgz this.1;exact⟨_,h2.1,h2.2,this.2⟩
 ·exact Bg2 root

open Go.Proofs
abbrev Vu:FuncId:=6
def U1:Bw:=(sO [O1 (.box 2 0),O1 (.box 3 1),gA 4 cF] (.seq (sO [gC 11 8 [],gT 12 11] (cR 12 [gA 4 cF])) (.seq (sO [gU 13 4 2,gC 14 24 [nL 13],gM 15 14,qf 15 (iU 16 18 3),qf 15 (.E1 17 40 18 (.agg [(.int .i64 0),(.int .i64 0),(.str []),(.int .i64 0),(.str []),(.str []),(.str []),(.str []),(.int .i64 0),(.int .i64 0),(.agg [(.agg [(.str []),(.str [])]),(.bool false),(.bool false)]),(.int .i64 0),(.list []),(.list []),(.list [])]) 1 [(0,16)]),.call (some (15,false)) (some 18) 9 [nL 17],gP 19 15 cT 18] (cR 19 [gA 4 cT])) (sO [gU 20 4 2,gC 21 25 [nL 20],gA 5 21] (.seq (sO [gU 22 4 2,gC 23 26 [nL 22],gM 24 5,O1 (.eqs 25 true .bool 23 24)] (cR 25 [gA 4 cF])) (sO [gU 26 4 2,gC 27 20 [nL 26],O1 (.alloc 6 (.one (.i (.agg [(.int .i64 0),(.list []),(.list []),(.list [])])))),gS 4 6 27] (sO [gU 29 4 2,gU 30 18 3,gC 31 19 [nL 29,nL 30],gA 28 31,gE 32 28 0,gE 33 28 1,O1 (.alloc 7 (.one (.i (.agg [(.int .i64 0),(.list []),(.list []),(.list [])])))),gS 4 7 32,gA 8 33] (.seq (sO [gU 34 4 2,gU 35 4 6,gC 36 11 [nL 34,nL 35],gT 37 36,gM 38 37,qf 38 (iM 39 5),qf 38 (iT 40 39),gP 41 38 cT 40] (.cond 41 (sO [gU 42 4 2,gU 43 4 6,gC 44 11 [nL 42,nL 43],gA 4 44] .ret) .skip)) (sO [gU 46 4 6,gU 47 18 3,gC 48 27 [nL 46,nL 47],gA 45 48,gE 49 45 0,gE 50 45 1,O1 (.alloc 9 (.one (.i (.agg [(.int .i64 0),(.list []),(.list []),(.list [])])))),gS 4 9 49,gA 10 50] (sO [gM 51 8,gM 52 10,gB 53 .eql 51 52,gM 54 53,qt 54 (iU 55 4 7),qt 54 (iU 56 4 9),.call (some (54,true)) (some 57) 11 [nL 55,nL 56],gP 58 54 57 cF,gM 59 58,qt 59 (iU 60 4 7),.call (some (59,true)) (some 61) 26 [nL 60],gP 62 59 61 cF,gA 4 62] .ret))))))))))
theorem U4:OF 6 63 U1 [.t 4]:=oF Tryz.func6 rfl Tryz.ntmps6 (by kernel_rfl) (by kernel_rfl)
abbrev Ab7:FuncId:=8
def Aac:Bw:=(sO [gA 0 cF] (sO [gC 9 18 [nL (cS [115]),nL (cS [119])],gA 8 9,gE 10 8 0,gE 11 8 1,O1 (.alloc 1 (.one (.i (.agg [(.int .i64 0),(.list []),(.list []),(.list [])])))),gS 4 1 10,gA 2 11] (sO [gU 13 4 1,O1 (.build 14 [(.int .i64 0),(.int .i64 0),(.str []),(.int .i64 0),(.str []),(.str []),(.str []),(.str []),(.int .i64 0),(.int .i64 0),(.agg [(.agg [(.str []),(.str [])]),(.bool false),(.bool false)]),(.int .i64 0),(.list []),(.list []),(.list [])] [(3,(cI 4)),(4,(cS [116]))]),gC 15 19 [nL 13,nL 14],gA 12 15,gE 16 12 0,gE 17 12 1,gS 4 1 16,gA 3 17] (sO [gU 19 4 1,O1 (.build 20 [(.int .i64 0),(.int .i64 0),(.str []),(.int .i64 0),(.str []),(.str []),(.str []),(.str []),(.int .i64 0),(.int .i64 0),(.agg [(.agg [(.str []),(.str [])]),(.bool false),(.bool false)]),(.int .i64 0),(.list []),(.list []),(.list [])] [(3,(cI 4)),(4,(cS [117]))]),gC 21 19 [nL 19,nL 20],gA 18 21,gE 22 18 0,gE 23 18 1,gS 4 1 22,gA 4 23] (sO [gU 25 4 1,O1 (.build 26 [(.int .i64 0),(.int .i64 0),(.str []),(.int .i64 0),(.str []),(.str []),(.str []),(.str []),(.int .i64 0),(.int .i64 0),(.agg [(.agg [(.str []),(.str [])]),(.bool false),(.bool false)]),(.int .i64 0),(.list []),(.list []),(.list [])] [(3,(cI 6)),(4,(cS [120])),(5,(cS [116])),(6,(cS [112]))]),gC 27 19 [nL 25,nL 26],gA 24 27,gE 28 24 0,gE 29 24 1,gS 4 1 28,gA 5 29] (sO [gU 31 4 1,O1 (.build 32 [(.int .i64 0),(.int .i64 0),(.str []),(.int .i64 0),(.str []),(.str []),(.str []),(.str []),(.int .i64 0),(.int .i64 0),(.agg [(.agg [(.str []),(.str [])]),(.bool false),(.bool false)]),(.int .i64 0),(.list []),(.list []),(.list [])] [(3,(cI 9)),(4,(cS [121])),(5,(cS [117]))]),gC 33 19 [nL 31,nL 32],gA 30 33,gE 34 30 0,gE 35 30 1,gS 4 1 34,gA 6 35] (sO [gU 37 4 1,O1 (.build 38 [(.int .i64 0),(.int .i64 0),(.str []),(.int .i64 0),(.str []),(.str []),(.str []),(.str []),(.int .i64 0),(.int .i64 0),(.agg [(.agg [(.str []),(.str [])]),(.bool false),(.bool false)]),(.int .i64 0),(.list []),(.list []),(.list [])] [(3,(cI 13)),(4,(cS [120])),(5,(cS [121]))]),gC 39 19 [nL 37,nL 38],gA 36 39,gE 40 36 0,gE 41 36 1,gS 4 1 40,gA 7 41] (sO [gM 42 2,gM 43 42,qt 43 (iM 44 3),qt 43 (iB 45 .eql 44 (cI 0)),gP 46 43 45 cF,gM 47 46,qt 47 (iM 48 4),qt 47 (iB 49 .eql 48 (cI 0)),gP 50 47 49 cF,gM 51 50,qt 51 (iM 52 5),qt 51 (iB 53 .eql 52 (cI 0)),gP 54 51 53 cF,gM 55 54,qt 55 (iM 56 6),qt 55 (iB 57 .eql 56 (cI 0)),gP 58 55 57 cF,gM 59 58,qt 59 (iM 60 7),qt 59 (iB 61 .eql 60 (cI 18)),gP 62 59 61 cF,gM 63 62,qt 63 (iG 64 1 0 0),qt 63 (iL 65 64),qt 63 (iB 66 .eql 65 (cI 5)),gP 67 63 66 cF,gM 68 67,qt 68 (iU 69 4 1),.call (some (68,true)) (some 70) 28 [nL 69,nL (cS [120]),nL (cS [112])],gP 71 68 70 cF,gA 0 71] .ret))))))))
theorem Aap:OF 8 72 Aac [.t 0]:=oF Tryz.func8 rfl Tryz.ntmps8 (by kernel_rfl) (by kernel_rfl)
abbrev Ab8:FuncId:=9
def Aad:Bw:=(sO [gA 2 cF] (.seq (sO [gM 5 0,gN 6 5,gM 7 (cI 0)] (.block 0 (.loop (kr [2,3,4] 8 47) (sO [gB 8 .lss 7 6] (.seq (.cond 8 .skip (.exit 0)) (.seq (.block 1 (sO [gM 9 7,gI 10 18 5 7,gU 11 18 10,O1 (.alloc 4 (.one (.i (.agg [(.int .i64 0),(.int .i64 0),(.str []),(.int .i64 0),(.str []),(.str []),(.str []),(.str []),(.int .i64 0),(.int .i64 0),(.agg [(.agg [(.str []),(.str [])]),(.bool false),(.bool false)]),(.int .i64 0),(.list []),(.list []),(.list [])])))),gA 3 9,gS 18 4 11] (sO [gM 12 3,gB 13 .geq 12 (cI 80),gM 14 13,qf 14 (iG 15 4 4 4),qf 14 (iL 16 15),qf 14 (.len 17 true 16),qf 14 (iB 18 .gtr 17 (cI 1000)),gP 19 14 cT 18,gM 20 19,qf 20 (iG 21 4 5 5),qf 20 (iL 22 21),qf 20 (.len 23 true 22),qf 20 (iB 24 .gtr 23 (cI 1000)),gP 25 20 cT 24,gM 26 25,qf 26 (iG 27 4 6 6),qf 26 (iL 28 27),qf 26 (.len 29 true 28),qf 26 (iB 30 .gtr 29 (cI 1000)),gP 31 26 cT 30,gM 32 31,qf 32 (iG 33 4 7 7),qf 32 (iL 34 33),qf 32 (.len 35 true 34),qf 32 (iB 36 .gtr 35 (cI 1000)),gP 37 32 cT 36,gM 38 37,qf 38 (iG 39 4 10 10),qf 38 (iG 40 39 0 0),qf 38 (iG 41 40 0 0),qf 38 (iL 42 41),qf 38 (.len 43 true 42),qf 38 (iB 44 .gtr 43 (cI 1000)),gP 45 38 cT 44,gM 46 45,qf 46 (iG 47 4 10 10),qf 46 (iG 48 47 0 0),qf 46 (iG 49 48 1 1),qf 46 (iL 50 49),qf 46 (.len 51 true 50),qf 46 (iB 52 .gtr 51 (cI 1000)),gP 53 46 cT 52] (cR 53 [gA 2 cT])))) (.ops [gB 54 .add 7 (cI 1),gM 7 54]))))))) (sO [gA 2 cF] .ret)))
theorem Aaq:OF 9 55 Aad [.t 2]:=oF Tryz.func9 rfl Tryz.ntmps9 (by kernel_rfl) (by kernel_rfl)
abbrev Ab9:FuncId:=24
def Aae:Bw:=(sO [O1 (.box 1 0),gA 2 cF] (.seq (sO [gF 9 1 1,gL 10 9,gN 11 10,gB 12 .gtr 11 (cI 30),gM 13 12,qf 13 (iG 14 1 2 2),qf 13 (iL 15 14),qf 13 (iN 16 15),qf 13 (iB 17 .gtr 16 (cI 30)),gP 18 13 cT 17,gM 19 18,qf 19 (iG 20 1 3 3),qf 19 (iL 21 20),qf 19 (iN 22 21),qf 19 (iB 23 .gtr 22 (cI 30)),gP 24 19 cT 23] (cR 24 [gA 2 cT])) (.seq (sO [gF 25 1 2,gL 26 25,gN 27 26,gM 28 (cI 0)] (.block 0 (.loop (kr [2,4] 29 14) (sO [gB 29 .lss 28 27] (.seq (.cond 29 .skip (.exit 0)) (.seq (.block 1 (sO [gI 30 5 26 28,gU 31 5 30,O1 (.alloc 4 (.one (.i (.agg [(.str []),(.str []),(.str []),(.str []),(.list [])])))),gS 5 4 31] (sO [gF 32 4 4,gL 33 32,gN 34 33,gB 35 .gtr 34 (cI 30),gM 36 35,qf 36 (iG 37 4 0 0),qf 36 (iL 38 37),qf 36 (.len 39 true 38),qf 36 (iB 40 .gtr 39 (cI 1000)),gP 41 36 cT 40] (cR 41 [gA 2 cT])))) (.ops [gB 42 .add 28 (cI 1),gM 28 42]))))))) (.seq (sO [gF 43 1 3,gL 44 43,gN 45 44,gM 46 (cI 0)] (.block 2 (.loop (kr [2,6,8] 47 34) (sO [gB 47 .lss 46 45] (.seq (.cond 47 .skip (.exit 2)) (.seq (.block 3 (sO [gI 48 3 44 46,gU 49 3 48,O1 (.alloc 6 (.one (.i (.agg [(.str []),(.str []),(.list [])])))),gS 3 6 49] (.seq (sO [gF 50 6 2,gL 51 50,gN 52 51,gB 53 .gtr 52 (cI 30),gM 54 53,qf 54 (iG 55 6 0 0),qf 54 (iL 56 55),qf 54 (.len 57 true 56),qf 54 (iB 58 .gtr 57 (cI 1000)),gP 59 54 cT 58] (cR 59 [gA 2 cT])) (sO [gF 60 6 2,gL 61 60,gN 62 61,gM 63 (cI 0)] (.block 4 (.loop (kr [2,8] 64 16) (sO [gB 64 .lss 63 62] (.seq (.cond 64 .skip (.exit 4)) (.seq (.block 5 (sO [gI 65 4 61 63,gU 66 4 65,O1 (.alloc 8 (.one (.i (.agg [(.agg [(.str []),(.str [])]),(.bool false),(.bool false)])))),gS 4 8 66] (sO [gF 67 8 0,gF 68 67 0,gL 69 68,O1 (.len 70 true 69),gB 71 .gtr 70 (cI 1000),gM 72 71,qf 72 (iG 73 8 0 0),qf 72 (iG 74 73 1 1),qf 72 (iL 75 74),qf 72 (.len 76 true 75),qf 72 (iB 77 .gtr 76 (cI 1000)),gP 78 72 cT 77] (cR 78 [gA 2 cT])))) (.ops [gB 79 .add 63 (cI 1),gM 63 79])))))))))) (.ops [gB 80 .add 46 (cI 1),gM 46 80]))))))) (sO [gA 2 cF] .ret)))))
theorem Aar:OF 24 81 Aae [.t 2]:=oF Tryz.func24 rfl Tryz.ntmps24 (by kernel_rfl) (by kernel_rfl)
end Go.Ab
