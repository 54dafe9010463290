/- Lemmas -/
import Derived.Test.YtgcccllpegilnaaGreatDoorL0
set_option linter.unusedVariables false
set_option linter.unusedSimpArgs false
set_option maxRecDepth 100000
set_option maxHeartbeats 40000000
namespace Go.Ab
open Go.Proofs
theorem Bcq(r:A8)(n:Ai):((Fc r.Be n).2=false∧r.Hn n= -1)∨∃(j:Nat) (x:B7),Fc r.Be n=(x,true)∧r.Hn n=(j:Int)∧x.name=n∧r.Be[j]?=some x:=by
 unfold Fc A8.Hn;rcases Qp (fun t:B7=>decide (t.name=n)) 0 r.Be with⟨h1,h2⟩|⟨j,x,h1,h2,h3⟩
 ·rw[h1,h2];exact .inl ⟨rfl,rfl⟩
 ·rw[h3,h1];exact .inr ⟨j,x,rfl,by omega,by simpa using List.find?_some h3,h2⟩
theorem Bcx(r:A8)(n:Ai):((Je r.Ag n).2=false∧r.Fa n= -1)∨∃(j:Nat) (x:Bc),Je r.Ag n=(x,true)∧r.Fa n=(j:Int)∧x.name=n∧r.Ag[j]?=some x:=by
 unfold Je A8.Fa;rcases Qp (fun t:Bc=>decide (t.name=n)) 0 r.Ag with⟨h1,h2⟩|⟨j,x,h1,h2,h3⟩
 ·rw[h1,h2];exact .inl ⟨rfl,rfl⟩
 ·rw[h3,h1];exact .inr ⟨j,x,rfl,by omega,by simpa using List.find?_some h3,h2⟩
theorem Bbf(r:A8)(n:Ai):((F3 r.Am n).2=false∧r.Ex n= -1)∨∃(j:Nat) (x:Bh),F3 r.Am n=(x,true)∧r.Ex n=(j:Int)∧x.name=n∧r.Am[j]?=some x:=by
 unfold F3 A8.Ex;rcases Qp (fun t:Bh=>decide (t.name=n)) 0 r.Am with⟨h1,h2⟩|⟨j,x,h1,h2,h3⟩
 ·rw[h1,h2];exact .inl ⟨rfl,rfl⟩
 ·rw[h3,h1];exact .inr ⟨j,x,rfl,by omega,by simpa using List.find?_some h3,h2⟩
theorem Ab0{α:Type}{f:α→Ai}{l:List α}{k:Nat}{e:α}(he:l[k]?=some e):Eu (l.map f) k↔D2 (f e)=true∧∀y,0<k→l[k - 1]?=some y→f y<f e:=by
 unfold Eu;simp only[List.getElem?_map,he,Option.map_some,Option.some.injEq,forall_eq'];constructor
 ·rintro⟨h1,h2⟩;exact⟨h1,fun y hk hy=>h2 _ hk (by rw[hy];rfl)⟩
 ·rintro⟨h1,h2⟩;refine⟨h1,fun y hk hy=>?_⟩
  cases hl:l[k - 1]? with
  |none=>rw[hl]at hy;cases hy
  |some z=>rw[hl]at hy;cases hy;exact h2 z hk hl
theorem Aqj{x y:Ai}(h:y<x):¬(decide (x<y)||decide (x=y))=true:=by
 simp only[Bool.or_eq_true,decide_eq_true_eq];rintro(h'|h')
 ·exact List.lt_irrefl _ (List.lt_trans h' h)
 ·rw[h']at h;exact List.lt_irrefl _ h
theorem Ak1{x y:Ai}(h:¬y<x):¬(decide (x<y)||decide (x=y))=false:=by
 simp only[Bool.or_eq_false_iff,decide_eq_false_iff_not,not_and];rcases Bbi y x with h'|h'|h'
 ·exact absurd h' h
 ·exact fun _ h2=>h2 h'.symm
 ·exact fun h2=>absurd h' h2
def Bfh(r:A8)(i:Nat):Prop:=Eu (r.Be.map B7.name) i∧∀t,r.Be[i]?=some t→Dq t.mb=true∧Dq t.ks=true
def Bfg(r:A8)(i:Nat):Prop:=Eu (r.Am.map Bh.name) i∧∀x,r.Am[i]?=some x→Axj r x
def A57(r:A8)(i:Nat):Prop:=Eu (r.Ag.map Bc.name) i∧∀u,r.Ag[i]?=some u→R3 r u
theorem Bkk{l:List Dg}{j:Nat}{g:Dg}(hg:l[j]?=some g):Lt l j↔(decide (Dk g.sp)&&(g.r||g.w))=true∧(l.take j).any (fun x=>decide (x=g))=false:=by
 unfold Lt;constructor
 ·intro h;have:=h g hg;refine⟨by rw[this.1.2,decide_eq_true this.1.1];rfl,?_⟩
  rw[List.any_eq_false];intro x hx;simp only[decide_eq_true_eq];rintro rfl;exact this.2 hx
 ·rintro⟨h1,h2⟩ x hx;rw[hg]at hx;cases hx;rw[Bool.and_eq_true,decide_eq_true_eq]at h1;refine⟨h1,fun hm=>?_⟩
  rw[List.any_eq_false]at h2;exact absurd (by simp) (h2 _ hm)
theorem Awm(r:A8)(hs:r.Small)(b:Bool)(hB:b=true↔r.Vv):Fn Tryz.prog Acf [.v r.Ae] (Is (.v (.bool b)) [.no]):=by
 refine Aaw ?_ (by simp)
 have bad:¬r.Vv→b=false:=fun h=>by
  cases b with
  |false=>rfl
  |true=>exact absurd (hB.1 rfl) h
 obtain⟨b1,b2,b3,b4,b5⟩:=hs;have hs:r.Small:=⟨b1,b2,b3,b4,b5⟩;have u0:=Gc r [114,111,111,116] (by omega)
 by_cases h1:1≤r.rev∧r.rev≤1099511627776∧r.Be.length≤8∧r.Ag.length≤16∧r.Am.length≤16
 case neg=>
  obtain rfl:=bad fun h=>h1 h.num
  generalize r.Fa [114,111,111,116]=z at u0;repeat'((conv=>whnf);first|(apply aI<;>intro hb<;>first|exact absurd hb (by decide)|(exfalso;simp only[Az]at hb<;>omega)|((try rw[hb]);(try simp only[Ad]at hb)))|(refine eI ?_ ?_;focus (and_intros<;>first|omega|exact rfl|(simp;done)))|(intro Aa))
  all_goals(try(conv=>whnf))
  all_goals first|(exfalso;simp at*;omega)|(apply dK<;>kernel_rfl)
 obtain⟨n1,n2,n3,n4,n5⟩:=h1;cases hu:(Je r.Ag [114,111,111,116]).2 with
 |false=>
  obtain rfl:=bad fun h=>by have:=h.root;rw[hu]at this;cases this
  rcases Bcx r [114,111,111,116]with⟨_,h⟩|⟨j,x,h,_⟩
  ·rw[h]at u0;repeat'((conv=>whnf);first|(apply aI<;>intro hb<;>first|exact absurd hb (by decide)|(exfalso;simp only[Az]at hb<;>omega)|((try rw[hb]);(try simp only[Ad]at hb)))|(refine eI ?_ ?_;focus (and_intros<;>first|omega|exact rfl|(intro _ hh;cases hh;done)|(simp;done)|decide))|(intro Aa)|(refine Ac.mk ⟨_,u0,?_⟩;rintro _ _ ⟨rfl,rfl⟩))
   all_goals(try(conv=>whnf))
   all_goals first|contradiction|(exfalso;simp at*;omega)|(apply dK<;>kernel_rfl)
  ·rw[h]at hu;cases hu
 |true=>
 rcases Bcx r [114,111,111,116]with⟨h,_⟩|⟨j0,x0,_,h,_⟩
 ·rw[hu]at h;cases h
 rw[h]at u0;repeat'((conv=>whnf);first|(apply aI<;>intro hb<;>first|exact absurd hb (by decide)|(exfalso;simp only[Az]at hb<;>omega)|((try rw[hb]);(try simp only[Ad]at hb)))|(refine eI ?_ ?_;focus (and_intros<;>first|omega|exact rfl|(intro _ hh;cases hh;done)|(simp;done)|decide))|(intro Aa)|(refine Ac.mk ⟨_,u0,?_⟩;rintro _ _ ⟨rfl,rfl⟩))
 all_goals(try(conv=>whnf))
 all_goals first|contradiction|(exfalso;simp at*;omega)|skip
 clear u0 h;refine Bq.by (X:=Nat) (fun k=>[(3,.v (.int .i64 k))]) (fun k=>k≤r.Be.length∧∀i<k,Bfh r i) (fun k=>r.Be.length - k)
  0 (by kernel_rfl) ⟨Nat.zero_le _,by intro i hi;omega⟩ ?_
 rintro k ⟨hk,hA⟩;by_cases Ce:k<r.Be.length
 ·obtain⟨e,he⟩:∃e,r.Be[k]?=some e:=⟨_,List.getElem?_eq_getElem Ce⟩;have Bb:¬decide ((k:Int)<((r.Be.map B7.Ae).length:Int))=false:=by simp[Ce]
  have nm:=S1 e.name;have i1:=Vf e.mb;have i2:=Vf e.ks;have V2:=List.mem_of_getElem? he;change Fn Tryz.prog _ _ (Is (.v (.bool (Dq e.mb))) _)at i1;change Fn Tryz.prog _ _ (Is (.v (.bool (Dq e.ks))) _)at i2;have hq:(Eu (r.Be.map B7.name) k∧Dq e.mb=true∧Dq e.ks=true)∨(b=false∧¬(Eu (r.Be.map B7.name) k∧Dq e.mb=true∧Dq e.ks=true)):=by
   by_cases h:Eu (r.Be.map B7.name) k∧Dq e.mb=true∧Dq e.ks=true
   ·exact .inl h
   ·exact .inr ⟨bad fun h'=>h ⟨h'.rT k,h'.Be e V2⟩,h⟩
  have Mh:(Eu (r.Be.map B7.name) k∧Dq e.mb=true∧Dq e.ks=true)→∀i<k+1,Bfh r i:=fun h i hi=>by
   rcases Nat.lt_succ_iff_lt_or_eq.1 hi with h'|rfl
   ·exact hA i h'
   ·exact⟨h.1,fun t ht=>by rw[he]at ht;cases ht;exact h.2⟩
  rw[Ab0 he]at hq Mh;clear hA bad hB;generalize Dq e.mb=v1 at*;generalize Dq e.ks=v2 at*;generalize D2 e.name=v0 at*;cases v0 with
  |false=>
   obtain⟨rfl,_⟩:b=false∧True:=by rcases hq with h|h<;>first|exact⟨h.1,trivial⟩|(exfalso;simp at h)
   repeat'((conv=>whnf);first|(apply aI<;>intro hb<;>first|exact absurd hb (by first|assumption|decide)|((try rw[hb]);(try simp only[Ad]at hb)))|(refine eI ?_ ?_;focus (and_intros<;>first|omega|exact rfl|(intro _ hh;cases hh;done)|(simp;done)|decide))|(intro Aa)|((with_reducible apply A5.B5);(focus kernel_rfl);intro Aa;(try simp only[dRS]at Aa))|((try dsimp only);first|rw[Av he]|rw[An he]|rw[Ap he])|(refine Aj.mk ⟨_,_,nm,?_⟩))
   all_goals(try(conv=>whnf))
   all_goals first|contradiction|(apply dK<;>kernel_rfl)
  |true=>
  rcases Nat.eq_zero_or_pos k with rfl|h0
  ·cases v1<;>cases v2
   case true.true=>
    have h2:=Mh ⟨⟨rfl,fun _ h=>by omega⟩,rfl,rfl⟩
    repeat'((conv=>whnf);first|(apply aI<;>intro hb<;>first|exact absurd hb (by first|assumption|decide)|((try rw[hb]);(try simp only[Ad]at hb)))|(refine eI ?_ ?_;focus (and_intros<;>first|omega|exact rfl|(intro _ hh;cases hh;done)|(simp;done)|decide))|(intro Aa)|((with_reducible apply A5.B5);(focus kernel_rfl);intro Aa;(try simp only[dRS]at Aa))|((try dsimp only);first|rw[Av he]|rw[An he]|rw[Ap he])|(refine Aj.mk ⟨_,_,nm,?_⟩)|(refine Aj.mk ⟨_,_,i1,?_⟩)|(refine Aj.mk ⟨_,_,i2,?_⟩))
    all_goals(try(conv=>whnf))
    all_goals first|contradiction|(refine Round.by 1 ?_ ⟨Ce,h2⟩ (by omega);show norm _ _=Bt _ _;kernel_rfl)
   all_goals
    obtain⟨rfl,_⟩:b=false∧True:=by rcases hq with h|h<;>first|exact⟨h.1,trivial⟩|(exfalso;simp at h)
    repeat'((conv=>whnf);first|(apply aI<;>intro hb<;>first|exact absurd hb (by first|assumption|decide)|((try rw[hb]);(try simp only[Ad]at hb)))|(refine eI ?_ ?_;focus (and_intros<;>first|omega|exact rfl|(intro _ hh;cases hh;done)|(simp;done)|decide))|(intro Aa)|((with_reducible apply A5.B5);(focus kernel_rfl);intro Aa;(try simp only[dRS]at Aa))|((try dsimp only);first|rw[Av he]|rw[An he]|rw[Ap he])|(refine Aj.mk ⟨_,_,nm,?_⟩)|(refine Aj.mk ⟨_,_,i1,?_⟩)|(refine Aj.mk ⟨_,_,i2,?_⟩))
    all_goals(try(conv=>whnf))
    all_goals first|contradiction|(apply dK<;>kernel_rfl)
  ·obtain⟨y,hy⟩:∃y,r.Be[k - 1]?=some y:=⟨_,List.getElem?_eq_getElem (by omega)⟩
   have hw:IntKind.i64.wrap ((k:Int) - 1)=((k - 1:Nat):Int):=by rw[Cf (by omega)];omega
   by_cases hle:y.name<e.name
   ·have Q9:=Aqj hle;cases v1<;>cases v2
    case true.true=>
     have h2:=Mh ⟨⟨rfl,fun z _ hz=>by rw[hy]at hz;cases hz;exact hle⟩,rfl,rfl⟩
     repeat'((conv=>whnf);first|(apply aI<;>intro hb<;>first|exact absurd hb (by first|assumption|decide)|(exfalso;simp only[Az]at hb<;>omega)|((try rw[hb]);(try simp only[Ad]at hb)))|(refine eI ?_ ?_;focus (and_intros<;>first|omega|exact rfl|(intro _ hh;cases hh;done)|(simp;done)|decide))|(intro Aa)|((with_reducible apply A5.B5);(focus kernel_rfl);intro Aa;(try simp only[dRS]at Aa))|((try dsimp only);first|rw[Av he]|rw[An he]|rw[Ap he])|(refine Aj.mk ⟨_,_,nm,?_⟩)|(refine Aj.mk ⟨_,_,i1,?_⟩)|(refine Aj.mk ⟨_,_,i2,?_⟩)|((try dsimp only);rw[hw])|((try dsimp only);first|rw[Av hy]|rw[An hy]|rw[Ap hy]))
     all_goals(try(conv=>whnf))
     all_goals first|contradiction|skip
     refine Round.by (k+1) ?_ ⟨Ce,h2⟩ (by omega)
     rw[Ak (n:=r.Be.length) Ce (by simp only[maxLen];omega)]
     show norm _ _=Bt _ _
     kernel_rfl
    all_goals
     obtain⟨rfl,_⟩:b=false∧True:=by rcases hq with h|h<;>first|exact⟨h.1,trivial⟩|(exfalso;simp at h)
     repeat'((conv=>whnf);first|(apply aI<;>intro hb<;>first|exact absurd hb (by first|assumption|decide)|(exfalso;simp only[Az]at hb<;>omega)|((try rw[hb]);(try simp only[Ad]at hb)))|(refine eI ?_ ?_;focus (and_intros<;>first|omega|exact rfl|(intro _ hh;cases hh;done)|(simp;done)|decide))|(intro Aa)|((with_reducible apply A5.B5);(focus kernel_rfl);intro Aa;(try simp only[dRS]at Aa))|((try dsimp only);first|rw[Av he]|rw[An he]|rw[Ap he])|(refine Aj.mk ⟨_,_,nm,?_⟩)|(refine Aj.mk ⟨_,_,i1,?_⟩)|(refine Aj.mk ⟨_,_,i2,?_⟩)|((try dsimp only);rw[hw])|((try dsimp only);first|rw[Av hy]|rw[An hy]|rw[Ap hy]))
     all_goals(try(conv=>whnf))
     all_goals first|contradiction|(apply dK<;>kernel_rfl)
   ·have Q9:=Ak1 hle;obtain⟨rfl,_⟩:b=false∧True:=by
     rcases hq with h|h
     ·exact absurd (h.1.2 y h0 hy) hle
     ·exact⟨h.1,trivial⟩
    repeat'((conv=>whnf);first|(apply aI<;>intro hb<;>first|exact absurd hb (by first|assumption|decide)|(exfalso;simp only[Az]at hb<;>omega)|((try rw[hb]);(try simp only[Ad]at hb);(try subst hb)))|(refine eI ?_ ?_;focus (and_intros<;>first|omega|exact rfl|(intro _ hh;cases hh;done)|(simp;done)|decide))|(intro Aa)|((with_reducible apply A5.B5);(focus kernel_rfl);intro Aa;(try simp only[dRS]at Aa))|((try dsimp only);first|rw[Av he]|rw[An he]|rw[Ap he])|(refine Aj.mk ⟨_,_,nm,?_⟩)|(refine Aj.mk ⟨_,_,i1,?_⟩)|(refine Aj.mk ⟨_,_,i2,?_⟩)|((try dsimp only);rw[hw])|((try dsimp only);first|rw[Av hy]|rw[An hy]|rw[Ap hy]))
    all_goals(try(conv=>whnf))
    all_goals first|contradiction|(apply dK<;>kernel_rfl)
 have Bb:¬decide ((k:Int)<((r.Be.map B7.Ae).length:Int))=true:=by simp;omega
 have hrT:J3 (r.Be.map B7.name):=fun i x hx=>by
  have:=(List.getElem?_eq_some_iff.1 hx).1;rw[List.length_map]at this;exact(hA i (by omega)).1 x hx
 have Aww:∀t∈r.Be,Dq t.mb=true∧Dq t.ks=true:=fun t ht=>by
  obtain⟨i,hi⟩:=List.getElem?_of_mem ht;exact(hA i (by have:=(List.getElem?_eq_some_iff.1 hi).1;omega)).2 t hi
 obtain rfl:k=r.Be.length:=by omega
 clear hA hk Ce;repeat'((conv=>whnf);first|(apply aI<;>intro hb<;>first|exact absurd hb (by assumption)|((try rw[hb]);(try simp only[Ad]at hb)))|(refine eI ?_ ?_;focus (and_intros<;>first|omega|exact rfl|(simp;done)))|(intro Aa))
 all_goals(try(conv=>whnf))
 clear Bb;refine Bq.by (X:=Nat) (fun k=>[(5,.v (.int .i64 k))]) (fun k=>k≤r.Am.length∧∀i<k,Bfg r i) (fun k=>r.Am.length - k)
  0 (by kernel_rfl) ⟨Nat.zero_le _,by intro i hi;omega⟩ ?_
 rintro k ⟨hk,hA⟩;by_cases Ce:k<r.Am.length
 ·obtain⟨e,he⟩:∃e,r.Am[k]?=some e:=⟨_,List.getElem?_eq_getElem Ce⟩;have Bb:¬decide ((k:Int)<((r.Am.map Bh.Ae).length:Int))=false:=by simp[Ce]
  have nm:=S1 e.name;have i1:=D6 r e.Du (by omega)
  have V2:=List.mem_of_getElem? he;have hgl:=b5 e V2;have hq:(Eu (r.Am.map Bh.name) k∧(Fc r.Be e.Du).2=true∧e.A4.length≤8∧∀i,Lt e.A4 i)∨(b=false∧¬(Eu (r.Am.map Bh.name) k∧(Fc r.Be e.Du).2=true∧e.A4.length≤8∧∀i,Lt e.A4 i)):=by
   by_cases h:Eu (r.Am.map Bh.name) k∧(Fc r.Be e.Du).2=true∧e.A4.length≤8∧∀i,Lt e.A4 i
   ·exact .inl h
   ·exact .inr ⟨bad fun h'=>h ⟨h'.rX k,(h'.Am e V2).Du,(h'.Am e V2).grs⟩,h⟩
  have Mh:(Eu (r.Am.map Bh.name) k∧(Fc r.Be e.Du).2=true∧e.A4.length≤8∧∀i,Lt e.A4 i)→∀i<k+1,Bfg r i:=fun h i hi=>by
   rcases Nat.lt_succ_iff_lt_or_eq.1 hi with h'|rfl
   ·exact hA i h'
   ·exact⟨h.1,fun t ht=>by rw[he]at ht;cases ht;exact⟨h.2.1,h.2.2⟩⟩
  rw[Ab0 he]at hq Mh;have tt:((Fc r.Be e.Du).2=false∧r.Hn e.Du= -1)∨∃j:Nat,(Fc r.Be e.Du).2=true∧r.Hn e.Du=(j:Int):=by
   rcases Bcq r e.Du with h|⟨j,x,h1,h2,_⟩
   ·exact .inl h
   ·exact .inr ⟨j,by rw[h1],h2⟩
  clear hA bad hB;generalize r.Hn e.Du=z at i1 tt;generalize (Fc r.Be e.Du).2=v1 at*;generalize D2 e.name=v0 at*;cases v0 with
  |false=>
   obtain⟨rfl,_⟩:b=false∧True:=by rcases hq with h|h<;>first|exact⟨h.1,trivial⟩|(exfalso;simp at h)
   repeat'((conv=>whnf);first|(apply aI<;>intro hb<;>first|exact absurd hb (by first|assumption|decide)|((try rw[hb]);(try simp only[Ad]at hb)))|(refine eI ?_ ?_;focus (and_intros<;>first|omega|exact rfl|(intro _ hh;cases hh;done)|(simp;done)|decide))|(intro Aa)|((with_reducible apply A5.B5);(focus kernel_rfl);intro Aa;(try simp only[dRS]at Aa))|((try dsimp only);first|rw[Av he]|rw[An he]|rw[Ap he])|(refine Aj.mk ⟨_,_,nm,?_⟩))
   all_goals(try(conv=>whnf))
   all_goals first|contradiction|(apply dK<;>kernel_rfl)
  |true=>
  by_cases Wn:∀y,0<k→r.Am[k - 1]?=some y→y.name<e.name
  case neg=>
   obtain⟨rfl,_⟩:b=false∧True:=by
    rcases hq with h|h
    ·exact absurd h.1.2 Wn
    ·exact⟨h.1,trivial⟩
   obtain⟨y,h0,hy,hle⟩:∃y,0<k∧r.Am[k - 1]?=some y∧¬y.name<e.name:=by
    simp only[Classical.not_forall]at Wn;obtain⟨y,h0,hy,h⟩:=Wn;exact⟨y,h0,hy,h⟩
   have hw:IntKind.i64.wrap ((k:Int) - 1)=((k - 1:Nat):Int):=by rw[Cf (by omega)];omega
   have Q9:=Ak1 hle;repeat'((conv=>whnf);first|(apply aI<;>intro hb<;>first|exact absurd hb (by first|assumption|decide)|(exfalso;simp only[Az]at hb<;>omega)|((try rw[hb]);(try simp only[Ad]at hb)))|(refine eI ?_ ?_;focus (and_intros<;>first|omega|exact rfl|(intro _ hh;cases hh;done)|(simp;done)|decide))|(intro Aa)|((with_reducible apply A5.B5);(focus kernel_rfl);intro Aa;(try simp only[dRS]at Aa))|((try dsimp only);first|rw[Av he]|rw[An he]|rw[Ap he])|(refine Aj.mk ⟨_,_,nm,?_⟩)|((try dsimp only);rw[hw])|((try dsimp only);first|rw[Av hy]|rw[An hy]|rw[Ap hy]))
   all_goals(try(conv=>whnf))
   all_goals first|contradiction|(apply dK<;>kernel_rfl)
  have hoy:k=0∨∃y,0<k∧r.Am[k - 1]?=some y∧¬(decide (e.name<y.name)||decide (e.name=y.name))=true∧IntKind.i64.wrap ((k:Int) - 1)=((k - 1:Nat):Int):=by
   rcases Nat.eq_zero_or_pos k with h|h
   ·exact .inl h
   ·obtain⟨y,hy⟩:∃y,r.Am[k - 1]?=some y:=⟨_,List.getElem?_eq_getElem (by omega)⟩
    exact .inr ⟨y,h,hy,Aqj (Wn y h hy),by rw[Cf (by omega)];omega⟩
  rcases tt with⟨rfl,rfl⟩|⟨j0,rfl,rfl⟩
  ·obtain⟨rfl,_⟩:b=false∧True:=by rcases hq with h|h<;>first|exact⟨h.1,trivial⟩|(exfalso;simp at h)
   rcases hoy with h0|⟨y,h0,hy,Q9,hw⟩
   all_goals
    repeat'((conv=>whnf);first|(apply aI<;>intro hb<;>first|exact absurd hb (by first|assumption|decide)|(exfalso;simp only[Az]at hb<;>omega)|((try rw[hb]);(try simp only[Ad]at hb)))|(refine eI ?_ ?_;focus (and_intros<;>first|omega|exact rfl|(intro _ hh;cases hh;done)|(simp;done)|decide))|(intro Aa)|((with_reducible apply A5.B5);(focus kernel_rfl);intro Aa;(try simp only[dRS]at Aa))|((try dsimp only);first|rw[Av he]|rw[An he]|rw[Ap he])|(refine Aj.mk ⟨_,_,nm,?_⟩)|(refine Aj.mk ⟨_,_,i1,?_⟩)|((try dsimp only);rw[hw])|((try dsimp only);first|rw[Av hy]|rw[An hy]|rw[Ap hy]))
    all_goals(try(conv=>whnf))
    all_goals first|contradiction|(apply dK<;>kernel_rfl)
  by_cases h8:e.A4.length≤8
  case neg=>
   obtain⟨rfl,_⟩:b=false∧True:=by
    rcases hq with h|h
    ·exact absurd h.2.2.1 h8
    ·exact⟨h.1,trivial⟩
   rcases hoy with h0|⟨y,h0,hy,Q9,hw⟩
   all_goals
    repeat'((conv=>whnf);first|(apply aI<;>intro hb<;>first|exact absurd hb (by first|assumption|decide)|(exfalso;simp only[Az]at hb<;>omega)|((try rw[hb]);(try simp only[Ad]at hb)))|(refine eI ?_ ?_;focus (and_intros<;>first|omega|exact rfl|(intro _ hh;cases hh;done)|(simp;done)|decide))|(intro Aa)|((with_reducible apply A5.B5);(focus kernel_rfl);intro Aa;(try simp only[dRS]at Aa))|((try dsimp only);first|rw[Av he]|rw[An he]|rw[Ap he])|(refine Aj.mk ⟨_,_,nm,?_⟩)|(refine Aj.mk ⟨_,_,i1,?_⟩)|((try dsimp only);rw[hw])|((try dsimp only);first|rw[Av hy]|rw[An hy]|rw[Ap hy]))
    all_goals(try(conv=>whnf))
    all_goals first|contradiction|(exfalso;omega)|(apply dK<;>kernel_rfl)
  rcases hoy with h0|⟨y,h0,hy,Q9,hw⟩
  all_goals
   repeat'((conv=>whnf);first|(apply aI<;>intro hb<;>first|exact absurd hb (by first|assumption|decide)|(exfalso;simp only[Az]at hb<;>omega)|((try rw[hb]);(try simp only[Ad]at hb)))|(refine eI ?_ ?_;focus (and_intros<;>first|omega|exact rfl|(intro _ hh;cases hh;done)|(simp;done)|decide))|(intro Aa)|((with_reducible apply A5.B5);(focus kernel_rfl);intro Aa;(try simp only[dRS]at Aa))|((try dsimp only);first|rw[Av he]|rw[An he]|rw[Ap he])|(refine Aj.mk ⟨_,_,nm,?_⟩)|(refine Aj.mk ⟨_,_,i1,?_⟩)|((try dsimp only);rw[hw])|((try dsimp only);first|rw[Av hy]|rw[An hy]|rw[Ap hy]))
   all_goals(try(conv=>whnf))
   all_goals first|contradiction|(exfalso;omega)|skip
   refine Bq.by (X:=Nat) (fun j=>[(7,.v (.int .i64 j))]) (fun j=>j≤e.A4.length∧∀i<j,Lt e.A4 i) (fun j=>e.A4.length - j)
    0 (by kernel_rfl) ⟨Nat.zero_le _,by intro i hi;omega⟩ ?_
   rintro j ⟨hj,hG⟩;by_cases Jw:j<e.A4.length
   case neg=>
    have Rk:¬decide ((j:Int)<((e.A4.map Dg.Ae).length:Int))=true:=by simp;omega
    have Gm:∀i,Lt e.A4 i:=fun i x hx=>by
     have:=(List.getElem?_eq_some_iff.1 hx).1;exact hG i (by omega) x hx
    repeat'((conv=>whnf);first|(apply aI<;>intro hb<;>first|exact absurd hb (by assumption)|((try rw[hb]);(try simp only[Ad]at hb)))|(refine eI ?_ ?_;focus (and_intros<;>first|omega|exact rfl|(simp;done)))|(intro Aa))
    all_goals(try(conv=>whnf))
    refine Round.by (k+1) ?_ ⟨Ce,Mh ⟨⟨rfl,Wn⟩,rfl,h8,Gm⟩⟩ (by omega)
    rw[Ak (n:=r.Am.length) Ce (by simp only[maxLen];omega)]
    show norm _ _=Bt _ _
    kernel_rfl
   obtain⟨g,hg⟩:∃g,e.A4[j]?=some g:=⟨_,List.getElem?_eq_getElem Jw⟩;have Rk:¬decide ((j:Int)<((e.A4.map Dg.Ae).length:Int))=false:=by simp[Jw]
   have i3:=Akf g;have i4:=Wv (e.A4.take j) g (by rw[List.length_take];omega)
   rw[List.map_take]at i4;have hga:=Bkk hg;have hgq:Lt e.A4 j∨b=false:=by
    rcases hq with h|h
    ·exact .inl (h.2.2.2 j)
    ·exact .inr h.1
   have hgx:Lt e.A4 j→∀i<j+1,Lt e.A4 i:=fun h i hi=>by
    rcases Nat.lt_succ_iff_lt_or_eq.1 hi with h'|rfl
    ·exact hG i h'
    ·exact h
   rw[hga]at hgq hgx;clear hga hq Mh hG;generalize (decide (Dk g.sp)&&(g.r||g.w))=v3 at*;generalize ((e.A4.take j).any fun x=>decide (x=g))=v4 at*
   cases v3<;>cases v4
   case true.false=>
    have h2:=hgx ⟨rfl,rfl⟩;repeat'((conv=>whnf);first|(apply aI<;>intro hb<;>first|exact absurd hb (by first|assumption|decide)|((try rw[hb]);(try simp only[Ad]at hb)))|(refine eI ?_ ?_;focus (and_intros<;>first|omega|exact rfl|(intro _ hh;cases hh;done)|exact size_map (fun _=>rfl)|(simp only[Az];omega)|(simp;done)|decide))|(intro Aa)|((with_reducible apply A5.B5);(focus kernel_rfl);intro Aa;(try simp only[dRS]at Aa))|((try dsimp only);first|rw[Av hg]|rw[An hg]|rw[Ap hg])|(refine Aj.mk ⟨_,_,i3,?_⟩)|(refine Aj.mk ⟨_,_,i4,?_⟩)|((simp only[List.headD,Int.toNat_natCast,List.drop_zero])))
    all_goals(try(conv=>whnf))
    all_goals first|contradiction|skip
    refine Round.by (j+1) ?_ ⟨Jw,h2⟩ (by omega)
    rw[Ak (n:=e.A4.length) Jw (by simp only[maxLen];omega)]
    show norm _ _=Bt _ _
    kernel_rfl
   all_goals
    obtain⟨rfl,_⟩:b=false∧True:=by rcases hgq with h|h<;>first|exact⟨h,trivial⟩|exact absurd h (by decide)
    repeat'((conv=>whnf);first|(apply aI<;>intro hb<;>first|exact absurd hb (by first|assumption|decide)|((try rw[hb]);(try simp only[Ad]at hb)))|(refine eI ?_ ?_;focus (and_intros<;>first|omega|exact rfl|(intro _ hh;cases hh;done)|exact size_map (fun _=>rfl)|(simp only[Az];omega)|(simp;done)|decide))|(intro Aa)|((with_reducible apply A5.B5);(focus kernel_rfl);intro Aa;(try simp only[dRS]at Aa))|((try dsimp only);first|rw[Av hg]|rw[An hg]|rw[Ap hg])|(refine Aj.mk ⟨_,_,i3,?_⟩)|(refine Aj.mk ⟨_,_,i4,?_⟩)|((simp only[List.headD,Int.toNat_natCast,List.drop_zero])))
    all_goals(try(conv=>whnf))
    all_goals first|contradiction|(apply dK<;>kernel_rfl)
 have Bb:¬decide ((k:Int)<((r.Am.map Bh.Ae).length:Int))=true:=by simp;omega
 have hrX:J3 (r.Am.map Bh.name):=fun i x hx=>by
  have:=(List.getElem?_eq_some_iff.1 hx).1;rw[List.length_map]at this;exact(hA i (by omega)).1 x hx
 have Awu:∀x∈r.Am,Axj r x:=fun t ht=>by
  obtain⟨i,hi⟩:=List.getElem?_of_mem ht;exact(hA i (by have:=(List.getElem?_eq_some_iff.1 hi).1;omega)).2 t hi
 obtain rfl:k=r.Am.length:=by omega
 clear hA hk Ce;repeat'((conv=>whnf);first|(apply aI<;>intro hb<;>first|exact absurd hb (by assumption)|((try rw[hb]);(try simp only[Ad]at hb)))|(refine eI ?_ ?_;focus (and_intros<;>first|omega|exact rfl|(simp;done)))|(intro Aa))
 all_goals(try(conv=>whnf))
 clear Bb;refine Bq.by (X:=Nat) (fun k=>[(8,.v (.int .i64 k))]) (fun k=>k≤r.Ag.length∧∀i<k,A57 r i) (fun k=>r.Ag.length - k)
  0 (by kernel_rfl) ⟨Nat.zero_le _,by intro i hi;omega⟩ ?_
 rintro k ⟨hk,hA⟩;by_cases Ce:k<r.Ag.length
 case neg=>
  have Bb:¬decide ((k:Int)<((r.Ag.map Bc.Ae).length:Int))=true:=by simp;omega
  have hrU:J3 (r.Ag.map Bc.name):=fun i x hx=>by
   have:=(List.getElem?_eq_some_iff.1 hx).1;rw[List.length_map]at this;exact(hA i (by omega)).1 x hx
  have A62:∀x∈r.Ag,R3 r x:=fun t ht=>by
   obtain⟨i,hi⟩:=List.getElem?_of_mem ht;exact(hA i (by have:=(List.getElem?_eq_some_iff.1 hi).1;omega)).2 t hi
  obtain rfl:b=true:=hB.2 ⟨⟨n1,n2,n3,n4,n5⟩,hrT,hrU,hrX,Aww,Awu,A62,hu⟩;repeat'((conv=>whnf);first|(apply aI<;>intro hb<;>first|exact absurd hb (by assumption)|((try rw[hb]);(try simp only[Ad]at hb)))|(refine eI ?_ ?_;focus (and_intros<;>first|omega|exact rfl|(simp;done)))|(intro Aa))
  all_goals(try(conv=>whnf))
  (apply dK<;>kernel_rfl)
 obtain⟨e,he⟩:∃e,r.Ag[k]?=some e:=⟨_,List.getElem?_eq_getElem Ce⟩;have Bb:¬decide ((k:Int)<((r.Ag.map Bc.Ae).length:Int))=false:=by simp[Ce]
 have nm:=S1 e.name;have i1:=D6 r e.Du (by omega)
 have V2:=List.mem_of_getElem? he;have hrl:=b4 e V2;have hq:(Eu (r.Ag.map Bc.name) k∧R3 r e)∨b=false:=by
  by_cases h:Eu (r.Ag.map Bc.name) k∧R3 r e
  ·exact .inl h
  ·exact .inr (bad fun h'=>h ⟨h'.rU k,h'.Ag e V2⟩)
 have Mh:(Eu (r.Ag.map Bc.name) k∧R3 r e)→∀i<k+1,A57 r i:=fun h i hi=>by
  rcases Nat.lt_succ_iff_lt_or_eq.1 hi with h'|rfl
  ·exact hA i h'
  ·exact⟨h.1,fun t ht=>by rw[he]at ht;cases ht;exact h.2⟩
 have rn:∀n,(F3 r.Am n).2=true→D2 n=true:=fun n hn=>by
  rcases Bbf r n with⟨h,_⟩|⟨j,x,_,_,h1,h2⟩
  ·rw[hn]at h;cases h
  ·have:=((Ab0 (f:=Bh.name) h2).1 (hrX j)).1;rw[h1]at this;exact this
 rw[Ab0 he]at hq Mh;have tt:((Fc r.Be e.Du).2=false∧r.Hn e.Du= -1)∨∃j:Nat,(Fc r.Be e.Du).2=true∧r.Hn e.Du=(j:Int):=by
  rcases Bcq r e.Du with h|⟨j,x,h1,h2,_⟩
  ·exact .inl h
  ·exact .inr ⟨j,by rw[h1],h2⟩
 clear hA bad hB Aww Awu hrT hrX;by_cases hn:D2 e.name=true
 case neg=>
  obtain rfl:b=false:=by rcases hq with h|h<;>first|exact h|exact absurd h.1.1 hn
  rw[Bool.not_eq_true]at hn;rw[hn]at nm;repeat'((conv=>whnf);first|(apply aI<;>intro hb<;>first|exact absurd hb (by first|assumption|decide)|((try rw[hb]);(try simp only[Ad]at hb)))|(refine eI ?_ ?_;focus (and_intros<;>first|omega|exact rfl|(intro _ hh;cases hh;done)|(simp;done)|decide))|(intro Aa)|((with_reducible apply A5.B5);(focus kernel_rfl);intro Aa;(try simp only[dRS]at Aa))|((try dsimp only);first|rw[Av he]|rw[An he]|rw[Ap he])|(refine Aj.mk ⟨_,_,nm,?_⟩))
  all_goals(try(conv=>whnf))
  all_goals first|contradiction|(apply dK<;>kernel_rfl)
 rw[hn]at nm;by_cases Wn:∀y,0<k→r.Ag[k - 1]?=some y→y.name<e.name
 case neg=>
  obtain rfl:b=false:=by rcases hq with h|h<;>first|exact h|exact absurd h.1.2 Wn
  obtain⟨y,h0,hy,hle⟩:∃y,0<k∧r.Ag[k - 1]?=some y∧¬y.name<e.name:=by
   simp only[Classical.not_forall]at Wn;obtain⟨y,h0,hy,h⟩:=Wn;exact⟨y,h0,hy,h⟩
  have hw:IntKind.i64.wrap ((k:Int) - 1)=((k - 1:Nat):Int):=by rw[Cf (by omega)];omega
  have Q9:=Ak1 hle;repeat'((conv=>whnf);first|(apply aI<;>intro hb<;>first|exact absurd hb (by first|assumption|decide)|(exfalso;simp only[Az]at hb<;>omega)|((try rw[hb]);(try simp only[Ad]at hb)))|(refine eI ?_ ?_;focus (and_intros<;>first|omega|exact rfl|(intro _ hh;cases hh;done)|(simp;done)|decide))|(intro Aa)|((with_reducible apply A5.B5);(focus kernel_rfl);intro Aa;(try simp only[dRS]at Aa))|((try dsimp only);first|rw[Av he]|rw[An he]|rw[Ap he])|(refine Aj.mk ⟨_,_,nm,?_⟩)|((try dsimp only);rw[hw])|((try dsimp only);first|rw[Av hy]|rw[An hy]|rw[Ap hy]))
  all_goals(try(conv=>whnf))
  all_goals first|contradiction|(apply dK<;>kernel_rfl)
 have hoy:k=0∨∃y,0<k∧r.Ag[k - 1]?=some y∧¬(decide (e.name<y.name)||decide (e.name=y.name))=true∧IntKind.i64.wrap ((k:Int) - 1)=((k - 1:Nat):Int):=by
  rcases Nat.eq_zero_or_pos k with h|h
  ·exact .inl h
  ·obtain⟨y,hy⟩:∃y,r.Ag[k - 1]?=some y:=⟨_,List.getElem?_eq_getElem (by omega)⟩
   exact .inr ⟨y,h,hy,Aqj (Wn y h hy),by rw[Cf (by omega)];omega⟩
 by_cases h8:e.Bp.length≤64∧e.hash.length=32∧e.A2.length≤4
 case neg=>
  obtain rfl:b=false:=by rcases hq with h|h<;>first|exact h|exact absurd ⟨h.2.Bp,h.2.hash,h.2.many⟩ h8
  rcases hoy with h0|⟨y,h0,hy,Q9,hw⟩
  all_goals
   repeat'((conv=>whnf);first|(apply aI<;>intro hb<;>first|exact absurd hb (by first|assumption|decide)|(exfalso;simp only[Az]at hb<;>omega)|((try rw[hb]);(try simp only[Ad]at hb)))|(refine eI ?_ ?_;focus (and_intros<;>first|omega|exact rfl|(intro _ hh;cases hh;done)|(simp;done)|decide))|(intro Aa)|((with_reducible apply A5.B5);(focus kernel_rfl);intro Aa;(try simp only[dRS]at Aa))|((try dsimp only);first|rw[Av he]|rw[An he]|rw[Ap he])|(refine Aj.mk ⟨_,_,nm,?_⟩)|((try dsimp only);rw[hw])|((try dsimp only);first|rw[Av hy]|rw[An hy]|rw[Ap hy]))
   all_goals(try(conv=>whnf))
   all_goals first|contradiction|(exfalso;omega)|(exfalso;simp at*;omega)|skip
   all_goals(apply dK<;>kernel_rfl)
 obtain⟨k1,k2,k3⟩:=h8;have hg2:((e.name=[114,111,111,116]→e.Du=[]∧e.A2=[])∧(e.name≠[114,111,111,116]→(Fc r.Be e.Du).2=true))∨b=false:=by
  rcases hq with h|h
  ·exact .inl ⟨h.2.root,h.2.Du⟩
  ·exact .inr h
 have hl4:e.A2.length≤4:=k3;have fin:b=false→(D2 e.name=true∧∀y,0<k→r.Ag[k - 1]?=some y→y.name<e.name)∧R3 r e∨b=false:=fun h=>.inr h
 by_cases Dp:e.name=[114,111,111,116]
 ·have r1:¬decide (e.name=[114,111,111,116])=false:=by simp[Dp]
  clear fin;by_cases hrt:e.Du=[]∧e.A2=[]
  case neg=>
   obtain rfl:b=false:=by
    rcases hg2 with h|h
    ·exact absurd (h.1 Dp) hrt
    ·exact h
   rcases hoy with h0|⟨y,h0,hy,Q9,hw⟩
   all_goals
    repeat'((conv=>whnf);first|(apply aI<;>intro hb<;>first|exact absurd hb (by first|assumption|decide)|(exfalso;simp only[Az]at hb<;>omega)|((try rw[hb]);(try simp only[Ad]at hb)))|(refine eI ?_ ?_;focus (and_intros<;>first|omega|exact rfl|(intro _ hh;cases hh;done)|(simp;done)|decide))|(intro Aa)|((with_reducible apply A5.B5);(focus kernel_rfl);intro Aa;(try simp only[dRS]at Aa))|((try dsimp only);first|rw[Av he]|rw[An he]|rw[Ap he])|(refine Aj.mk ⟨_,_,nm,?_⟩)|((try dsimp only);rw[hw])|((try dsimp only);first|rw[Av hy]|rw[An hy]|rw[Ap hy]))
    all_goals(try(conv=>whnf))
    all_goals first|(apply dK<;>kernel_rfl)|contradiction|(exfalso;omega)|(exfalso;simp_all;done)
  obtain⟨q1,q2⟩:=hrt;have q3:e.A2.length=0:=by rw[q2];rfl
  have q4:¬(!decide (e.Du=[]))=true:=by simp[q1]
  have hU:R3 r e:=⟨k1,k2,k3,by rw[q2];intro i x hx;simp at hx,fun _=>⟨q1,q2⟩,fun h=>absurd Dp h,fun h=>absurd Dp h⟩
  have h2:=Mh ⟨⟨hn,Wn⟩,hU⟩;clear hg2 hq Mh tt i1;rcases hoy with h0|⟨y,h0,hy,Q9,hw⟩
  all_goals
   repeat'((conv=>whnf);first|(apply aI<;>intro hb<;>first|exact absurd hb (by first|assumption|decide)|(exfalso;simp only[Az]at hb<;>omega)|((try rw[hb]);(try simp only[Ad]at hb)))|(refine eI ?_ ?_;focus (and_intros<;>first|omega|exact rfl|(intro _ hh;cases hh;done)|(simp;done)|decide))|(intro Aa)|((with_reducible apply A5.B5);(focus kernel_rfl);intro Aa;(try simp only[dRS]at Aa))|((try dsimp only);first|rw[Av he]|rw[An he]|rw[Ap he])|(refine Aj.mk ⟨_,_,nm,?_⟩)|((try dsimp only);rw[hw])|((try dsimp only);first|rw[Av hy]|rw[An hy]|rw[Ap hy]))
   all_goals(try(conv=>whnf))
   all_goals first|contradiction|(exfalso;omega)|skip
   refine Bq.by (X:=Nat) (fun j=>[(10,.v (.int .i64 j))]) (fun j=>j=0) (fun _=>0)
    0 (by kernel_rfl) rfl ?_
   rintro j rfl;have Rk:¬decide (((0:Nat):Int)<((strs e.A2).length:Int))=true:=by simp[q2]
   repeat'((conv=>whnf);first|(apply aI<;>intro hb<;>first|exact absurd hb (by assumption)|((try rw[hb]);(try simp only[Ad]at hb)))|(refine eI ?_ ?_;focus (and_intros<;>first|omega|exact rfl|(simp;done)))|(intro Aa))
   all_goals(try(conv=>whnf))
   all_goals first|contradiction|skip
   refine Round.by (k+1) ?_ ⟨Ce,h2⟩ (by omega)
   rw[Ak (n:=r.Ag.length) Ce (by simp only[maxLen];omega)]
   show norm _ _=Bt _ _
   kernel_rfl
 have r1:¬decide (e.name=[114,111,111,116])=true:=by simp[Dp]
 rcases tt with⟨t1,t2⟩|⟨j0,t1,t2⟩
 ·obtain rfl:b=false:=by
   rcases hg2 with h|h
   ·have:=h.2 Dp;rw[t1]at this;cases this
   ·exact h
  rw[t2]at i1;rcases hoy with h0|⟨y,h0,hy,Q9,hw⟩
  all_goals
   repeat'((conv=>whnf);first|(apply aI<;>intro hb<;>first|exact absurd hb (by first|assumption|decide)|(exfalso;simp only[Az]at hb<;>omega)|((try rw[hb]);(try simp only[Ad]at hb)))|(refine eI ?_ ?_;focus (and_intros<;>first|omega|exact rfl|(intro _ hh;cases hh;done)|(simp;done)|decide))|(intro Aa)|((with_reducible apply A5.B5);(focus kernel_rfl);intro Aa;(try simp only[dRS]at Aa))|((try dsimp only);first|rw[Av he]|rw[An he]|rw[Ap he])|(refine Aj.mk ⟨_,_,nm,?_⟩)|(refine Ac.mk ⟨_,i1,?_⟩;rintro _ _ ⟨rfl,rfl⟩)|((try dsimp only);rw[hw])|((try dsimp only);first|rw[Av hy]|rw[An hy]|rw[Ap hy]))
   all_goals(try(conv=>whnf))
   all_goals first|(apply dK<;>kernel_rfl)|contradiction|(exfalso;omega)|(exfalso;simp_all;done)
 rw[t2]at i1;clear t2;have Jg:(J3 e.A2∧∀n∈e.A2,Nk r e n)∨b=false:=by
  rcases hq with h|h
  ·exact .inl ⟨h.2.Bes,h.2.rol Dp⟩
  ·exact .inr h
 have Bjv:(J3 e.A2∧∀n∈e.A2,Nk r e n)→∀i<k+1,A57 r i:=fun h=>Mh ⟨⟨hn,Wn⟩,⟨k1,k2,k3,h.1,fun h=>absurd h Dp,fun _=>t1,fun _=>h.2⟩⟩
 clear hq Mh hg2 fin;rcases hoy with h0|⟨y,h0,hy,Q9,hw⟩
 all_goals
  repeat'((conv=>whnf);first|(apply aI<;>intro hb<;>first|exact absurd hb (by first|assumption|decide)|(exfalso;simp only[Az]at hb<;>omega)|((try rw[hb]);(try simp only[Ad]at hb)))|(refine eI ?_ ?_;focus (and_intros<;>first|omega|exact rfl|(intro _ hh;cases hh;done)|(simp;done)|decide))|(intro Aa)|((with_reducible apply A5.B5);(focus kernel_rfl);intro Aa;(try simp only[dRS]at Aa))|((try dsimp only);first|rw[Av he]|rw[An he]|rw[Ap he])|(refine Aj.mk ⟨_,_,nm,?_⟩)|(refine Ac.mk ⟨_,i1,?_⟩;rintro _ _ ⟨rfl,rfl⟩)|((try dsimp only);rw[hw])|((try dsimp only);first|rw[Av hy]|rw[An hy]|rw[Ap hy]))
  all_goals(try(conv=>whnf))
  all_goals first|contradiction|(exfalso;omega)|skip
  refine Bq.by (X:=Nat) (fun j=>[(10,.v (.int .i64 j))]) (fun j=>j≤e.A2.length∧∀i<j,Eu e.A2 i∧∀n,e.A2[i]?=some n→Nk r e n) (fun j=>e.A2.length - j)
   0 (by kernel_rfl) ⟨Nat.zero_le _,by intro i hi;omega⟩ ?_
  rintro j ⟨hj,hG⟩;by_cases Jw:j<e.A2.length
  case neg=>
   have Rk:¬decide ((j:Int)<((strs e.A2).length:Int))=true:=by simp;omega
   have h2:=Bjv ⟨fun i x hx=>by
    have:=(List.getElem?_eq_some_iff.1 hx).1;exact(hG i (by omega)).1 x hx,fun n hn=>by
    obtain⟨i,hi⟩:=List.getElem?_of_mem hn;have:=(List.getElem?_eq_some_iff.1 hi).1;exact(hG i (by omega)).2 n hi⟩
   repeat'((conv=>whnf);first|(apply aI<;>intro hb<;>first|exact absurd hb (by assumption)|((try rw[hb]);(try simp only[Ad]at hb)))|(refine eI ?_ ?_;focus (and_intros<;>first|omega|exact rfl|(simp;done)))|(intro Aa))
   all_goals(try(conv=>whnf))
   all_goals first|contradiction|skip
   refine Round.by (k+1) ?_ ⟨Ce,h2⟩ (by omega)
   rw[Ak (n:=r.Ag.length) Ce (by simp only[maxLen];omega)]
   show norm _ _=Bt _ _
   kernel_rfl
  obtain⟨n,hg⟩:∃n,e.A2[j]?=some n:=⟨_,List.getElem?_eq_getElem Jw⟩;have Rk:¬decide ((j:Int)<((strs e.A2).length:Int))=false:=by simp[Jw]
  have i5:=Fs r n (by omega)
  have hrn:=rn n;have hgq:(Eu e.A2 j∧Nk r e n)∨b=false:=by
   rcases Jg with h|h
   ·exact .inl ⟨h.1 j,h.2 n (List.mem_of_getElem? hg)⟩
   ·exact .inr h
  have hgx:(Eu e.A2 j∧Nk r e n)→∀i<j+1,Eu e.A2 i∧∀n,e.A2[i]?=some n→Nk r e n:=fun h i hi=>by
   rcases Nat.lt_succ_iff_lt_or_eq.1 hi with h'|rfl
   ·exact hG i h'
   ·exact⟨h.1,fun m hm=>by rw[hg]at hm;cases hm;exact h.2⟩
  clear Jg Bjv hG rn;rcases Bbf r n with⟨z1,z2⟩|⟨j1,x,z1,z2,z3,z4⟩
  ·obtain rfl:b=false:=by
    rcases hgq with h|h
    ·have:=h.2.1;rw[z1]at this;cases this
    ·exact h
   rw[z2]at i5;repeat'((conv=>whnf);first|(apply aI<;>intro hb<;>first|exact absurd hb (by first|assumption|decide)|((try rw[hb]);(try simp only[Ad]at hb)))|(refine eI ?_ ?_;focus (and_intros<;>first|omega|exact rfl|(intro _ hh;cases hh;done)|(simp;done)|decide))|(intro Aa)|((with_reducible apply A5.B5);(focus kernel_rfl);intro Aa;(try simp only[dRS]at Aa))|((try dsimp only);first|rw[Av hg]|rw[An hg]|rw[Ap hg])|(refine Aj.mk ⟨_,_,i5,?_⟩))
   all_goals(try(conv=>whnf))
   all_goals first|(apply dK<;>kernel_rfl)|contradiction
  rw[z2]at i5;by_cases hx:x.Du=e.Du
  case neg=>
   obtain rfl:b=false:=by
    rcases hgq with h|h
    ·have:=h.2.2;rw[z1]at this;exact absurd this hx
    ·exact h
   repeat'((conv=>whnf);first|(apply aI<;>intro hb<;>first|exact absurd hb (by first|assumption|decide)|(exfalso;simp only[Az]at hb<;>omega)|((try rw[hb]);(try simp only[Ad]at hb)))|(refine eI ?_ ?_;focus (and_intros<;>first|omega|exact rfl|(intro _ hh;cases hh;done)|(simp;done)|decide))|(intro Aa)|((with_reducible apply A5.B5);(focus kernel_rfl);intro Aa;(try simp only[dRS]at Aa))|((try dsimp only);first|rw[Av hg]|rw[An hg]|rw[Ap hg])|(refine Aj.mk ⟨_,_,i5,?_⟩)|((try dsimp only);first|rw[Av z4]|rw[An z4]|rw[Ap z4]))
   all_goals(try(conv=>whnf))
   all_goals first|(apply dK<;>kernel_rfl)|contradiction
  have hx1:¬(!decide (x.Du=e.Du))=true:=by simp[hx]
  have hro:Nk r e n:=⟨by rw[z1],by rw[z1];exact hx⟩
  have hnn:D2 n=true:=hrn hro.1;rcases Nat.eq_zero_or_pos j with rfl|Po
  ·have h2:=hgx ⟨fun m hm=>by rw[hg]at hm;cases hm;exact⟨hnn,fun _ h=>by omega⟩,hro⟩
   repeat'((conv=>whnf);first|(apply aI<;>intro hb<;>first|exact absurd hb (by first|assumption|decide)|(exfalso;simp only[Az]at hb<;>omega)|((try rw[hb]);(try simp only[Ad]at hb)))|(refine eI ?_ ?_;focus (and_intros<;>first|omega|exact rfl|(intro _ hh;cases hh;done)|(simp;done)|decide))|(intro Aa)|((with_reducible apply A5.B5);(focus kernel_rfl);intro Aa;(try simp only[dRS]at Aa))|((try dsimp only);first|rw[Av hg]|rw[An hg]|rw[Ap hg])|(refine Aj.mk ⟨_,_,i5,?_⟩)|((try dsimp only);first|rw[Av z4]|rw[An z4]|rw[Ap z4]))
   all_goals(try(conv=>whnf))
   all_goals first|contradiction|skip
   refine Round.by 1 ?_ ⟨Jw,h2⟩ (by omega)
   show norm _ _=Bt _ _
   kernel_rfl
  obtain⟨y2,hy2⟩:∃y,e.A2[j - 1]?=some y:=⟨_,List.getElem?_eq_getElem (by omega)⟩
  have hw2:IntKind.i64.wrap ((j:Int) - 1)=((j - 1:Nat):Int):=by rw[Cf (by omega)];omega
  by_cases hle:y2<n
  ·have hq3:=Aqj hle;have h2:=hgx ⟨fun m hm=>by rw[hg]at hm;cases hm;exact⟨hnn,fun z _ hz=>by rw[hy2]at hz;cases hz;exact hle⟩,hro⟩
   repeat'((conv=>whnf);first|(apply aI<;>intro hb<;>first|exact absurd hb (by first|assumption|decide)|(exfalso;simp only[Az]at hb<;>omega)|((try rw[hb]);(try simp only[Ad]at hb)))|(refine eI ?_ ?_;focus (and_intros<;>first|omega|exact rfl|(intro _ hh;cases hh;done)|(simp;done)|decide))|(intro Aa)|((with_reducible apply A5.B5);(focus kernel_rfl);intro Aa;(try simp only[dRS]at Aa))|((try dsimp only);first|rw[Av hg]|rw[An hg]|rw[Ap hg])|(refine Aj.mk ⟨_,_,i5,?_⟩)|((try dsimp only);first|rw[Av z4]|rw[An z4]|rw[Ap z4])|((try dsimp only);rw[hw2])|((try dsimp only);first|rw[Av hy2]|rw[An hy2]|rw[Ap hy2]))
   all_goals(try(conv=>whnf))
   all_goals first|contradiction|skip
   refine Round.by (j+1) ?_ ⟨Jw,h2⟩ (by omega)
   rw[Ak (n:=e.A2.length) Jw (by simp only[maxLen];omega)]
   show norm _ _=Bt _ _
   kernel_rfl
  ·have hq3:=Ak1 hle;obtain rfl:b=false:=by
    rcases hgq with h|h
    ·exact absurd ((h.1 n hg).2 y2 Po hy2) hle
    ·exact h
   repeat'((conv=>whnf);first|(apply aI<;>intro hb<;>first|exact absurd hb (by first|assumption|decide)|(exfalso;simp only[Az]at hb<;>omega)|((try rw[hb]);(try simp only[Ad]at hb)))|(refine eI ?_ ?_;focus (and_intros<;>first|omega|exact rfl|(intro _ hh;cases hh;done)|(simp;done)|decide))|(intro Aa)|((with_reducible apply A5.B5);(focus kernel_rfl);intro Aa;(try simp only[dRS]at Aa))|((try dsimp only);first|rw[Av hg]|rw[An hg]|rw[Ap hg])|(refine Aj.mk ⟨_,_,i5,?_⟩)|((try dsimp only);first|rw[Av z4]|rw[An z4]|rw[Ap z4])|((try dsimp only);rw[hw2])|((try dsimp only);first|rw[Av hy2]|rw[An hy2]|rw[Ap hy2]))
   all_goals(try(conv=>whnf))
   all_goals first|(apply dK<;>kernel_rfl)|contradiction
end Go.Ab

