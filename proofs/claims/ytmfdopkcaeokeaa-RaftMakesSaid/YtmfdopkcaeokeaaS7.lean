/- Lemmas -/
import Derived.Test.YtmfdopkcaeokeaaS2
set_option linter.unusedVariables false
set_option linter.unusedSimpArgs false
set_option maxRecDepth 100000
namespace Go.Ab
open Go.Proofs
def i64r (n:Int):Prop:= -9223372036854775808≤n∧n≤9223372036854775807
theorem D3 {n:Int}:inB n=true↔0≤n∧n≤1099511627776:=by simp[inB]
theorem Jm (n:Int):Bp n=(n+9223372036854775808) % 18446744073709551616 - 9223372036854775808:=by
 unfold Bp
 rw[IntKind.wrap_i64]
theorem Mr {ix:Int} (hix:0≤ix∧ix≤1099511627776):∀{es:List Ent} {k:Nat} {t:Int},k+es.length≤1000000→(∀e∈es,i64r e.i)→Ch ix k t es=true→
 (∀(j:Nat) (e:Ent),es[j]?=some e→e.i=ix+1+k+j∧t≤e.t)∧∀(j j':Nat) (e e':Ent),j≤j'→es[j]?=some e→es[j']?=some e'→e.t≤e'.t
 | [],k,t,_,_,_=>⟨fun j e h=>by simp at h,fun j j' e e' _ h=>by simp at h⟩
 |e::r,k,t,hk,hr,h=>by
  simp only[List.length_cons]at hk
  simp only[Ch,Bool.and_eq_true,Bool.not_eq_true',Bool.or_eq_false_iff,decide_eq_false_iff_not,Decidable.not_not]at h
  obtain⟨⟨h1,h2⟩,h3⟩:=h
  have he:e.i=ix+1+k:=by
   have:=hr e (List.mem_cons_self ..)
   unfold i64r at this
   rw[Jm,Jm]at h1
   omega
  obtain⟨h4,h5⟩:=Mr hix (es:=r) (k:=k+1) (by omega) (fun e he=>hr e (List.mem_cons_of_mem _ he)) h3
  refine⟨fun j e' hj=>?_,fun j j' x x' hle hj hj'=>?_⟩
  ·cases j with
   |zero=>cases hj;exact⟨by omega,by omega⟩
   |succ j=>
    obtain⟨g1,g2⟩:=h4 j e' hj
    exact⟨by omega,by omega⟩
  ·cases j with
   |zero=>
    cases hj
    cases j' with
    |zero=>cases hj';exact Int.le_refl _
    |succ j'=>exact(h4 j' x' hj').2
   |succ j=>
    cases j' with
    |zero=>omega
    |succ j'=>exact h5 j j' x x' (by omega) hj hj'
structure Right (ix tm:Int) (es:List Ent):Prop where
 hix:0≤ix∧ix≤1099511627776
 htm:0≤tm∧tm≤1099511627776
 len:es.length≤4096
 at_:∀(j:Nat) (e:Ent),es[j]?=some e→e.i=ix+1+j∧tm≤e.t∧e.t≤1099511627776∧e.i≤1099511627776∧e.d.length≤8192
 mono:∀(j j':Nat) (e e':Ent),j≤j'→es[j]?=some e→es[j']?=some e'→e.t≤e'.t
theorem Ek {ix tm:Int} {es:List Ent} (h:right ix tm es=true):Right ix tm es:=by
 simp only[right,Bool.and_eq_true,Bool.not_eq_true',decide_eq_false_iff_not,Int.not_lt]at h
 obtain⟨⟨⟨⟨h1,h2⟩,h3⟩,h4⟩,h5⟩:=h
 have h1:=D3.1 h1
 have h2:=D3.1 h2
 have hok:∀e∈es,(0≤e.i∧e.i≤1099511627776)∧(0≤e.t∧e.t≤1099511627776)∧e.d.length≤8192:=by
  intro e he
  have:=List.all_eq_true.1 h4 e he
  simp only[E4,Bool.and_eq_true,Bool.not_eq_true',decide_eq_false_iff_not,Int.not_lt]at this
  exact⟨D3.1 this.1.1,D3.1 this.1.2,by omega⟩
 obtain⟨h6,h7⟩:=Mr h1 (es:=es) (k:=0) (by omega) (fun e he=>by have:=hok e he;unfold i64r;omega) h5
 refine⟨h1,h2,by omega,fun j e hj=>?_,h7⟩
 have g1:=h6 j e hj
 have g2:=hok e (List.mem_of_getElem? hj)
 exact⟨by omega,g1.2,by omega,by omega,g2.2.2⟩
theorem Rc {ix:Int} (hix:0≤ix∧ix≤1099511627776):∀{es:List Ent} {k:Nat} {t:Int},k+es.length≤1000000→(∀(j:Nat) (e:Ent),es[j]?=some e→e.i=ix+1+k+j∧t≤e.t)→
 (∀(j j':Nat) (e e':Ent),j≤j'→es[j]?=some e→es[j']?=some e'→e.t≤e'.t)→Ch ix k t es=true
 | [],k,t,_,_,_=>rfl
 |e::r,k,t,hk,h1,h2=>by
  simp only[List.length_cons]at hk
  have h0:=h1 0 e rfl
  have hw:Bp (Bp (e.i - 1) - k)=ix:=by rw[Jm,Jm];omega
  simp only[Ch,hw,ne_eq,not_true_eq_false,decide_false,Bool.false_or,Bool.and_eq_true,Bool.not_eq_true',decide_eq_false_iff_not,Int.not_lt]
  refine⟨h0.2,Rc hix (by omega) (fun j e' hj=>?_) (fun j j' x x' hle hj hj'=>h2 (j+1) (j'+1) x x' (by omega) hj hj')⟩
  exact⟨by have:=(h1 (j+1) e' hj).1;omega,h2 0 (j+1) e e' (by omega) rfl hj⟩
theorem Right.right {ix tm:Int} {es:List Ent} (h:Right ix tm es):Ab.right ix tm es=true:=by
 simp only[Ab.right,Bool.and_eq_true,Bool.not_eq_true',decide_eq_false_iff_not,Int.not_lt]
 refine⟨⟨⟨⟨D3.2 h.hix,D3.2 h.htm⟩,by have:=h.len;omega⟩,?_⟩,Rc h.hix (by have:=h.len;omega) (fun j e hj=>?_) h.mono⟩
 ·rw[List.all_eq_true]
  intro e he
  obtain⟨j,hj,rfl⟩:=List.mem_iff_getElem.1 he
  have:=h.at_ j _ (List.getElem?_eq_getElem hj)
  have h1:=h.hix
  have h2:=h.htm
  simp only[E4,Bool.and_eq_true,Bool.not_eq_true',decide_eq_false_iff_not,Int.not_lt]
  exact⟨⟨D3.2 (by omega),D3.2 (by omega)⟩,by omega⟩
 ·have:=h.at_ j e hj
  exact⟨by omega,this.2.1⟩
theorem Right.last {ix tm:Int} {es:List Ent} (h:Right ix tm es):(A3 ix tm es).1=ix+es.length:=by
 rcases List.eq_nil_or_concat es with rfl|⟨es',e,he⟩
 ·simp[A3]
 ·rw[List.concat_eq_append]at he
  subst he
  have:=h.at_ es'.length e (by simp)
  simp[A3]
  omega
def Ds (ix tm:Int) (es:List Ent) (i:Int):Int × Bool:=
 if i<ix∨ix+es.length<i then(0,false)else if i=ix then(tm,true)else match es[(i - ix - 1).toNat]? with
  |some e=>(e.t,true)
  |none=>(0,false)
def Xp (p:Int × Bool):SV:=.tup [.i (.int .i64 p.1),.i (.bool p.2)]
theorem Sd (ix tm:Int) (es:List Ent) (i:Int) (h:Right ix tm es):Fn Try.prog N5 [.v (logI ix tm es),.v (.int .i64 i)] (Is (Xp (Ds ix tm es i)) [.no,.no]):=by
 refine Np ?_ (by simp)
 have hl:=h.last
 have hix:=h.hix
 have hlen:=h.len
 by_cases h1:i<ix
 ·have n1:¬decide (i<ix)=false:=by simp[h1]
  repeat'((conv=>whnf);first
   |((with_reducible refine Ar (by first|(with_reducible assumption)|(with_reducible exact Bool.of_not_eq_false (by assumption))|(with_reducible exact Bool.of_not_eq_true (by assumption))|((with_reducible refine decide_eq_true ?_);first|(with_reducible assumption)|omega)|((with_reducible refine decide_eq_false ?_);first|(with_reducible assumption)|omega)|(with_reducible rfl)) (fun hb=>?_));(try rw[hb]);(try simp only[Aa,Bool.false_eq_true,Bool.true_eq_false]at hb);(try subst hb))
   |((with_reducible refine Aq (by first|(with_reducible assumption)|(with_reducible exact Bool.of_not_eq_false (by assumption))|(with_reducible exact Bool.of_not_eq_true (by assumption))|((with_reducible refine decide_eq_true ?_);first|(with_reducible assumption)|omega)|((with_reducible refine decide_eq_false ?_);first|(with_reducible assumption)|omega)|(with_reducible rfl)) (fun hb=>?_));(try rw[hb]);(try simp only[Aa,Bool.false_eq_true,Bool.true_eq_false]at hb);(try subst hb))
   |((with_reducible refine And.intro (fun hb=>?_) (fun hb=>?_))<;>first|(with_reducible exact absurd hb (by assumption))|(exact absurd hb (by decide))|(with_reducible exact absurd hb Bool.false_ne_true)|(with_reducible exact absurd hb.symm Bool.false_ne_true)|(exfalso;first|(simp only[Aj]at hb<;>omega)|omega)|((try rw[hb]);(try simp only[Aa,Bool.false_eq_true,Bool.true_eq_false]at hb);(try subst hb)))
   |((with_reducible refine Exists.intro ?_ ?_);focus (and_intros<;>first|omega|(with_reducible assumption)|(with_reducible rfl)|kernel_rfl|exact rfl|assumption|(intro _ hh;cases hh;done)|exact Ah (by rfl)|exact size_map (fun _=>rfl)|exact Ai rfl|exact take_size (fun _=>rfl)|exact Af rfl|exact Ae (fun _=>rfl)|exact Ad (fun _=>rfl)|(simp only[Aj];omega)|(simp;done)|decide))
   |(with_reducible intro hfact)
   |((with_reducible refine And.intro ?_ ?_);focus (first|(with_reducible rfl)|(exact rfl)|decide))
   |((with_reducible refine CallWp.mk ?_);refine⟨_,Bt _ _ _,?_⟩;rintro _ _ ⟨rfl,rfl⟩))
  all_goals(try(conv=>whnf))
  exact Done.mk ⟨by simp[Ds,h1,Xp,C8],by kernel_rfl⟩ (by kernel_rfl)
 have n1:¬decide (i<ix)=true:=by simp;omega
 by_cases h2:ix+es.length<i
 ·have n2:¬decide ((A3 ix tm es).1<i)=false:=by simp[hl,h2]
  repeat'((conv=>whnf);first
   |((with_reducible refine Ar (by first|(with_reducible assumption)|(with_reducible exact Bool.of_not_eq_false (by assumption))|(with_reducible exact Bool.of_not_eq_true (by assumption))|((with_reducible refine decide_eq_true ?_);first|(with_reducible assumption)|omega)|((with_reducible refine decide_eq_false ?_);first|(with_reducible assumption)|omega)|(with_reducible rfl)) (fun hb=>?_));(try rw[hb]);(try simp only[Aa,Bool.false_eq_true,Bool.true_eq_false]at hb);(try subst hb))
   |((with_reducible refine Aq (by first|(with_reducible assumption)|(with_reducible exact Bool.of_not_eq_false (by assumption))|(with_reducible exact Bool.of_not_eq_true (by assumption))|((with_reducible refine decide_eq_true ?_);first|(with_reducible assumption)|omega)|((with_reducible refine decide_eq_false ?_);first|(with_reducible assumption)|omega)|(with_reducible rfl)) (fun hb=>?_));(try rw[hb]);(try simp only[Aa,Bool.false_eq_true,Bool.true_eq_false]at hb);(try subst hb))
   |((with_reducible refine And.intro (fun hb=>?_) (fun hb=>?_))<;>first|(with_reducible exact absurd hb (by assumption))|(exact absurd hb (by decide))|(with_reducible exact absurd hb Bool.false_ne_true)|(with_reducible exact absurd hb.symm Bool.false_ne_true)|(exfalso;first|(simp only[Aj]at hb<;>omega)|omega)|((try rw[hb]);(try simp only[Aa,Bool.false_eq_true,Bool.true_eq_false]at hb);(try subst hb)))
   |((with_reducible refine Exists.intro ?_ ?_);focus (and_intros<;>first|omega|(with_reducible assumption)|(with_reducible rfl)|kernel_rfl|exact rfl|assumption|(intro _ hh;cases hh;done)|exact Ah (by rfl)|exact size_map (fun _=>rfl)|exact Ai rfl|exact take_size (fun _=>rfl)|exact Af rfl|exact Ae (fun _=>rfl)|exact Ad (fun _=>rfl)|(simp only[Aj];omega)|(simp;done)|decide))
   |(with_reducible intro hfact)
   |((with_reducible refine And.intro ?_ ?_);focus (first|(with_reducible rfl)|(exact rfl)|decide))
   |((with_reducible refine CallWp.mk ?_);refine⟨_,Bt _ _ _,?_⟩;rintro _ _ ⟨rfl,rfl⟩))
  all_goals(try(conv=>whnf))
  exact Done.mk ⟨by simp[Ds,h2,Xp,C8],by kernel_rfl⟩ (by kernel_rfl)
 have n2:¬decide ((A3 ix tm es).1<i)=true:=by rw[hl];simp;omega
 by_cases h3:i=ix
 ·have n3:¬decide (i=ix)=false:=by simp[h3]
  repeat'((conv=>whnf);first
   |((with_reducible refine Ar (by first|(with_reducible assumption)|(with_reducible exact Bool.of_not_eq_false (by assumption))|(with_reducible exact Bool.of_not_eq_true (by assumption))|((with_reducible refine decide_eq_true ?_);first|(with_reducible assumption)|omega)|((with_reducible refine decide_eq_false ?_);first|(with_reducible assumption)|omega)|(with_reducible rfl)) (fun hb=>?_));(try rw[hb]);(try simp only[Aa,Bool.false_eq_true,Bool.true_eq_false]at hb);(try subst hb))
   |((with_reducible refine Aq (by first|(with_reducible assumption)|(with_reducible exact Bool.of_not_eq_false (by assumption))|(with_reducible exact Bool.of_not_eq_true (by assumption))|((with_reducible refine decide_eq_true ?_);first|(with_reducible assumption)|omega)|((with_reducible refine decide_eq_false ?_);first|(with_reducible assumption)|omega)|(with_reducible rfl)) (fun hb=>?_));(try rw[hb]);(try simp only[Aa,Bool.false_eq_true,Bool.true_eq_false]at hb);(try subst hb))
   |((with_reducible refine And.intro (fun hb=>?_) (fun hb=>?_))<;>first|(with_reducible exact absurd hb (by assumption))|(exact absurd hb (by decide))|(with_reducible exact absurd hb Bool.false_ne_true)|(with_reducible exact absurd hb.symm Bool.false_ne_true)|(exfalso;first|(simp only[Aj]at hb<;>omega)|omega)|((try rw[hb]);(try simp only[Aa,Bool.false_eq_true,Bool.true_eq_false]at hb);(try subst hb)))
   |((with_reducible refine Exists.intro ?_ ?_);focus (and_intros<;>first|omega|(with_reducible assumption)|(with_reducible rfl)|kernel_rfl|exact rfl|assumption|(intro _ hh;cases hh;done)|exact Ah (by rfl)|exact size_map (fun _=>rfl)|exact Ai rfl|exact take_size (fun _=>rfl)|exact Af rfl|exact Ae (fun _=>rfl)|exact Ad (fun _=>rfl)|(simp only[Aj];omega)|(simp;done)|decide))
   |(with_reducible intro hfact)
   |((with_reducible refine And.intro ?_ ?_);focus (first|(with_reducible rfl)|(exact rfl)|decide))
   |((with_reducible refine CallWp.mk ?_);refine⟨_,Bt _ _ _,?_⟩;rintro _ _ ⟨rfl,rfl⟩))
  all_goals(try(conv=>whnf))
  refine Done.mk ⟨?_,by kernel_rfl⟩ (by kernel_rfl)
  rw[Ds,if_neg (by omega),if_pos h3]
  rfl
 have n3:¬decide (i=ix)=true:=by simp[h3]
 have hw:Bp (Bp (i - ix) - 1)=i - ix - 1:=by rw[Jm,Jm];omega
 obtain⟨e,he⟩:∃e,es[(i - ix - 1).toNat]?=some e:=⟨_,List.getElem?_eq_getElem (by omega)⟩
 have hg:(es.map Ent.toI)[Int.toNat (IntKind.i64.wrap (IntKind.i64.wrap (i - ix) - 1))]?=some e.toI:=by
  rw[show IntKind.i64.wrap (IntKind.i64.wrap (i - ix) - 1)=i - ix - 1 from hw]
  exact Gg he
 have h0:0≤IntKind.i64.wrap (IntKind.i64.wrap (i - ix) - 1):=by
  rw[show IntKind.i64.wrap (IntKind.i64.wrap (i - ix) - 1)=i - ix - 1 from hw]
  omega
 repeat'((conv=>whnf);first
  |((with_reducible refine Ar (by first|(with_reducible assumption)|(with_reducible exact Bool.of_not_eq_false (by assumption))|(with_reducible exact Bool.of_not_eq_true (by assumption))|((with_reducible refine decide_eq_true ?_);first|(with_reducible assumption)|omega)|((with_reducible refine decide_eq_false ?_);first|(with_reducible assumption)|omega)|(with_reducible rfl)) (fun hb=>?_));(try rw[hb]);(try simp only[Aa,Bool.false_eq_true,Bool.true_eq_false]at hb);(try subst hb))
  |((with_reducible refine Aq (by first|(with_reducible assumption)|(with_reducible exact Bool.of_not_eq_false (by assumption))|(with_reducible exact Bool.of_not_eq_true (by assumption))|((with_reducible refine decide_eq_true ?_);first|(with_reducible assumption)|omega)|((with_reducible refine decide_eq_false ?_);first|(with_reducible assumption)|omega)|(with_reducible rfl)) (fun hb=>?_));(try rw[hb]);(try simp only[Aa,Bool.false_eq_true,Bool.true_eq_false]at hb);(try subst hb))
  |((with_reducible refine And.intro (fun hb=>?_) (fun hb=>?_))<;>first|(with_reducible exact absurd hb (by assumption))|(exact absurd hb (by decide))|(with_reducible exact absurd hb Bool.false_ne_true)|(with_reducible exact absurd hb.symm Bool.false_ne_true)|(exfalso;first|(simp only[Aj]at hb<;>omega)|omega)|((try rw[hb]);(try simp only[Aa,Bool.false_eq_true,Bool.true_eq_false]at hb);(try subst hb)))
  |((with_reducible refine Exists.intro ?_ ?_);focus (and_intros<;>first|omega|(with_reducible assumption)|(with_reducible rfl)|kernel_rfl|exact rfl|assumption|(intro _ hh;cases hh;done)|exact Ah (by rfl)|exact size_map (fun _=>rfl)|exact Ai rfl|exact take_size (fun _=>rfl)|exact Af rfl|exact Ae (fun _=>rfl)|exact Ad (fun _=>rfl)|(simp only[Aj];omega)|(simp;done)|decide))
  |(with_reducible intro hfact)
  |((with_reducible refine And.intro ?_ ?_);focus (first|(with_reducible rfl)|(exact rfl)|decide))
  |((with_reducible refine CallWp.mk ?_);refine⟨_,Bt _ _ _,?_⟩;rintro _ _ ⟨rfl,rfl⟩)
  |((try dsimp only);rw[hg]))
 all_goals(try(conv=>whnf))
 refine Done.mk ⟨?_,by kernel_rfl⟩ (by kernel_rfl)
 rw[Ds,if_neg (by omega),if_neg h3,he]
 rfl

open Go.Proofs
def Jw (ix:Int) (es:List Ent) (i most:Int):List Ent:=
 if ix+es.length<i∨most<1 then[]else(es.drop (max i (ix+1) - ix - 1).toNat).take most.toNat
theorem Sa (ix tm:Int) (es:List Ent) (i most:Int) (h:Right ix tm es):Fn Try.prog Hc [.v (logI ix tm es),.v (.int .i64 i),.v (.int .i64 most)] (Is (.v (ents (Jw ix es i most))) [.no,.no,.no]):=by
 refine Nm ?_ (by simp)
 have hl:=h.last
 have hix:=h.hix
 have hlen:=h.len
 have hsz:=Kx es
 by_cases h1:ix+es.length<i
 ·have n1:¬decide ((A3 ix tm es).1<i)=false:=by simp[hl,h1]
  repeat'((conv=>whnf);first
   |((with_reducible refine Ar (by first|(with_reducible assumption)|(with_reducible exact Bool.of_not_eq_false (by assumption))|(with_reducible exact Bool.of_not_eq_true (by assumption))|((with_reducible refine decide_eq_true ?_);first|(with_reducible assumption)|omega)|((with_reducible refine decide_eq_false ?_);first|(with_reducible assumption)|omega)|(with_reducible rfl)) (fun hb=>?_));(try rw[hb]);(try simp only[Aa,Bool.false_eq_true,Bool.true_eq_false]at hb);(try subst hb))
   |((with_reducible refine Aq (by first|(with_reducible assumption)|(with_reducible exact Bool.of_not_eq_false (by assumption))|(with_reducible exact Bool.of_not_eq_true (by assumption))|((with_reducible refine decide_eq_true ?_);first|(with_reducible assumption)|omega)|((with_reducible refine decide_eq_false ?_);first|(with_reducible assumption)|omega)|(with_reducible rfl)) (fun hb=>?_));(try rw[hb]);(try simp only[Aa,Bool.false_eq_true,Bool.true_eq_false]at hb);(try subst hb))
   |((with_reducible refine And.intro (fun hb=>?_) (fun hb=>?_))<;>first|(with_reducible exact absurd hb (by assumption))|(exact absurd hb (by decide))|(with_reducible exact absurd hb Bool.false_ne_true)|(with_reducible exact absurd hb.symm Bool.false_ne_true)|(exfalso;first|(simp only[Aj]at hb<;>omega)|omega)|((try rw[hb]);(try simp only[Aa,Bool.false_eq_true,Bool.true_eq_false]at hb);(try subst hb)))
   |((with_reducible refine Exists.intro ?_ ?_);focus (and_intros<;>first|omega|(with_reducible assumption)|(with_reducible rfl)|kernel_rfl|exact rfl|assumption|(intro _ hh;cases hh;done)|exact Ah (by rfl)|exact size_map (fun _=>rfl)|exact Ai rfl|exact take_size (fun _=>rfl)|exact Af rfl|exact Ae (fun _=>rfl)|exact Ad (fun _=>rfl)|(simp only[Aj];omega)|(simp;done)|decide))
   |(with_reducible intro hfact)
   |((with_reducible refine And.intro ?_ ?_);focus (first|(with_reducible rfl)|(exact rfl)|decide))
   |((with_reducible refine CallWp.mk ?_);refine⟨_,Bt _ _ _,?_⟩;rintro _ _ ⟨rfl,rfl⟩))
  all_goals(try(conv=>whnf))
  exact Done.mk ⟨by simp[Jw,h1,C8],by kernel_rfl⟩ (by kernel_rfl)
 have n1:¬decide ((A3 ix tm es).1<i)=true:=by rw[hl];simp;omega
 by_cases h2:most<1
 ·have n2:¬decide (most<1)=false:=by simp[h2]
  repeat'((conv=>whnf);first
   |((with_reducible refine Ar (by first|(with_reducible assumption)|(with_reducible exact Bool.of_not_eq_false (by assumption))|(with_reducible exact Bool.of_not_eq_true (by assumption))|((with_reducible refine decide_eq_true ?_);first|(with_reducible assumption)|omega)|((with_reducible refine decide_eq_false ?_);first|(with_reducible assumption)|omega)|(with_reducible rfl)) (fun hb=>?_));(try rw[hb]);(try simp only[Aa,Bool.false_eq_true,Bool.true_eq_false]at hb);(try subst hb))
   |((with_reducible refine Aq (by first|(with_reducible assumption)|(with_reducible exact Bool.of_not_eq_false (by assumption))|(with_reducible exact Bool.of_not_eq_true (by assumption))|((with_reducible refine decide_eq_true ?_);first|(with_reducible assumption)|omega)|((with_reducible refine decide_eq_false ?_);first|(with_reducible assumption)|omega)|(with_reducible rfl)) (fun hb=>?_));(try rw[hb]);(try simp only[Aa,Bool.false_eq_true,Bool.true_eq_false]at hb);(try subst hb))
   |((with_reducible refine And.intro (fun hb=>?_) (fun hb=>?_))<;>first|(with_reducible exact absurd hb (by assumption))|(exact absurd hb (by decide))|(with_reducible exact absurd hb Bool.false_ne_true)|(with_reducible exact absurd hb.symm Bool.false_ne_true)|(exfalso;first|(simp only[Aj]at hb<;>omega)|omega)|((try rw[hb]);(try simp only[Aa,Bool.false_eq_true,Bool.true_eq_false]at hb);(try subst hb)))
   |((with_reducible refine Exists.intro ?_ ?_);focus (and_intros<;>first|omega|(with_reducible assumption)|(with_reducible rfl)|kernel_rfl|exact rfl|assumption|(intro _ hh;cases hh;done)|exact Ah (by rfl)|exact size_map (fun _=>rfl)|exact Ai rfl|exact take_size (fun _=>rfl)|exact Af rfl|exact Ae (fun _=>rfl)|exact Ad (fun _=>rfl)|(simp only[Aj];omega)|(simp;done)|decide))
   |(with_reducible intro hfact)
   |((with_reducible refine And.intro ?_ ?_);focus (first|(with_reducible rfl)|(exact rfl)|decide))
   |((with_reducible refine CallWp.mk ?_);refine⟨_,Bt _ _ _,?_⟩;rintro _ _ ⟨rfl,rfl⟩))
  all_goals(try(conv=>whnf))
  exact Done.mk ⟨by simp[Jw,h2,C8],by kernel_rfl⟩ (by kernel_rfl)
 have n2:¬decide (most<1)=true:=by simp;omega
 have hw1:IntKind.i64.wrap (ix+1)=ix+1:=D7 (by omega)
 have hw2:IntKind.i64.wrap (max i (ix+1) - ix)=max i (ix+1) - ix:=D7 (by omega)
 have hw3:IntKind.i64.wrap (max i (ix+1) - ix - 1)=max i (ix+1) - ix - 1:=D7 (by omega)
 have hA:0≤max i (ix+1) - ix - 1∧max i (ix+1) - ix - 1≤es.length:=by omega
 generalize hAe:max i (ix+1) - ix - 1=A at hA hw3
 have hw4:IntKind.i64.wrap (((es.map Ent.toI).length:Int) - A)=(es.length:Int) - A:=by rw[List.length_map];exact D7 (by omega)
 have hw5:IntKind.i64.wrap (min ((es.length:Int) - A) most+A)=min ((es.length:Int) - A) most+A:=D7 (by omega)
 have hs2:∀u∈((es.map Ent.toI).take (min ((es.length:Int) - A) most+A).toNat).drop A.toNat,u.size=3:=fun u hu=>hsz u (List.mem_of_mem_take (List.mem_of_mem_drop hu))
 have hl2:(((es.map Ent.toI).take (min ((es.length:Int) - A) most+A).toNat).drop A.toNat).length≤1000000:=by simp;omega
 have hn:0≤A∧A≤min ((es.length:Int) - A) most+A∧min ((es.length:Int) - A) most+A≤((es.map Ent.toI).length:Int):=by rw[List.length_map];omega
 have hn1:=hn.1
 have hn2:=hn.2.1
 have hn3:=hn.2.2
 repeat'((conv=>whnf);first
  |((with_reducible refine Ar (by first|(with_reducible assumption)|(with_reducible exact Bool.of_not_eq_false (by assumption))|(with_reducible exact Bool.of_not_eq_true (by assumption))|((with_reducible refine decide_eq_true ?_);first|(with_reducible assumption)|omega)|((with_reducible refine decide_eq_false ?_);first|(with_reducible assumption)|omega)|(with_reducible rfl)) (fun hb=>?_));(try rw[hb]);(try simp only[Aa,Bool.false_eq_true,Bool.true_eq_false]at hb);(try subst hb))
  |((with_reducible refine Aq (by first|(with_reducible assumption)|(with_reducible exact Bool.of_not_eq_false (by assumption))|(with_reducible exact Bool.of_not_eq_true (by assumption))|((with_reducible refine decide_eq_true ?_);first|(with_reducible assumption)|omega)|((with_reducible refine decide_eq_false ?_);first|(with_reducible assumption)|omega)|(with_reducible rfl)) (fun hb=>?_));(try rw[hb]);(try simp only[Aa,Bool.false_eq_true,Bool.true_eq_false]at hb);(try subst hb))
  |((with_reducible refine And.intro (fun hb=>?_) (fun hb=>?_))<;>first|(with_reducible exact absurd hb (by assumption))|(exact absurd hb (by decide))|(with_reducible exact absurd hb Bool.false_ne_true)|(with_reducible exact absurd hb.symm Bool.false_ne_true)|(exfalso;first|(simp only[Aj]at hb<;>omega)|omega)|((try rw[hb]);(try simp only[Aa,Bool.false_eq_true,Bool.true_eq_false]at hb);(try subst hb)))
  |((with_reducible refine Exists.intro ?_ ?_);focus (and_intros<;>first|omega|(with_reducible assumption)|(with_reducible rfl)|kernel_rfl|exact rfl|assumption|(intro _ hh;cases hh;done)|exact Ah (by rfl)|exact size_map (fun _=>rfl)|exact Ai rfl|exact take_size (fun _=>rfl)|exact Af rfl|exact Ae (fun _=>rfl)|exact Ad (fun _=>rfl)|(simp only[Aj];omega)|(simp;done)|decide))
  |(with_reducible intro hfact)
  |((with_reducible refine And.intro ?_ ?_);focus (first|(with_reducible rfl)|(exact rfl)|decide))
  |((with_reducible refine CallWp.mk ?_);refine⟨_,Bt _ _ _,?_⟩;rintro _ _ ⟨rfl,rfl⟩)
  |((try dsimp only);rw[hw1])
  |((try dsimp only);rw[hw2])
  |((try dsimp only);rw[hAe])
  |((try dsimp only);rw[hw3])
  |((try dsimp only);rw[hw4])
  |((try dsimp only);rw[hw5])
  |((with_reducible refine CallWp.mk ?_);refine⟨_,Qk _ hs2 hl2,?_⟩;rintro _ _ ⟨rfl,rfl⟩))
 all_goals(try(conv=>whnf))
 refine Done.mk ⟨congrArg (fun l=>SV.v (.list l)) ?_,by kernel_rfl⟩ (by kernel_rfl)
 rw[Jw,if_neg (by omega),hAe,List.map_take,List.map_drop,List.drop_take]
 have he:(min ((es.length:Int) - A) most+A).toNat - A.toNat=min (es.length - A.toNat) most.toNat:=by omega
 rw[he]
 apply List.ext_getElem?
 intro j
 simp only[List.getElem?_take,List.getElem?_drop,List.getElem?_map]
 by_cases hj:j<most.toNat
 ·by_cases hj2:j<es.length - A.toNat
  ·rw[if_pos (by omega),if_pos hj]
  ·rw[if_neg (by omega),if_pos hj,List.getElem?_eq_none (by omega)]
   rfl
 ·rw[if_neg (by omega),if_neg hj]

open Go.Proofs
def addM (ix tm:Int) (es:List Ent) (term:Int) (d:List UInt8):List Ent:=es++[⟨Bp ((A3 ix tm es).1+1),term,d⟩]
theorem U3 (ix tm:Int) (es:List Ent) (term:Int) (d:List UInt8) (hl:es.length≤900000):Fn Try.prog Qu [.v (logI ix tm es),.v (.int .i64 term),.v (.str d)]
 (Is (.tup (if right ix tm (addM ix tm es term d)then[.i (logI ix tm (addM ix tm es term d)),.i (.bool true)]else[.i (logI ix tm es),.i (.bool false)])) [.no,.no,.no]):=by
 refine Pv ?_ (by simp)
 have hsz:=Kx es
 have hl':(es.map Ent.toI).length≤1000000:=by rw[List.length_map];omega
 have hl1:((es.map Ent.toI).length+[(⟨Bp ((A3 ix tm es).1+1),term,d⟩:Ent).toI].length)*32≤140737488355328:=by simp;omega
 have hl2:(es.map Ent.toI).length+[(⟨Bp ((A3 ix tm es).1+1),term,d⟩:Ent).toI].length≤maxLen:=by simp[maxLen];omega
 have hl3:∀u∈[(⟨Bp ((A3 ix tm es).1+1),term,d⟩:Ent).toI],u.size=3:=Kx [⟨Bp ((A3 ix tm es).1+1),term,d⟩]
 have hap:es.map Ent.toI++[(⟨Bp ((A3 ix tm es).1+1),term,d⟩:Ent).toI]=(addM ix tm es term d).map Ent.toI:=by simp[addM]
 have hright:Fn Try.prog F7 [.v (.agg [.int .i64 ix,.int .i64 tm,.list (es.map Ent.toI++[(⟨Bp ((A3 ix tm es).1+1),term,d⟩:Ent).toI])])] (Is (.v (.bool (right ix tm (addM ix tm es term d)))) [.no]):=by
  rw[hap]
  exact Yq _ _ _
 repeat'((conv=>whnf);first
  |((with_reducible refine Ar (by first|(with_reducible assumption)|(with_reducible exact Bool.of_not_eq_false (by assumption))|(with_reducible exact Bool.of_not_eq_true (by assumption))|((with_reducible refine decide_eq_true ?_);first|(with_reducible assumption)|omega)|((with_reducible refine decide_eq_false ?_);first|(with_reducible assumption)|omega)|(with_reducible rfl)) (fun hb=>?_));(try rw[hb]);(try simp only[Aa,Bool.false_eq_true,Bool.true_eq_false]at hb);(try subst hb))
  |((with_reducible refine Aq (by first|(with_reducible assumption)|(with_reducible exact Bool.of_not_eq_false (by assumption))|(with_reducible exact Bool.of_not_eq_true (by assumption))|((with_reducible refine decide_eq_true ?_);first|(with_reducible assumption)|omega)|((with_reducible refine decide_eq_false ?_);first|(with_reducible assumption)|omega)|(with_reducible rfl)) (fun hb=>?_));(try rw[hb]);(try simp only[Aa,Bool.false_eq_true,Bool.true_eq_false]at hb);(try subst hb))
  |((with_reducible refine And.intro (fun hb=>?_) (fun hb=>?_))<;>first|(with_reducible exact absurd hb (by assumption))|(exact absurd hb (by decide))|(with_reducible exact absurd hb Bool.false_ne_true)|(with_reducible exact absurd hb.symm Bool.false_ne_true)|(exfalso;first|(simp only[Aj]at hb<;>omega)|omega)|((try rw[hb]);(try simp only[Aa,Bool.false_eq_true,Bool.true_eq_false]at hb);(try subst hb)))
  |((with_reducible refine Exists.intro ?_ ?_);focus (and_intros<;>first|omega|(with_reducible assumption)|(with_reducible rfl)|kernel_rfl|exact rfl|assumption|(intro _ hh;cases hh;done)|exact Ah (by rfl)|exact size_map (fun _=>rfl)|exact Ai rfl|exact take_size (fun _=>rfl)|exact Af rfl|exact Ae (fun _=>rfl)|exact Ad (fun _=>rfl)|(simp only[Aj];omega)|(simp;done)|decide))
  |(with_reducible intro hfact)
  |((with_reducible refine And.intro ?_ ?_);focus (first|(with_reducible rfl)|(exact rfl)|decide))
  |((with_reducible apply Drawn.by0);(focus kernel_rfl);intro hfact;(try simp only[dRS]at hfact))
  |((with_reducible refine CallWp.mk ?_);refine⟨_,Bt _ _ _,?_⟩;rintro _ _ ⟨rfl,rfl⟩)
  |((with_reducible refine CallIs.mk ?_);refine⟨_,_,Qk _ hsz hl',?_⟩)
  |((with_reducible refine CallWp.mk ?_);refine⟨_,hright,?_⟩;rintro _ _ ⟨rfl,rfl⟩))
 all_goals(try(conv=>whnf))
 ·refine Done.mk ⟨?_,by kernel_rfl⟩ (by kernel_rfl)
  rw[if_neg (by simpa using hb)]
  rfl
 ·refine Done.mk ⟨?_,by kernel_rfl⟩ (by kernel_rfl)
  rw[if_pos (by simpa using hb)]
  show SV.tup [.i (.agg [.int .i64 ix,.int .i64 tm,.list (es.map Ent.toI++[(⟨Bp ((A3 ix tm es).1+1),term,d⟩:Ent).toI])]),.i (.bool true)]=_
  rw[hap]

open Go.Proofs
def tot (ls:List (List I)):Nat:=(ls.map List.length).sum
end Go.Ab
