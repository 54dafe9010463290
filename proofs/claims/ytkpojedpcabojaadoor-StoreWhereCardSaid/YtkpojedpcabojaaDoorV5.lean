/- Lemmas -/
import Derived.Test.YtkpojedpcabojaaDoorWR
set_option linter.unusedVariables false
set_option linter.unusedSimpArgs false
set_option maxRecDepth 100000
namespace Go.Ab
open Go.Proofs
theorem Pu (s:Sp):Fn Tryd.prog Us [.v s.toI] (Is (.v (.bool (decide (SpR s)))) [.no]):=by
 refine T7 ?_ (by simp)
 repeat'((conv=>whnf);first
  |((with_reducible refine Ax (by first|(with_reducible assumption)|(with_reducible exact Bool.of_not_eq_false (by assumption))|(with_reducible exact Bool.of_not_eq_true (by assumption))|((with_reducible refine decide_eq_true ?_);first|(with_reducible assumption)|omega)|((with_reducible refine decide_eq_false ?_);first|(with_reducible assumption)|omega)|(with_reducible rfl)) (fun hb=>?_));(try rw[hb]);(try simp only[Aa,Bool.false_eq_true,Bool.true_eq_false]at hb);(try subst hb))
  |((with_reducible refine Aw (by first|(with_reducible assumption)|(with_reducible exact Bool.of_not_eq_false (by assumption))|(with_reducible exact Bool.of_not_eq_true (by assumption))|((with_reducible refine decide_eq_true ?_);first|(with_reducible assumption)|omega)|((with_reducible refine decide_eq_false ?_);first|(with_reducible assumption)|omega)|(with_reducible rfl)) (fun hb=>?_));(try rw[hb]);(try simp only[Aa,Bool.false_eq_true,Bool.true_eq_false]at hb);(try subst hb))
  |((with_reducible refine And.intro (fun hb=>?_) (fun hb=>?_))<;>first|(with_reducible exact absurd hb (by assumption))|(exact absurd hb (by decide))|(with_reducible exact absurd hb Bool.false_ne_true)|(with_reducible exact absurd hb.symm Bool.false_ne_true)|(exfalso;first|(simp only[Aj]at hb<;>omega)|omega)|((try rw[hb]);(try simp only[Aa,Bool.false_eq_true,Bool.true_eq_false]at hb);(try subst hb)))
  |((with_reducible refine Exists.intro ?_ ?_);focus (and_intros<;>first|omega|(with_reducible assumption)|(with_reducible rfl)|kernel_rfl|exact rfl|assumption|(intro _ hh;cases hh;done)|exact Ah (by rfl)|exact size_map (fun _=>rfl)|exact Ai rfl|exact take_size (fun _=>rfl)|exact Ag rfl|exact Af (fun _=>rfl)|exact Ae (fun _=>rfl)|(simp only[Aj];omega)|(simp;done)|decide))
  |(with_reducible intro hfact)
  |((with_reducible refine And.intro ?_ ?_);focus (first|(with_reducible rfl)|(exact rfl)|decide)))
 all_goals(try(conv=>whnf))
 all_goals(refine Done.mk ⟨SV.bool_congr ?_,by kernel_rfl⟩ (by kernel_rfl))
 all_goals(simp[SpR,Kz]at*;grind)
theorem Aa0 (k:Az):Fn Tryd.prog Mp [.v (.str k)] (Is (.v (.bool false)) [.no]):=by
 refine Mn ?_ (by simp)
 repeat'((conv=>whnf);first
  |((with_reducible refine Ax (by first|(with_reducible assumption)|(with_reducible exact Bool.of_not_eq_false (by assumption))|(with_reducible exact Bool.of_not_eq_true (by assumption))|((with_reducible refine decide_eq_true ?_);first|(with_reducible assumption)|omega)|((with_reducible refine decide_eq_false ?_);first|(with_reducible assumption)|omega)|(with_reducible rfl)) (fun hb=>?_));(try rw[hb]);(try simp only[Aa,Bool.false_eq_true,Bool.true_eq_false]at hb);(try subst hb))
  |((with_reducible refine Aw (by first|(with_reducible assumption)|(with_reducible exact Bool.of_not_eq_false (by assumption))|(with_reducible exact Bool.of_not_eq_true (by assumption))|((with_reducible refine decide_eq_true ?_);first|(with_reducible assumption)|omega)|((with_reducible refine decide_eq_false ?_);first|(with_reducible assumption)|omega)|(with_reducible rfl)) (fun hb=>?_));(try rw[hb]);(try simp only[Aa,Bool.false_eq_true,Bool.true_eq_false]at hb);(try subst hb))
  |((with_reducible refine And.intro (fun hb=>?_) (fun hb=>?_))<;>first|(with_reducible exact absurd hb (by assumption))|(exact absurd hb (by decide))|(with_reducible exact absurd hb Bool.false_ne_true)|(with_reducible exact absurd hb.symm Bool.false_ne_true)|(exfalso;first|(simp only[Aj]at hb<;>omega)|omega)|((try rw[hb]);(try simp only[Aa,Bool.false_eq_true,Bool.true_eq_false]at hb);(try subst hb)))
  |((with_reducible refine Exists.intro ?_ ?_);focus (and_intros<;>first|omega|(with_reducible assumption)|(with_reducible rfl)|kernel_rfl|exact rfl|assumption|(intro _ hh;cases hh;done)|exact Ah (by rfl)|exact size_map (fun _=>rfl)|exact Ai rfl|exact take_size (fun _=>rfl)|exact Ag rfl|exact Af (fun _=>rfl)|exact Ae (fun _=>rfl)|(simp only[Aj];omega)|(simp;done)|decide))
  |(with_reducible intro hfact)
  |((with_reducible refine And.intro ?_ ?_);focus (first|(with_reducible rfl)|(exact rfl)|decide)))
 all_goals(try(conv=>whnf))
 exact Done.mk ⟨SV.bool_congr (by simp),by kernel_rfl⟩ (by kernel_rfl)
def cmpS (a b:Az):Int:=if a<b then -1 else if b<a then 1 else 0
theorem Ww (a b:Az):Fn Tryd.prog Kw [.v (.str a),.v (.str b)] (Is (.v (.int .i64 (cmpS a b))) [.no,.no]):=by
 refine Kk ?_ (by simp)
 repeat'((conv=>whnf);first
  |((with_reducible refine Ax (by first|(with_reducible assumption)|(with_reducible exact Bool.of_not_eq_false (by assumption))|(with_reducible exact Bool.of_not_eq_true (by assumption))|((with_reducible refine decide_eq_true ?_);first|(with_reducible assumption)|omega)|((with_reducible refine decide_eq_false ?_);first|(with_reducible assumption)|omega)|(with_reducible rfl)) (fun hb=>?_));(try rw[hb]);(try simp only[Aa,Bool.false_eq_true,Bool.true_eq_false]at hb);(try subst hb))
  |((with_reducible refine Aw (by first|(with_reducible assumption)|(with_reducible exact Bool.of_not_eq_false (by assumption))|(with_reducible exact Bool.of_not_eq_true (by assumption))|((with_reducible refine decide_eq_true ?_);first|(with_reducible assumption)|omega)|((with_reducible refine decide_eq_false ?_);first|(with_reducible assumption)|omega)|(with_reducible rfl)) (fun hb=>?_));(try rw[hb]);(try simp only[Aa,Bool.false_eq_true,Bool.true_eq_false]at hb);(try subst hb))
  |((with_reducible refine And.intro (fun hb=>?_) (fun hb=>?_))<;>first|(with_reducible exact absurd hb (by assumption))|(exact absurd hb (by decide))|(with_reducible exact absurd hb Bool.false_ne_true)|(with_reducible exact absurd hb.symm Bool.false_ne_true)|(exfalso;first|(simp only[Aj]at hb<;>omega)|omega)|((try rw[hb]);(try simp only[Aa,Bool.false_eq_true,Bool.true_eq_false]at hb);(try subst hb)))
  |((with_reducible refine Exists.intro ?_ ?_);focus (and_intros<;>first|omega|(with_reducible assumption)|(with_reducible rfl)|kernel_rfl|exact rfl|assumption|(intro _ hh;cases hh;done)|exact Ah (by rfl)|exact size_map (fun _=>rfl)|exact Ai rfl|exact take_size (fun _=>rfl)|exact Ag rfl|exact Af (fun _=>rfl)|exact Ae (fun _=>rfl)|(simp only[Aj];omega)|(simp;done)|decide))
  |(with_reducible intro hfact)
  |((with_reducible refine And.intro ?_ ?_);focus (first|(with_reducible rfl)|(exact rfl)|decide))
  |((with_reducible refine CallWp.mk ?_);refine⟨_,Aa0 _,?_⟩;rintro _ _ ⟨rfl,rfl⟩))
 all_goals(try(conv=>whnf))
 all_goals(refine Done.mk ⟨congrArg (fun n=>SV.v (.int .i64 n)) ?_,by kernel_rfl⟩ (by kernel_rfl))
 all_goals(simp[cmpS,Kz]at* <;>grind)
theorem Tu (s:Sp) (k:Az):Fn Tryd.prog Za [.v s.toI,.v (.str k)] (Is (.v (.bool (decide (SpH s k)))) [.no,.no]):=by
 refine Xo ?_ (by simp)
 repeat'((conv=>whnf);first
  |((with_reducible refine Ax (by first|(with_reducible assumption)|(with_reducible exact Bool.of_not_eq_false (by assumption))|(with_reducible exact Bool.of_not_eq_true (by assumption))|((with_reducible refine decide_eq_true ?_);first|(with_reducible assumption)|omega)|((with_reducible refine decide_eq_false ?_);first|(with_reducible assumption)|omega)|(with_reducible rfl)) (fun hb=>?_));(try rw[hb]);(try simp only[Aa,Bool.false_eq_true,Bool.true_eq_false]at hb);(try subst hb))
  |((with_reducible refine Aw (by first|(with_reducible assumption)|(with_reducible exact Bool.of_not_eq_false (by assumption))|(with_reducible exact Bool.of_not_eq_true (by assumption))|((with_reducible refine decide_eq_true ?_);first|(with_reducible assumption)|omega)|((with_reducible refine decide_eq_false ?_);first|(with_reducible assumption)|omega)|(with_reducible rfl)) (fun hb=>?_));(try rw[hb]);(try simp only[Aa,Bool.false_eq_true,Bool.true_eq_false]at hb);(try subst hb))
  |((with_reducible refine And.intro (fun hb=>?_) (fun hb=>?_))<;>first|(with_reducible exact absurd hb (by assumption))|(exact absurd hb (by decide))|(with_reducible exact absurd hb Bool.false_ne_true)|(with_reducible exact absurd hb.symm Bool.false_ne_true)|(exfalso;first|(simp only[Aj]at hb<;>omega)|omega)|((try rw[hb]);(try simp only[Aa,Bool.false_eq_true,Bool.true_eq_false]at hb);(try subst hb)))
  |((with_reducible refine Exists.intro ?_ ?_);focus (and_intros<;>first|omega|(with_reducible assumption)|(with_reducible rfl)|kernel_rfl|exact rfl|assumption|(intro _ hh;cases hh;done)|exact Ah (by rfl)|exact size_map (fun _=>rfl)|exact Ai rfl|exact take_size (fun _=>rfl)|exact Ag rfl|exact Af (fun _=>rfl)|exact Ae (fun _=>rfl)|(simp only[Aj];omega)|(simp;done)|decide))
  |(with_reducible intro hfact)
  |((with_reducible refine And.intro ?_ ?_);focus (first|(with_reducible rfl)|(exact rfl)|decide)))
 all_goals(try(conv=>whnf))
 all_goals(refine Done.mk ⟨SV.bool_congr ?_,by kernel_rfl⟩ (by kernel_rfl))
 all_goals(simp[SpH,Kz]at*;grind)
set_option maxHeartbeats 40000000

open Go.Proofs
theorem Aaz (k:Az):Fn Tryd.prog Ty [.v (.str k)] (Is (.v (.bool (decide (1≤k.length∧k.length≤64)))) [.no]):=by
 refine Se ?_ (by simp)
 repeat'((conv=>whnf);first
  |((with_reducible refine Ax (by first|(with_reducible assumption)|(with_reducible exact Bool.of_not_eq_false (by assumption))|(with_reducible exact Bool.of_not_eq_true (by assumption))|((with_reducible refine decide_eq_true ?_);first|(with_reducible assumption)|omega)|((with_reducible refine decide_eq_false ?_);first|(with_reducible assumption)|omega)|(with_reducible rfl)) (fun hb=>?_));(try rw[hb]);(try simp only[Aa,Bool.false_eq_true,Bool.true_eq_false]at hb);(try subst hb))
  |((with_reducible refine Aw (by first|(with_reducible assumption)|(with_reducible exact Bool.of_not_eq_false (by assumption))|(with_reducible exact Bool.of_not_eq_true (by assumption))|((with_reducible refine decide_eq_true ?_);first|(with_reducible assumption)|omega)|((with_reducible refine decide_eq_false ?_);first|(with_reducible assumption)|omega)|(with_reducible rfl)) (fun hb=>?_));(try rw[hb]);(try simp only[Aa,Bool.false_eq_true,Bool.true_eq_false]at hb);(try subst hb))
  |((with_reducible refine And.intro (fun hb=>?_) (fun hb=>?_))<;>first|(with_reducible exact absurd hb (by assumption))|(exact absurd hb (by decide))|(with_reducible exact absurd hb Bool.false_ne_true)|(with_reducible exact absurd hb.symm Bool.false_ne_true)|(exfalso;first|(simp only[Aj]at hb<;>omega)|omega)|((try rw[hb]);(try simp only[Aa,Bool.false_eq_true,Bool.true_eq_false]at hb);(try subst hb)))
  |((with_reducible refine Exists.intro ?_ ?_);focus (and_intros<;>first|omega|(with_reducible assumption)|(with_reducible rfl)|kernel_rfl|exact rfl|assumption|(intro _ hh;cases hh;done)|exact Ah (by rfl)|exact size_map (fun _=>rfl)|exact Ai rfl|exact take_size (fun _=>rfl)|exact Ag rfl|exact Af (fun _=>rfl)|exact Ae (fun _=>rfl)|(simp only[Aj];omega)|(simp;done)|decide))
  |(with_reducible intro hfact)
  |((with_reducible refine And.intro ?_ ?_);focus (first|(with_reducible rfl)|(exact rfl)|decide)))
 all_goals(try(conv=>whnf))
 all_goals(refine Done.mk ⟨SV.bool_congr ?_,by kernel_rfl⟩ (by kernel_rfl))
 all_goals(simp only[decide_eq_decide,decide_eq_true_eq,decide_eq_false_iff_not,Bool.false_eq]at*;omega)
theorem Wx (k:Az):Fn Tryd.prog Qn [.v (.str k)] (Is (.v (.bool (decide (k.length≤256)))) [.no]):=by
 refine Qb ?_ (by simp)
 repeat'((conv=>whnf);first
  |((with_reducible refine Ax (by first|(with_reducible assumption)|(with_reducible exact Bool.of_not_eq_false (by assumption))|(with_reducible exact Bool.of_not_eq_true (by assumption))|((with_reducible refine decide_eq_true ?_);first|(with_reducible assumption)|omega)|((with_reducible refine decide_eq_false ?_);first|(with_reducible assumption)|omega)|(with_reducible rfl)) (fun hb=>?_));(try rw[hb]);(try simp only[Aa,Bool.false_eq_true,Bool.true_eq_false]at hb);(try subst hb))
  |((with_reducible refine Aw (by first|(with_reducible assumption)|(with_reducible exact Bool.of_not_eq_false (by assumption))|(with_reducible exact Bool.of_not_eq_true (by assumption))|((with_reducible refine decide_eq_true ?_);first|(with_reducible assumption)|omega)|((with_reducible refine decide_eq_false ?_);first|(with_reducible assumption)|omega)|(with_reducible rfl)) (fun hb=>?_));(try rw[hb]);(try simp only[Aa,Bool.false_eq_true,Bool.true_eq_false]at hb);(try subst hb))
  |((with_reducible refine And.intro (fun hb=>?_) (fun hb=>?_))<;>first|(with_reducible exact absurd hb (by assumption))|(exact absurd hb (by decide))|(with_reducible exact absurd hb Bool.false_ne_true)|(with_reducible exact absurd hb.symm Bool.false_ne_true)|(exfalso;first|(simp only[Aj]at hb<;>omega)|omega)|((try rw[hb]);(try simp only[Aa,Bool.false_eq_true,Bool.true_eq_false]at hb);(try subst hb)))
  |((with_reducible refine Exists.intro ?_ ?_);focus (and_intros<;>first|omega|(with_reducible assumption)|(with_reducible rfl)|kernel_rfl|exact rfl|assumption|(intro _ hh;cases hh;done)|exact Ah (by rfl)|exact size_map (fun _=>rfl)|exact Ai rfl|exact take_size (fun _=>rfl)|exact Ag rfl|exact Af (fun _=>rfl)|exact Ae (fun _=>rfl)|(simp only[Aj];omega)|(simp;done)|decide))
  |(with_reducible intro hfact)
  |((with_reducible refine And.intro ?_ ?_);focus (first|(with_reducible rfl)|(exact rfl)|decide)))
 all_goals(try(conv=>whnf))
 all_goals(refine Done.mk ⟨SV.bool_congr ?_,by kernel_rfl⟩ (by kernel_rfl))
 all_goals(simp only[decide_eq_decide];omega)
theorem L1 (n k:Az) (hn:n.length≤100000) (hk:k.length≤100000):Fn Tryd.prog Tw [.v (.str n),.v (.str k)] (Is (.v (.str (B7 n k))) [.no,.no]):=by
 refine Sc ?_ (by simp)
 repeat'((conv=>whnf);first
  |((with_reducible refine Ax (by first|(with_reducible assumption)|(with_reducible exact Bool.of_not_eq_false (by assumption))|(with_reducible exact Bool.of_not_eq_true (by assumption))|((with_reducible refine decide_eq_true ?_);first|(with_reducible assumption)|omega)|((with_reducible refine decide_eq_false ?_);first|(with_reducible assumption)|omega)|(with_reducible rfl)) (fun hb=>?_));(try rw[hb]);(try simp only[Aa,Bool.false_eq_true,Bool.true_eq_false]at hb);(try subst hb))
  |((with_reducible refine Aw (by first|(with_reducible assumption)|(with_reducible exact Bool.of_not_eq_false (by assumption))|(with_reducible exact Bool.of_not_eq_true (by assumption))|((with_reducible refine decide_eq_true ?_);first|(with_reducible assumption)|omega)|((with_reducible refine decide_eq_false ?_);first|(with_reducible assumption)|omega)|(with_reducible rfl)) (fun hb=>?_));(try rw[hb]);(try simp only[Aa,Bool.false_eq_true,Bool.true_eq_false]at hb);(try subst hb))
  |((with_reducible refine And.intro (fun hb=>?_) (fun hb=>?_))<;>first|(with_reducible exact absurd hb (by assumption))|(exact absurd hb (by decide))|(with_reducible exact absurd hb Bool.false_ne_true)|(with_reducible exact absurd hb.symm Bool.false_ne_true)|(exfalso;first|(simp only[Aj]at hb<;>omega)|omega)|((try rw[hb]);(try simp only[Aa,Bool.false_eq_true,Bool.true_eq_false]at hb);(try subst hb)))
  |((with_reducible refine Exists.intro ?_ ?_);focus (and_intros<;>first|omega|(with_reducible assumption)|(with_reducible rfl)|kernel_rfl|exact rfl|assumption|(intro _ hh;cases hh;done)|exact Ah (by rfl)|exact size_map (fun _=>rfl)|exact Ai rfl|exact take_size (fun _=>rfl)|exact Ag rfl|exact Af (fun _=>rfl)|exact Ae (fun _=>rfl)|(simp only[Aj];omega)|(simp;done)|decide))
  |(with_reducible intro hfact)
  |((with_reducible refine And.intro ?_ ?_);focus (first|(with_reducible rfl)|(exact rfl)|decide)))
 all_goals(try(conv=>whnf))
 refine Done.mk ⟨?_,by kernel_rfl⟩ (by kernel_rfl)
 show SV.v (.str _)=SV.v (.str _)
 have h:IntKind.u8.wrap (n.length:Int)=((n.length % 256:Nat):Int):=by simp[IntKind.wrap,IntKind.bits,IntKind.signed]
 rw[h,Int.toNat_natCast]
 rfl
theorem L2 (s:Az) (hs:s.length≤1000000):Fn Tryd.prog Tx [.v (.str s)] (Is (.tup [.i (.str (C1 s).1),.i (.str (C1 s).2.1),.i (.bool (C1 s).2.2)]) [.no]):=by
 refine Sd ?_ (by simp)
 cases s with
 |nil=>
  repeat'((conv=>whnf);first
   |((with_reducible refine Ax (by first|(with_reducible assumption)|(with_reducible exact Bool.of_not_eq_false (by assumption))|(with_reducible exact Bool.of_not_eq_true (by assumption))|((with_reducible refine decide_eq_true ?_);first|(with_reducible assumption)|omega)|((with_reducible refine decide_eq_false ?_);first|(with_reducible assumption)|omega)|(with_reducible rfl)) (fun hb=>?_));(try rw[hb]);(try simp only[Aa,Bool.false_eq_true,Bool.true_eq_false]at hb);(try subst hb))
   |((with_reducible refine Aw (by first|(with_reducible assumption)|(with_reducible exact Bool.of_not_eq_false (by assumption))|(with_reducible exact Bool.of_not_eq_true (by assumption))|((with_reducible refine decide_eq_true ?_);first|(with_reducible assumption)|omega)|((with_reducible refine decide_eq_false ?_);first|(with_reducible assumption)|omega)|(with_reducible rfl)) (fun hb=>?_));(try rw[hb]);(try simp only[Aa,Bool.false_eq_true,Bool.true_eq_false]at hb);(try subst hb))
   |((with_reducible refine And.intro (fun hb=>?_) (fun hb=>?_))<;>first|(with_reducible exact absurd hb (by assumption))|(exact absurd hb (by decide))|(with_reducible exact absurd hb Bool.false_ne_true)|(with_reducible exact absurd hb.symm Bool.false_ne_true)|(exfalso;first|(simp only[Aj]at hb<;>omega)|omega)|((try rw[hb]);(try simp only[Aa,Bool.false_eq_true,Bool.true_eq_false]at hb);(try subst hb)))
   |((with_reducible refine Exists.intro ?_ ?_);focus (and_intros<;>first|omega|(with_reducible assumption)|(with_reducible rfl)|kernel_rfl|exact rfl|assumption|(intro _ hh;cases hh;done)|exact Ah (by rfl)|exact size_map (fun _=>rfl)|exact Ai rfl|exact take_size (fun _=>rfl)|exact Ag rfl|exact Af (fun _=>rfl)|exact Ae (fun _=>rfl)|(simp only[Aj];omega)|(simp;done)|decide))
   |(with_reducible intro hfact)
   |((with_reducible refine And.intro ?_ ?_);focus (first|(with_reducible rfl)|(exact rfl)|decide))
   |((with_reducible apply Drawn.by0);(focus kernel_rfl);intro hfact;(try simp only[dRS]at hfact)))
  all_goals(try(conv=>whnf))
  (apply dKq<;>kernel_rfl)
 |cons c r=>
  have hne:¬decide (c::r=[])=true:=by simp
  simp only[List.length_cons]at hs
  have hc:=c.toNat_lt
  have hw1:IntKind.i64.wrap (c.toNat:Int)=(c.toNat:Int):=Bf (by omega)
  have hw2:IntKind.i64.wrap (1+(c.toNat:Int))=((1+c.toNat:Nat):Int):=by rw[Bf (by omega)];omega
  have hw3:IntKind.i64.wrap (((c::r).length:Int) - 1)=(r.length:Int):=by rw[List.length_cons,Bf (by omega)];omega
  by_cases hlt:r.length<c.toNat
  ·have h1:¬decide ((r.length:Int)<(c.toNat:Int))=false:=by simp;omega
   have hM:C1 (c::r)=([],[],false):=by simp[C1,hlt]
   rw[hM]
   repeat'((conv=>whnf);first
    |((with_reducible refine Ax (by first|(with_reducible assumption)|(with_reducible exact Bool.of_not_eq_false (by assumption))|(with_reducible exact Bool.of_not_eq_true (by assumption))|((with_reducible refine decide_eq_true ?_);first|(with_reducible assumption)|omega)|((with_reducible refine decide_eq_false ?_);first|(with_reducible assumption)|omega)|(with_reducible rfl)) (fun hb=>?_));(try rw[hb]);(try simp only[Aa,Bool.false_eq_true,Bool.true_eq_false]at hb);(try subst hb))
    |((with_reducible refine Aw (by first|(with_reducible assumption)|(with_reducible exact Bool.of_not_eq_false (by assumption))|(with_reducible exact Bool.of_not_eq_true (by assumption))|((with_reducible refine decide_eq_true ?_);first|(with_reducible assumption)|omega)|((with_reducible refine decide_eq_false ?_);first|(with_reducible assumption)|omega)|(with_reducible rfl)) (fun hb=>?_));(try rw[hb]);(try simp only[Aa,Bool.false_eq_true,Bool.true_eq_false]at hb);(try subst hb))
    |((with_reducible refine And.intro (fun hb=>?_) (fun hb=>?_))<;>first|(with_reducible exact absurd hb (by assumption))|(exact absurd hb (by decide))|(with_reducible exact absurd hb Bool.false_ne_true)|(with_reducible exact absurd hb.symm Bool.false_ne_true)|(exfalso;first|(simp only[Aj]at hb<;>omega)|omega)|((try rw[hb]);(try simp only[Aa,Bool.false_eq_true,Bool.true_eq_false]at hb);(try subst hb)))
    |((with_reducible refine Exists.intro ?_ ?_);focus (and_intros<;>first|omega|(with_reducible assumption)|(with_reducible rfl)|kernel_rfl|exact rfl|assumption|(intro _ hh;cases hh;done)|exact Ah (by rfl)|exact size_map (fun _=>rfl)|exact Ai rfl|exact take_size (fun _=>rfl)|exact Ag rfl|exact Af (fun _=>rfl)|exact Ae (fun _=>rfl)|(simp only[Aj];omega)|(simp;done)|decide))
    |(with_reducible intro hfact)
    |((with_reducible refine And.intro ?_ ?_);focus (first|(with_reducible rfl)|(exact rfl)|decide))
    |((with_reducible apply Drawn.by0);(focus kernel_rfl);intro hfact;(try simp only[dRS]at hfact))
    |((try dsimp only);rw[hw1])
    |((try dsimp only);rw[hw3]))
   all_goals(try(conv=>whnf))
   (apply dKq<;>kernel_rfl)
  ·have h1:¬decide ((r.length:Int)<(c.toNat:Int))=true:=by simp;omega
   have hM:C1 (c::r)=(r.take c.toNat,r.drop c.toNat,true):=by simp[C1,hlt]
   rw[hM]
   repeat'((conv=>whnf);first
    |((with_reducible refine Ax (by first|(with_reducible assumption)|(with_reducible exact Bool.of_not_eq_false (by assumption))|(with_reducible exact Bool.of_not_eq_true (by assumption))|((with_reducible refine decide_eq_true ?_);first|(with_reducible assumption)|omega)|((with_reducible refine decide_eq_false ?_);first|(with_reducible assumption)|omega)|(with_reducible rfl)) (fun hb=>?_));(try rw[hb]);(try simp only[Aa,Bool.false_eq_true,Bool.true_eq_false]at hb);(try subst hb))
    |((with_reducible refine Aw (by first|(with_reducible assumption)|(with_reducible exact Bool.of_not_eq_false (by assumption))|(with_reducible exact Bool.of_not_eq_true (by assumption))|((with_reducible refine decide_eq_true ?_);first|(with_reducible assumption)|omega)|((with_reducible refine decide_eq_false ?_);first|(with_reducible assumption)|omega)|(with_reducible rfl)) (fun hb=>?_));(try rw[hb]);(try simp only[Aa,Bool.false_eq_true,Bool.true_eq_false]at hb);(try subst hb))
    |((with_reducible refine And.intro (fun hb=>?_) (fun hb=>?_))<;>first|(with_reducible exact absurd hb (by assumption))|(exact absurd hb (by decide))|(with_reducible exact absurd hb Bool.false_ne_true)|(with_reducible exact absurd hb.symm Bool.false_ne_true)|(exfalso;first|(simp only[Aj]at hb<;>omega)|omega)|((try rw[hb]);(try simp only[Aa,Bool.false_eq_true,Bool.true_eq_false]at hb);(try subst hb)))
    |((with_reducible refine Exists.intro ?_ ?_);focus (and_intros<;>first|omega|(with_reducible assumption)|(with_reducible rfl)|kernel_rfl|exact rfl|assumption|(intro _ hh;cases hh;done)|exact Ah (by rfl)|exact size_map (fun _=>rfl)|exact Ai rfl|exact take_size (fun _=>rfl)|exact Ag rfl|exact Af (fun _=>rfl)|exact Ae (fun _=>rfl)|(simp only[Aj];omega)|(simp;done)|decide))
    |(with_reducible intro hfact)
    |((with_reducible refine And.intro ?_ ?_);focus (first|(with_reducible rfl)|(exact rfl)|decide))
    |((with_reducible apply Drawn.by0);(focus kernel_rfl);intro hfact;(try simp only[dRS]at hfact))
    |((try dsimp only);rw[hw1])
    |((try dsimp only);rw[hw3])
    |((try dsimp only);rw[hw2]))
   all_goals(try(conv=>whnf))
   refine Done.mk ⟨?_,by kernel_rfl⟩ (by kernel_rfl)
   show SV.tup [.i (.str _),.i (.str _),_]=_
   simp only[Int.toNat_natCast,Int.toNat_one,List.take_length]
   rw[Nat.add_comm 1 c.toNat,List.take_succ_cons,List.drop_succ_cons]
   rfl
theorem X8 (n:Int):Fn Tryd.prog Qm [.v (ti n)] (Is (.v (.bool false)) [.no]):=by
 refine Qa ?_ (by simp)
 repeat'((conv=>whnf);first
  |((with_reducible refine Ax (by first|(with_reducible assumption)|(with_reducible exact Bool.of_not_eq_false (by assumption))|(with_reducible exact Bool.of_not_eq_true (by assumption))|((with_reducible refine decide_eq_true ?_);first|(with_reducible assumption)|omega)|((with_reducible refine decide_eq_false ?_);first|(with_reducible assumption)|omega)|(with_reducible rfl)) (fun hb=>?_));(try rw[hb]);(try simp only[Aa,Bool.false_eq_true,Bool.true_eq_false]at hb);(try subst hb))
  |((with_reducible refine Aw (by first|(with_reducible assumption)|(with_reducible exact Bool.of_not_eq_false (by assumption))|(with_reducible exact Bool.of_not_eq_true (by assumption))|((with_reducible refine decide_eq_true ?_);first|(with_reducible assumption)|omega)|((with_reducible refine decide_eq_false ?_);first|(with_reducible assumption)|omega)|(with_reducible rfl)) (fun hb=>?_));(try rw[hb]);(try simp only[Aa,Bool.false_eq_true,Bool.true_eq_false]at hb);(try subst hb))
  |((with_reducible refine And.intro (fun hb=>?_) (fun hb=>?_))<;>first|(with_reducible exact absurd hb (by assumption))|(exact absurd hb (by decide))|(with_reducible exact absurd hb Bool.false_ne_true)|(with_reducible exact absurd hb.symm Bool.false_ne_true)|(exfalso;first|(simp only[Aj]at hb<;>omega)|omega)|((try rw[hb]);(try simp only[Aa,Bool.false_eq_true,Bool.true_eq_false]at hb);(try subst hb)))
  |((with_reducible refine Exists.intro ?_ ?_);focus (and_intros<;>first|omega|(with_reducible assumption)|(with_reducible rfl)|kernel_rfl|exact rfl|assumption|(intro _ hh;cases hh;done)|exact Ah (by rfl)|exact size_map (fun _=>rfl)|exact Ai rfl|exact take_size (fun _=>rfl)|exact Ag rfl|exact Af (fun _=>rfl)|exact Ae (fun _=>rfl)|(simp only[Aj];omega)|(simp;done)|decide))
  |(with_reducible intro hfact)
  |((with_reducible refine And.intro ?_ ?_);focus (first|(with_reducible rfl)|(exact rfl)|decide)))
 all_goals(try(conv=>whnf))
 exact Done.mk ⟨SV.bool_congr (by simp),by kernel_rfl⟩ (by kernel_rfl)
def cmpI (a b:Int):Int:=if a<b then -1 else if b<a then 1 else 0
theorem Ua (a b:Int):Fn Tryd.prog Pe [.v (ti a),.v (ti b)] (Is (.v (ti (cmpI a b))) [.no,.no]):=by
 refine Nd ?_ (by simp)
 repeat'((conv=>whnf);first
  |((with_reducible refine Ax (by first|(with_reducible assumption)|(with_reducible exact Bool.of_not_eq_false (by assumption))|(with_reducible exact Bool.of_not_eq_true (by assumption))|((with_reducible refine decide_eq_true ?_);first|(with_reducible assumption)|omega)|((with_reducible refine decide_eq_false ?_);first|(with_reducible assumption)|omega)|(with_reducible rfl)) (fun hb=>?_));(try rw[hb]);(try simp only[Aa,Bool.false_eq_true,Bool.true_eq_false]at hb);(try subst hb))
  |((with_reducible refine Aw (by first|(with_reducible assumption)|(with_reducible exact Bool.of_not_eq_false (by assumption))|(with_reducible exact Bool.of_not_eq_true (by assumption))|((with_reducible refine decide_eq_true ?_);first|(with_reducible assumption)|omega)|((with_reducible refine decide_eq_false ?_);first|(with_reducible assumption)|omega)|(with_reducible rfl)) (fun hb=>?_));(try rw[hb]);(try simp only[Aa,Bool.false_eq_true,Bool.true_eq_false]at hb);(try subst hb))
  |((with_reducible refine And.intro (fun hb=>?_) (fun hb=>?_))<;>first|(with_reducible exact absurd hb (by assumption))|(exact absurd hb (by decide))|(with_reducible exact absurd hb Bool.false_ne_true)|(with_reducible exact absurd hb.symm Bool.false_ne_true)|(exfalso;first|(simp only[Aj]at hb<;>omega)|omega)|((try rw[hb]);(try simp only[Aa,Bool.false_eq_true,Bool.true_eq_false]at hb);(try subst hb)))
  |((with_reducible refine Exists.intro ?_ ?_);focus (and_intros<;>first|omega|(with_reducible assumption)|(with_reducible rfl)|kernel_rfl|exact rfl|assumption|(intro _ hh;cases hh;done)|exact Ah (by rfl)|exact size_map (fun _=>rfl)|exact Ai rfl|exact take_size (fun _=>rfl)|exact Ag rfl|exact Af (fun _=>rfl)|exact Ae (fun _=>rfl)|(simp only[Aj];omega)|(simp;done)|decide))
  |(with_reducible intro hfact)
  |((with_reducible refine And.intro ?_ ?_);focus (first|(with_reducible rfl)|(exact rfl)|decide))
  |((with_reducible refine CallWp.mk ?_);refine⟨_,X8 _,?_⟩;rintro _ _ ⟨rfl,rfl⟩))
 all_goals(try(conv=>whnf))
 all_goals(refine Done.mk ⟨congrArg (fun n=>SV.v (.int .i64 n)) ?_,by kernel_rfl⟩ (by kernel_rfl))
 all_goals(simp only[cmpI];grind)
theorem Ka (a:Az) (x:I) (hx:x.size=1) (n:Az):Fn Tryd.prog E4 [.v (.agg [.str a,x]),.v (.str n)] (Is (.v (ti (cmpS a n))) [.no,.no]):=by
 refine J6 ?_ (by simp)
 repeat'((conv=>whnf);first
  |((with_reducible refine Ax (by first|(with_reducible assumption)|(with_reducible exact Bool.of_not_eq_false (by assumption))|(with_reducible exact Bool.of_not_eq_true (by assumption))|((with_reducible refine decide_eq_true ?_);first|(with_reducible assumption)|omega)|((with_reducible refine decide_eq_false ?_);first|(with_reducible assumption)|omega)|(with_reducible rfl)) (fun hb=>?_));(try rw[hb]);(try simp only[Aa,Bool.false_eq_true,Bool.true_eq_false]at hb);(try subst hb))
  |((with_reducible refine Aw (by first|(with_reducible assumption)|(with_reducible exact Bool.of_not_eq_false (by assumption))|(with_reducible exact Bool.of_not_eq_true (by assumption))|((with_reducible refine decide_eq_true ?_);first|(with_reducible assumption)|omega)|((with_reducible refine decide_eq_false ?_);first|(with_reducible assumption)|omega)|(with_reducible rfl)) (fun hb=>?_));(try rw[hb]);(try simp only[Aa,Bool.false_eq_true,Bool.true_eq_false]at hb);(try subst hb))
  |((with_reducible refine And.intro (fun hb=>?_) (fun hb=>?_))<;>first|(with_reducible exact absurd hb (by assumption))|(exact absurd hb (by decide))|(with_reducible exact absurd hb Bool.false_ne_true)|(with_reducible exact absurd hb.symm Bool.false_ne_true)|(exfalso;first|(simp only[Aj]at hb<;>omega)|omega)|((try rw[hb]);(try simp only[Aa,Bool.false_eq_true,Bool.true_eq_false]at hb);(try subst hb)))
  |((with_reducible refine Exists.intro ?_ ?_);focus (and_intros<;>first|omega|(with_reducible assumption)|(with_reducible rfl)|kernel_rfl|exact rfl|assumption|(intro _ hh;cases hh;done)|exact Ah (by rfl)|exact size_map (fun _=>rfl)|exact Ai rfl|exact take_size (fun _=>rfl)|exact Ag rfl|exact Af (fun _=>rfl)|exact Ae (fun _=>rfl)|(simp only[Aj];omega)|(simp;done)|decide))
  |(with_reducible intro hfact)
  |((with_reducible refine And.intro ?_ ?_);focus (first|(with_reducible rfl)|(exact rfl)|decide))
  |((with_reducible refine CallWp.mk ?_);refine⟨_,Ww _ _,?_⟩;rintro _ _ ⟨rfl,rfl⟩))
 all_goals(try(conv=>whnf))
 exact Done.mk ⟨rfl,by kernel_rfl⟩ (by kernel_rfl)
theorem Gx (v:Ver) (n:Int):Fn Tryd.prog Ew [.v v.toI,.v (ti n)] (Is (.v (ti (cmpI v.rev n))) [.no,.no]):=by
 refine Jk ?_ (by simp)
 repeat'((conv=>whnf);first
  |((with_reducible refine Ax (by first|(with_reducible assumption)|(with_reducible exact Bool.of_not_eq_false (by assumption))|(with_reducible exact Bool.of_not_eq_true (by assumption))|((with_reducible refine decide_eq_true ?_);first|(with_reducible assumption)|omega)|((with_reducible refine decide_eq_false ?_);first|(with_reducible assumption)|omega)|(with_reducible rfl)) (fun hb=>?_));(try rw[hb]);(try simp only[Aa,Bool.false_eq_true,Bool.true_eq_false]at hb);(try subst hb))
  |((with_reducible refine Aw (by first|(with_reducible assumption)|(with_reducible exact Bool.of_not_eq_false (by assumption))|(with_reducible exact Bool.of_not_eq_true (by assumption))|((with_reducible refine decide_eq_true ?_);first|(with_reducible assumption)|omega)|((with_reducible refine decide_eq_false ?_);first|(with_reducible assumption)|omega)|(with_reducible rfl)) (fun hb=>?_));(try rw[hb]);(try simp only[Aa,Bool.false_eq_true,Bool.true_eq_false]at hb);(try subst hb))
  |((with_reducible refine And.intro (fun hb=>?_) (fun hb=>?_))<;>first|(with_reducible exact absurd hb (by assumption))|(exact absurd hb (by decide))|(with_reducible exact absurd hb Bool.false_ne_true)|(with_reducible exact absurd hb.symm Bool.false_ne_true)|(exfalso;first|(simp only[Aj]at hb<;>omega)|omega)|((try rw[hb]);(try simp only[Aa,Bool.false_eq_true,Bool.true_eq_false]at hb);(try subst hb)))
  |((with_reducible refine Exists.intro ?_ ?_);focus (and_intros<;>first|omega|(with_reducible assumption)|(with_reducible rfl)|kernel_rfl|exact rfl|assumption|(intro _ hh;cases hh;done)|exact Ah (by rfl)|exact size_map (fun _=>rfl)|exact Ai rfl|exact take_size (fun _=>rfl)|exact Ag rfl|exact Af (fun _=>rfl)|exact Ae (fun _=>rfl)|(simp only[Aj];omega)|(simp;done)|decide))
  |(with_reducible intro hfact)
  |((with_reducible refine And.intro ?_ ?_);focus (first|(with_reducible rfl)|(exact rfl)|decide))
  |((with_reducible refine CallWp.mk ?_);refine⟨_,Ua _ _,?_⟩;rintro _ _ ⟨rfl,rfl⟩))
 all_goals(try(conv=>whnf))
 exact Done.mk ⟨rfl,by kernel_rfl⟩ (by kernel_rfl)

open Go.Proofs
theorem Abz {l:List I} {n:Nat} {y u:I} (h:l[n]?=some y):putV l [n] u=l.set n u:=by
 have:y.put [] u=u:=by cases y<;>rfl
 simp[putV,h,this]
abbrev bys (s:Az):List I:=s.map Jm
theorem Lg:∀s:Az,bytesOf (bys s)=some s
 | []=>rfl
 |b::s=>by simp[bys,Jm,bytesOf,Lg s]
theorem Xn {s:Az} {k:Nat} {x:UInt8} (h:s[k]?=some x):(bys s)[k]?=some (.int .u8 x.toNat):=by simp[h,Jm]
def cutN (p:Az):Nat:=(p.reverse.dropWhile (· ==255)).length
theorem Lf {p:Az} {n:Nat} (hn:n≤p.length) (h:∀x∈p.drop n,x=255) (h2:n=0∨∃x,p[n - 1]?=some x∧x≠255):cutN p=n:=by
 unfold cutN
 have h3:p.reverse=(p.drop n).reverse++(p.take n).reverse:=by rw[←List.reverse_append,List.take_append_drop]
 rw[h3,List.dropWhile_append_of_pos (by intro x hx;simp at hx;simp[h x hx])]
 by_cases h0:n=0
 ·subst h0
  simp
 ·rcases h2 with h2|⟨x,hx,hne⟩
  ·exact absurd h2 h0
  ·have hl:=(List.getElem?_eq_some_iff.1 hx).1
   have:p.take n=p.take (n - 1)++[x]:=by
    conv=>lhs;rw[show n=n - 1+1 from by omega,List.take_add_one,hx]
    rfl
   rw[this,List.reverse_append]
   have hd:([x].reverse++(p.take (n - 1)).reverse).dropWhile (· ==255)=[x].reverse++(p.take (n - 1)).reverse:=by
    simp[hne]
   rw[hd]
   simp
   omega
def under (p:Az):Az:=match cutN p with
 |0=>[]
 |n+1=>p.take n++[p.getD n 0+1]
theorem Aby {x:UInt8} (h:x≠255):IntKind.u8.wrap ((x.toNat:Int)+1)=((x+1).toNat:Int):=by
 have h1:x.toNat≠255:=fun e=>h (UInt8.toNat_inj.1 (by simpa using e))
 have h2:=x.toNat_lt
 rw[UInt8.toNat_add]
 simp[IntKind.wrap,IntKind.bits,IntKind.signed]
theorem Ab0 {e:Nat} {l:List I} {n:Nat} {u:I} (h:l[n]?=some u):(SV.vec e 1 l).hit 0 [n]=some (n*1+0,.item u):=by
 have:u.sub []=some (0,u):=by cases u<;>rfl
 simp[SV.hit,hitV,h,hitI,this]
theorem Na (p:Az) (hp:p.length≤100000):Fn Tryd.prog Kx [.v (.str p)] (Is (.v (⟨p,under p⟩:Sp).toI) [.no]):=by
 refine Mg ?_ (by simp)
 repeat'((conv=>whnf);first
  |((with_reducible refine Ax (by first|(with_reducible assumption)|(with_reducible exact Bool.of_not_eq_false (by assumption))|(with_reducible exact Bool.of_not_eq_true (by assumption))|((with_reducible refine decide_eq_true ?_);first|(with_reducible assumption)|omega)|((with_reducible refine decide_eq_false ?_);first|(with_reducible assumption)|omega)|(with_reducible rfl)) (fun hb=>?_));(try rw[hb]);(try simp only[Aa,Bool.false_eq_true,Bool.true_eq_false]at hb);(try subst hb))
  |((with_reducible refine Aw (by first|(with_reducible assumption)|(with_reducible exact Bool.of_not_eq_false (by assumption))|(with_reducible exact Bool.of_not_eq_true (by assumption))|((with_reducible refine decide_eq_true ?_);first|(with_reducible assumption)|omega)|((with_reducible refine decide_eq_false ?_);first|(with_reducible assumption)|omega)|(with_reducible rfl)) (fun hb=>?_));(try rw[hb]);(try simp only[Aa,Bool.false_eq_true,Bool.true_eq_false]at hb);(try subst hb))
  |((with_reducible refine And.intro (fun hb=>?_) (fun hb=>?_))<;>first|(with_reducible exact absurd hb (by assumption))|(exact absurd hb (by decide))|(with_reducible exact absurd hb Bool.false_ne_true)|(with_reducible exact absurd hb.symm Bool.false_ne_true)|(exfalso;first|(simp only[Aj]at hb<;>omega)|omega)|((try rw[hb]);(try simp only[Aa,Bool.false_eq_true,Bool.true_eq_false]at hb);(try subst hb)))
  |((with_reducible refine Exists.intro ?_ ?_);focus (and_intros<;>first|omega|(with_reducible assumption)|(with_reducible rfl)|kernel_rfl|exact rfl|assumption|(intro _ hh;cases hh;done)|exact Ah (by rfl)|exact size_map (fun _=>rfl)|exact Ai rfl|exact take_size (fun _=>rfl)|exact Ag rfl|exact Af (fun _=>rfl)|exact Ae (fun _=>rfl)|(simp only[Aj];omega)|(simp;done)|decide))
  |(with_reducible intro hfact)
  |((with_reducible refine And.intro ?_ ?_);focus (first|(with_reducible rfl)|(exact rfl)|decide)))
 all_goals(try(conv=>whnf))
 refine LoopWq.by (X:=Nat) (fun x=>[(3,.vec 1000005 1 (bys (p.take x)))]) (fun x=>x≤p.length∧∀y∈p.drop x,y=255) (fun x=>x)
  p.length (by rw[List.take_length];kernel_rfl) ⟨Nat.le_refl _,by simp⟩ ?_
 rintro n ⟨h1,h2⟩
 have hlen:(bys (p.take n)).length=n:=by simp;omega
 by_cases h0:n=0
 ·subst h0
  rw[List.take_zero]
  have hcut:=Lf h1 h2 (.inl rfl)
  have hu:under p=[]:=by unfold under;rw[hcut]
  repeat'((conv=>whnf);first
   |((with_reducible refine Ax (by first|(with_reducible assumption)|(with_reducible exact Bool.of_not_eq_false (by assumption))|(with_reducible exact Bool.of_not_eq_true (by assumption))|((with_reducible refine decide_eq_true ?_);first|(with_reducible assumption)|omega)|((with_reducible refine decide_eq_false ?_);first|(with_reducible assumption)|omega)|(with_reducible rfl)) (fun hb=>?_));(try rw[hb]);(try simp only[Aa,Bool.false_eq_true,Bool.true_eq_false]at hb);(try subst hb))
   |((with_reducible refine Aw (by first|(with_reducible assumption)|(with_reducible exact Bool.of_not_eq_false (by assumption))|(with_reducible exact Bool.of_not_eq_true (by assumption))|((with_reducible refine decide_eq_true ?_);first|(with_reducible assumption)|omega)|((with_reducible refine decide_eq_false ?_);first|(with_reducible assumption)|omega)|(with_reducible rfl)) (fun hb=>?_));(try rw[hb]);(try simp only[Aa,Bool.false_eq_true,Bool.true_eq_false]at hb);(try subst hb))
   |((with_reducible refine And.intro (fun hb=>?_) (fun hb=>?_))<;>first|(with_reducible exact absurd hb (by assumption))|(exact absurd hb (by decide))|(with_reducible exact absurd hb Bool.false_ne_true)|(with_reducible exact absurd hb.symm Bool.false_ne_true)|(exfalso;first|(simp only[Aj]at hb<;>omega)|omega)|((try rw[hb]);(try simp only[Aa,Bool.false_eq_true,Bool.true_eq_false]at hb);(try subst hb)))
   |((with_reducible refine Exists.intro ?_ ?_);focus (and_intros<;>first|omega|(with_reducible assumption)|(with_reducible rfl)|kernel_rfl|exact rfl|assumption|(intro _ hh;cases hh;done)|exact Ah (by rfl)|exact size_map (fun _=>rfl)|exact Ai rfl|exact take_size (fun _=>rfl)|exact Ag rfl|exact Af (fun _=>rfl)|exact Ae (fun _=>rfl)|(simp only[Aj];omega)|(simp;done)|decide))
   |(with_reducible intro hfact)
   |((with_reducible refine And.intro ?_ ?_);focus (first|(with_reducible rfl)|(exact rfl)|decide)))
  all_goals(try(conv=>whnf))
  refine Done.mk ⟨?_,by kernel_rfl⟩ (by kernel_rfl)
  rw[hu]
  rfl
 obtain⟨x,hx⟩:∃x,p[n - 1]?=some x:=⟨_,List.getElem?_eq_getElem (by omega)⟩
 have n1:¬decide ((0:Int)<((bys (p.take n)).length:Int))=false:=by rw[hlen];simp;omega
 have hw:IntKind.i64.wrap (((bys (p.take n)).length:Int) - 1)=((n - 1:Nat):Int):=by
  rw[hlen]
  exact(Bf (by omega)).trans (by omega)
 have hb0:0≤IntKind.i64.wrap (((bys (p.take n)).length:Int) - 1):=by rw[hw];omega
 have hb1:IntKind.i64.wrap (((bys (p.take n)).length:Int) - 1)≤((bys (p.take n)).length:Int):=by rw[hw,hlen];omega
 have hb2:Int.toNat (IntKind.i64.wrap (((bys (p.take n)).length:Int) - 1))<(bys (p.take n)).length:=by rw[hw,hlen];omega
 have hg:(bys (p.take n))[Int.toNat (IntKind.i64.wrap (((bys (p.take n)).length:Int) - 1))]?=some (.int .u8 x.toNat):=by
  rw[hw,Int.toNat_natCast]
  exact Xn (by rw[List.getElem?_take,if_pos (by omega),hx])
 have hh:=Ab0 (e:=1000005) hg
 by_cases hx2:x=255
 ·have n2:¬decide ((x.toNat:Int)=255)=false:=by simp[hx2]
  repeat'((conv=>whnf);first
   |((with_reducible refine Ax (by first|(with_reducible assumption)|(with_reducible exact Bool.of_not_eq_false (by assumption))|(with_reducible exact Bool.of_not_eq_true (by assumption))|((with_reducible refine decide_eq_true ?_);first|(with_reducible assumption)|omega)|((with_reducible refine decide_eq_false ?_);first|(with_reducible assumption)|omega)|(with_reducible rfl)) (fun hb=>?_));(try rw[hb]);(try simp only[Aa,Bool.false_eq_true,Bool.true_eq_false]at hb);(try subst hb))
   |((with_reducible refine Aw (by first|(with_reducible assumption)|(with_reducible exact Bool.of_not_eq_false (by assumption))|(with_reducible exact Bool.of_not_eq_true (by assumption))|((with_reducible refine decide_eq_true ?_);first|(with_reducible assumption)|omega)|((with_reducible refine decide_eq_false ?_);first|(with_reducible assumption)|omega)|(with_reducible rfl)) (fun hb=>?_));(try rw[hb]);(try simp only[Aa,Bool.false_eq_true,Bool.true_eq_false]at hb);(try subst hb))
   |((with_reducible refine And.intro (fun hb=>?_) (fun hb=>?_))<;>first|(with_reducible exact absurd hb (by assumption))|(exact absurd hb (by decide))|(with_reducible exact absurd hb Bool.false_ne_true)|(with_reducible exact absurd hb.symm Bool.false_ne_true)|(exfalso;first|(simp only[Aj]at hb<;>omega)|omega)|((try rw[hb]);(try simp only[Aa,Bool.false_eq_true,Bool.true_eq_false]at hb);(try subst hb)))
   |((with_reducible refine Exists.intro ?_ ?_);focus (and_intros<;>first|omega|(with_reducible assumption)|(with_reducible rfl)|kernel_rfl|exact rfl|assumption|(intro _ hh;cases hh;done)|exact Ah (by rfl)|exact size_map (fun _=>rfl)|exact Ai rfl|exact take_size (fun _=>rfl)|exact Ag rfl|exact Af (fun _=>rfl)|exact Ae (fun _=>rfl)|(simp only[Aj];omega)|(simp;done)|decide))
   |(with_reducible intro hfact)
   |((with_reducible refine And.intro ?_ ?_);focus (first|(with_reducible rfl)|(exact rfl)|decide))
   |((try dsimp only);rw[hh]))
  all_goals(try(conv=>whnf))
  refine Round.by (n - 1) ?_ ⟨by omega,fun y hy=>?_⟩ (by omega)
  ·have:bys (p.take (n - 1))=(bys (p.take n)).take (Int.toNat (IntKind.i64.wrap (((bys (p.take n)).length:Int) - 1))):=by
    rw[hw,Int.toNat_natCast, ←List.map_take,List.take_take,Nat.min_eq_left (by omega)]
   rw[this]
   show norm _ _=upd _ _
   kernel_rfl
  ·rw[List.drop_eq_getElem_cons (by omega)]at hy
   rcases List.mem_cons.1 hy with rfl|hy
   ·rw[List.getElem?_eq_getElem (by omega)]at hx
    simp only[Option.some.injEq]at hx
    rw[hx,hx2]
   ·rw[show n - 1+1=n from by omega]at hy
    exact h2 y hy
 ·have n2:¬decide ((x.toNat:Int)=255)=true:=by
   simp
   intro e
   exact hx2 (UInt8.toNat_inj.1 (by simpa using(by exact_mod_cast e:x.toNat=255)))
  have hcut:=Lf h1 h2 (.inr ⟨x,hx,hx2⟩)
  have hu:under p=p.take (n - 1)++[x+1]:=by
   unfold under
   rw[hcut]
   obtain⟨m,rfl⟩:∃m,n=m+1:=⟨n - 1,by omega⟩
   simp only[Nat.add_sub_cancel]at hx ⊢
   rw[List.getD,hx]
   rfl
  have hbl:bys (p.take (n - 1)++[x+1])=(bys (p.take n)).set (n - 1) (.int .u8 ((x+1).toNat:Int)):=by
   have:p.take n=p.take (n - 1)++[x]:=by
    conv=>lhs;rw[show n=n - 1+1 from by omega,List.take_add_one,hx]
    rfl
   have hl:(bys (p.take (n - 1))).length=n - 1:=by simp;omega
   rw[this,bys,bys,List.map_append,List.map_append]
   conv=>rhs;rw[List.set_append_right _ _ (by rw[hl];exact Nat.le_refl _),hl,Nat.sub_self]
   rfl
  have hv:(SV.vec 1000005 1 (putV (bys (p.take n)) [Int.toNat (IntKind.i64.wrap (((bys (p.take n)).length:Int) - 1))] (.int .u8 (IntKind.u8.wrap ((x.toNat:Int)+1))))).vecAt 0=some (1000005,1,putV (bys (p.take n)) [Int.toNat (IntKind.i64.wrap (((bys (p.take n)).length:Int) - 1))] (.int .u8 (IntKind.u8.wrap ((x.toNat:Int)+1)))):=rfl
  have hbo:bytesOf (putV (bys (p.take n)) [Int.toNat (IntKind.i64.wrap (((bys (p.take n)).length:Int) - 1))] (.int .u8 (IntKind.u8.wrap ((x.toNat:Int)+1))))=some (under p):=by
   rw[Abz hg,hw,Int.toNat_natCast,Aby hx2, ←hbl,Lg,hu]
  have hum:(under p).length≤maxLen:=by rw[hu];simp[maxLen];omega
  repeat'((conv=>whnf);first
   |((with_reducible refine Ax (by first|(with_reducible assumption)|(with_reducible exact Bool.of_not_eq_false (by assumption))|(with_reducible exact Bool.of_not_eq_true (by assumption))|((with_reducible refine decide_eq_true ?_);first|(with_reducible assumption)|omega)|((with_reducible refine decide_eq_false ?_);first|(with_reducible assumption)|omega)|(with_reducible rfl)) (fun hb=>?_));(try rw[hb]);(try simp only[Aa,Bool.false_eq_true,Bool.true_eq_false]at hb);(try subst hb))
   |((with_reducible refine Aw (by first|(with_reducible assumption)|(with_reducible exact Bool.of_not_eq_false (by assumption))|(with_reducible exact Bool.of_not_eq_true (by assumption))|((with_reducible refine decide_eq_true ?_);first|(with_reducible assumption)|omega)|((with_reducible refine decide_eq_false ?_);first|(with_reducible assumption)|omega)|(with_reducible rfl)) (fun hb=>?_));(try rw[hb]);(try simp only[Aa,Bool.false_eq_true,Bool.true_eq_false]at hb);(try subst hb))
   |((with_reducible refine And.intro (fun hb=>?_) (fun hb=>?_))<;>first|(with_reducible exact absurd hb (by assumption))|(exact absurd hb (by decide))|(with_reducible exact absurd hb Bool.false_ne_true)|(with_reducible exact absurd hb.symm Bool.false_ne_true)|(exfalso;first|(simp only[Aj]at hb<;>omega)|omega)|((try rw[hb]);(try simp only[Aa,Bool.false_eq_true,Bool.true_eq_false]at hb);(try subst hb)))
   |((with_reducible refine Exists.intro ?_ ?_);focus (and_intros<;>first|omega|(with_reducible assumption)|(with_reducible rfl)|kernel_rfl|exact rfl|assumption|(intro _ hh;cases hh;done)|exact Ah (by rfl)|exact size_map (fun _=>rfl)|exact Ai rfl|exact take_size (fun _=>rfl)|exact Ag rfl|exact Af (fun _=>rfl)|exact Ae (fun _=>rfl)|(simp only[Aj];omega)|(simp;done)|decide))
   |(with_reducible intro hfact)
   |((with_reducible refine And.intro ?_ ?_);focus (first|(with_reducible rfl)|(exact rfl)|decide))
   |((try dsimp only);rw[hh])
   |((try dsimp only);rw[hv])
   |((try dsimp only);rw[hbo]))
  all_goals(try(conv=>whnf))
  exact Done.mk ⟨rfl,by kernel_rfl⟩ (by kernel_rfl)

theorem Km:∀{p k:Az},(∀x∈p,x=255)→(p≤k↔p<+:k)
 | [],k,_=>by simp
 |c::p,[],_=>by simp
 |c::p,x::k,h=>by
  have hc:=h c (List.mem_cons_self ..)
  subst hc
  have ih:=Km (p:=p) (k:=k) fun y hy=>h y (List.mem_cons_of_mem _ hy)
  rw[List.cons_le_cons_iff,List.cons_prefix_cons,ih]
  have h1:¬(255:UInt8)<x:=by
   intro h2
   have h3:=UInt8.lt_iff_toNat_lt.1 h2
   have h4:=x.toNat_lt
   simp at h3
   omega
  simp[h1]
theorem lt_succ {x c:UInt8} (hc:c≠255):x<c+1↔x<c∨x=c:=by
 have h1:c.toNat≠255:=fun e=>hc (UInt8.toNat_inj.1 (by simpa using e))
 have h2:=c.toNat_lt
 have h3:(c+1).toNat=c.toNat+1:=by
  rw[UInt8.toNat_add]
  simp
  omega
 rw[UInt8.lt_iff_toNat_lt,UInt8.lt_iff_toNat_lt,h3, ←UInt8.toNat_inj]
 omega
theorem Lq:∀{q:Az} {c:UInt8} {F k:Az},c≠255→(∀x∈F,x=255)→((q++c::F≤k∧k<q++[c+1])↔q++c::F<+:k)
 | [],c,F,[],hc,hF=>by simp
 | [],c,F,x::k,hc,hF=>by
   have h1:=Km (k:=k) hF
   simp only[List.nil_append]
   rw[List.cons_le_cons_iff,List.cons_lt_cons_iff,List.cons_prefix_cons,lt_succ hc, ←h1]
   have h2:¬k<[]:=List.not_lt_nil k
   constructor
   ·rintro⟨h3,h4⟩
    rcases h4 with(h4|rfl)|⟨_,h4⟩
    ·rcases h3 with h3|⟨h3,_⟩
     ·exact absurd (UInt8.lt_trans h3 h4) (UInt8.lt_irrefl _)
     ·subst h3;exact absurd h4 (UInt8.lt_irrefl _)
    ·rcases h3 with h3|⟨_,h3⟩
     ·exact absurd h3 (UInt8.lt_irrefl _)
     ·exact⟨rfl,h3⟩
    ·exact absurd h4 h2
   ·rintro⟨rfl,h3⟩
    exact⟨.inr ⟨rfl,h3⟩,.inl (.inr rfl)⟩
 |a::q,c,F,[],hc,hF=>by simp
 |a::q,c,F,x::k,hc,hF=>by
  have ih:=Lq (q:=q) (k:=k) hc hF
  simp only[List.cons_append]
  rw[List.cons_le_cons_iff,List.cons_lt_cons_iff,List.cons_prefix_cons, ←ih]
  constructor
  ·rintro⟨h3,h4⟩
   rcases h3 with h3|⟨rfl,h3⟩
   ·rcases h4 with h4|⟨rfl,_⟩
    ·exact absurd (UInt8.lt_trans h3 h4) (UInt8.lt_irrefl _)
    ·exact absurd h3 (UInt8.lt_irrefl _)
   ·rcases h4 with h4|⟨_,h4⟩
    ·exact absurd h4 (UInt8.lt_irrefl _)
    ·exact⟨rfl,h3,h4⟩
  ·rintro⟨rfl,h3,h4⟩
   exact⟨.inr ⟨rfl,h3⟩,.inr ⟨rfl,h4⟩⟩
theorem Mi:∀p:Az,(∀x∈p,x=255)∨∃(q:Az) (c:UInt8) (F:Az),p=q++c::F∧c≠255∧∀x∈F,x=255
 | []=>.inl (by simp)
 |a::p=>by
  rcases Mi p with h|⟨q,c,F,rfl,h1,h2⟩
  ·by_cases ha:a=255
   ·left
    intro x hx
    rcases List.mem_cons.1 hx with rfl|hx
    ·exact ha
    ·exact h x hx
   ·exact .inr ⟨[],a,p,rfl,ha,h⟩
  ·exact .inr ⟨a::q,c,F,rfl,h1,h2⟩
theorem Vi {p:Az} (h:∀x∈p,x=255):under p=[]:=by
 unfold under
 rw[Lf (n:=0) (Nat.zero_le _) h (.inl rfl)]
theorem Nf {q F:Az} {c:UInt8} (hc:c≠255) (hF:∀x∈F,x=255):under (q++c::F)=q++[c+1]:=by
 have h0:(q++c::F)[q.length]?=some c:=by simp
 unfold under
 rw[Lf (n:=q.length+1) (by simp) (by
  have:(q++c::F).drop (q.length+1)=F:=by
   rw[List.drop_append]
   simp
  rw[this];exact hF) (.inr ⟨c,by simp,hc⟩)]
 simp only
 rw[List.getD,h0]
 simp
theorem Pf (p k:Az):SpH ⟨p,under p⟩ k↔p<+:k:=by
 unfold SpH
 rcases Mi p with h|⟨q,c,F,rfl,h1,h2⟩
 ·rw[Vi h]
  simp[Km h]
 ·rw[Nf h1 h2, ←Lq h1 h2]
  simp
theorem Mo {m n k:Az} (hm:m.length≤255) (hn:n.length≤255):B7 m []<+:B7 n k↔n=m:=by
 unfold B7
 have h1:∀x:Az,x.length≤255→(UInt8.ofNat (x.length % 256)).toNat=x.length:=fun x hx=>by rw[UInt8.toNat_ofNat'];omega
 rw[List.append_nil]
 show(UInt8.ofNat (m.length % 256)::m)<+:(UInt8.ofNat (n.length % 256)::(n++k))↔_
 rw[List.cons_prefix_cons]
 constructor
 ·rintro⟨h2,h3⟩
  have h4:m.length=n.length:=by rw[←h1 m hm, ←h1 n hn,h2]
  exact(List.prefix_of_prefix_length_le (List.prefix_append n k) h3 (by omega)).eq_of_length h4.symm
 ·rintro rfl
  exact⟨rfl,List.prefix_append _ _⟩
theorem Ms {n k:Az} (hn:n.length≤255):(C1 ((B7 n k).take n.length)).2.2=false:=by
 unfold B7
 cases h:n.length with
 |zero=>rfl
 |succ j=>
  have h1:(UInt8.ofNat (n.length % 256)).toNat=n.length:=by rw[UInt8.toNat_ofNat'];omega
  rw[h]at h1
  show(C1 (UInt8.ofNat ((j+1) % 256)::(n++k).take j)).2.2=false
  simp only[C1]
  rw[h1,if_pos (by rw[List.length_take];omega)]
end Go.Ab
