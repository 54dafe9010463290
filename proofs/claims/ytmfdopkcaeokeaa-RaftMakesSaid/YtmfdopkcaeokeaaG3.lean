/- Lemmas -/
import Derived.Test.YtmfdopkcaeokeaaG2
set_option linter.unusedVariables false
set_option linter.unusedSimpArgs false
set_option maxRecDepth 100000
set_option maxHeartbeats 40000000
namespace Go.Ab
open Go.Proofs
def oth (id:Int) (k:Nat):List Nat:=(List.range' 1 k).filter fun p=>decide ((p:Int)≠id)
theorem Gt (id:Int) (k:Nat):oth id (k+1)=oth id k++(if((k+1:Nat):Int)≠id then[k+1]else[]):=by
 unfold oth
 rw[List.range'_concat,List.filter_append]
 congr 1
 by_cases h:((k+1:Nat):Int)≠id
 ·rw[if_pos h,show 1+1*k=k+1 by omega];simp only[List.filter_cons,List.filter_nil];rw[if_pos (by simpa using h)]
 ·rw[if_neg h,show 1+1*k=k+1 by omega];simp only[List.filter_cons,List.filter_nil];rw[if_neg (by simpa using h)]
def Rn.oths (n:Rn):List Nat:=oth n.id n.size.toNat
def Rn.sendAllM (n:Rn) (o:Ro):Ro:=n.oths.foldl (fun o p=>n.sendM p o) o
theorem Z8 (n:Rn) (p:Nat) (o:Ro):(n.sendM p o).msgs.length=o.msgs.length+1:=by
 unfold Rn.sendM Ro.sayM;split<;>simp
theorem R1 (n:Rn):∀(l:List Nat) (o:Ro),(l.foldl (fun o p=>n.sendM p o) o).msgs.length=o.msgs.length+l.length
 | [],o=>rfl
 |p::l,o=>by rw[List.foldl_cons,R1 n l,Z8,List.length_cons];omega
theorem Qy (id:Int) (k:Nat):(oth id k).length≤k:=Nat.le_trans (List.length_filter_le _ _) (by simp)
theorem Gy (n:Rn) (hR:Right n.lix n.ltm n.les) (hs:0≤n.size∧n.size≤7) (o:Ro) (h:o.msgs.length≤900000):
 Fn Try.prog Kn [nP n,oP o] (Is (.tup []) [nP n,oP (n.sendAllM o)]):=by
 refine J5 ?_ (by simp)
 repeat'((conv=>whnf);first
  |((with_reducible refine Ar (by first|(with_reducible assumption)|(with_reducible exact Bool.of_not_eq_false (by assumption))|(with_reducible exact Bool.of_not_eq_true (by assumption))|((with_reducible refine decide_eq_true ?_);first|(with_reducible assumption)|omega)|((with_reducible refine decide_eq_false ?_);first|(with_reducible assumption)|omega)|(with_reducible rfl)) (fun hb=>?_));(try rw[hb]);(try simp only[Aa,Bool.false_eq_true,Bool.true_eq_false]at hb);(try subst hb))
  |((with_reducible refine Aq (by first|(with_reducible assumption)|(with_reducible exact Bool.of_not_eq_false (by assumption))|(with_reducible exact Bool.of_not_eq_true (by assumption))|((with_reducible refine decide_eq_true ?_);first|(with_reducible assumption)|omega)|((with_reducible refine decide_eq_false ?_);first|(with_reducible assumption)|omega)|(with_reducible rfl)) (fun hb=>?_));(try rw[hb]);(try simp only[Aa,Bool.false_eq_true,Bool.true_eq_false]at hb);(try subst hb))
  |((with_reducible refine And.intro (fun hb=>?_) (fun hb=>?_))<;>first|(with_reducible exact absurd hb (by assumption))|(exact absurd hb (by decide))|(with_reducible exact absurd hb Bool.false_ne_true)|(with_reducible exact absurd hb.symm Bool.false_ne_true)|(exfalso;first|(simp only[Aj]at hb<;>omega)|omega)|((try rw[hb]);(try simp only[Aa,Bool.false_eq_true,Bool.true_eq_false]at hb);(try subst hb)))
  |((with_reducible refine Exists.intro ?_ ?_);focus (and_intros<;>first|omega|(with_reducible assumption)|(with_reducible rfl)|kernel_rfl|exact rfl|assumption|(intro _ hh;cases hh;done)|exact Ah (by rfl)|exact size_map (fun _=>rfl)|exact Ai rfl|exact take_size (fun _=>rfl)|exact Af rfl|exact Ae (fun _=>rfl)|exact Ad (fun _=>rfl)|(simp only[Aj];omega)|(simp;done)|decide))
  |(with_reducible intro hfact)
  |((with_reducible refine And.intro ?_ ?_);focus (first|(with_reducible rfl)|(exact rfl)|decide)))
 all_goals(try(conv=>whnf))
 obtain⟨z,hz⟩:∃z:Nat,n.size=z:=⟨n.size.toNat,by omega⟩
 have hz7:z≤7:=by omega
 obtain⟨O,hO⟩:∃O:Nat→Ro,O=fun k=>(oth n.id k).foldl (fun o p=>n.sendM p o) o:=⟨_,rfl⟩
 have hO0:O 0=o:=by rw[hO];rfl
 have hOz:n.sendAllM o=O z:=by rw[hO];unfold Rn.sendAllM Rn.oths;rw[hz];rfl
 have hOl:∀k,k≤7→(O k).msgs.length≤1000000:=fun k hk=>by
  have:=Qy n.id k
  rw[hO];simp only[R1];omega
 have hOs:∀k,O (k+1)=if((k+1:Nat):Int)≠n.id then n.sendM (k+1) (O k)else O k:=fun k=>by
  rw[hO];simp only[Gt,List.foldl_append]
  split<;>rfl
 rw[hOz]
 refine LoopWq.by (X:=Nat) (fun k=>[(4,.v (ti ((k+1:Nat):Int))),(38,oP (O k))]) (fun k=>k≤z) (fun k=>z - k) 0 (by rw[hO0];kernel_rfl) (Nat.zero_le _) ?_
 intro k hk
 dsimp only at hk ⊢
 have hw:IntKind.i64.wrap (((k+1:Nat):Int)+1)=((k+1+1:Nat):Int):=Cm (n:=100) (by omega) (by simp only[maxLen];omega)
 by_cases hkz:k<z
 ·have h1:¬decide (((k+1:Nat):Int)≤n.size)=false:=by simp;omega
  have hs1:=hOs k
  have hsd:=Aa0 n hR (k+1) (by omega) (O k) (hOl k (by omega))
  by_cases hid:((k+1:Nat):Int)=n.id
  ·rw[if_neg (by simpa using hid)]at hs1
   repeat'((conv=>whnf);first
    |((with_reducible refine Ar (by first|(with_reducible assumption)|(with_reducible exact Bool.of_not_eq_false (by assumption))|(with_reducible exact Bool.of_not_eq_true (by assumption))|((with_reducible refine decide_eq_true ?_);first|(with_reducible assumption)|omega)|((with_reducible refine decide_eq_false ?_);first|(with_reducible assumption)|omega)|(with_reducible rfl)) (fun hb=>?_));(try rw[hb]);(try simp only[Aa,Bool.false_eq_true,Bool.true_eq_false]at hb);(try subst hb))
    |((with_reducible refine Aq (by first|(with_reducible assumption)|(with_reducible exact Bool.of_not_eq_false (by assumption))|(with_reducible exact Bool.of_not_eq_true (by assumption))|((with_reducible refine decide_eq_true ?_);first|(with_reducible assumption)|omega)|((with_reducible refine decide_eq_false ?_);first|(with_reducible assumption)|omega)|(with_reducible rfl)) (fun hb=>?_));(try rw[hb]);(try simp only[Aa,Bool.false_eq_true,Bool.true_eq_false]at hb);(try subst hb))
    |((with_reducible refine And.intro (fun hb=>?_) (fun hb=>?_))<;>first|(with_reducible exact absurd hb (by assumption))|(exact absurd hb (by decide))|(with_reducible exact absurd hb Bool.false_ne_true)|(with_reducible exact absurd hb.symm Bool.false_ne_true)|(exfalso;first|(simp only[Aj]at hb<;>omega)|omega)|((try rw[hb]);(try simp only[Aa,Bool.false_eq_true,Bool.true_eq_false]at hb);(try subst hb)))
    |((with_reducible refine Exists.intro ?_ ?_);focus (and_intros<;>first|omega|(with_reducible assumption)|(with_reducible rfl)|kernel_rfl|exact rfl|assumption|(intro _ hh;cases hh;done)|exact Ah (by rfl)|exact size_map (fun _=>rfl)|exact Ai rfl|exact take_size (fun _=>rfl)|exact Af rfl|exact Ae (fun _=>rfl)|exact Ad (fun _=>rfl)|(simp only[Aj];omega)|(simp;done)|decide))
    |(with_reducible intro hfact)
    |((with_reducible refine And.intro ?_ ?_);focus (first|(with_reducible rfl)|(exact rfl)|decide))
    |((try dsimp only);rw[hw]))
   all_goals(try(conv=>whnf))
   refine Round.by (k+1) ?_ hkz (by omega)
   try dsimp only
   rw[hs1]
   show norm _ _=upd _ _
   kernel_rfl
  ·rw[if_pos hid]at hs1
   repeat'((conv=>whnf);first
    |((with_reducible refine Ar (by first|(with_reducible assumption)|(with_reducible exact Bool.of_not_eq_false (by assumption))|(with_reducible exact Bool.of_not_eq_true (by assumption))|((with_reducible refine decide_eq_true ?_);first|(with_reducible assumption)|omega)|((with_reducible refine decide_eq_false ?_);first|(with_reducible assumption)|omega)|(with_reducible rfl)) (fun hb=>?_));(try rw[hb]);(try simp only[Aa,Bool.false_eq_true,Bool.true_eq_false]at hb);(try subst hb))
    |((with_reducible refine Aq (by first|(with_reducible assumption)|(with_reducible exact Bool.of_not_eq_false (by assumption))|(with_reducible exact Bool.of_not_eq_true (by assumption))|((with_reducible refine decide_eq_true ?_);first|(with_reducible assumption)|omega)|((with_reducible refine decide_eq_false ?_);first|(with_reducible assumption)|omega)|(with_reducible rfl)) (fun hb=>?_));(try rw[hb]);(try simp only[Aa,Bool.false_eq_true,Bool.true_eq_false]at hb);(try subst hb))
    |((with_reducible refine And.intro (fun hb=>?_) (fun hb=>?_))<;>first|(with_reducible exact absurd hb (by assumption))|(exact absurd hb (by decide))|(with_reducible exact absurd hb Bool.false_ne_true)|(with_reducible exact absurd hb.symm Bool.false_ne_true)|(exfalso;first|(simp only[Aj]at hb<;>omega)|omega)|((try rw[hb]);(try simp only[Aa,Bool.false_eq_true,Bool.true_eq_false]at hb);(try subst hb)))
    |((with_reducible refine Exists.intro ?_ ?_);focus (and_intros<;>first|omega|(with_reducible assumption)|(with_reducible rfl)|kernel_rfl|exact rfl|assumption|(intro _ hh;cases hh;done)|exact Ah (by rfl)|exact size_map (fun _=>rfl)|exact Ai rfl|exact take_size (fun _=>rfl)|exact Af rfl|exact Ae (fun _=>rfl)|exact Ad (fun _=>rfl)|(simp only[Aj];omega)|(simp;done)|decide))
    |(with_reducible intro hfact)
    |((with_reducible refine And.intro ?_ ?_);focus (first|(with_reducible rfl)|(exact rfl)|decide))
    |((try dsimp only);rw[hw])
    |((with_reducible refine CallWp.mk ?_);refine⟨_,hsd,?_⟩;rintro _ _ ⟨rfl,rfl⟩))
   all_goals(try(conv=>whnf))
   refine Round.by (k+1) ?_ hkz (by omega)
   try dsimp only
   rw[hs1]
   show norm _ _=upd _ _
   kernel_rfl
 ·have h1:¬decide (((k+1:Nat):Int)≤n.size)=true:=by simp;omega
  obtain rfl:k=z:=by omega
  repeat'((conv=>whnf);first
   |((with_reducible refine Ar (by first|(with_reducible assumption)|(with_reducible exact Bool.of_not_eq_false (by assumption))|(with_reducible exact Bool.of_not_eq_true (by assumption))|((with_reducible refine decide_eq_true ?_);first|(with_reducible assumption)|omega)|((with_reducible refine decide_eq_false ?_);first|(with_reducible assumption)|omega)|(with_reducible rfl)) (fun hb=>?_));(try rw[hb]);(try simp only[Aa,Bool.false_eq_true,Bool.true_eq_false]at hb);(try subst hb))
   |((with_reducible refine Aq (by first|(with_reducible assumption)|(with_reducible exact Bool.of_not_eq_false (by assumption))|(with_reducible exact Bool.of_not_eq_true (by assumption))|((with_reducible refine decide_eq_true ?_);first|(with_reducible assumption)|omega)|((with_reducible refine decide_eq_false ?_);first|(with_reducible assumption)|omega)|(with_reducible rfl)) (fun hb=>?_));(try rw[hb]);(try simp only[Aa,Bool.false_eq_true,Bool.true_eq_false]at hb);(try subst hb))
   |((with_reducible refine And.intro (fun hb=>?_) (fun hb=>?_))<;>first|(with_reducible exact absurd hb (by assumption))|(exact absurd hb (by decide))|(with_reducible exact absurd hb Bool.false_ne_true)|(with_reducible exact absurd hb.symm Bool.false_ne_true)|(exfalso;first|(simp only[Aj]at hb<;>omega)|omega)|((try rw[hb]);(try simp only[Aa,Bool.false_eq_true,Bool.true_eq_false]at hb);(try subst hb)))
   |((with_reducible refine Exists.intro ?_ ?_);focus (and_intros<;>first|omega|(with_reducible assumption)|(with_reducible rfl)|kernel_rfl|exact rfl|assumption|(intro _ hh;cases hh;done)|exact Ah (by rfl)|exact size_map (fun _=>rfl)|exact Ai rfl|exact take_size (fun _=>rfl)|exact Af rfl|exact Ae (fun _=>rfl)|exact Ad (fun _=>rfl)|(simp only[Aj];omega)|(simp;done)|decide))
   |(with_reducible intro hfact)
   |((with_reducible refine And.intro ?_ ?_);focus (first|(with_reducible rfl)|(exact rfl)|decide)))
  all_goals(try(conv=>whnf))
  (apply dKq<;>kernel_rfl)
end Go.Ab
