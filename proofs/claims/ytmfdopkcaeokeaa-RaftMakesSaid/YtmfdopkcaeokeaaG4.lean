/- Lemmas -/
import Derived.Test.YtmfdopkcaeokeaaG3
set_option linter.unusedVariables false
set_option linter.unusedSimpArgs false
set_option maxRecDepth 100000
set_option maxHeartbeats 40000000
namespace Go.Ab
open Go.Proofs
def cntM (f:Nat→Int) (l:List Nat) (x:Int):Nat:=1+(l.filter fun p=>decide (x≤f p)).length
theorem Abz (f:Nat→Int) (l:List Nat) (x:Int):cntM f l x≤1+l.length:=Nat.add_le_add_left (List.length_filter_le _ _) 1
theorem Aa7 (f:Nat→Int) (l m:List Nat) (x:Int):cntM f (l++m) x=cntM f l x+(m.filter fun p=>decide (x≤f p)).length:=by
 unfold cntM;rw[List.filter_append,List.length_append];omega
def Rn.lookC (n:Rn):Nat→Int→Int
 |0,_=>n.com
 |f+1,i=>if n.com<i then(if(Ds n.lix n.ltm n.les i).1≠n.term then n.com else if n.mostM (cntM n.mt n.oths i)=true then i else n.lookC f (i - 1))else n.com
def Rn.lookCom (n:Rn):Int:=n.lookC ((A3 n.lix n.ltm n.les).1 - n.com).toNat (A3 n.lix n.ltm n.les).1
def Rn.can (n:Rn) (r:Rdw):Bool:=n.mostM (cntM n.hd n.oths r.rd)
def Rn.lookM (n:Rn) (o:Ro):Rn × Ro:=({n with com:=n.lookCom,reads:=n.reads.filter fun r=> !n.can r},{o with ready:=o.ready++n.reads.filter n.can})
structure Rn.Lk (n:Rn):Prop where
 log:Right n.lix n.ltm n.les
 size:0≤n.size∧n.size≤7
 com:0≤n.com
 reads:n.reads.length≤1000
theorem Aa8 (f:Nat→Int) (id:Int) (k:Nat) (x:Int):cntM f (oth id (k+1)) x=if((k+1:Nat):Int)≠id∧x≤f (k+1)then cntM f (oth id k) x+1 else cntM f (oth id k) x:=by
 rw[Gt,Aa7]
 by_cases q1:((k+1:Nat):Int)≠id
 ·rw[if_pos q1]
  by_cases q2:x≤f (k+1)
  ·rw[if_pos ⟨q1,q2⟩];simp[q2]
  ·rw[if_neg (fun q=>q2 q.2)];simp[q2]
 ·rw[if_neg q1,if_neg (fun q=>q1 q.1)];rfl
theorem Sb (n:Rn) (hL:n.Lk) (o:Ro) (h:o.ready.length≤900000):
 Fn Try.prog M1 [nP n,oP o] (Is (.tup []) [nP (n.lookM o).1,oP (n.lookM o).2]):=by
 obtain⟨hR,hs,hc,hrd⟩:=hL
 refine Mi ?_ (by simp)
 obtain⟨z,hz⟩:∃z:Nat,n.size=z:=⟨n.size.toNat,by omega⟩
 have hz7:z≤7:=by omega
 have hzz:n.oths=oth n.id z:=by unfold Rn.oths;rw[hz];rfl
 have hlast:=hR.last
 have hlen:=hR.len
 have hix:=hR.hix
 obtain⟨la,hla⟩:∃la,la=(A3 n.lix n.ltm n.les).1:=⟨_,rfl⟩
 have hCdef:n.lookCom=n.lookC (la - n.com).toNat la:=by rw[hla];rfl
 have hla2:la≤1099511631872:=by omega
 obtain⟨CT,hCT⟩:∃CT:(Nat→Int)→Int→Nat→Nat,CT=fun f x k=>cntM f (oth n.id k) x:=⟨_,rfl⟩
 have hC0:∀f x,CT f x 0=1:=fun f x=>by rw[hCT];rfl
 have hCl:∀f x k,CT f x k≤1+k:=fun f x k=>by
  have:=Abz f (oth n.id k) x
  have:=Qy n.id k
  rw[hCT];dsimp only;omega
 have hCs:∀f x k,CT f x (k+1)=if((k+1:Nat):Int)≠n.id∧x≤f (k+1)then CT f x k+1 else CT f x k:=fun f x k=>by
  rw[hCT]
  exact Aa8 f n.id k x
 have hCz:∀f x,CT f x z=cntM f n.oths x:=fun f x=>by rw[hCT,hzz]
 have hw:∀k:Nat,k≤7→IntKind.i64.wrap (((k+1:Nat):Int)+1)=((k+1+1:Nat):Int):=fun k hk=>Cm (n:=100) (by omega) (by simp only[maxLen];omega)
 have hw2:∀f x (k:Nat),k≤7→IntKind.i64.wrap ((CT f x k:Int)+1)=((CT f x k+1:Nat):Int):=fun f x k hk=>Cm (n:=100) (by have:=hCl f x k;omega) (by simp only[maxLen];omega)
 have hx:∀(f:Nat→Int) (k:Nat),k<7→(arr8 fun i=>ti (f i))[k+1]?=some (ti (f (k+1))):=fun f k hk=>Ep (fun i=>ti (f i)) (by omega)
 have hrl:(n.reads.map Rdw.toI).length=n.reads.length:=List.length_map _
 have hrm:n.reads.length≤maxLen:=by simp only[maxLen];omega
 obtain⟨W,hW⟩:∃W:Nat→List Rdw,W=fun j=>(n.reads.take j).filter fun r=> !n.can r:=⟨_,rfl⟩
 obtain⟨B,hB⟩:∃B:Nat→Ro,B=fun j=>{o with ready:=o.ready++(n.reads.take j).filter n.can}:=⟨_,rfl⟩
 have hW0:W 0=[]:=by rw[hW];rfl
 have hB0:B 0=o:=by rw[hB];simp
 have hBl:∀j,(B j).ready.length≤901000:=fun j=>by
  have:=List.length_filter_le n.can (n.reads.take j)
  rw[List.length_take]at this
  rw[hB];simp only[List.length_append];omega
 have hWl:∀j,(W j).length≤1000:=fun j=>by
  have:=List.length_filter_le (fun r=> !n.can r) (n.reads.take j)
  rw[List.length_take]at this
  rw[hW];simp only;omega
 have hstep:∀j e,n.reads[j]?=some e→(n.can e=true→W (j+1)=W j∧(B (j+1)).toD= .st [.vec Ks 2 (((B j).msgs.map Tm.toI).map D.it),.vec E2 3 (((B j).ready.map Rdw.toI).map D.it++[D.it e.toI])])∧(n.can e=false→(W (j+1)).map Rdw.toI=(W j).map Rdw.toI++[e.toI]∧B (j+1)=B j):=fun j e he=>by
  have ht:n.reads.take (j+1)=n.reads.take j++[e]:=by rw[List.take_add_one,he];rfl
  constructor
  ·intro hcan
   constructor
   ·rw[hW];simp only[ht,List.filter_append,List.filter_cons,List.filter_nil,hcan,Bool.not_true,Bool.false_eq_true,if_false,List.append_nil]
   ·rw[hB];simp[Ro.toD,ht,List.filter_append,hcan]
  ·intro hcan
   constructor
   ·rw[hW];simp only[ht,List.filter_append,List.filter_cons,List.filter_nil,hcan,Bool.not_false,if_true,List.map_append,List.map_cons,List.map_nil]
   ·rw[hB];simp only[ht,List.filter_append,List.filter_cons,List.filter_nil,hcan,Bool.false_eq_true,if_false,List.append_nil]
 have hMend:n.lookM o=({n with com:=n.lookCom,reads:=W n.reads.length},B n.reads.length):=by rw[hW,hB];simp[Rn.lookM]
 rw[hMend]
 have hlst:=Bt n.lix n.ltm n.les
 rw[←hla]at hlst
 repeat'((conv=>whnf);first
  |((with_reducible refine Ar (by first|(with_reducible assumption)|(with_reducible exact Bool.of_not_eq_false (by assumption))|(with_reducible exact Bool.of_not_eq_true (by assumption))|((with_reducible refine decide_eq_true ?_);first|(with_reducible assumption)|omega)|((with_reducible refine decide_eq_false ?_);first|(with_reducible assumption)|omega)|(with_reducible rfl)) (fun hb=>?_));(try rw[hb]);(try simp only[Aa,Bool.false_eq_true,Bool.true_eq_false]at hb);(try subst hb))
  |((with_reducible refine Aq (by first|(with_reducible assumption)|(with_reducible exact Bool.of_not_eq_false (by assumption))|(with_reducible exact Bool.of_not_eq_true (by assumption))|((with_reducible refine decide_eq_true ?_);first|(with_reducible assumption)|omega)|((with_reducible refine decide_eq_false ?_);first|(with_reducible assumption)|omega)|(with_reducible rfl)) (fun hb=>?_));(try rw[hb]);(try simp only[Aa,Bool.false_eq_true,Bool.true_eq_false]at hb);(try subst hb))
  |((with_reducible refine And.intro (fun hb=>?_) (fun hb=>?_))<;>first|(with_reducible exact absurd hb (by assumption))|(exact absurd hb (by decide))|(with_reducible exact absurd hb Bool.false_ne_true)|(with_reducible exact absurd hb.symm Bool.false_ne_true)|(exfalso;first|(simp only[Aj]at hb<;>omega)|omega)|((try rw[hb]);(try simp only[Aa,Bool.false_eq_true,Bool.true_eq_false]at hb);(try subst hb)))
  |((with_reducible refine Exists.intro ?_ ?_);focus (and_intros<;>first|omega|(with_reducible assumption)|(with_reducible rfl)|kernel_rfl|exact rfl|assumption|(intro _ hh;cases hh;done)|exact Ah (by rfl)|exact size_map (fun _=>rfl)|exact Ai rfl|exact take_size (fun _=>rfl)|exact Af rfl|exact Ae (fun _=>rfl)|exact Ad (fun _=>rfl)|(simp only[Aj];omega)|(simp;done)|decide))
  |(with_reducible intro hfact)
  |((with_reducible refine And.intro ?_ ?_);focus (first|(with_reducible rfl)|(exact rfl)|decide))
  |((with_reducible apply Drawn.by0);(focus kernel_rfl);intro hfact;(try simp only[dRS]at hfact))
  |((with_reducible refine CallWp.mk ?_);refine⟨_,hlst,?_⟩;rintro _ _ ⟨rfl,rfl⟩))
 all_goals(try(conv=>whnf))
 refine SeqWq.by (X:=Unit) (fun _=>[(114,nP {n with com:=n.lookCom})]) (fun _=>True) ?_ ?_
 ·clear hstep hBl hWl hMend
  repeat'((conv=>whnf);first
   |((with_reducible refine Ar (by first|(with_reducible assumption)|(with_reducible exact Bool.of_not_eq_false (by assumption))|(with_reducible exact Bool.of_not_eq_true (by assumption))|((with_reducible refine decide_eq_true ?_);first|(with_reducible assumption)|omega)|((with_reducible refine decide_eq_false ?_);first|(with_reducible assumption)|omega)|(with_reducible rfl)) (fun hb=>?_));(try rw[hb]);(try simp only[Aa,Bool.false_eq_true,Bool.true_eq_false]at hb);(try subst hb))
   |((with_reducible refine Aq (by first|(with_reducible assumption)|(with_reducible exact Bool.of_not_eq_false (by assumption))|(with_reducible exact Bool.of_not_eq_true (by assumption))|((with_reducible refine decide_eq_true ?_);first|(with_reducible assumption)|omega)|((with_reducible refine decide_eq_false ?_);first|(with_reducible assumption)|omega)|(with_reducible rfl)) (fun hb=>?_));(try rw[hb]);(try simp only[Aa,Bool.false_eq_true,Bool.true_eq_false]at hb);(try subst hb))
   |((with_reducible refine And.intro (fun hb=>?_) (fun hb=>?_))<;>first|(with_reducible exact absurd hb (by assumption))|(exact absurd hb (by decide))|(with_reducible exact absurd hb Bool.false_ne_true)|(with_reducible exact absurd hb.symm Bool.false_ne_true)|(exfalso;first|(simp only[Aj]at hb<;>omega)|omega)|((try rw[hb]);(try simp only[Aa,Bool.false_eq_true,Bool.true_eq_false]at hb);(try subst hb)))
   |((with_reducible refine Exists.intro ?_ ?_);focus (and_intros<;>first|omega|(with_reducible assumption)|(with_reducible rfl)|kernel_rfl|exact rfl|assumption|(intro _ hh;cases hh;done)|exact Ah (by rfl)|exact size_map (fun _=>rfl)|exact Ai rfl|exact take_size (fun _=>rfl)|exact Af rfl|exact Ae (fun _=>rfl)|exact Ad (fun _=>rfl)|(simp only[Aj];omega)|(simp;done)|decide))
   |(with_reducible intro hfact)
   |((with_reducible refine And.intro ?_ ?_);focus (first|(with_reducible rfl)|(exact rfl)|decide))
   |((with_reducible apply Drawn.by0);(focus kernel_rfl);intro hfact;(try simp only[dRS]at hfact)))
  all_goals(try(conv=>whnf))
  refine LoopWq.by (X:=Nat × Int) (fun x=>[(6,.box (.one (.i (ti x.2))))]) (fun x=>x.2≤la∧x.2 - n.com≤x.1∧n.lookC x.1 x.2=n.lookCom) (fun x=>x.1)
   ((la - n.com).toNat,la) (by kernel_rfl) ⟨Int.le_refl _,by dsimp only;omega,hCdef.symm⟩ ?_
  rintro⟨f,i⟩ ⟨h1,h2,h3⟩
  dsimp only at h1 h2 h3 ⊢
  by_cases hci:n.com<i
  case neg=>
   have hC:n.lookCom=n.com:=by
    rw[←h3]
    cases f with
    |zero=>rfl
    |succ f=>rw[Rn.lookC,if_neg hci]
   repeat'((conv=>whnf);first
    |((with_reducible refine Ar (by first|(with_reducible assumption)|(with_reducible exact Bool.of_not_eq_false (by assumption))|(with_reducible exact Bool.of_not_eq_true (by assumption))|((with_reducible refine decide_eq_true ?_);first|(with_reducible assumption)|omega)|((with_reducible refine decide_eq_false ?_);first|(with_reducible assumption)|omega)|(with_reducible rfl)) (fun hb=>?_));(try rw[hb]);(try simp only[Aa,Bool.false_eq_true,Bool.true_eq_false]at hb);(try subst hb))
    |((with_reducible refine Aq (by first|(with_reducible assumption)|(with_reducible exact Bool.of_not_eq_false (by assumption))|(with_reducible exact Bool.of_not_eq_true (by assumption))|((with_reducible refine decide_eq_true ?_);first|(with_reducible assumption)|omega)|((with_reducible refine decide_eq_false ?_);first|(with_reducible assumption)|omega)|(with_reducible rfl)) (fun hb=>?_));(try rw[hb]);(try simp only[Aa,Bool.false_eq_true,Bool.true_eq_false]at hb);(try subst hb))
    |((with_reducible refine And.intro (fun hb=>?_) (fun hb=>?_))<;>first|(with_reducible exact absurd hb (by assumption))|(exact absurd hb (by decide))|(with_reducible exact absurd hb Bool.false_ne_true)|(with_reducible exact absurd hb.symm Bool.false_ne_true)|(exfalso;first|(simp only[Aj]at hb<;>omega)|omega)|((try rw[hb]);(try simp only[Aa,Bool.false_eq_true,Bool.true_eq_false]at hb);(try subst hb)))
    |((with_reducible refine Exists.intro ?_ ?_);focus (and_intros<;>first|omega|(with_reducible assumption)|(with_reducible rfl)|kernel_rfl|exact rfl|assumption|(intro _ hh;cases hh;done)|exact Ah (by rfl)|exact size_map (fun _=>rfl)|exact Ai rfl|exact take_size (fun _=>rfl)|exact Af rfl|exact Ae (fun _=>rfl)|exact Ad (fun _=>rfl)|(simp only[Aj];omega)|(simp;done)|decide))
    |(with_reducible intro hfact)
    |((with_reducible refine And.intro ?_ ?_);focus (first|(with_reducible rfl)|(exact rfl)|decide))
    |((with_reducible apply Drawn.by0);(focus kernel_rfl);intro hfact;(try simp only[dRS]at hfact)))
   all_goals(try(conv=>whnf))
   refine CutTo.by () ?_ trivial
   rw[hC]
   show norm _ _=upd _ _
   kernel_rfl
  obtain⟨f,rfl⟩:∃g,f=g+1:=⟨f - 1,by omega⟩
  rw[Rn.lookC,if_pos hci]at h3
  have htm:=Sd n.lix n.ltm n.les i hR
  by_cases hte:(Ds n.lix n.ltm n.les i).1=n.term
  case neg=>
   rw[if_pos hte]at h3
   have hC:n.lookCom=n.com:=h3.symm
   repeat'((conv=>whnf);first
    |((with_reducible refine Ar (by first|(with_reducible assumption)|(with_reducible exact Bool.of_not_eq_false (by assumption))|(with_reducible exact Bool.of_not_eq_true (by assumption))|((with_reducible refine decide_eq_true ?_);first|(with_reducible assumption)|omega)|((with_reducible refine decide_eq_false ?_);first|(with_reducible assumption)|omega)|(with_reducible rfl)) (fun hb=>?_));(try rw[hb]);(try simp only[Aa,Bool.false_eq_true,Bool.true_eq_false]at hb);(try subst hb))
    |((with_reducible refine Aq (by first|(with_reducible assumption)|(with_reducible exact Bool.of_not_eq_false (by assumption))|(with_reducible exact Bool.of_not_eq_true (by assumption))|((with_reducible refine decide_eq_true ?_);first|(with_reducible assumption)|omega)|((with_reducible refine decide_eq_false ?_);first|(with_reducible assumption)|omega)|(with_reducible rfl)) (fun hb=>?_));(try rw[hb]);(try simp only[Aa,Bool.false_eq_true,Bool.true_eq_false]at hb);(try subst hb))
    |((with_reducible refine And.intro (fun hb=>?_) (fun hb=>?_))<;>first|(with_reducible exact absurd hb (by assumption))|(exact absurd hb (by decide))|(with_reducible exact absurd hb Bool.false_ne_true)|(with_reducible exact absurd hb.symm Bool.false_ne_true)|(exfalso;first|(simp only[Aj]at hb<;>omega)|omega)|((try rw[hb]);(try simp only[Aa,Bool.false_eq_true,Bool.true_eq_false]at hb);(try subst hb)))
    |((with_reducible refine Exists.intro ?_ ?_);focus (and_intros<;>first|omega|(with_reducible assumption)|(with_reducible rfl)|kernel_rfl|exact rfl|assumption|(intro _ hh;cases hh;done)|exact Ah (by rfl)|exact size_map (fun _=>rfl)|exact Ai rfl|exact take_size (fun _=>rfl)|exact Af rfl|exact Ae (fun _=>rfl)|exact Ad (fun _=>rfl)|(simp only[Aj];omega)|(simp;done)|decide))
    |(with_reducible intro hfact)
    |((with_reducible refine And.intro ?_ ?_);focus (first|(with_reducible rfl)|(exact rfl)|decide))
    |((with_reducible apply Drawn.by0);(focus kernel_rfl);intro hfact;(try simp only[dRS]at hfact))
    |((with_reducible refine CallIs.mk ?_);refine⟨_,_,htm,?_⟩))
   all_goals(try(conv=>whnf))
   refine CutTo.by () ?_ trivial
   rw[hC]
   show norm _ _=upd _ _
   kernel_rfl
  rw[if_neg (by simpa using hte), ←hCz]at h3
  repeat'((conv=>whnf);first
   |((with_reducible refine Ar (by first|(with_reducible assumption)|(with_reducible exact Bool.of_not_eq_false (by assumption))|(with_reducible exact Bool.of_not_eq_true (by assumption))|((with_reducible refine decide_eq_true ?_);first|(with_reducible assumption)|omega)|((with_reducible refine decide_eq_false ?_);first|(with_reducible assumption)|omega)|(with_reducible rfl)) (fun hb=>?_));(try rw[hb]);(try simp only[Aa,Bool.false_eq_true,Bool.true_eq_false]at hb);(try subst hb))
   |((with_reducible refine Aq (by first|(with_reducible assumption)|(with_reducible exact Bool.of_not_eq_false (by assumption))|(with_reducible exact Bool.of_not_eq_true (by assumption))|((with_reducible refine decide_eq_true ?_);first|(with_reducible assumption)|omega)|((with_reducible refine decide_eq_false ?_);first|(with_reducible assumption)|omega)|(with_reducible rfl)) (fun hb=>?_));(try rw[hb]);(try simp only[Aa,Bool.false_eq_true,Bool.true_eq_false]at hb);(try subst hb))
   |((with_reducible refine And.intro (fun hb=>?_) (fun hb=>?_))<;>first|(with_reducible exact absurd hb (by assumption))|(exact absurd hb (by decide))|(with_reducible exact absurd hb Bool.false_ne_true)|(with_reducible exact absurd hb.symm Bool.false_ne_true)|(exfalso;first|(simp only[Aj]at hb<;>omega)|omega)|((try rw[hb]);(try simp only[Aa,Bool.false_eq_true,Bool.true_eq_false]at hb);(try subst hb)))
   |((with_reducible refine Exists.intro ?_ ?_);focus (and_intros<;>first|omega|(with_reducible assumption)|(with_reducible rfl)|kernel_rfl|exact rfl|assumption|(intro _ hh;cases hh;done)|exact Ah (by rfl)|exact size_map (fun _=>rfl)|exact Ai rfl|exact take_size (fun _=>rfl)|exact Af rfl|exact Ae (fun _=>rfl)|exact Ad (fun _=>rfl)|(simp only[Aj];omega)|(simp;done)|decide))
   |(with_reducible intro hfact)
   |((with_reducible refine And.intro ?_ ?_);focus (first|(with_reducible rfl)|(exact rfl)|decide))
   |((with_reducible apply Drawn.by0);(focus kernel_rfl);intro hfact;(try simp only[dRS]at hfact))
   |((with_reducible refine CallIs.mk ?_);refine⟨_,_,htm,?_⟩))
  all_goals(try(conv=>whnf))
  refine LoopWq.by (X:=Nat) (fun k=>[(4,.v (ti ((k+1:Nat):Int))),(34,.box (.one (.i (ti (CT n.mt i k)))))]) (fun k=>k≤z) (fun k=>z - k) 0 (by rw[hC0];kernel_rfl) (Nat.zero_le _) ?_
  intro k hk
  dsimp only at hk ⊢
  have hwk:=hw k (by omega)
  by_cases hkz:k<z
  ·have hn1:¬decide (((k+1:Nat):Int)≤n.size)=false:=by simp;omega
   have hs1:=hCs n.mt i k
   have hxk:=hx n.mt k (by omega)
   have hwc:=hw2 n.mt i k (by omega)
   by_cases hid:((k+1:Nat):Int)=n.id
   ·rw[if_neg (fun q=>q.1 hid)]at hs1
    repeat'((conv=>whnf);first
     |((with_reducible refine Ar (by first|(with_reducible assumption)|(with_reducible exact Bool.of_not_eq_false (by assumption))|(with_reducible exact Bool.of_not_eq_true (by assumption))|((with_reducible refine decide_eq_true ?_);first|(with_reducible assumption)|omega)|((with_reducible refine decide_eq_false ?_);first|(with_reducible assumption)|omega)|(with_reducible rfl)) (fun hb=>?_));(try rw[hb]);(try simp only[Aa,Bool.false_eq_true,Bool.true_eq_false]at hb);(try subst hb))
     |((with_reducible refine Aq (by first|(with_reducible assumption)|(with_reducible exact Bool.of_not_eq_false (by assumption))|(with_reducible exact Bool.of_not_eq_true (by assumption))|((with_reducible refine decide_eq_true ?_);first|(with_reducible assumption)|omega)|((with_reducible refine decide_eq_false ?_);first|(with_reducible assumption)|omega)|(with_reducible rfl)) (fun hb=>?_));(try rw[hb]);(try simp only[Aa,Bool.false_eq_true,Bool.true_eq_false]at hb);(try subst hb))
     |((with_reducible refine And.intro (fun hb=>?_) (fun hb=>?_))<;>first|(with_reducible exact absurd hb (by assumption))|(exact absurd hb (by decide))|(with_reducible exact absurd hb Bool.false_ne_true)|(with_reducible exact absurd hb.symm Bool.false_ne_true)|(exfalso;first|(simp only[Aj]at hb<;>omega)|omega)|((try rw[hb]);(try simp only[Aa,Bool.false_eq_true,Bool.true_eq_false]at hb);(try subst hb)))
     |((with_reducible refine Exists.intro ?_ ?_);focus (and_intros<;>first|omega|(with_reducible assumption)|(with_reducible rfl)|kernel_rfl|exact rfl|assumption|(intro _ hh;cases hh;done)|exact Ah (by rfl)|exact size_map (fun _=>rfl)|exact Ai rfl|exact take_size (fun _=>rfl)|exact Af rfl|exact Ae (fun _=>rfl)|exact Ad (fun _=>rfl)|(simp only[Aj];omega)|(simp;done)|decide))
     |(with_reducible intro hfact)
     |((with_reducible refine And.intro ?_ ?_);focus (first|(with_reducible rfl)|(exact rfl)|decide))
     |((with_reducible apply Drawn.by0);(focus kernel_rfl);intro hfact;(try simp only[dRS]at hfact))
     |((try dsimp only);rw[hwk]))
    all_goals(try(conv=>whnf))
    refine Round.by (k+1) ?_ hkz (show z - (k+1)<z - k by omega)
    rw[hs1]
    show norm _ _=upd _ _
    kernel_rfl
   ·by_cases hge:i≤n.mt (k+1)
    ·rw[if_pos ⟨hid,hge⟩]at hs1
     repeat'((conv=>whnf);first
      |((with_reducible refine Ar (by first|(with_reducible assumption)|(with_reducible exact Bool.of_not_eq_false (by assumption))|(with_reducible exact Bool.of_not_eq_true (by assumption))|((with_reducible refine decide_eq_true ?_);first|(with_reducible assumption)|omega)|((with_reducible refine decide_eq_false ?_);first|(with_reducible assumption)|omega)|(with_reducible rfl)) (fun hb=>?_));(try rw[hb]);(try simp only[Aa,Bool.false_eq_true,Bool.true_eq_false]at hb);(try subst hb))
      |((with_reducible refine Aq (by first|(with_reducible assumption)|(with_reducible exact Bool.of_not_eq_false (by assumption))|(with_reducible exact Bool.of_not_eq_true (by assumption))|((with_reducible refine decide_eq_true ?_);first|(with_reducible assumption)|omega)|((with_reducible refine decide_eq_false ?_);first|(with_reducible assumption)|omega)|(with_reducible rfl)) (fun hb=>?_));(try rw[hb]);(try simp only[Aa,Bool.false_eq_true,Bool.true_eq_false]at hb);(try subst hb))
      |((with_reducible refine And.intro (fun hb=>?_) (fun hb=>?_))<;>first|(with_reducible exact absurd hb (by assumption))|(exact absurd hb (by decide))|(with_reducible exact absurd hb Bool.false_ne_true)|(with_reducible exact absurd hb.symm Bool.false_ne_true)|(exfalso;first|(simp only[Aj]at hb<;>omega)|omega)|((try rw[hb]);(try simp only[Aa,Bool.false_eq_true,Bool.true_eq_false]at hb);(try subst hb)))
      |((with_reducible refine Exists.intro ?_ ?_);focus (and_intros<;>first|(simp only[C0];omega)|omega|(with_reducible assumption)|(with_reducible rfl)|kernel_rfl|exact rfl|assumption|(intro _ hh;cases hh;done)|exact Ah (by rfl)|exact size_map (fun _=>rfl)|exact Ai rfl|exact take_size (fun _=>rfl)|exact Af rfl|exact Ae (fun _=>rfl)|exact Ad (fun _=>rfl)|(simp only[Aj];omega)|(simp;done)|decide))
      |(with_reducible intro hfact)
      |((with_reducible refine And.intro ?_ ?_);focus (first|(with_reducible rfl)|(exact rfl)|decide))
      |((with_reducible apply Drawn.by0);(focus kernel_rfl);intro hfact;(try simp only[dRS]at hfact))
      |((try dsimp only);rw[hwk])
      |((try dsimp only);rw[hwc])
      |((first|with_reducible apply Hn|with_reducible apply Ho);(focus (simp only[D.at,D.put,D.kid,D.setKid,List.cons_append,List.nil_append,List.append,List.getElem?_cons_zero,List.getElem?_cons_succ,Int.toNat_natCast,List.getElem?_set_self',Option.map_eq_map,Option.map_some,List.set_cons_zero,List.set_cons_succ,List.set_set,Function.const_apply,List.map_cons,List.map_nil,mkSt,Be,D.toI,toIs,Bd,List.getElem?_map,List.length_map,List.length_set,hxk,Rn.toI]<;>exact rfl)))
      |((first|with_reducible apply D1|with_reducible apply D0);(focus rfl);(focus (simp only[D.at,D.put,D.kid,D.setKid,List.cons_append,List.nil_append,List.append,List.getElem?_cons_zero,List.getElem?_cons_succ,Int.toNat_natCast,List.getElem?_set_self',Option.map_eq_map,Option.map_some,List.set_cons_zero,List.set_cons_succ,List.set_set,Function.const_apply,List.map_cons,List.map_nil,mkSt,Be,D.toI,toIs,Bd,List.getElem?_map,List.length_map,List.length_set,hxk,Rn.toI]<;>exact rfl));(try(focus exact rfl))))
     all_goals(try(conv=>whnf))
     refine Round.by (k+1) ?_ hkz (show z - (k+1)<z - k by omega)
     rw[hs1]
     show norm _ _=upd _ _
     kernel_rfl
    ·rw[if_neg (fun q=>hge q.2)]at hs1
     repeat'((conv=>whnf);first
      |((with_reducible refine Ar (by first|(with_reducible assumption)|(with_reducible exact Bool.of_not_eq_false (by assumption))|(with_reducible exact Bool.of_not_eq_true (by assumption))|((with_reducible refine decide_eq_true ?_);first|(with_reducible assumption)|omega)|((with_reducible refine decide_eq_false ?_);first|(with_reducible assumption)|omega)|(with_reducible rfl)) (fun hb=>?_));(try rw[hb]);(try simp only[Aa,Bool.false_eq_true,Bool.true_eq_false]at hb);(try subst hb))
      |((with_reducible refine Aq (by first|(with_reducible assumption)|(with_reducible exact Bool.of_not_eq_false (by assumption))|(with_reducible exact Bool.of_not_eq_true (by assumption))|((with_reducible refine decide_eq_true ?_);first|(with_reducible assumption)|omega)|((with_reducible refine decide_eq_false ?_);first|(with_reducible assumption)|omega)|(with_reducible rfl)) (fun hb=>?_));(try rw[hb]);(try simp only[Aa,Bool.false_eq_true,Bool.true_eq_false]at hb);(try subst hb))
      |((with_reducible refine And.intro (fun hb=>?_) (fun hb=>?_))<;>first|(with_reducible exact absurd hb (by assumption))|(exact absurd hb (by decide))|(with_reducible exact absurd hb Bool.false_ne_true)|(with_reducible exact absurd hb.symm Bool.false_ne_true)|(exfalso;first|(simp only[Aj]at hb<;>omega)|omega)|((try rw[hb]);(try simp only[Aa,Bool.false_eq_true,Bool.true_eq_false]at hb);(try subst hb)))
      |((with_reducible refine Exists.intro ?_ ?_);focus (and_intros<;>first|(simp only[C0];omega)|omega|(with_reducible assumption)|(with_reducible rfl)|kernel_rfl|exact rfl|assumption|(intro _ hh;cases hh;done)|exact Ah (by rfl)|exact size_map (fun _=>rfl)|exact Ai rfl|exact take_size (fun _=>rfl)|exact Af rfl|exact Ae (fun _=>rfl)|exact Ad (fun _=>rfl)|(simp only[Aj];omega)|(simp;done)|decide))
      |(with_reducible intro hfact)
      |((with_reducible refine And.intro ?_ ?_);focus (first|(with_reducible rfl)|(exact rfl)|decide))
      |((with_reducible apply Drawn.by0);(focus kernel_rfl);intro hfact;(try simp only[dRS]at hfact))
      |((try dsimp only);rw[hwk])
      |((first|with_reducible apply Hn|with_reducible apply Ho);(focus (simp only[D.at,D.put,D.kid,D.setKid,List.cons_append,List.nil_append,List.append,List.getElem?_cons_zero,List.getElem?_cons_succ,Int.toNat_natCast,List.getElem?_set_self',Option.map_eq_map,Option.map_some,List.set_cons_zero,List.set_cons_succ,List.set_set,Function.const_apply,List.map_cons,List.map_nil,mkSt,Be,D.toI,toIs,Bd,List.getElem?_map,List.length_map,List.length_set,hxk,Rn.toI]<;>exact rfl)))
      |((first|with_reducible apply D1|with_reducible apply D0);(focus rfl);(focus (simp only[D.at,D.put,D.kid,D.setKid,List.cons_append,List.nil_append,List.append,List.getElem?_cons_zero,List.getElem?_cons_succ,Int.toNat_natCast,List.getElem?_set_self',Option.map_eq_map,Option.map_some,List.set_cons_zero,List.set_cons_succ,List.set_set,Function.const_apply,List.map_cons,List.map_nil,mkSt,Be,D.toI,toIs,Bd,List.getElem?_map,List.length_map,List.length_set,hxk,Rn.toI]<;>exact rfl));(try(focus exact rfl))))
     all_goals(try(conv=>whnf))
     refine Round.by (k+1) ?_ hkz (show z - (k+1)<z - k by omega)
     rw[hs1]
     show norm _ _=upd _ _
     kernel_rfl
  have hn1:¬decide (((k+1:Nat):Int)≤n.size)=true:=by simp;omega
  obtain rfl:z=k:=by omega
  have hmost:=Sc n (CT n.mt i z)
  cases hm:n.mostM (CT n.mt i z)with
  |false=>
   rw[hm]at hmost h3
   have hw3:IntKind.i64.wrap (i - 1)=i - 1:=D7 (by omega)
   repeat'((conv=>whnf);first
    |((with_reducible refine Ar (by first|(with_reducible assumption)|(with_reducible exact Bool.of_not_eq_false (by assumption))|(with_reducible exact Bool.of_not_eq_true (by assumption))|((with_reducible refine decide_eq_true ?_);first|(with_reducible assumption)|omega)|((with_reducible refine decide_eq_false ?_);first|(with_reducible assumption)|omega)|(with_reducible rfl)) (fun hb=>?_));(try rw[hb]);(try simp only[Aa,Bool.false_eq_true,Bool.true_eq_false]at hb);(try subst hb))
    |((with_reducible refine Aq (by first|(with_reducible assumption)|(with_reducible exact Bool.of_not_eq_false (by assumption))|(with_reducible exact Bool.of_not_eq_true (by assumption))|((with_reducible refine decide_eq_true ?_);first|(with_reducible assumption)|omega)|((with_reducible refine decide_eq_false ?_);first|(with_reducible assumption)|omega)|(with_reducible rfl)) (fun hb=>?_));(try rw[hb]);(try simp only[Aa,Bool.false_eq_true,Bool.true_eq_false]at hb);(try subst hb))
    |((with_reducible refine And.intro (fun hb=>?_) (fun hb=>?_))<;>first|(with_reducible exact absurd hb (by assumption))|(exact absurd hb (by decide))|(with_reducible exact absurd hb Bool.false_ne_true)|(with_reducible exact absurd hb.symm Bool.false_ne_true)|(exfalso;first|(simp only[Aj]at hb<;>omega)|omega)|((try rw[hb]);(try simp only[Aa,Bool.false_eq_true,Bool.true_eq_false]at hb);(try subst hb)))
    |((with_reducible refine Exists.intro ?_ ?_);focus (and_intros<;>first|omega|(with_reducible assumption)|(with_reducible rfl)|kernel_rfl|exact rfl|assumption|(intro _ hh;cases hh;done)|exact Ah (by rfl)|exact size_map (fun _=>rfl)|exact Ai rfl|exact take_size (fun _=>rfl)|exact Af rfl|exact Ae (fun _=>rfl)|exact Ad (fun _=>rfl)|(simp only[Aj];omega)|(simp;done)|decide))
    |(with_reducible intro hfact)
    |((with_reducible refine And.intro ?_ ?_);focus (first|(with_reducible rfl)|(exact rfl)|decide))
    |((with_reducible apply Drawn.by0);(focus kernel_rfl);intro hfact;(try simp only[dRS]at hfact))
    |((with_reducible refine CallWp.mk ?_);refine⟨_,hmost,?_⟩;rintro _ _ ⟨rfl,rfl⟩)
    |((try dsimp only);rw[hw3]))
   all_goals(try(conv=>whnf))
   refine Round.by (f,i - 1) ?_ ⟨by dsimp only;omega,by dsimp only;omega,?_⟩ (show f<f+1 by omega)
   ·show norm _ _=upd _ _
    kernel_rfl
   ·simpa using h3
  |true=>
   rw[hm]at hmost h3
   have hC:n.lookCom=i:=by simpa using h3.symm
   repeat'((conv=>whnf);first
    |((with_reducible refine Ar (by first|(with_reducible assumption)|(with_reducible exact Bool.of_not_eq_false (by assumption))|(with_reducible exact Bool.of_not_eq_true (by assumption))|((with_reducible refine decide_eq_true ?_);first|(with_reducible assumption)|omega)|((with_reducible refine decide_eq_false ?_);first|(with_reducible assumption)|omega)|(with_reducible rfl)) (fun hb=>?_));(try rw[hb]);(try simp only[Aa,Bool.false_eq_true,Bool.true_eq_false]at hb);(try subst hb))
    |((with_reducible refine Aq (by first|(with_reducible assumption)|(with_reducible exact Bool.of_not_eq_false (by assumption))|(with_reducible exact Bool.of_not_eq_true (by assumption))|((with_reducible refine decide_eq_true ?_);first|(with_reducible assumption)|omega)|((with_reducible refine decide_eq_false ?_);first|(with_reducible assumption)|omega)|(with_reducible rfl)) (fun hb=>?_));(try rw[hb]);(try simp only[Aa,Bool.false_eq_true,Bool.true_eq_false]at hb);(try subst hb))
    |((with_reducible refine And.intro (fun hb=>?_) (fun hb=>?_))<;>first|(with_reducible exact absurd hb (by assumption))|(exact absurd hb (by decide))|(with_reducible exact absurd hb Bool.false_ne_true)|(with_reducible exact absurd hb.symm Bool.false_ne_true)|(exfalso;first|(simp only[Aj]at hb<;>omega)|omega)|((try rw[hb]);(try simp only[Aa,Bool.false_eq_true,Bool.true_eq_false]at hb);(try subst hb)))
    |((with_reducible refine Exists.intro ?_ ?_);focus (and_intros<;>first|omega|(with_reducible assumption)|(with_reducible rfl)|kernel_rfl|exact rfl|assumption|(intro _ hh;cases hh;done)|exact Ah (by rfl)|exact size_map (fun _=>rfl)|exact Ai rfl|exact take_size (fun _=>rfl)|exact Af rfl|exact Ae (fun _=>rfl)|exact Ad (fun _=>rfl)|(simp only[Aj];omega)|(simp;done)|decide))
    |(with_reducible intro hfact)
    |((with_reducible refine And.intro ?_ ?_);focus (first|(with_reducible rfl)|(exact rfl)|decide))
    |((with_reducible apply Drawn.by0);(focus kernel_rfl);intro hfact;(try simp only[dRS]at hfact))
    |((with_reducible refine CallWp.mk ?_);refine⟨_,hmost,?_⟩;rintro _ _ ⟨rfl,rfl⟩))
   all_goals(try(conv=>whnf))
   refine CutTo.by () ?_ trivial
   rw[hC]
   show norm _ _=upd _ _
   kernel_rfl
 ·rintro⟨⟩ -
  clear hCdef hlst
  obtain⟨m,hm0⟩:∃m:Rn,m= {n with com:=n.lookCom}:=⟨_,rfl⟩
  have hmT:=Sc {n with com:=n.lookCom}
  repeat'((conv=>whnf);first
   |((with_reducible refine Ar (by first|(with_reducible assumption)|(with_reducible exact Bool.of_not_eq_false (by assumption))|(with_reducible exact Bool.of_not_eq_true (by assumption))|((with_reducible refine decide_eq_true ?_);first|(with_reducible assumption)|omega)|((with_reducible refine decide_eq_false ?_);first|(with_reducible assumption)|omega)|(with_reducible rfl)) (fun hb=>?_));(try rw[hb]);(try simp only[Aa,Bool.false_eq_true,Bool.true_eq_false]at hb);(try subst hb))
   |((with_reducible refine Aq (by first|(with_reducible assumption)|(with_reducible exact Bool.of_not_eq_false (by assumption))|(with_reducible exact Bool.of_not_eq_true (by assumption))|((with_reducible refine decide_eq_true ?_);first|(with_reducible assumption)|omega)|((with_reducible refine decide_eq_false ?_);first|(with_reducible assumption)|omega)|(with_reducible rfl)) (fun hb=>?_));(try rw[hb]);(try simp only[Aa,Bool.false_eq_true,Bool.true_eq_false]at hb);(try subst hb))
   |((with_reducible refine And.intro (fun hb=>?_) (fun hb=>?_))<;>first|(with_reducible exact absurd hb (by assumption))|(exact absurd hb (by decide))|(with_reducible exact absurd hb Bool.false_ne_true)|(with_reducible exact absurd hb.symm Bool.false_ne_true)|(exfalso;first|(simp only[Aj]at hb<;>omega)|omega)|((try rw[hb]);(try simp only[Aa,Bool.false_eq_true,Bool.true_eq_false]at hb);(try subst hb)))
   |((with_reducible refine Exists.intro ?_ ?_);focus (and_intros<;>first|omega|(with_reducible assumption)|(with_reducible rfl)|kernel_rfl|exact rfl|assumption|(intro _ hh;cases hh;done)|exact Ah (by rfl)|exact size_map (fun _=>rfl)|exact Ai rfl|exact take_size (fun _=>rfl)|exact Af rfl|exact Ae (fun _=>rfl)|exact Ad (fun _=>rfl)|(simp only[Aj];omega)|(simp;done)|decide))
   |(with_reducible intro hfact)
   |((with_reducible refine And.intro ?_ ?_);focus (first|(with_reducible rfl)|(exact rfl)|decide))
   |((with_reducible apply Drawn.by0);(focus kernel_rfl);intro hfact;(try simp only[dRS]at hfact)))
  all_goals(try(conv=>whnf))
  refine LoopWq.by (X:=Nat) (fun j=>[(11,.vec E2 3 ((W j).map Rdw.toI)),(74,.v (ti (j:Nat))),(115,oP (B j))]) (fun j=>j≤n.reads.length) (fun j=>n.reads.length - j) 0 (by rw[hB0,hW0];kernel_rfl) (Nat.zero_le _) ?_
  intro j hj
  dsimp only at hj ⊢
  by_cases hjl:j<n.reads.length
  case neg=>
   have hlt:¬decide ((j:Int)<((n.reads.map Rdw.toI).length:Int))=true:=by rw[hrl];simp;omega
   obtain rfl:j=n.reads.length:=by omega
   repeat'((conv=>whnf);first
    |((with_reducible refine Ar (by first|(with_reducible assumption)|(with_reducible exact Bool.of_not_eq_false (by assumption))|(with_reducible exact Bool.of_not_eq_true (by assumption))|((with_reducible refine decide_eq_true ?_);first|(with_reducible assumption)|omega)|((with_reducible refine decide_eq_false ?_);first|(with_reducible assumption)|omega)|(with_reducible rfl)) (fun hb=>?_));(try rw[hb]);(try simp only[Aa,Bool.false_eq_true,Bool.true_eq_false]at hb);(try subst hb))
    |((with_reducible refine Aq (by first|(with_reducible assumption)|(with_reducible exact Bool.of_not_eq_false (by assumption))|(with_reducible exact Bool.of_not_eq_true (by assumption))|((with_reducible refine decide_eq_true ?_);first|(with_reducible assumption)|omega)|((with_reducible refine decide_eq_false ?_);first|(with_reducible assumption)|omega)|(with_reducible rfl)) (fun hb=>?_));(try rw[hb]);(try simp only[Aa,Bool.false_eq_true,Bool.true_eq_false]at hb);(try subst hb))
    |((with_reducible refine And.intro (fun hb=>?_) (fun hb=>?_))<;>first|(with_reducible exact absurd hb (by assumption))|(exact absurd hb (by decide))|(with_reducible exact absurd hb Bool.false_ne_true)|(with_reducible exact absurd hb.symm Bool.false_ne_true)|(exfalso;first|(simp only[Aj]at hb<;>omega)|omega)|((try rw[hb]);(try simp only[Aa,Bool.false_eq_true,Bool.true_eq_false]at hb);(try subst hb)))
    |((with_reducible refine Exists.intro ?_ ?_);focus (and_intros<;>first|omega|(with_reducible assumption)|(with_reducible rfl)|kernel_rfl|exact rfl|assumption|(intro _ hh;cases hh;done)|exact Ah (by rfl)|exact size_map (fun _=>rfl)|exact Ai rfl|exact take_size (fun _=>rfl)|exact Af rfl|exact Ae (fun _=>rfl)|exact Ad (fun _=>rfl)|(simp only[Aj];omega)|(simp;done)|decide))
    |(with_reducible intro hfact)
    |((with_reducible refine And.intro ?_ ?_);focus (first|(with_reducible rfl)|(exact rfl)|decide))
    |((with_reducible apply Drawn.by0);(focus kernel_rfl);intro hfact;(try simp only[dRS]at hfact)))
   all_goals(try(conv=>whnf))
   (apply dKq<;>kernel_rfl)
  obtain⟨e,he⟩:∃e,n.reads[j]?=some e:=⟨_,List.getElem?_eq_getElem hjl⟩
  have hlt:¬decide ((j:Int)<((n.reads.map Rdw.toI).length:Int))=false:=by rw[hrl];simp[hjl]
  have hs2:=hstep j e he
  have hBlj:=hBl j
  have hWlj:=hWl j
  have hwj:=Cm hjl hrm
  repeat'((conv=>whnf);first
   |((with_reducible refine Ar (by first|(with_reducible assumption)|(with_reducible exact Bool.of_not_eq_false (by assumption))|(with_reducible exact Bool.of_not_eq_true (by assumption))|((with_reducible refine decide_eq_true ?_);first|(with_reducible assumption)|omega)|((with_reducible refine decide_eq_false ?_);first|(with_reducible assumption)|omega)|(with_reducible rfl)) (fun hb=>?_));(try rw[hb]);(try simp only[Aa,Bool.false_eq_true,Bool.true_eq_false]at hb);(try subst hb))
   |((with_reducible refine Aq (by first|(with_reducible assumption)|(with_reducible exact Bool.of_not_eq_false (by assumption))|(with_reducible exact Bool.of_not_eq_true (by assumption))|((with_reducible refine decide_eq_true ?_);first|(with_reducible assumption)|omega)|((with_reducible refine decide_eq_false ?_);first|(with_reducible assumption)|omega)|(with_reducible rfl)) (fun hb=>?_));(try rw[hb]);(try simp only[Aa,Bool.false_eq_true,Bool.true_eq_false]at hb);(try subst hb))
   |((with_reducible refine And.intro (fun hb=>?_) (fun hb=>?_))<;>first|(with_reducible exact absurd hb (by assumption))|(exact absurd hb (by decide))|(with_reducible exact absurd hb Bool.false_ne_true)|(with_reducible exact absurd hb.symm Bool.false_ne_true)|(exfalso;first|(simp only[Aj]at hb<;>omega)|omega)|((try rw[hb]);(try simp only[Aa,Bool.false_eq_true,Bool.true_eq_false]at hb);(try subst hb)))
   |((with_reducible refine Exists.intro ?_ ?_);focus (and_intros<;>first|omega|(with_reducible assumption)|(with_reducible rfl)|kernel_rfl|exact rfl|assumption|(intro _ hh;cases hh;done)|exact Ah (by rfl)|exact size_map (fun _=>rfl)|exact Ai rfl|exact take_size (fun _=>rfl)|exact Af rfl|exact Ae (fun _=>rfl)|exact Ad (fun _=>rfl)|(simp only[Aj];omega)|(simp;done)|decide))
   |(with_reducible intro hfact)
   |((with_reducible refine And.intro ?_ ?_);focus (first|(with_reducible rfl)|(exact rfl)|decide))
   |((with_reducible apply Drawn.by0);(focus kernel_rfl);intro hfact;(try simp only[dRS]at hfact))
   |((try dsimp only);first|rw[Ab6 he]|rw[Abf he]|rw[Abg he]))
  all_goals(try(conv=>whnf))
  refine LoopWq.by (X:=Nat) (fun k=>[(4,.v (ti ((k+1:Nat):Int))),(39,.box (.one (.i (ti (CT n.hd e.rd k)))))]) (fun k=>k≤z) (fun k=>z - k) 0 (by rw[hC0];kernel_rfl) (Nat.zero_le _) ?_
  intro k hk
  dsimp only at hk ⊢
  have hwk:=hw k (by omega)
  by_cases hkz:k<z
  ·have hn1:¬decide (((k+1:Nat):Int)≤n.size)=false:=by simp;omega
   have hs1:=hCs n.hd e.rd k
   have hxk:=hx n.hd k (by omega)
   have hwc:=hw2 n.hd e.rd k (by omega)
   by_cases hid:((k+1:Nat):Int)=n.id
   ·rw[if_neg (fun q=>q.1 hid)]at hs1
    repeat'((conv=>whnf);first
     |((with_reducible refine Ar (by first|(with_reducible assumption)|(with_reducible exact Bool.of_not_eq_false (by assumption))|(with_reducible exact Bool.of_not_eq_true (by assumption))|((with_reducible refine decide_eq_true ?_);first|(with_reducible assumption)|omega)|((with_reducible refine decide_eq_false ?_);first|(with_reducible assumption)|omega)|(with_reducible rfl)) (fun hb=>?_));(try rw[hb]);(try simp only[Aa,Bool.false_eq_true,Bool.true_eq_false]at hb);(try subst hb))
     |((with_reducible refine Aq (by first|(with_reducible assumption)|(with_reducible exact Bool.of_not_eq_false (by assumption))|(with_reducible exact Bool.of_not_eq_true (by assumption))|((with_reducible refine decide_eq_true ?_);first|(with_reducible assumption)|omega)|((with_reducible refine decide_eq_false ?_);first|(with_reducible assumption)|omega)|(with_reducible rfl)) (fun hb=>?_));(try rw[hb]);(try simp only[Aa,Bool.false_eq_true,Bool.true_eq_false]at hb);(try subst hb))
     |((with_reducible refine And.intro (fun hb=>?_) (fun hb=>?_))<;>first|(with_reducible exact absurd hb (by assumption))|(exact absurd hb (by decide))|(with_reducible exact absurd hb Bool.false_ne_true)|(with_reducible exact absurd hb.symm Bool.false_ne_true)|(exfalso;first|(simp only[Aj]at hb<;>omega)|omega)|((try rw[hb]);(try simp only[Aa,Bool.false_eq_true,Bool.true_eq_false]at hb);(try subst hb)))
     |((with_reducible refine Exists.intro ?_ ?_);focus (and_intros<;>first|omega|(with_reducible assumption)|(with_reducible rfl)|kernel_rfl|exact rfl|assumption|(intro _ hh;cases hh;done)|exact Ah (by rfl)|exact size_map (fun _=>rfl)|exact Ai rfl|exact take_size (fun _=>rfl)|exact Af rfl|exact Ae (fun _=>rfl)|exact Ad (fun _=>rfl)|(simp only[Aj];omega)|(simp;done)|decide))
     |(with_reducible intro hfact)
     |((with_reducible refine And.intro ?_ ?_);focus (first|(with_reducible rfl)|(exact rfl)|decide))
     |((with_reducible apply Drawn.by0);(focus kernel_rfl);intro hfact;(try simp only[dRS]at hfact))
     |((try dsimp only);rw[hwk]))
    all_goals(try(conv=>whnf))
    refine Round.by (k+1) ?_ hkz (show z - (k+1)<z - k by omega)
    rw[hs1]
    show norm _ _=upd _ _
    kernel_rfl
   ·by_cases hge:e.rd≤n.hd (k+1)
    ·rw[if_pos ⟨hid,hge⟩]at hs1
     repeat'((conv=>whnf);first
      |((with_reducible refine Ar (by first|(with_reducible assumption)|(with_reducible exact Bool.of_not_eq_false (by assumption))|(with_reducible exact Bool.of_not_eq_true (by assumption))|((with_reducible refine decide_eq_true ?_);first|(with_reducible assumption)|omega)|((with_reducible refine decide_eq_false ?_);first|(with_reducible assumption)|omega)|(with_reducible rfl)) (fun hb=>?_));(try rw[hb]);(try simp only[Aa,Bool.false_eq_true,Bool.true_eq_false]at hb);(try subst hb))
      |((with_reducible refine Aq (by first|(with_reducible assumption)|(with_reducible exact Bool.of_not_eq_false (by assumption))|(with_reducible exact Bool.of_not_eq_true (by assumption))|((with_reducible refine decide_eq_true ?_);first|(with_reducible assumption)|omega)|((with_reducible refine decide_eq_false ?_);first|(with_reducible assumption)|omega)|(with_reducible rfl)) (fun hb=>?_));(try rw[hb]);(try simp only[Aa,Bool.false_eq_true,Bool.true_eq_false]at hb);(try subst hb))
      |((with_reducible refine And.intro (fun hb=>?_) (fun hb=>?_))<;>first|(with_reducible exact absurd hb (by assumption))|(exact absurd hb (by decide))|(with_reducible exact absurd hb Bool.false_ne_true)|(with_reducible exact absurd hb.symm Bool.false_ne_true)|(exfalso;first|(simp only[Aj]at hb<;>omega)|omega)|((try rw[hb]);(try simp only[Aa,Bool.false_eq_true,Bool.true_eq_false]at hb);(try subst hb)))
      |((with_reducible refine Exists.intro ?_ ?_);focus (and_intros<;>first|(simp only[C0];omega)|omega|(with_reducible assumption)|(with_reducible rfl)|kernel_rfl|exact rfl|assumption|(intro _ hh;cases hh;done)|exact Ah (by rfl)|exact size_map (fun _=>rfl)|exact Ai rfl|exact take_size (fun _=>rfl)|exact Af rfl|exact Ae (fun _=>rfl)|exact Ad (fun _=>rfl)|(simp only[Aj];omega)|(simp;done)|decide))
      |(with_reducible intro hfact)
      |((with_reducible refine And.intro ?_ ?_);focus (first|(with_reducible rfl)|(exact rfl)|decide))
      |((with_reducible apply Drawn.by0);(focus kernel_rfl);intro hfact;(try simp only[dRS]at hfact))
      |((try dsimp only);rw[hwk])
      |((try dsimp only);rw[hwc])
      |((first|with_reducible apply Hn|with_reducible apply Ho);(focus (simp only[D.at,D.put,D.kid,D.setKid,List.cons_append,List.nil_append,List.append,List.getElem?_cons_zero,List.getElem?_cons_succ,Int.toNat_natCast,List.getElem?_set_self',Option.map_eq_map,Option.map_some,List.set_cons_zero,List.set_cons_succ,List.set_set,Function.const_apply,List.map_cons,List.map_nil,mkSt,Be,D.toI,toIs,Bd,List.getElem?_map,List.length_map,List.length_set,hxk,Rn.toI]<;>exact rfl)))
      |((first|with_reducible apply D1|with_reducible apply D0);(focus rfl);(focus (simp only[D.at,D.put,D.kid,D.setKid,List.cons_append,List.nil_append,List.append,List.getElem?_cons_zero,List.getElem?_cons_succ,Int.toNat_natCast,List.getElem?_set_self',Option.map_eq_map,Option.map_some,List.set_cons_zero,List.set_cons_succ,List.set_set,Function.const_apply,List.map_cons,List.map_nil,mkSt,Be,D.toI,toIs,Bd,List.getElem?_map,List.length_map,List.length_set,hxk,Rn.toI]<;>exact rfl));(try(focus exact rfl))))
     all_goals(try(conv=>whnf))
     refine Round.by (k+1) ?_ hkz (show z - (k+1)<z - k by omega)
     rw[hs1]
     show norm _ _=upd _ _
     kernel_rfl
    ·rw[if_neg (fun q=>hge q.2)]at hs1
     repeat'((conv=>whnf);first
      |((with_reducible refine Ar (by first|(with_reducible assumption)|(with_reducible exact Bool.of_not_eq_false (by assumption))|(with_reducible exact Bool.of_not_eq_true (by assumption))|((with_reducible refine decide_eq_true ?_);first|(with_reducible assumption)|omega)|((with_reducible refine decide_eq_false ?_);first|(with_reducible assumption)|omega)|(with_reducible rfl)) (fun hb=>?_));(try rw[hb]);(try simp only[Aa,Bool.false_eq_true,Bool.true_eq_false]at hb);(try subst hb))
      |((with_reducible refine Aq (by first|(with_reducible assumption)|(with_reducible exact Bool.of_not_eq_false (by assumption))|(with_reducible exact Bool.of_not_eq_true (by assumption))|((with_reducible refine decide_eq_true ?_);first|(with_reducible assumption)|omega)|((with_reducible refine decide_eq_false ?_);first|(with_reducible assumption)|omega)|(with_reducible rfl)) (fun hb=>?_));(try rw[hb]);(try simp only[Aa,Bool.false_eq_true,Bool.true_eq_false]at hb);(try subst hb))
      |((with_reducible refine And.intro (fun hb=>?_) (fun hb=>?_))<;>first|(with_reducible exact absurd hb (by assumption))|(exact absurd hb (by decide))|(with_reducible exact absurd hb Bool.false_ne_true)|(with_reducible exact absurd hb.symm Bool.false_ne_true)|(exfalso;first|(simp only[Aj]at hb<;>omega)|omega)|((try rw[hb]);(try simp only[Aa,Bool.false_eq_true,Bool.true_eq_false]at hb);(try subst hb)))
      |((with_reducible refine Exists.intro ?_ ?_);focus (and_intros<;>first|(simp only[C0];omega)|omega|(with_reducible assumption)|(with_reducible rfl)|kernel_rfl|exact rfl|assumption|(intro _ hh;cases hh;done)|exact Ah (by rfl)|exact size_map (fun _=>rfl)|exact Ai rfl|exact take_size (fun _=>rfl)|exact Af rfl|exact Ae (fun _=>rfl)|exact Ad (fun _=>rfl)|(simp only[Aj];omega)|(simp;done)|decide))
      |(with_reducible intro hfact)
      |((with_reducible refine And.intro ?_ ?_);focus (first|(with_reducible rfl)|(exact rfl)|decide))
      |((with_reducible apply Drawn.by0);(focus kernel_rfl);intro hfact;(try simp only[dRS]at hfact))
      |((try dsimp only);rw[hwk])
      |((first|with_reducible apply Hn|with_reducible apply Ho);(focus (simp only[D.at,D.put,D.kid,D.setKid,List.cons_append,List.nil_append,List.append,List.getElem?_cons_zero,List.getElem?_cons_succ,Int.toNat_natCast,List.getElem?_set_self',Option.map_eq_map,Option.map_some,List.set_cons_zero,List.set_cons_succ,List.set_set,Function.const_apply,List.map_cons,List.map_nil,mkSt,Be,D.toI,toIs,Bd,List.getElem?_map,List.length_map,List.length_set,hxk,Rn.toI]<;>exact rfl)))
      |((first|with_reducible apply D1|with_reducible apply D0);(focus rfl);(focus (simp only[D.at,D.put,D.kid,D.setKid,List.cons_append,List.nil_append,List.append,List.getElem?_cons_zero,List.getElem?_cons_succ,Int.toNat_natCast,List.getElem?_set_self',Option.map_eq_map,Option.map_some,List.set_cons_zero,List.set_cons_succ,List.set_set,Function.const_apply,List.map_cons,List.map_nil,mkSt,Be,D.toI,toIs,Bd,List.getElem?_map,List.length_map,List.length_set,hxk,Rn.toI]<;>exact rfl));(try(focus exact rfl))))
     all_goals(try(conv=>whnf))
     refine Round.by (k+1) ?_ hkz (show z - (k+1)<z - k by omega)
     rw[hs1]
     show norm _ _=upd _ _
     kernel_rfl
  have hn1:¬decide (((k+1:Nat):Int)≤n.size)=true:=by simp;omega
  obtain rfl:z=k:=by omega
  have hcan:n.can e=n.mostM (CT n.hd e.rd z):=by rw[hCz];rfl
  have hmost:=hmT (CT n.hd e.rd z)
  cases hm:n.can e with
  |false=>
   have hmost:Fn Try.prog Dv [nP {n with com:=n.lookCom},.v (ti (CT n.hd e.rd z))] (Is (.v (.bool false)) [nP {n with com:=n.lookCom},.no]):=by rw[←hm,hcan];exact hmost
   obtain⟨hs3,hs4⟩:=hs2.2 hm
   repeat'((conv=>whnf);first
    |((with_reducible refine Ar (by first|(with_reducible assumption)|(with_reducible exact Bool.of_not_eq_false (by assumption))|(with_reducible exact Bool.of_not_eq_true (by assumption))|((with_reducible refine decide_eq_true ?_);first|(with_reducible assumption)|omega)|((with_reducible refine decide_eq_false ?_);first|(with_reducible assumption)|omega)|(with_reducible rfl)) (fun hb=>?_));(try rw[hb]);(try simp only[Aa,Bool.false_eq_true,Bool.true_eq_false]at hb);(try subst hb))
    |((with_reducible refine Aq (by first|(with_reducible assumption)|(with_reducible exact Bool.of_not_eq_false (by assumption))|(with_reducible exact Bool.of_not_eq_true (by assumption))|((with_reducible refine decide_eq_true ?_);first|(with_reducible assumption)|omega)|((with_reducible refine decide_eq_false ?_);first|(with_reducible assumption)|omega)|(with_reducible rfl)) (fun hb=>?_));(try rw[hb]);(try simp only[Aa,Bool.false_eq_true,Bool.true_eq_false]at hb);(try subst hb))
    |((with_reducible refine And.intro (fun hb=>?_) (fun hb=>?_))<;>first|(with_reducible exact absurd hb (by assumption))|(exact absurd hb (by decide))|(with_reducible exact absurd hb Bool.false_ne_true)|(with_reducible exact absurd hb.symm Bool.false_ne_true)|(exfalso;first|(simp only[Aj]at hb<;>omega)|omega)|((try rw[hb]);(try simp only[Aa,Bool.false_eq_true,Bool.true_eq_false]at hb);(try subst hb)))
    |((with_reducible refine Exists.intro ?_ ?_);focus (and_intros<;>first|omega|(with_reducible assumption)|(with_reducible rfl)|kernel_rfl|exact rfl|assumption|(intro _ hh;cases hh;done)|exact Ah (by rfl)|exact size_map (fun _=>rfl)|exact Ai rfl|exact take_size (fun _=>rfl)|exact Af rfl|exact Ae (fun _=>rfl)|exact Ad (fun _=>rfl)|(simp only[Aj];omega)|(simp;done)|decide))
    |(with_reducible intro hfact)
    |((with_reducible refine And.intro ?_ ?_);focus (first|(with_reducible rfl)|(exact rfl)|decide))
    |((with_reducible apply Drawn.by0);(focus kernel_rfl);intro hfact;(try simp only[dRS]at hfact))
    |((with_reducible refine CallWp.mk ?_);refine⟨_,hmost,?_⟩;rintro _ _ ⟨rfl,rfl⟩)
    |((try dsimp only);rw[hwj]))
   all_goals(try(conv=>whnf))
   refine Round.by (j+1) ?_ hjl (show n.reads.length - (j+1)<n.reads.length - j by omega)
   try dsimp only
   rw[hs3,hs4]
   show norm _ _=upd _ _
   kernel_rfl
  |true=>
   have hmost:Fn Try.prog Dv [nP {n with com:=n.lookCom},.v (ti (CT n.hd e.rd z))] (Is (.v (.bool true)) [nP {n with com:=n.lookCom},.no]):=by rw[←hm,hcan];exact hmost
   obtain⟨hs3,hs4⟩:=hs2.1 hm
   repeat'((conv=>whnf);first
    |((with_reducible refine Ar (by first|(with_reducible assumption)|(with_reducible exact Bool.of_not_eq_false (by assumption))|(with_reducible exact Bool.of_not_eq_true (by assumption))|((with_reducible refine decide_eq_true ?_);first|(with_reducible assumption)|omega)|((with_reducible refine decide_eq_false ?_);first|(with_reducible assumption)|omega)|(with_reducible rfl)) (fun hb=>?_));(try rw[hb]);(try simp only[Aa,Bool.false_eq_true,Bool.true_eq_false]at hb);(try subst hb))
    |((with_reducible refine Aq (by first|(with_reducible assumption)|(with_reducible exact Bool.of_not_eq_false (by assumption))|(with_reducible exact Bool.of_not_eq_true (by assumption))|((with_reducible refine decide_eq_true ?_);first|(with_reducible assumption)|omega)|((with_reducible refine decide_eq_false ?_);first|(with_reducible assumption)|omega)|(with_reducible rfl)) (fun hb=>?_));(try rw[hb]);(try simp only[Aa,Bool.false_eq_true,Bool.true_eq_false]at hb);(try subst hb))
    |((with_reducible refine And.intro (fun hb=>?_) (fun hb=>?_))<;>first|(with_reducible exact absurd hb (by assumption))|(exact absurd hb (by decide))|(with_reducible exact absurd hb Bool.false_ne_true)|(with_reducible exact absurd hb.symm Bool.false_ne_true)|(exfalso;first|(simp only[Aj]at hb<;>omega)|omega)|((try rw[hb]);(try simp only[Aa,Bool.false_eq_true,Bool.true_eq_false]at hb);(try subst hb)))
    |((with_reducible refine Exists.intro ?_ ?_);focus (and_intros<;>first|omega|(with_reducible assumption)|(with_reducible rfl)|kernel_rfl|exact rfl|assumption|(intro _ hh;cases hh;done)|exact Ah (by rfl)|exact size_map (fun _=>rfl)|exact Ai rfl|exact take_size (fun _=>rfl)|exact Af rfl|exact Ae (fun _=>rfl)|exact Ad (fun _=>rfl)|(simp only[Aj];omega)|(simp;done)|decide))
    |(with_reducible intro hfact)
    |((with_reducible refine And.intro ?_ ?_);focus (first|(with_reducible rfl)|(exact rfl)|decide))
    |((with_reducible refine Drawn.mkV ?_ ?_ ?_ (fun hfact=>?_));(focus (as_aux_lemma=>kernel_rfl));(focus (as_aux_lemma=>kernel_rfl));(focus (as_aux_lemma=>kernel_rfl));(try simp only[dRS]at hfact))
    |((with_reducible refine CallWp.mk ?_);refine⟨_,hmost,?_⟩;rintro _ _ ⟨rfl,rfl⟩)
    |((try dsimp only);rw[hwj]))
   all_goals(try(conv=>whnf))
   refine Round.by (j+1) ?_ hjl (show n.reads.length - (j+1)<n.reads.length - j by omega)
   try dsimp only
   rw[hs3,show oP (B (j+1))= .own [] (.ptr (B (j+1)).toD)from rfl,hs4]
   show norm _ _=upd _ _
   kernel_rfl
end Go.Ab
