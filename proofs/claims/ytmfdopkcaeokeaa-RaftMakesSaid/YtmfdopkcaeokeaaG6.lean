/- Lemmas -/
import Derived.Test.YtmfdopkcaeokeaaG4
set_option linter.unusedVariables false
set_option linter.unusedSimpArgs false
set_option maxRecDepth 100000
set_option maxHeartbeats 40000000
namespace Go.Ab
open Go.Proofs
def setF {α:Type} (f:Nat→α) (l:List Nat) (v:α):Nat→α:=fun p=>if p∈l then v else f p
theorem Z9 {α:Type} (f:Nat→α) (l:List Nat) (p:Nat) (v:α):setF f (l++[p]) v=upF (setF f l v) p v:=by
 funext q
 unfold setF upF
 by_cases h:q=p
 ·simp[h]
 ·simp[h]
def Rn.toIA (n:Rn) (A B C:List I):I:=.agg [ti n.id,ti n.size,ti n.tmo,ti n.term,ti n.vote,ti n.role,ti n.lead,logI n.lix n.ltm n.les,.str n.data,ti n.com,ti n.wai,
 .arr 1 (arr8 fun i=>.bool (n.gr i)),.arr 1 A,.arr 1 B,.arr 1 C,ti n.rnd,.list (n.reads.map Rdw.toI)]
def Rn.led (n:Rn):Rn:={n with les:=addM n.lix n.ltm n.les n.term [],role:=2,lead:=n.id,reads:=[],nx:=setF n.nx n.oths (A3 n.lix n.ltm (addM n.lix n.ltm n.les n.term [])).1,mt:=setF n.mt n.oths 0,hd:=setF n.hd n.oths 0}
def Rn.leadM (n:Rn) (o:Ro):Rn × Ro:=
 if right n.lix n.ltm (addM n.lix n.ltm n.les n.term [])=true then n.led.roundM.lookM (n.led.roundM.sendAllM o)
 else({n.followM n.term with vote:=n.vote},o)
theorem Yp (n:Rn) (hL:n.Lk) (hone:n.size=1∧n.id=1) (o:Ro) (h:o.msgs.length≤800000∧o.ready.length≤800000):
 Fn Try.prog M0 [nP n,oP o] (Is (.tup []) [nP (n.leadM o).1,oP (n.leadM o).2]):=by
 have hL0:=hL
 obtain⟨hR,hs,hc,hrd⟩:=hL
 refine Mh ?_ (by simp)
 have hlen:=hR.len
 have ha:=U3 n.lix n.ltm n.les n.term [] (by omega)
 by_cases hok:right n.lix n.ltm (addM n.lix n.ltm n.les n.term [])=true
 case neg=>
  rw[if_neg hok]at ha
  have hf:=My n n.term
  rw[show n.leadM o=({n.followM n.term with vote:=n.vote},o)from if_neg hok]
  repeat'((conv=>whnf);first
   |((with_reducible refine Ar (by first|(with_reducible assumption)|(with_reducible exact Bool.of_not_eq_false (by assumption))|(with_reducible exact Bool.of_not_eq_true (by assumption))|((with_reducible refine decide_eq_true ?_);first|(with_reducible assumption)|omega)|((with_reducible refine decide_eq_false ?_);first|(with_reducible assumption)|omega)|(with_reducible rfl)) (fun hb=>?_));(try rw[hb]);(try simp only[Aa,Bool.false_eq_true,Bool.true_eq_false]at hb);(try subst hb))
   |((with_reducible refine Aq (by first|(with_reducible assumption)|(with_reducible exact Bool.of_not_eq_false (by assumption))|(with_reducible exact Bool.of_not_eq_true (by assumption))|((with_reducible refine decide_eq_true ?_);first|(with_reducible assumption)|omega)|((with_reducible refine decide_eq_false ?_);first|(with_reducible assumption)|omega)|(with_reducible rfl)) (fun hb=>?_));(try rw[hb]);(try simp only[Aa,Bool.false_eq_true,Bool.true_eq_false]at hb);(try subst hb))
   |((with_reducible refine And.intro (fun hb=>?_) (fun hb=>?_))<;>first|(with_reducible exact absurd hb (by assumption))|(exact absurd hb (by decide))|(with_reducible exact absurd hb Bool.false_ne_true)|(with_reducible exact absurd hb.symm Bool.false_ne_true)|(exfalso;first|(simp only[Aj]at hb<;>omega)|omega)|((try rw[hb]);(try simp only[Aa,Bool.false_eq_true,Bool.true_eq_false]at hb);(try subst hb)))
   |((with_reducible refine Exists.intro ?_ ?_);focus (and_intros<;>first|omega|(with_reducible assumption)|(with_reducible rfl)|kernel_rfl|exact rfl|assumption|(intro _ hh;cases hh;done)|exact Ah (by rfl)|exact size_map (fun _=>rfl)|exact Ai rfl|exact take_size (fun _=>rfl)|exact Af rfl|exact Ae (fun _=>rfl)|exact Ad (fun _=>rfl)|(simp only[Aj];omega)|(simp;done)|decide))
   |(with_reducible intro hfact)
   |((with_reducible refine And.intro ?_ ?_);focus (first|(with_reducible rfl)|(exact rfl)|decide))
   |((with_reducible apply Drawn.by0);(focus kernel_rfl);intro hfact;(try simp only[dRS]at hfact))
   |((with_reducible refine CallIs.mk ?_);refine⟨_,_,ha,?_⟩)
   |((with_reducible refine CallIs.mk ?_);refine⟨_,_,hf,?_⟩))
  all_goals(try(conv=>whnf))
  (apply dKq<;>kernel_rfl)
 rw[if_pos hok]at ha
 rw[show n.leadM o=n.led.roundM.lookM (n.led.roundM.sendAllM o)from if_pos hok]
 obtain⟨z,hz⟩:∃z:Nat,n.size=z:=⟨n.size.toNat,by omega⟩
 have hz7:z≤7:=by omega
 have hzz:n.oths=oth n.id z:=by unfold Rn.oths;rw[hz];rfl
 obtain⟨es,hes⟩:∃es,es=addM n.lix n.ltm n.les n.term []:=⟨_,rfl⟩
 rw[←hes]at ha hok
 have hl:=Bt n.lix n.ltm es
 obtain⟨la,hla⟩:∃la,la=(A3 n.lix n.ltm es).1:=⟨_,rfl⟩
 obtain⟨lt,hlt⟩:∃lt,lt=(A3 n.lix n.ltm es).2:=⟨_,rfl⟩
 rw[←hla, ←hlt]at hl
 obtain⟨N1,hN1⟩:∃N1:Rn,N1=n.led:=⟨_,rfl⟩
 have hNL:N1.roundM.Lk:=by
  rw[hN1]
  exact⟨by show Right n.lix n.ltm (addM n.lix n.ltm n.les n.term []);rw[←hes];exact Ek hok,hs,hc,Nat.zero_le _⟩
 rw[←hN1]
 obtain⟨A,hA⟩:∃A:Nat→List I,A=fun k=>arr8 fun i=>ti (setF n.nx (oth n.id k) la i):=⟨_,rfl⟩
 obtain⟨B,hB⟩:∃B:Nat→List I,B=fun k=>arr8 fun i=>ti (setF n.mt (oth n.id k) 0 i):=⟨_,rfl⟩
 obtain⟨C,hC⟩:∃C:Nat→List I,C=fun k=>arr8 fun i=>ti (setF n.hd (oth n.id k) 0 i):=⟨_,rfl⟩
 have step:∀(f:Nat→Int) (v:Int) (k:Nat),k<7→((k+1:Nat):Int)≠n.id→(arr8 fun i=>ti (setF f (oth n.id (k+1)) v i))=(arr8 fun i=>ti (setF f (oth n.id k) v i)).set (k+1) (ti v):=fun f v k hk hid=>by
  rw[S4 _ _ (by omega),W4 ti,Gt,if_pos hid,Z9]
 have stay:∀(f:Nat→Int) (v:Int) (k:Nat),¬((k+1:Nat):Int)≠n.id→(arr8 fun i=>ti (setF f (oth n.id (k+1)) v i))=(arr8 fun i=>ti (setF f (oth n.id k) v i)):=fun f v k hid=>by
  rw[Gt,if_neg hid,List.append_nil]
 have z0:∀f:Nat→Int,∀v,setF f (oth n.id 0) v=f:=fun f v=>by funext p;simp[setF,oth]
 have hA0:A 0=arr8 fun i=>ti (n.nx i):=by rw[hA];simp only[z0]
 have hB0:B 0=arr8 fun i=>ti (n.mt i):=by rw[hB];simp only[z0]
 have hC0:C 0=arr8 fun i=>ti (n.hd i):=by rw[hC];simp only[z0]
 have hAs:∀k,k<7→((k+1:Nat):Int)≠n.id→A (k+1)=(A k).set (k+1) (ti la)∧B (k+1)=(B k).set (k+1) (ti 0)∧C (k+1)=(C k).set (k+1) (ti 0):=fun k hk hid=>by
  rw[hA,hB,hC];exact⟨step _ _ k hk hid,step _ _ k hk hid,step _ _ k hk hid⟩
 have hAt:∀k,¬((k+1:Nat):Int)≠n.id→A (k+1)=A k∧B (k+1)=B k∧C (k+1)=C k:=fun k hid=>by
  rw[hA,hB,hC];exact⟨stay _ _ k hid,stay _ _ k hid,stay _ _ k hid⟩
 have hAg:∀k p,p<8→(∃v,(A k)[p]?=some (ti v))∧(∃v,(B k)[p]?=some (ti v))∧(∃v,(C k)[p]?=some (ti v)):=fun k p hp=>by
  rw[hA,hB,hC];exact⟨⟨_,Ep _ hp⟩,⟨_,Ep _ hp⟩,⟨_,Ep _ hp⟩⟩
 have hAl:∀k,(A k).length=8∧(B k).length=8∧(C k).length=8:=fun k=>by rw[hA,hB,hC];exact⟨rfl,rfl,rfl⟩
 have hNz:nP N1= .own [] (.ptr (.it (Rn.toIA {n with les:=es,role:=2,lead:=n.id,reads:=[]} (A z) (B z) (C z)))):=by
  rw[hN1,hA,hB,hC];dsimp only;rw[←hzz,hla,hes];rfl
 have hw:∀k:Nat,k≤7→IntKind.i64.wrap (((k+1:Nat):Int)+1)=((k+1+1:Nat):Int):=fun k hk=>Cm (n:=100) (by omega) (by simp only[maxLen];omega)
 have hsz:N1.size=n.size:=by rw[hN1];rfl
 have hrnd:=Qm N1
 have hsnd:=Gy N1.roundM hNL.log hNL.size o (by omega)
 have hsl:(N1.roundM.sendAllM o).ready.length≤900000:=by
  have:∀(l:List Nat) (o:Ro),(l.foldl (fun o p=>N1.roundM.sendM p o) o).ready=o.ready:=by
   intro l
   induction l with
   |nil=>intro o;rfl
   |cons p l ih=>intro o;rw[List.foldl_cons,ih];unfold Rn.sendM Ro.sayM;split<;>rfl
  unfold Rn.sendAllM
  rw[this];omega
 have hlk:=Sb N1.roundM hNL (N1.roundM.sendAllM o) hsl
 rw[hNz]at hrnd
 clear step stay z0 hA hB hC
 repeat'((conv=>whnf);first
  |((with_reducible refine Ar (by first|(with_reducible assumption)|(with_reducible exact Bool.of_not_eq_false (by assumption))|(with_reducible exact Bool.of_not_eq_true (by assumption))|((with_reducible refine decide_eq_true ?_);first|(with_reducible assumption)|omega)|((with_reducible refine decide_eq_false ?_);first|(with_reducible assumption)|omega)|(with_reducible rfl)) (fun hb=>?_));(try rw[hb]);(try simp only[Aa,Bool.false_eq_true,Bool.true_eq_false]at hb);(try subst hb))
  |((with_reducible refine Aq (by first|(with_reducible assumption)|(with_reducible exact Bool.of_not_eq_false (by assumption))|(with_reducible exact Bool.of_not_eq_true (by assumption))|((with_reducible refine decide_eq_true ?_);first|(with_reducible assumption)|omega)|((with_reducible refine decide_eq_false ?_);first|(with_reducible assumption)|omega)|(with_reducible rfl)) (fun hb=>?_));(try rw[hb]);(try simp only[Aa,Bool.false_eq_true,Bool.true_eq_false]at hb);(try subst hb))
  |((with_reducible refine And.intro (fun hb=>?_) (fun hb=>?_))<;>first|(with_reducible exact absurd hb (by assumption))|(exact absurd hb (by decide))|(with_reducible exact absurd hb Bool.false_ne_true)|(with_reducible exact absurd hb.symm Bool.false_ne_true)|(exfalso;first|(simp only[Aj]at hb<;>omega)|omega)|((try rw[hb]);(try simp only[Aa,Bool.false_eq_true,Bool.true_eq_false]at hb);(try subst hb)))
  |((with_reducible refine Exists.intro ?_ ?_);focus (and_intros<;>first|omega|(with_reducible assumption)|(with_reducible rfl)|kernel_rfl|exact rfl|assumption|(intro _ hh;cases hh;done)|exact Ah (by rfl)|exact size_map (fun _=>rfl)|exact Ai rfl|exact take_size (fun _=>rfl)|exact Af rfl|exact Ae (fun _=>rfl)|exact Ad (fun _=>rfl)|(simp only[Aj];omega)|(simp;done)|decide))
  |(with_reducible intro hfact)
  |((with_reducible refine And.intro ?_ ?_);focus (first|(with_reducible rfl)|(exact rfl)|decide))
  |((with_reducible refine Drawn.mkV ?_ ?_ ?_ (fun hfact=>?_));(focus (as_aux_lemma=>kernel_rfl));(focus (as_aux_lemma=>kernel_rfl));(focus (as_aux_lemma=>kernel_rfl));(try simp only[dRS]at hfact))
  |((with_reducible refine CallIs.mk ?_);refine⟨_,_,ha,?_⟩)
  |((with_reducible refine CallWp.mk ?_);refine⟨_,hl,?_⟩;rintro _ _ ⟨rfl,rfl⟩))
 all_goals(try(conv=>whnf))
 refine LoopWq.by (X:=Nat) (fun k=>[(4,.v (ti ((k+1:Nat):Int))),(112,.own [] (.ptr (.it (Rn.toIA {n with les:=es,role:=2,lead:=n.id,reads:=[]} (A k) (B k) (C k)))))]) (fun k=>k≤z) (fun k=>z - k) 0 (by rw[hA0,hB0,hC0];kernel_rfl) (Nat.zero_le _) ?_
 intro k hk
 dsimp only at hk ⊢
 have hwk:=hw k (by omega)
 by_cases hkz:k<z
 ·have hn1:¬decide (((k+1:Nat):Int)≤n.size)=false:=by simp;omega
  by_cases hid:((k+1:Nat):Int)=n.id
  ·obtain⟨q1,q2,q3⟩:=hAt k (by simpa using hid)
   repeat'((conv=>whnf);first
    |((with_reducible refine Ar (by first|(with_reducible assumption)|(with_reducible exact Bool.of_not_eq_false (by assumption))|(with_reducible exact Bool.of_not_eq_true (by assumption))|((with_reducible refine decide_eq_true ?_);first|(with_reducible assumption)|omega)|((with_reducible refine decide_eq_false ?_);first|(with_reducible assumption)|omega)|(with_reducible rfl)) (fun hb=>?_));(try rw[hb]);(try simp only[Aa,Bool.false_eq_true,Bool.true_eq_false]at hb);(try subst hb))
    |((with_reducible refine Aq (by first|(with_reducible assumption)|(with_reducible exact Bool.of_not_eq_false (by assumption))|(with_reducible exact Bool.of_not_eq_true (by assumption))|((with_reducible refine decide_eq_true ?_);first|(with_reducible assumption)|omega)|((with_reducible refine decide_eq_false ?_);first|(with_reducible assumption)|omega)|(with_reducible rfl)) (fun hb=>?_));(try rw[hb]);(try simp only[Aa,Bool.false_eq_true,Bool.true_eq_false]at hb);(try subst hb))
    |((with_reducible refine And.intro (fun hb=>?_) (fun hb=>?_))<;>first|(with_reducible exact absurd hb (by assumption))|(exact absurd hb (by decide))|(with_reducible exact absurd hb Bool.false_ne_true)|(with_reducible exact absurd hb.symm Bool.false_ne_true)|(exfalso;first|(simp only[Aj]at hb<;>omega)|omega)|((try rw[hb]);(try simp only[Aa,Bool.false_eq_true,Bool.true_eq_false]at hb);(try subst hb)))
    |((with_reducible refine Exists.intro ?_ ?_);focus (and_intros<;>first|omega|(with_reducible assumption)|(with_reducible rfl)|kernel_rfl|exact rfl|assumption|(intro _ hh;cases hh;done)|exact Ah (by rfl)|exact size_map (fun _=>rfl)|exact Ai rfl|exact take_size (fun _=>rfl)|exact Af rfl|exact Ae (fun _=>rfl)|exact Ad (fun _=>rfl)|(simp only[Aj];omega)|(simp;done)|decide))
    |(with_reducible intro hfact)
    |((with_reducible refine And.intro ?_ ?_);focus (first|(with_reducible rfl)|(exact rfl)|decide))
    |((with_reducible apply Drawn.by0);(focus kernel_rfl);intro hfact;(try simp only[dRS]at hfact))
    |((try dsimp only);rw[hwk]))
   all_goals(try(conv=>whnf))
   refine Round.by (k+1) ?_ hkz (show z - (k+1)<z - k by omega)
   rw[q1,q2,q3]
   show norm _ _=upd _ _
   kernel_rfl
  ·exfalso;omega
 ·have hn1:¬decide (((k+1:Nat):Int)≤n.size)=true:=by simp;omega
  obtain rfl:z=k:=by omega
  repeat'((conv=>whnf);first
   |((with_reducible refine Ar (by first|(with_reducible assumption)|(with_reducible exact Bool.of_not_eq_false (by assumption))|(with_reducible exact Bool.of_not_eq_true (by assumption))|((with_reducible refine decide_eq_true ?_);first|(with_reducible assumption)|omega)|((with_reducible refine decide_eq_false ?_);first|(with_reducible assumption)|omega)|(with_reducible rfl)) (fun hb=>?_));(try rw[hb]);(try simp only[Aa,Bool.false_eq_true,Bool.true_eq_false]at hb);(try subst hb))
   |((with_reducible refine Aq (by first|(with_reducible assumption)|(with_reducible exact Bool.of_not_eq_false (by assumption))|(with_reducible exact Bool.of_not_eq_true (by assumption))|((with_reducible refine decide_eq_true ?_);first|(with_reducible assumption)|omega)|((with_reducible refine decide_eq_false ?_);first|(with_reducible assumption)|omega)|(with_reducible rfl)) (fun hb=>?_));(try rw[hb]);(try simp only[Aa,Bool.false_eq_true,Bool.true_eq_false]at hb);(try subst hb))
   |((with_reducible refine And.intro (fun hb=>?_) (fun hb=>?_))<;>first|(with_reducible exact absurd hb (by assumption))|(exact absurd hb (by decide))|(with_reducible exact absurd hb Bool.false_ne_true)|(with_reducible exact absurd hb.symm Bool.false_ne_true)|(exfalso;first|(simp only[Aj]at hb<;>omega)|omega)|((try rw[hb]);(try simp only[Aa,Bool.false_eq_true,Bool.true_eq_false]at hb);(try subst hb)))
   |((with_reducible refine Exists.intro ?_ ?_);focus (and_intros<;>first|omega|(with_reducible assumption)|(with_reducible rfl)|kernel_rfl|exact rfl|assumption|(intro _ hh;cases hh;done)|exact Ah (by rfl)|exact size_map (fun _=>rfl)|exact Ai rfl|exact take_size (fun _=>rfl)|exact Af rfl|exact Ae (fun _=>rfl)|exact Ad (fun _=>rfl)|(simp only[Aj];omega)|(simp;done)|decide))
   |(with_reducible intro hfact)
   |((with_reducible refine And.intro ?_ ?_);focus (first|(with_reducible rfl)|(exact rfl)|decide))
   |((with_reducible apply Drawn.by0);(focus kernel_rfl);intro hfact;(try simp only[dRS]at hfact))
   |((with_reducible refine CallWp.mk ?_);refine⟨_,hrnd,?_⟩;rintro _ _ ⟨rfl,rfl⟩)
   |((with_reducible refine CallWp.mk ?_);refine⟨_,hsnd,?_⟩;rintro _ _ ⟨rfl,rfl⟩)
   |((with_reducible refine CallWp.mk ?_);refine⟨_,hlk,?_⟩;rintro _ _ ⟨rfl,rfl⟩))
  all_goals(try(conv=>whnf))
  (apply dKq<;>kernel_rfl)

open Go.Proofs
abbrev o0:Ro:=⟨[],[]⟩
structure Rn.Ok (n:Rn):Prop where
 lk:n.Lk
 id:1≤n.id∧n.id≤n.size
def Rn.cand (n:Rn):Rn:={(n.followM (Bp (n.term+1)))with vote:=n.id,role:=1,wai:=0,gr:=upF (fun _=>false) n.id.toNat true}
def Rn.askM (n:Rn) (p:Nat) (o:Ro):Ro:=o.sayM p (.ask n.id n.term (A3 n.lix n.ltm n.les).1 (A3 n.lix n.ltm n.les).2)
def Rn.askAllM (n:Rn):Ro:=n.oths.foldl (fun o p=>n.askM p o) o0
def Rn.tickM (n:Rn):Rn × Ro:=
 if n.role=2 then(n.roundM,n.roundM.sendAllM o0)
 else if Bp (n.wai+1)<n.tmo∨1099511627776≤n.term then({n with wai:=Bp (n.wai+1)},o0)
 else if n.size=1 then n.cand.leadM o0
 else(n.cand,n.cand.askAllM)
theorem Zr (o:Ro):o.toD.toI=some o.toI:=by
 simp only[Ro.toD,Ro.toI,D.toI,toIs,Bd]
theorem frz2 {f:FuncId} {args outs:List SV} {n:Rn} {o:Ro} (h:Fn Try.prog f args (Is (.tupd [.it n.toI,o.toD]) outs)):Fn Try.prog f args (Is (.tup [.i n.toI,.i o.toI]) outs):=by
 refine h.frz ?_
 rintro r zs ⟨rfl,rfl⟩
 refine⟨_,?_,rfl,rfl⟩
 simp[Pg,toIs,D.toI,Zr]
theorem Ys (n:Rn) (hN:n.Ok):Fn Try.prog Cu [.v n.toI] (Is (.tupd [.it n.tickM.1.toI,n.tickM.2.toD]) [.no]):=by
 obtain⟨hL,hid⟩:=hN
 have hL0:=hL
 obtain⟨hR,hs,hc,hrd⟩:=hL
 refine K9 ?_ (by simp)
 by_cases hr:n.role=2
 ·have h1:¬decide (n.role=2)=false:=by simp[hr]
  rw[show n.tickM=(n.roundM,n.roundM.sendAllM o0)from if_pos hr]
  have q1:=Qm n
  have q2:=Gy n.roundM hR hs o0 (by simp)
  repeat'((conv=>whnf);first
   |((with_reducible refine Ar (by first|(with_reducible assumption)|(with_reducible exact Bool.of_not_eq_false (by assumption))|(with_reducible exact Bool.of_not_eq_true (by assumption))|((with_reducible refine decide_eq_true ?_);first|(with_reducible assumption)|omega)|((with_reducible refine decide_eq_false ?_);first|(with_reducible assumption)|omega)|(with_reducible rfl)) (fun hb=>?_));(try rw[hb]);(try simp only[Aa,Bool.false_eq_true,Bool.true_eq_false]at hb);(try subst hb))
   |((with_reducible refine Aq (by first|(with_reducible assumption)|(with_reducible exact Bool.of_not_eq_false (by assumption))|(with_reducible exact Bool.of_not_eq_true (by assumption))|((with_reducible refine decide_eq_true ?_);first|(with_reducible assumption)|omega)|((with_reducible refine decide_eq_false ?_);first|(with_reducible assumption)|omega)|(with_reducible rfl)) (fun hb=>?_));(try rw[hb]);(try simp only[Aa,Bool.false_eq_true,Bool.true_eq_false]at hb);(try subst hb))
   |((with_reducible refine And.intro (fun hb=>?_) (fun hb=>?_))<;>first|(with_reducible exact absurd hb (by assumption))|(exact absurd hb (by decide))|(with_reducible exact absurd hb Bool.false_ne_true)|(with_reducible exact absurd hb.symm Bool.false_ne_true)|(exfalso;first|(simp only[Aj]at hb<;>omega)|omega)|((try rw[hb]);(try simp only[Aa,Bool.false_eq_true,Bool.true_eq_false]at hb);(try subst hb)))
   |((with_reducible refine Exists.intro ?_ ?_);focus (and_intros<;>first|omega|(with_reducible assumption)|(with_reducible rfl)|kernel_rfl|exact rfl|assumption|(intro _ hh;cases hh;done)|exact Ah (by rfl)|exact size_map (fun _=>rfl)|exact Ai rfl|exact take_size (fun _=>rfl)|exact Af rfl|exact Ae (fun _=>rfl)|exact Ad (fun _=>rfl)|(simp only[Aj];omega)|(simp;done)|decide))
   |(with_reducible intro hfact)
   |((with_reducible refine And.intro ?_ ?_);focus (first|(with_reducible rfl)|(exact rfl)|decide))
   |((with_reducible apply Drawn.by0);(focus kernel_rfl);intro hfact;(try simp only[dRS]at hfact))
   |((with_reducible refine CallWp.mk ?_);refine⟨_,q1,?_⟩;rintro _ _ ⟨rfl,rfl⟩)
   |((with_reducible refine CallWp.mk ?_);refine⟨_,q2,?_⟩;rintro _ _ ⟨rfl,rfl⟩))
  all_goals(try(conv=>whnf))
  (apply dKq<;>kernel_rfl)
 have h1:¬decide (n.role=2)=true:=by simp[hr]
 by_cases hw:Bp (n.wai+1)<n.tmo
 ·rw[show n.tickM=({n with wai:=Bp (n.wai+1)},o0)from by simp[Rn.tickM,hr,hw]]
  repeat'((conv=>whnf);first
   |((with_reducible refine Ar (by first|(with_reducible assumption)|(with_reducible exact Bool.of_not_eq_false (by assumption))|(with_reducible exact Bool.of_not_eq_true (by assumption))|((with_reducible refine decide_eq_true ?_);first|(with_reducible assumption)|omega)|((with_reducible refine decide_eq_false ?_);first|(with_reducible assumption)|omega)|(with_reducible rfl)) (fun hb=>?_));(try rw[hb]);(try simp only[Aa,Bool.false_eq_true,Bool.true_eq_false]at hb);(try subst hb))
   |((with_reducible refine Aq (by first|(with_reducible assumption)|(with_reducible exact Bool.of_not_eq_false (by assumption))|(with_reducible exact Bool.of_not_eq_true (by assumption))|((with_reducible refine decide_eq_true ?_);first|(with_reducible assumption)|omega)|((with_reducible refine decide_eq_false ?_);first|(with_reducible assumption)|omega)|(with_reducible rfl)) (fun hb=>?_));(try rw[hb]);(try simp only[Aa,Bool.false_eq_true,Bool.true_eq_false]at hb);(try subst hb))
   |((with_reducible refine And.intro (fun hb=>?_) (fun hb=>?_))<;>first|(with_reducible exact absurd hb (by assumption))|(exact absurd hb (by decide))|(with_reducible exact absurd hb Bool.false_ne_true)|(with_reducible exact absurd hb.symm Bool.false_ne_true)|(exfalso;first|(simp only[Aj]at hb<;>omega)|omega)|((try rw[hb]);(try simp only[Aa,Bool.false_eq_true,Bool.true_eq_false]at hb);(try subst hb)))
   |((with_reducible refine Exists.intro ?_ ?_);focus (and_intros<;>first|omega|(with_reducible assumption)|(with_reducible rfl)|kernel_rfl|exact rfl|assumption|(intro _ hh;cases hh;done)|exact Ah (by rfl)|exact size_map (fun _=>rfl)|exact Ai rfl|exact take_size (fun _=>rfl)|exact Af rfl|exact Ae (fun _=>rfl)|exact Ad (fun _=>rfl)|(simp only[Aj];omega)|(simp;done)|decide))
   |(with_reducible intro hfact)
   |((with_reducible refine And.intro ?_ ?_);focus (first|(with_reducible rfl)|(exact rfl)|decide))
   |((with_reducible apply Drawn.by0);(focus kernel_rfl);intro hfact;(try simp only[dRS]at hfact)))
  all_goals(try(conv=>whnf))
  (apply dKq<;>kernel_rfl)
 by_cases ht:1099511627776≤n.term
 ·rw[show n.tickM=({n with wai:=Bp (n.wai+1)},o0)from by simp[Rn.tickM,hr,ht]]
  repeat'((conv=>whnf);first
   |((with_reducible refine Ar (by first|(with_reducible assumption)|(with_reducible exact Bool.of_not_eq_false (by assumption))|(with_reducible exact Bool.of_not_eq_true (by assumption))|((with_reducible refine decide_eq_true ?_);first|(with_reducible assumption)|omega)|((with_reducible refine decide_eq_false ?_);first|(with_reducible assumption)|omega)|(with_reducible rfl)) (fun hb=>?_));(try rw[hb]);(try simp only[Aa,Bool.false_eq_true,Bool.true_eq_false]at hb);(try subst hb))
   |((with_reducible refine Aq (by first|(with_reducible assumption)|(with_reducible exact Bool.of_not_eq_false (by assumption))|(with_reducible exact Bool.of_not_eq_true (by assumption))|((with_reducible refine decide_eq_true ?_);first|(with_reducible assumption)|omega)|((with_reducible refine decide_eq_false ?_);first|(with_reducible assumption)|omega)|(with_reducible rfl)) (fun hb=>?_));(try rw[hb]);(try simp only[Aa,Bool.false_eq_true,Bool.true_eq_false]at hb);(try subst hb))
   |((with_reducible refine And.intro (fun hb=>?_) (fun hb=>?_))<;>first|(with_reducible exact absurd hb (by assumption))|(exact absurd hb (by decide))|(with_reducible exact absurd hb Bool.false_ne_true)|(with_reducible exact absurd hb.symm Bool.false_ne_true)|(exfalso;first|(simp only[Aj]at hb<;>omega)|omega)|((try rw[hb]);(try simp only[Aa,Bool.false_eq_true,Bool.true_eq_false]at hb);(try subst hb)))
   |((with_reducible refine Exists.intro ?_ ?_);focus (and_intros<;>first|omega|(with_reducible assumption)|(with_reducible rfl)|kernel_rfl|exact rfl|assumption|(intro _ hh;cases hh;done)|exact Ah (by rfl)|exact size_map (fun _=>rfl)|exact Ai rfl|exact take_size (fun _=>rfl)|exact Af rfl|exact Ae (fun _=>rfl)|exact Ad (fun _=>rfl)|(simp only[Aj];omega)|(simp;done)|decide))
   |(with_reducible intro hfact)
   |((with_reducible refine And.intro ?_ ?_);focus (first|(with_reducible rfl)|(exact rfl)|decide))
   |((with_reducible apply Drawn.by0);(focus kernel_rfl);intro hfact;(try simp only[dRS]at hfact)))
  all_goals(try(conv=>whnf))
  (apply dKq<;>kernel_rfl)
 have q1:=My {n with wai:=Bp (n.wai+1)} (Bp (n.term+1))
 obtain⟨p,hp⟩:∃p:Nat,n.id=p:=⟨n.id.toNat,by omega⟩
 have hget:=Ep (fun i=>I.bool false) (i:=p) (by omega)
 have hset:(arr8 fun i=>I.bool false).set p (.bool true)=arr8 fun i=>.bool (n.cand.gr i):=by
  rw[S4 _ _ (by omega)];unfold Rn.cand;simp only[hp,Int.toNat_natCast];rw[←W4 I.bool]
 by_cases h1s:n.size=1
 ·rw[show n.tickM=n.cand.leadM o0 from by simp[Rn.tickM,hr,hw,ht,h1s]]
  have q2:=Yp n.cand ⟨hR,hs,hc,Nat.zero_le _⟩ ⟨h1s,by show n.id=1;omega⟩ o0 ⟨by simp,by simp⟩
  repeat'((conv=>whnf);first
   |((with_reducible refine Ar (by first|(with_reducible assumption)|(with_reducible exact Bool.of_not_eq_false (by assumption))|(with_reducible exact Bool.of_not_eq_true (by assumption))|((with_reducible refine decide_eq_true ?_);first|(with_reducible assumption)|omega)|((with_reducible refine decide_eq_false ?_);first|(with_reducible assumption)|omega)|(with_reducible rfl)) (fun hb=>?_));(try rw[hb]);(try simp only[Aa,Bool.false_eq_true,Bool.true_eq_false]at hb);(try subst hb))
   |((with_reducible refine Aq (by first|(with_reducible assumption)|(with_reducible exact Bool.of_not_eq_false (by assumption))|(with_reducible exact Bool.of_not_eq_true (by assumption))|((with_reducible refine decide_eq_true ?_);first|(with_reducible assumption)|omega)|((with_reducible refine decide_eq_false ?_);first|(with_reducible assumption)|omega)|(with_reducible rfl)) (fun hb=>?_));(try rw[hb]);(try simp only[Aa,Bool.false_eq_true,Bool.true_eq_false]at hb);(try subst hb))
   |((with_reducible refine And.intro (fun hb=>?_) (fun hb=>?_))<;>first|(with_reducible exact absurd hb (by assumption))|(exact absurd hb (by decide))|(with_reducible exact absurd hb Bool.false_ne_true)|(with_reducible exact absurd hb.symm Bool.false_ne_true)|(exfalso;first|(simp only[Aj]at hb<;>omega)|omega)|((try rw[hb]);(try simp only[Aa,Bool.false_eq_true,Bool.true_eq_false]at hb);(try subst hb)))
   |((with_reducible refine Exists.intro ?_ ?_);focus (and_intros<;>first|(simp only[Rn.followM,C0,hp,Int.toNat_natCast];omega)|omega|(with_reducible assumption)|(with_reducible rfl)|kernel_rfl|exact rfl|assumption|(intro _ hh;cases hh;done)|exact Ah (by rfl)|exact size_map (fun _=>rfl)|exact Ai rfl|exact take_size (fun _=>rfl)|exact Af rfl|exact Ae (fun _=>rfl)|exact Ad (fun _=>rfl)|(simp only[Aj];omega)|(simp;done)|decide))
   |(with_reducible intro hfact)
   |((with_reducible refine And.intro ?_ ?_);focus (first|(with_reducible rfl)|(exact rfl)|decide))
   |((with_reducible apply Drawn.by0);(focus kernel_rfl);intro hfact;(try simp only[dRS]at hfact))
   |((with_reducible refine CallWp.mk ?_);refine⟨_,q1,?_⟩;rintro _ _ ⟨rfl,rfl⟩)
   |((try dsimp only);rw[hset])
   |((first|with_reducible apply Hn|with_reducible apply Ho);(focus (simp only[D.at,D.put,D.kid,D.setKid,List.cons_append,List.nil_append,List.append,List.getElem?_cons_zero,List.getElem?_cons_succ,Int.toNat_natCast,List.getElem?_set_self',Option.map_eq_map,Option.map_some,List.set_cons_zero,List.set_cons_succ,List.set_set,Function.const_apply,List.map_cons,List.map_nil,mkSt,Be,D.toI,toIs,Bd,List.getElem?_map,List.length_map,List.length_set,hget,Rn.toI,Rn.followM,hp]<;>exact rfl)))
   |((first|with_reducible apply D1|with_reducible apply D0);(focus rfl);(focus (simp only[D.at,D.put,D.kid,D.setKid,List.cons_append,List.nil_append,List.append,List.getElem?_cons_zero,List.getElem?_cons_succ,Int.toNat_natCast,List.getElem?_set_self',Option.map_eq_map,Option.map_some,List.set_cons_zero,List.set_cons_succ,List.set_set,Function.const_apply,List.map_cons,List.map_nil,mkSt,Be,D.toI,toIs,Bd,List.getElem?_map,List.length_map,List.length_set,hget,Rn.toI,Rn.followM,hp]<;>exact rfl));(try(focus exact rfl))))
  all_goals(try(conv=>whnf))
  rw[←hp]
  repeat'((conv=>whnf);first
   |((with_reducible refine Ar (by first|(with_reducible assumption)|(with_reducible exact Bool.of_not_eq_false (by assumption))|(with_reducible exact Bool.of_not_eq_true (by assumption))|((with_reducible refine decide_eq_true ?_);first|(with_reducible assumption)|omega)|((with_reducible refine decide_eq_false ?_);first|(with_reducible assumption)|omega)|(with_reducible rfl)) (fun hb=>?_));(try rw[hb]);(try simp only[Aa,Bool.false_eq_true,Bool.true_eq_false]at hb);(try subst hb))
   |((with_reducible refine Aq (by first|(with_reducible assumption)|(with_reducible exact Bool.of_not_eq_false (by assumption))|(with_reducible exact Bool.of_not_eq_true (by assumption))|((with_reducible refine decide_eq_true ?_);first|(with_reducible assumption)|omega)|((with_reducible refine decide_eq_false ?_);first|(with_reducible assumption)|omega)|(with_reducible rfl)) (fun hb=>?_));(try rw[hb]);(try simp only[Aa,Bool.false_eq_true,Bool.true_eq_false]at hb);(try subst hb))
   |((with_reducible refine And.intro (fun hb=>?_) (fun hb=>?_))<;>first|(with_reducible exact absurd hb (by assumption))|(exact absurd hb (by decide))|(with_reducible exact absurd hb Bool.false_ne_true)|(with_reducible exact absurd hb.symm Bool.false_ne_true)|(exfalso;first|(simp only[Aj]at hb<;>omega)|omega)|((try rw[hb]);(try simp only[Aa,Bool.false_eq_true,Bool.true_eq_false]at hb);(try subst hb)))
   |((with_reducible refine Exists.intro ?_ ?_);focus (and_intros<;>first|omega|(with_reducible assumption)|(with_reducible rfl)|kernel_rfl|exact rfl|assumption|(intro _ hh;cases hh;done)|exact Ah (by rfl)|exact size_map (fun _=>rfl)|exact Ai rfl|exact take_size (fun _=>rfl)|exact Af rfl|exact Ae (fun _=>rfl)|exact Ad (fun _=>rfl)|(simp only[Aj];omega)|(simp;done)|decide))
   |(with_reducible intro hfact)
   |((with_reducible refine And.intro ?_ ?_);focus (first|(with_reducible rfl)|(exact rfl)|decide))
   |((with_reducible apply Drawn.by0);(focus kernel_rfl);intro hfact;(try simp only[dRS]at hfact))
   |((with_reducible refine CallWp.mk ?_);refine⟨_,q2,?_⟩;rintro _ _ ⟨rfl,rfl⟩))
  all_goals(try(conv=>whnf))
  (apply dKq<;>kernel_rfl)
 rw[show n.tickM=(n.cand,n.cand.askAllM)from by simp[Rn.tickM,hr,hw,ht,h1s]]
 obtain⟨z,hz⟩:∃z:Nat,n.size=z:=⟨n.size.toNat,by omega⟩
 have hz7:z≤7:=by omega
 have hlst:=Bt n.lix n.ltm n.les
 obtain⟨la,hla⟩:∃la,la=(A3 n.lix n.ltm n.les).1:=⟨_,rfl⟩
 obtain⟨lt,hlt⟩:∃lt,lt=(A3 n.lix n.ltm n.les).2:=⟨_,rfl⟩
 rw[←hla, ←hlt]at hlst
 obtain⟨O,hO⟩:∃O:Nat→Ro,O=fun k=>(oth n.id k).foldl (fun o p=>n.cand.askM p o) o0:=⟨_,rfl⟩
 have hO0:O 0=o0:=by rw[hO];rfl
 have hOz:n.cand.askAllM=O z:=by rw[hO];show(oth n.id n.size.toNat).foldl _ _=_;rw[hz];rfl
 have hOl:∀k,k≤7→(O k).msgs.length≤1000000:=fun k hk=>by
  have h1:=Qy n.id k
  have h2:∀(l:List Nat) (o:Ro),(l.foldl (fun o p=>n.cand.askM p o) o).msgs.length=o.msgs.length+l.length:=by
   intro l
   induction l with
   |nil=>intro o;rfl
   |cons p l ih=>intro o;rw[List.foldl_cons,ih];simp only[Rn.askM,Ro.sayM,List.length_append,List.length_cons,List.length_nil];omega
  rw[hO];simp only[h2,List.length_nil];omega
 have hOs:∀k,O (k+1)=if((k+1:Nat):Int)≠n.id then(O k).sayM ((k+1:Nat):Int) (.ask n.id (Bp (n.term+1)) la lt)else O k:=fun k=>by
  rw[hO,hla,hlt];simp only[Gt,List.foldl_append]
  split<;>rfl
 rw[hOz]
 repeat'((conv=>whnf);first
  |((with_reducible refine Ar (by first|(with_reducible assumption)|(with_reducible exact Bool.of_not_eq_false (by assumption))|(with_reducible exact Bool.of_not_eq_true (by assumption))|((with_reducible refine decide_eq_true ?_);first|(with_reducible assumption)|omega)|((with_reducible refine decide_eq_false ?_);first|(with_reducible assumption)|omega)|(with_reducible rfl)) (fun hb=>?_));(try rw[hb]);(try simp only[Aa,Bool.false_eq_true,Bool.true_eq_false]at hb);(try subst hb))
  |((with_reducible refine Aq (by first|(with_reducible assumption)|(with_reducible exact Bool.of_not_eq_false (by assumption))|(with_reducible exact Bool.of_not_eq_true (by assumption))|((with_reducible refine decide_eq_true ?_);first|(with_reducible assumption)|omega)|((with_reducible refine decide_eq_false ?_);first|(with_reducible assumption)|omega)|(with_reducible rfl)) (fun hb=>?_));(try rw[hb]);(try simp only[Aa,Bool.false_eq_true,Bool.true_eq_false]at hb);(try subst hb))
  |((with_reducible refine And.intro (fun hb=>?_) (fun hb=>?_))<;>first|(with_reducible exact absurd hb (by assumption))|(exact absurd hb (by decide))|(with_reducible exact absurd hb Bool.false_ne_true)|(with_reducible exact absurd hb.symm Bool.false_ne_true)|(exfalso;first|(simp only[Aj]at hb<;>omega)|omega)|((try rw[hb]);(try simp only[Aa,Bool.false_eq_true,Bool.true_eq_false]at hb);(try subst hb)))
  |((with_reducible refine Exists.intro ?_ ?_);focus (and_intros<;>first|(simp only[Rn.followM,C0,hp,Int.toNat_natCast];omega)|omega|(with_reducible assumption)|(with_reducible rfl)|kernel_rfl|exact rfl|assumption|(intro _ hh;cases hh;done)|exact Ah (by rfl)|exact size_map (fun _=>rfl)|exact Ai rfl|exact take_size (fun _=>rfl)|exact Af rfl|exact Ae (fun _=>rfl)|exact Ad (fun _=>rfl)|(simp only[Aj];omega)|(simp;done)|decide))
  |(with_reducible intro hfact)
  |((with_reducible refine And.intro ?_ ?_);focus (first|(with_reducible rfl)|(exact rfl)|decide))
  |((with_reducible apply Drawn.by0);(focus kernel_rfl);intro hfact;(try simp only[dRS]at hfact))
  |((with_reducible refine CallWp.mk ?_);refine⟨_,q1,?_⟩;rintro _ _ ⟨rfl,rfl⟩)
  |((try dsimp only);rw[hset])
  |((with_reducible refine CallWp.mk ?_);refine⟨_,hlst,?_⟩;rintro _ _ ⟨rfl,rfl⟩)
  |((first|with_reducible apply Hn|with_reducible apply Ho);(focus (simp only[D.at,D.put,D.kid,D.setKid,List.cons_append,List.nil_append,List.append,List.getElem?_cons_zero,List.getElem?_cons_succ,Int.toNat_natCast,List.getElem?_set_self',Option.map_eq_map,Option.map_some,List.set_cons_zero,List.set_cons_succ,List.set_set,Function.const_apply,List.map_cons,List.map_nil,mkSt,Be,D.toI,toIs,Bd,List.getElem?_map,List.length_map,List.length_set,hget,Rn.toI,Rn.followM,hp]<;>exact rfl)))
  |((first|with_reducible apply D1|with_reducible apply D0);(focus rfl);(focus (simp only[D.at,D.put,D.kid,D.setKid,List.cons_append,List.nil_append,List.append,List.getElem?_cons_zero,List.getElem?_cons_succ,Int.toNat_natCast,List.getElem?_set_self',Option.map_eq_map,Option.map_some,List.set_cons_zero,List.set_cons_succ,List.set_set,Function.const_apply,List.map_cons,List.map_nil,mkSt,Be,D.toI,toIs,Bd,List.getElem?_map,List.length_map,List.length_set,hget,Rn.toI,Rn.followM,hp]<;>exact rfl));(try(focus exact rfl))))
 all_goals(try(conv=>whnf))
 rw[←hp]
 repeat'((conv=>whnf);first
  |((with_reducible refine Ar (by first|(with_reducible assumption)|(with_reducible exact Bool.of_not_eq_false (by assumption))|(with_reducible exact Bool.of_not_eq_true (by assumption))|((with_reducible refine decide_eq_true ?_);first|(with_reducible assumption)|omega)|((with_reducible refine decide_eq_false ?_);first|(with_reducible assumption)|omega)|(with_reducible rfl)) (fun hb=>?_));(try rw[hb]);(try simp only[Aa,Bool.false_eq_true,Bool.true_eq_false]at hb);(try subst hb))
  |((with_reducible refine Aq (by first|(with_reducible assumption)|(with_reducible exact Bool.of_not_eq_false (by assumption))|(with_reducible exact Bool.of_not_eq_true (by assumption))|((with_reducible refine decide_eq_true ?_);first|(with_reducible assumption)|omega)|((with_reducible refine decide_eq_false ?_);first|(with_reducible assumption)|omega)|(with_reducible rfl)) (fun hb=>?_));(try rw[hb]);(try simp only[Aa,Bool.false_eq_true,Bool.true_eq_false]at hb);(try subst hb))
  |((with_reducible refine And.intro (fun hb=>?_) (fun hb=>?_))<;>first|(with_reducible exact absurd hb (by assumption))|(exact absurd hb (by decide))|(with_reducible exact absurd hb Bool.false_ne_true)|(with_reducible exact absurd hb.symm Bool.false_ne_true)|(exfalso;first|(simp only[Aj]at hb<;>omega)|omega)|((try rw[hb]);(try simp only[Aa,Bool.false_eq_true,Bool.true_eq_false]at hb);(try subst hb)))
  |((with_reducible refine Exists.intro ?_ ?_);focus (and_intros<;>first|omega|(with_reducible assumption)|(with_reducible rfl)|kernel_rfl|exact rfl|assumption|(intro _ hh;cases hh;done)|exact Ah (by rfl)|exact size_map (fun _=>rfl)|exact Ai rfl|exact take_size (fun _=>rfl)|exact Af rfl|exact Ae (fun _=>rfl)|exact Ad (fun _=>rfl)|(simp only[Aj];omega)|(simp;done)|decide))
  |(with_reducible intro hfact)
  |((with_reducible refine And.intro ?_ ?_);focus (first|(with_reducible rfl)|(exact rfl)|decide))
  |((with_reducible apply Drawn.by0);(focus kernel_rfl);intro hfact;(try simp only[dRS]at hfact))
  |((with_reducible refine CallWp.mk ?_);refine⟨_,hlst,?_⟩;rintro _ _ ⟨rfl,rfl⟩))
 all_goals(try(conv=>whnf))
 refine LoopWq.by (X:=Nat) (fun k=>[(4,.v (ti ((k+1:Nat):Int))),(29,oP (O k))]) (fun k=>k≤z) (fun k=>z - k) 0 (by rw[hO0];kernel_rfl) (Nat.zero_le _) ?_
 intro k hk
 dsimp only at hk ⊢
 have hwk:IntKind.i64.wrap (((k+1:Nat):Int)+1)=((k+1+1:Nat):Int):=Cm (n:=100) (by omega) (by simp only[maxLen];omega)
 by_cases hkz:k<z
 ·have hn1:¬decide (((k+1:Nat):Int)≤n.size)=false:=by simp;omega
  have hs1:=hOs k
  have hsd:=Nv (O k) ((k+1:Nat):Int) (.ask n.id (Bp (n.term+1)) la lt) (hOl k (by omega))
  by_cases hid:((k+1:Nat):Int)=n.id
  ·rw[if_neg (by simpa using hid)]at hs1
   repeat'((conv=>whnf);first
    |((with_reducible refine Ar (by first|(with_reducible assumption)|(with_reducible exact Bool.of_not_eq_false (by assumption))|(with_reducible exact Bool.of_not_eq_true (by assumption))|((with_reducible refine decide_eq_true ?_);first|(with_reducible assumption)|omega)|((with_reducible refine decide_eq_false ?_);first|(with_reducible assumption)|omega)|(with_reducible rfl)) (fun hb=>?_));(try rw[hb]);(try simp only[Aa,Bool.false_eq_true,Bool.true_eq_false]at hb);(try subst hb))
    |((with_reducible refine Aq (by first|(with_reducible assumption)|(with_reducible exact Bool.of_not_eq_false (by assumption))|(with_reducible exact Bool.of_not_eq_true (by assumption))|((with_reducible refine decide_eq_true ?_);first|(with_reducible assumption)|omega)|((with_reducible refine decide_eq_false ?_);first|(with_reducible assumption)|omega)|(with_reducible rfl)) (fun hb=>?_));(try rw[hb]);(try simp only[Aa,Bool.false_eq_true,Bool.true_eq_false]at hb);(try subst hb))
    |((with_reducible refine And.intro (fun hb=>?_) (fun hb=>?_))<;>first|(with_reducible exact absurd hb (by assumption))|(exact absurd hb (by decide))|(with_reducible exact absurd hb Bool.false_ne_true)|(with_reducible exact absurd hb.symm Bool.false_ne_true)|(exfalso;first|(simp only[Aj]at hb<;>omega)|omega)|((try rw[hb]);(try simp only[Aa,Bool.false_eq_true,Bool.true_eq_false]at hb);(try subst hb)))
    |((with_reducible refine Exists.intro ?_ ?_);focus (and_intros<;>first|omega|(with_reducible assumption)|(with_reducible rfl)|kernel_rfl|exact rfl|assumption|(intro _ hh;cases hh;done)|exact Ah (by rfl)|exact size_map (fun _=>rfl)|exact Ai rfl|exact take_size (fun _=>rfl)|exact Af rfl|exact Ae (fun _=>rfl)|exact Ad (fun _=>rfl)|(simp only[Aj];omega)|(simp;done)|decide))
    |(with_reducible intro hfact)
    |((with_reducible refine And.intro ?_ ?_);focus (first|(with_reducible rfl)|(exact rfl)|decide))
    |((with_reducible apply Drawn.by0);(focus kernel_rfl);intro hfact;(try simp only[dRS]at hfact))
    |((try dsimp only);rw[hwk]))
   all_goals(try(conv=>whnf))
   refine Round.by (k+1) ?_ hkz (show z - (k+1)<z - k by omega)
   rw[hs1]
   show norm _ _=upd _ _
   kernel_rfl
  ·rw[if_pos hid]at hs1
   repeat'((conv=>whnf);first
    |((with_reducible refine Ar (by first|(with_reducible assumption)|(with_reducible exact Bool.of_not_eq_false (by assumption))|(with_reducible exact Bool.of_not_eq_true (by assumption))|((with_reducible refine decide_eq_true ?_);first|(with_reducible assumption)|omega)|((with_reducible refine decide_eq_false ?_);first|(with_reducible assumption)|omega)|(with_reducible rfl)) (fun hb=>?_));(try rw[hb]);(try simp only[Aa,Bool.false_eq_true,Bool.true_eq_false]at hb);(try subst hb))
    |((with_reducible refine Aq (by first|(with_reducible assumption)|(with_reducible exact Bool.of_not_eq_false (by assumption))|(with_reducible exact Bool.of_not_eq_true (by assumption))|((with_reducible refine decide_eq_true ?_);first|(with_reducible assumption)|omega)|((with_reducible refine decide_eq_false ?_);first|(with_reducible assumption)|omega)|(with_reducible rfl)) (fun hb=>?_));(try rw[hb]);(try simp only[Aa,Bool.false_eq_true,Bool.true_eq_false]at hb);(try subst hb))
    |((with_reducible refine And.intro (fun hb=>?_) (fun hb=>?_))<;>first|(with_reducible exact absurd hb (by assumption))|(exact absurd hb (by decide))|(with_reducible exact absurd hb Bool.false_ne_true)|(with_reducible exact absurd hb.symm Bool.false_ne_true)|(exfalso;first|(simp only[Aj]at hb<;>omega)|omega)|((try rw[hb]);(try simp only[Aa,Bool.false_eq_true,Bool.true_eq_false]at hb);(try subst hb)))
    |((with_reducible refine Exists.intro ?_ ?_);focus (and_intros<;>first|omega|(with_reducible assumption)|(with_reducible rfl)|kernel_rfl|exact rfl|assumption|(intro _ hh;cases hh;done)|exact Ah (by rfl)|exact size_map (fun _=>rfl)|exact Ai rfl|exact take_size (fun _=>rfl)|exact Af rfl|exact Ae (fun _=>rfl)|exact Ad (fun _=>rfl)|(simp only[Aj];omega)|(simp;done)|decide))
    |(with_reducible intro hfact)
    |((with_reducible refine And.intro ?_ ?_);focus (first|(with_reducible rfl)|(exact rfl)|decide))
    |((with_reducible apply Drawn.by0);(focus kernel_rfl);intro hfact;(try simp only[dRS]at hfact))
    |((try dsimp only);rw[hwk])
    |((with_reducible refine CallWp.mk ?_);refine⟨_,hsd,?_⟩;rintro _ _ ⟨rfl,rfl⟩))
   all_goals(try(conv=>whnf))
   refine Round.by (k+1) ?_ hkz (show z - (k+1)<z - k by omega)
   rw[hs1]
   show norm _ _=upd _ _
   kernel_rfl
 ·have hn1:¬decide (((k+1:Nat):Int)≤n.size)=true:=by simp;omega
  obtain rfl:z=k:=by omega
  repeat'((conv=>whnf);first
   |((with_reducible refine Ar (by first|(with_reducible assumption)|(with_reducible exact Bool.of_not_eq_false (by assumption))|(with_reducible exact Bool.of_not_eq_true (by assumption))|((with_reducible refine decide_eq_true ?_);first|(with_reducible assumption)|omega)|((with_reducible refine decide_eq_false ?_);first|(with_reducible assumption)|omega)|(with_reducible rfl)) (fun hb=>?_));(try rw[hb]);(try simp only[Aa,Bool.false_eq_true,Bool.true_eq_false]at hb);(try subst hb))
   |((with_reducible refine Aq (by first|(with_reducible assumption)|(with_reducible exact Bool.of_not_eq_false (by assumption))|(with_reducible exact Bool.of_not_eq_true (by assumption))|((with_reducible refine decide_eq_true ?_);first|(with_reducible assumption)|omega)|((with_reducible refine decide_eq_false ?_);first|(with_reducible assumption)|omega)|(with_reducible rfl)) (fun hb=>?_));(try rw[hb]);(try simp only[Aa,Bool.false_eq_true,Bool.true_eq_false]at hb);(try subst hb))
   |((with_reducible refine And.intro (fun hb=>?_) (fun hb=>?_))<;>first|(with_reducible exact absurd hb (by assumption))|(exact absurd hb (by decide))|(with_reducible exact absurd hb Bool.false_ne_true)|(with_reducible exact absurd hb.symm Bool.false_ne_true)|(exfalso;first|(simp only[Aj]at hb<;>omega)|omega)|((try rw[hb]);(try simp only[Aa,Bool.false_eq_true,Bool.true_eq_false]at hb);(try subst hb)))
   |((with_reducible refine Exists.intro ?_ ?_);focus (and_intros<;>first|omega|(with_reducible assumption)|(with_reducible rfl)|kernel_rfl|exact rfl|assumption|(intro _ hh;cases hh;done)|exact Ah (by rfl)|exact size_map (fun _=>rfl)|exact Ai rfl|exact take_size (fun _=>rfl)|exact Af rfl|exact Ae (fun _=>rfl)|exact Ad (fun _=>rfl)|(simp only[Aj];omega)|(simp;done)|decide))
   |(with_reducible intro hfact)
   |((with_reducible refine And.intro ?_ ?_);focus (first|(with_reducible rfl)|(exact rfl)|decide))
   |((with_reducible apply Drawn.by0);(focus kernel_rfl);intro hfact;(try simp only[dRS]at hfact)))
  all_goals(try(conv=>whnf))
  (apply dKq<;>kernel_rfl)
theorem Se (n:Rn) (hN:n.Ok):Fn Try.prog Cu [.v n.toI] (Is (.tup [.i n.tickM.1.toI,.i n.tickM.2.toI]) [.no]):=frz2 (Ys n hN)
end Go.Ab
