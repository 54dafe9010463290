/- Lemmas -/
import Derived.Test.YtkpojedpcabojaaDoorWF
set_option linter.unusedVariables false
set_option linter.unusedSimpArgs false
set_option maxRecDepth 100000
set_option maxHeartbeats 40000000
namespace Go.Ab
open Go.Proofs
theorem Air {m:Nat} {s:Sto} (h:SInv m s) (hm:m≤80000) (n:Az) (cs:List Chg) (hn:n.length≤1000) (hcs:cs.length≤1000):
 Fn Tryd.prog Da [sP s,.v (.str n),.v (.list (cs.map Chg.toI))] (Is (.tup [.i (ti (s.writeM n cs).2.1),.i (ti (s.writeM n cs).2.2)]) [sP (s.writeM n cs).1,.no,.no]):=by
 unfold Sto.writeM
 cases hf:s.fi n with
 |none=>exact Ai8 s n cs hf
 |some i=>
  dsimp only
  cases hF:K6 cs []with
  |none=>exact Aji s n cs i hf hcs none rfl hF
  |some F=>
   have hrv:=h.rv n
   exact R4 Aep Aex s n cs i hf hn hcs (h.lb.mono hm) ((h.tb n).mono hm) (by omega) F (some F) rfl hF _ rfl
theorem Ai3 {m:Nat} {s:Sto} (h:SInv m s) (hm:m≤80000) (n:Az) (rev:Int):
 Fn Tryd.prog Kc [sP s,.v (.str n),.v (ti rev)] (Is (.v (ti (s.compM n rev).2)) [sP (s.compM n rev).1,.no,.no]):=by
 unfold Sto.compM
 cases hf:s.fi n with
 |none=>exact Aic s n rev hf
 |some i=>
  dsimp only
  by_cases he:s.compE n rev=0
  ·rw[if_pos he]
   obtain⟨e1,e2,e3⟩:=Aht he
   have hrv:=h.rv n
   exact Uz s n rev i hf (h.lb.mono hm) ⟨e1,e2,e3,by omega⟩ _ rfl
  ·rw[if_neg he]
   exact Ain s n rev i hf he
theorem Aff {m:Nat} {s:Sto} (h:SInv m s) (hm:m≤80000) (n:Az) (hn:n.length≤1000) (x:Sp) (rev most:Int):
 Fn Tryd.prog C9 [sP s,.v (.str n),.v x.toI,.v (ti rev),.v (ti most)] (Is (.tup [.i (.list ((s.rangeM n x rev most).1.map Pr.toI)),.i (.bool (s.rangeM n x rev most).2.1),.i (ti (s.rangeM n x rev most).2.2)]) [sP s,.no,.no,.no,.no]):=by
 have hrv:=h.rv n
 exact Ai5 ofC s (h.bd hm) n (by omega) x rev most (by omega)
theorem Ag4 (s:Sto) (n:Az):Fn Tryd.prog Ec [sP s,.v (.str n)] (Is (.v (ti (s.openM (D9 n) n).2)) [sP (s.openM (D9 n) n).1,.no]):=
 Aa2 s n (D9 n) (Aa1 n)
theorem Ae6 {n:Az} {x:Sp} {rev most:Int}:∀{l:List Hld} {out:List Pr},(out.length:Int)≤most→((Ep n x rev most l out).1.length:Int)≤most
 | [],out,h=>h
 |p::r,out,h=>by
  unfold Ep
  split
  ·exact h
  ·split
   ·exact Ae6 h
   ·split
    ·exact Ae6 h
    ·split
     ·exact h
     ·exact Ae6 (by simp;omega)
theorem Aiz (s:Sto) (n:Az) (x:Sp) (rev most:Int):(s.rangeM n x rev most).1.length≤16:=by
 unfold Sto.rangeM
 split
 ·simp
 ·split
  ·simp
  ·rename_i h
   have h:SpR x∧0≤rev∧1≤most∧most≤16:=Classical.not_not.1 h
   split
   ·simp
   ·split
    ·simp
    ·have:=Ae6 (n:=n) (x:=x) (rev:=if rev=0 then(s.tal n).rev else rev) (l:=s.l.drop (Km (Kh (B7 n [])) s.l)) (out:=[]) (most:=most) (by simp;omega)
     dsimp only
     omega
def Aia (s:Sto) (o:Opn):Bool:=
 if o.k=0 then decide ((s.writeM o.n o.l).2.1=0)&&decide ((s.writeM o.n o.l).2.2=16)
 else if o.k=1 then decide ((s.rangeM o.n o.x o.rev o.most).1=[])&&(decide ((s.rangeM o.n o.x o.rev o.most).2.1=false)&&decide ((s.rangeM o.n o.x o.rev o.most).2.2=16))
 else if o.k=2 then decide ((s.compM o.n o.rev).2=16)
 else if o.k=3 then decide ((s.openM (D9 o.n) o.n).2=(if D9 o.n=true then 0 else 5))
 else true
def Ae5 (o:Opn):SV:=if o.k=3∧D9 o.n=true then r1 o.n else r0
theorem Ahx {m:Nat} {s:Sto} (h:SInv m s) (hm:m≤80000) (o:Opn) (hn:o.n.length≤1000) (hl:o.l.length≤1000):
 Fn Tryd.prog Agu [sP s,r0,.v o.toI] (Is (.v (.bool (Aia s o))) [sP (s.stepM o),Ae5 o,.no]):=by
 refine Agq ?_ (by simp)
 obtain⟨k,n,l,x,rev,most⟩:=o
 dsimp only at hn hl
 unfold Aia Ae5 Sto.stepM Opn.toI
 dsimp only
 by_cases k0:k=0
 ·subst k0
  simp only[if_true]
  have hw:=Air h hm n l hn hl
  have hv:=Ajv n (l.map Chg.toI)
  generalize s.writeM n l=Z at*
  obtain⟨s',a,b⟩:=Z
  dsimp only at hw ⊢
  repeat'((conv=>whnf);first|((with_reducible refine Ax (by first|((with_reducible refine decide_eq_true ?_);omega)|(with_reducible rfl)) (fun hb=>?_));(try rw[hb]);(try simp only[Aa,Bool.false_eq_true,Bool.true_eq_false]at hb))|((with_reducible refine Aw (by(with_reducible rfl)) (fun hb=>?_));(try rw[hb]);(try simp only[Aa,Bool.false_eq_true,Bool.true_eq_false]at hb))|((with_reducible refine And.intro (fun hb=>?_) (fun hb=>?_))<;>(((try rw[hb]);(try simp only[Aa,Bool.false_eq_true,Bool.true_eq_false]at hb);(try subst hb))))|((with_reducible refine Exists.intro ?_ ?_);focus (and_intros<;>first|omega|kernel_rfl|(intro _ hh;cases hh;done)|(simp;done)|decide))|((with_reducible refine CallWp.mk ?_);refine⟨_,hw,?_⟩;rintro _ _ ⟨rfl,rfl⟩)|((with_reducible refine CallWp.mk ?_);refine⟨_,hv,?_⟩;rintro _ _ ⟨rfl,rfl⟩))
  all_goals(try(conv=>whnf))
  all_goals((apply dKq<;>kernel_rfl))
 rw[if_neg k0,if_neg k0]
 have g0:¬decide (k=0)=true:=by simpa using k0
 by_cases k1:k=1
 ·subst k1
  simp only[if_true]
  have hw:=Aff h hm n hn x rev most
  have hv:=Aju n x rev most
  have hsl:=Aiz s n x rev most
  generalize s.rangeM n x rev most=Z at*
  obtain⟨a,b,c⟩:=Z
  dsimp only at hw hsl ⊢
  have hs:=Agx a [] (by omega)
  simp only[List.map_nil]at hs
  generalize decide (a=[])=t at*
  rw[if_neg (show ¬(1:Int)=2 by decide),if_neg (show ¬(1:Int)=3 by decide),if_neg (show ¬((1:Int)=3∧D9 n=true)by simp)]
  repeat'((conv=>whnf);first|((with_reducible refine Ax (by first|((with_reducible refine decide_eq_true ?_);omega)|(with_reducible rfl)) (fun hb=>?_));(try rw[hb]);(try simp only[Aa,Bool.false_eq_true,Bool.true_eq_false]at hb))|((with_reducible refine Aw (by first|(with_reducible exact Bool.of_not_eq_true (by assumption))|(with_reducible rfl)) (fun hb=>?_));(try rw[hb]);(try simp only[Aa,Bool.false_eq_true,Bool.true_eq_false]at hb))|((with_reducible refine And.intro (fun hb=>?_) (fun hb=>?_))<;>(((try rw[hb]);(try simp only[Aa,Bool.false_eq_true,Bool.true_eq_false]at hb);(try subst hb))))|((with_reducible refine Exists.intro ?_ ?_);focus (and_intros<;>first|omega|kernel_rfl|(intro _ hh;cases hh;done)|(simp;done)|decide))|((with_reducible refine CallWp.mk ?_);refine⟨_,hw,?_⟩;rintro _ _ ⟨rfl,rfl⟩)|((with_reducible refine CallWp.mk ?_);refine⟨_,hv,?_⟩;rintro _ _ ⟨rfl,rfl⟩)|((with_reducible refine CallWp.mk ?_);refine⟨_,hs,?_⟩;rintro _ _ ⟨rfl,rfl⟩))
  all_goals(try(conv=>whnf))
  all_goals((apply dKq<;>kernel_rfl))
 rw[if_neg k1]
 have g1:¬decide (k=1)=true:=by simpa using k1
 by_cases k2:k=2
 ·subst k2
  simp only[if_true]
  have hw:=Ai3 h hm n rev
  have hv:=Ajw n rev
  generalize s.compM n rev=Z at*
  obtain⟨s',a⟩:=Z
  dsimp only at hw ⊢
  repeat'((conv=>whnf);first|((with_reducible refine Ax (by first|((with_reducible refine decide_eq_true ?_);omega)|(with_reducible rfl)) (fun hb=>?_));(try rw[hb]);(try simp only[Aa,Bool.false_eq_true,Bool.true_eq_false]at hb))|((with_reducible refine Aw (by(with_reducible exact Bool.of_not_eq_true (by assumption))) (fun hb=>?_));(try rw[hb]);(try simp only[Aa,Bool.false_eq_true,Bool.true_eq_false]at hb))|((with_reducible refine Exists.intro ?_ ?_);focus (and_intros<;>first|omega|kernel_rfl|(intro _ hh;cases hh;done)|(simp;done)|decide))|((with_reducible refine Drawn.mkV ?_ ?_ ?_ (fun hfact=>?_));(focus kernel_rfl);(focus kernel_rfl);(focus kernel_rfl);(try simp only[dRS]at hfact))|((with_reducible refine CallIs.mk ?_);refine⟨_,_,hw,?_⟩)|((with_reducible refine CallIs.mk ?_);refine⟨_,_,hv,?_⟩))
  all_goals(try(conv=>whnf))
  refine Done.mk ?_ ?_
  ·refine And.intro ?_ ?_
   ·kernel_rfl
   ·kernel_rfl
  ·kernel_rfl
 rw[if_neg k2,if_neg k2]
 have g2:¬decide (k=2)=true:=by simpa using k2
 by_cases k3:k=3
 ·subst k3
  simp only[if_true,true_and]
  have hw:=Ag4 s n
  have hv:=Ajx n
  generalize s.openM (D9 n) n=Z at*
  obtain⟨s',a⟩:=Z
  generalize D9 n=b at*
  dsimp only at hw ⊢
  cases b with
  |true=>
   simp only[if_true]at hv ⊢
   repeat'((conv=>whnf);first|((with_reducible refine Ax (by first|((with_reducible refine decide_eq_true ?_);omega)|(with_reducible rfl)) (fun hb=>?_));(try rw[hb]);(try simp only[Aa,Bool.false_eq_true,Bool.true_eq_false]at hb))|((with_reducible refine Aw (by(with_reducible exact Bool.of_not_eq_true (by assumption))) (fun hb=>?_));(try rw[hb]);(try simp only[Aa,Bool.false_eq_true,Bool.true_eq_false]at hb))|((with_reducible refine Exists.intro ?_ ?_);focus (and_intros<;>first|omega|kernel_rfl|(intro _ hh;cases hh;done)|(simp;done)|decide))|((with_reducible refine Drawn.mkV ?_ ?_ ?_ (fun hfact=>?_));(focus kernel_rfl);(focus kernel_rfl);(focus kernel_rfl);(try simp only[dRS]at hfact))|((with_reducible refine CallIs.mk ?_);refine⟨_,_,hw,?_⟩)|((with_reducible refine CallIs.mk ?_);refine⟨_,_,hv,?_⟩))
   all_goals(try(conv=>whnf))
   (apply dKq<;>kernel_rfl)
  |false=>
   simp only[Bool.false_eq_true,if_false]at hv ⊢
   repeat'((conv=>whnf);first|((with_reducible refine Ax (by first|((with_reducible refine decide_eq_true ?_);omega)|(with_reducible rfl)) (fun hb=>?_));(try rw[hb]);(try simp only[Aa,Bool.false_eq_true,Bool.true_eq_false]at hb))|((with_reducible refine Aw (by(with_reducible exact Bool.of_not_eq_true (by assumption))) (fun hb=>?_));(try rw[hb]);(try simp only[Aa,Bool.false_eq_true,Bool.true_eq_false]at hb))|((with_reducible refine Exists.intro ?_ ?_);focus (and_intros<;>first|omega|kernel_rfl|(intro _ hh;cases hh;done)|(simp;done)|decide))|((with_reducible refine Drawn.mkV ?_ ?_ ?_ (fun hfact=>?_));(focus kernel_rfl);(focus kernel_rfl);(focus kernel_rfl);(try simp only[dRS]at hfact))|((with_reducible refine CallIs.mk ?_);refine⟨_,_,hw,?_⟩)|((with_reducible refine CallIs.mk ?_);refine⟨_,_,hv,?_⟩))
   all_goals(try(conv=>whnf))
   (apply dKq<;>kernel_rfl)
 have g3:¬decide (k=3)=true:=by simpa using k3
 rw[if_neg k3,if_neg k3,if_neg (fun c=>k3 c.1)]
 repeat'((conv=>whnf);first|((with_reducible refine Aw (by(with_reducible exact Bool.of_not_eq_true (by assumption))) (fun hb=>?_));(try rw[hb]);(try simp only[Aa,Bool.false_eq_true,Bool.true_eq_false]at hb))|((with_reducible refine Exists.intro ?_ ?_);focus (and_intros<;>first|omega|kernel_rfl|(simp;done))))
 all_goals(try(conv=>whnf))
 (apply dKq<;>kernel_rfl)

open Go.Proofs
def Opn.hd (j:Nat) (o:Opn):Prop:=100≤j∨40<o.l.length∨1000<o.n.length∨1000<o.x.f.length∨1000<o.x.t.length
instance (j:Nat) (o:Opn):Decidable (o.hd j):=by unfold Opn.hd;infer_instance
def Chg.big (c:Chg):Prop:=1000<c.key.length∨1000<c.val.length
instance (c:Chg):Decidable c.big:=by unfold Chg.big;infer_instance
def cGo:List Chg→Bool
 | []=>false
 |c::r=>if c.big then true else cGo r
def F9:Nat→List Opn→Bool
 |_,[]=>false
 |j,o::r=>if o.hd j then true else if cGo o.l=true then true else F9 (j+1) r
theorem Ahr:∀{l:List Opn} {j:Nat},F9 j l=false→j≤100→j+l.length≤100∧∀o∈l,o.l.length≤40∧o.n.length≤1000
 | [],j,_,hj=>⟨by simpa using hj,by simp⟩
 |o::r,j,h,hj=>by
  unfold F9 at h
  split at h
  ·cases h
  ·rename_i h1
   split at h
   ·cases h
   ·unfold Opn.hd at h1
    obtain⟨a,b⟩:=Ahr h (by omega)
    refine⟨by rw[List.length_cons];omega,fun x hx=>?_⟩
    rcases List.mem_cons.1 hx with rfl|hx
    ·exact⟨by omega,by omega⟩
    ·exact b x hx
theorem Ls (l:List Opn):Fn Tryd.prog Agk [.v (.list (l.map Opn.toI))] (Is (.v (.bool (F9 0 l))) [.no]):=by
 refine Agh ?_ (by simp)
 obtain⟨RES,hRES⟩:∃R,F9 0 l=R:=⟨_,rfl⟩
 rw[hRES]
 repeat'((conv=>whnf);first|((with_reducible refine Exists.intro ?_ ?_);focus (and_intros<;>(with_reducible rfl)))|(with_reducible intro hfact))
 all_goals(try(conv=>whnf))
 have hl:l.length≤9223372036854775807:=by simpa[maxLen]using hfact
 refine LoopWq.by (X:=Nat) (fun j=>[(9,.v (ti (j:Int)))]) (fun j=>j≤l.length∧F9 j (l.drop j)=RES) (fun j=>l.length - j) 0 (by kernel_rfl) ⟨Nat.zero_le _,hRES⟩ ?_
 rintro j ⟨hj,hR⟩
 (try dsimp only at hj hR ⊢)
 by_cases hjl:j<l.length
 case neg=>
  have h3:¬decide ((j:Int)<((l.map Opn.toI).length:Int))=true:=by simp;omega
  have h4:¬decide ((j:Int)<(l.length:Int))=true:=by simp;omega
  rw[List.drop_eq_nil_of_le (by omega)]at hR
  have hR:false=RES:=hR
  subst hR
  repeat'((conv=>whnf);((with_reducible refine Aw (by first|(with_reducible assumption)|(with_reducible exact Bool.of_not_eq_true (by assumption))) (fun hb=>?_));(try rw[hb]);(try simp only[Aa,Bool.false_eq_true,Bool.true_eq_false]at hb)))
  all_goals(try(conv=>whnf))
  (apply dKq<;>kernel_rfl)
 have hw:IntKind.i64.wrap ((j:Int)+1)=((j+1:Nat):Int):=(Bf (by omega)).trans (by omega)
 obtain⟨o,ho⟩:∃x,l[j]?=some x:=⟨_,List.getElem?_eq_getElem hjl⟩
 have h3:¬decide ((j:Int)<((l.map Opn.toI).length:Int))=false:=by simp;omega
 have h4:¬decide ((j:Int)<(l.length:Int))=false:=by simp;omega
 have hdr:l.drop j=o::l.drop (j+1):=by rw[List.drop_eq_getElem_cons hjl];rw[List.getElem?_eq_getElem hjl]at ho;cases ho;rfl
 rw[hdr]at hR
 unfold F9 at hR
 by_cases hd:o.hd j
 ·rw[if_pos hd]at hR
  subst hR
  obtain⟨k,n,cl,⟨xf,xt⟩,rev,most⟩:=o
  unfold Opn.hd at hd
  (try dsimp only at hd)
  have g1:(decide ((100:Int)≤(j:Int)))=decide (100≤j):=by simp;omega
  have hcl:(cl.map Chg.toI).length=cl.length:=List.length_map _
  repeat'((conv=>whnf);first|((with_reducible refine Ax (by first|(with_reducible assumption)|(with_reducible exact Bool.of_not_eq_false (by assumption))|(with_reducible rfl)) (fun hb=>?_));(try rw[hb]);(try simp only[Aa,Bool.false_eq_true,Bool.true_eq_false]at hb))|((with_reducible refine Aw (by(with_reducible rfl)) (fun hb=>?_));(try rw[hb]);(try simp only[Aa,Bool.false_eq_true,Bool.true_eq_false]at hb))|((with_reducible refine And.intro (fun hb=>?_) (fun hb=>?_))<;>first|(exfalso;((simp only[LENS]at hb<;>omega)))|((try rw[hb]);(try simp only[Aa,Bool.false_eq_true,Bool.true_eq_false]at hb)))|((with_reducible refine Exists.intro ?_ ?_);focus (and_intros<;>first|omega|(with_reducible rfl)|kernel_rfl|(simp;done)))|(with_reducible intro hfact)|((try dsimp only);(rw[B6 ho]))|((try dsimp only);rw[hcl]))
  all_goals(try(conv=>whnf))
  all_goals((apply dKq<;>kernel_rfl))
 rw[if_neg hd]at hR
 obtain⟨k,n,cl,⟨xf,xt⟩,rev,most⟩:=o
 unfold Opn.hd at hd
 (try dsimp only at hd hR)
 have hcl:(cl.map Chg.toI).length=cl.length:=List.length_map _
 have hclm:cl.length≤40:=by omega
 repeat'((conv=>whnf);first|((with_reducible refine Ax (by(with_reducible exact Bool.of_not_eq_false (by assumption))) (fun hb=>?_));(try rw[hb]);(try simp only[Aa,Bool.false_eq_true,Bool.true_eq_false]at hb))|((with_reducible refine Aw (by first|((with_reducible refine decide_eq_false ?_);omega)|(with_reducible rfl)) (fun hb=>?_));(try rw[hb]);(try simp only[Aa,Bool.false_eq_true,Bool.true_eq_false]at hb))|((with_reducible refine And.intro (fun hb=>?_) (fun hb=>?_))<;>first|(exfalso;((simp only[LENS]at hb<;>omega)))|((try rw[hb]);(try simp only[Aa,Bool.false_eq_true,Bool.true_eq_false]at hb)))|((with_reducible refine Exists.intro ?_ ?_);focus (and_intros<;>first|omega|(with_reducible rfl)|kernel_rfl|(simp;done)))|(with_reducible intro hfact)|((try dsimp only);(rw[B6 ho]))|((try dsimp only);rw[hcl]))
 all_goals(try(conv=>whnf))
 refine LoopWq.by (X:=Nat) (fun q=>[(47,.v (ti (q:Int)))]) (fun q=>q≤cl.length∧(if cGo (cl.drop q)=true then true else F9 (j+1) (l.drop (j+1)))=RES) (fun q=>cl.length - q) 0 (by kernel_rfl) ⟨Nat.zero_le _,hR⟩ ?_
 rintro q ⟨hq,hQ⟩
 (try dsimp only at hq hQ ⊢)
 have hw2:IntKind.i64.wrap ((q:Int)+1)=((q+1:Nat):Int):=(Bf (by omega)).trans (by omega)
 by_cases hql:q<cl.length
 case neg=>
  have h5:¬decide ((q:Int)<((cl.map Chg.toI).length:Int))=true:=by simp;omega
  have h6:¬decide ((q:Int)<(cl.length:Int))=true:=by simp;omega
  rw[List.drop_eq_nil_of_le (by omega)]at hQ
  have hQ:F9 (j+1) (l.drop (j+1))=RES:=hQ
  repeat'((conv=>whnf);first|((with_reducible refine Aw (by(with_reducible exact Bool.of_not_eq_true (by assumption))) (fun hb=>?_));(try rw[hb]);(try simp only[Aa,Bool.false_eq_true,Bool.true_eq_false]at hb))|(skip;rw[hw]))
  all_goals(try(conv=>whnf))
  refine Round.by (j+1) ?_ ⟨by omega,hQ⟩ (by omega)
  try dsimp only
  show norm _ _=upd _ _
  kernel_rfl
 obtain⟨c,hc⟩:∃x,cl[q]?=some x:=⟨_,List.getElem?_eq_getElem hql⟩
 have h5:¬decide ((q:Int)<((cl.map Chg.toI).length:Int))=false:=by simp;omega
 have h6:¬decide ((q:Int)<(cl.length:Int))=false:=by simp;omega
 have hdq:cl.drop q=c::cl.drop (q+1):=by rw[List.drop_eq_getElem_cons hql];rw[List.getElem?_eq_getElem hql]at hc;cases hc;rfl
 rw[hdq]at hQ
 unfold cGo at hQ
 obtain⟨ck,cv,cg⟩:=c
 by_cases hb:(Chg.mk ck cv cg).big
 ·rw[if_pos hb]at hQ
  have hQ:true=RES:=hQ
  subst hQ
  unfold Chg.big at hb
  (try dsimp only at hb)
  repeat'((conv=>whnf);first|((with_reducible refine Ax (by first|(with_reducible assumption)|(with_reducible exact Bool.of_not_eq_false (by assumption))|(with_reducible rfl)) (fun hb=>?_));(try rw[hb]);(try simp only[Aa,Bool.false_eq_true,Bool.true_eq_false]at hb))|((with_reducible refine Aw (by(with_reducible rfl)) (fun hb=>?_));(try rw[hb]);(try simp only[Aa,Bool.false_eq_true,Bool.true_eq_false]at hb))|((with_reducible refine And.intro (fun hb=>?_) (fun hb=>?_))<;>first|(exfalso;((simp only[LENS]at hb<;>omega)))|((try rw[hb]);(try simp only[Aa,Bool.false_eq_true,Bool.true_eq_false]at hb)))|((with_reducible refine Exists.intro ?_ ?_);focus (and_intros<;>first|omega|(with_reducible rfl)|kernel_rfl|(simp;done)))|(with_reducible intro hfact)|((try dsimp only);(rw[B6 hc])))
  all_goals(try(conv=>whnf))
  all_goals((apply dKq<;>kernel_rfl))
 ·rw[if_neg hb]at hQ
  unfold Chg.big at hb
  (try dsimp only at hb)
  repeat'((conv=>whnf);first|((with_reducible refine Ax (by(with_reducible exact Bool.of_not_eq_false (by assumption))) (fun hb=>?_));(try rw[hb]);(try simp only[Aa,Bool.false_eq_true,Bool.true_eq_false]at hb))|((with_reducible refine Aw (by(with_reducible rfl)) (fun hb=>?_));(try rw[hb]);(try simp only[Aa,Bool.false_eq_true,Bool.true_eq_false]at hb))|((with_reducible refine And.intro (fun hb=>?_) (fun hb=>?_))<;>first|(exfalso;((simp only[LENS]at hb<;>omega)))|((try rw[hb]);(try simp only[Aa,Bool.false_eq_true,Bool.true_eq_false]at hb)))|((with_reducible refine Exists.intro ?_ ?_);focus (and_intros<;>first|omega|(with_reducible rfl)|kernel_rfl|(simp;done)))|(with_reducible intro hfact)|((try dsimp only);(rw[B6 hc]))|((try dsimp only);rw[hw2]))
  all_goals(try(conv=>whnf))
  refine Round.by (q+1) ?_ ⟨by omega,hQ⟩ (by omega)
  try dsimp only
  show norm _ _=upd _ _
  kernel_rfl

open Go.Proofs
def sto2:Sto:=⟨[([116],tal0),([117],tal0)],[]⟩
theorem Ai9:(Sto.mk [] []).openM (D9 [116]) [116]=(⟨[([116],tal0)],[]⟩,0):=by
 rw[show D9 [116]=true by rfl];rfl
theorem Aja:(Sto.mk [([116],tal0)] []).openM (D9 [117]) [117]=(sto2,0):=by
 rw[show D9 [117]=true by rfl];rfl
theorem inv2:SInv 0 sto2:=by
 have h1:=Ajr.open (nm:=D9 [116]) [116] Aha
 rw[Ai9]at h1
 have h2:=h1.open (nm:=D9 [117]) [117] Aha
 rw[Aja]at h2
 exact h2
def Mg:List Opn→Sto→Sto
 | [],s=>s
 |o::r,s=>Mg r (s.stepM o)
def Aiw (l:List Opn):Prop:=∀o∈l,o.l.length≤40∧o.n.length≤1000
theorem Ah3:∀{l:List Opn} {m:Nat} {s:Sto},SInv m s→Aiw l→m+41*l.length≤80000→SInv (m+41*l.length) (Mg l s)
 | [],m,s,h,_,_=>h
 |o::r,m,s,h,hok,hm=>by
  rw[List.length_cons]at hm ⊢
  have h1:=hok o (List.mem_cons_self ..)
  have h2:=(h.step o (by omega)).mono (show m+o.l.length+1≤m+41 by omega)
  have h3:=Ah3 h2 (fun x hx=>hok x (List.mem_cons_of_mem _ hx)) (by omega)
  rw[show m+41*(r.length+1)=m+41+41*r.length by omega]
  exact h3
theorem Ahh:∀{l:List Opn} {s:Sto} {n:Az},(s.fi n).isSome=true→((Mg l s).fi n).isSome=true
 | [],s,n,h=>h
 |o::r,s,n,h=>Ahh (l:=r) (s:=s.stepM o) (Aiv h)
theorem Aiq (l:List Opn) (hl:l.length≤100) (hok:Aiw l):Fn Tryd.prog Lr [.v (.list (l.map Opn.toI))] (Is (sP (Mg l sto2)) [.no]):=by
 refine Af7 ?_ (by simp)
 have ho1:=Ag4 ⟨[],[]⟩ [116]
 rw[Ai9]at ho1
 have ho2:=Ag4 ⟨[([116],tal0)],[]⟩ [117]
 rw[Aja]at ho2
 repeat'((conv=>whnf);first|((with_reducible refine Exists.intro ?_ ?_);focus (and_intros<;>first|(with_reducible rfl)|kernel_rfl|(intro _ hh;cases hh;done)|(simp;done)|decide))|(with_reducible intro hfact)|((with_reducible refine CallWp.mk ?_);refine⟨_,Adg,?_⟩;rintro _ _ ⟨rfl,rfl⟩)|((with_reducible refine CallWp.mk ?_);refine⟨_,ho1,?_⟩;rintro _ _ ⟨rfl,rfl⟩)|((with_reducible refine CallWp.mk ?_);refine⟨_,ho2,?_⟩;rintro _ _ ⟨rfl,rfl⟩))
 all_goals(try(conv=>whnf))
 refine LoopWq.by (X:=Nat × Sto) (fun y=>[(13,.v (ti (y.1:Int))),(3,sP y.2)]) (fun y=>y.1≤l.length∧SInv (41*y.1) y.2∧Mg (l.drop y.1) y.2=Mg l sto2) (fun y=>l.length - y.1) (0,sto2) (by kernel_rfl) ⟨Nat.zero_le _,inv2,rfl⟩ ?_
 rintro⟨j,s⟩ ⟨hj,hI,hR⟩
 dsimp only at hj hI hR ⊢
 have hw:IntKind.i64.wrap ((j:Int)+1)=((j+1:Nat):Int):=(Bf (by omega)).trans (by omega)
 by_cases hjl:j<l.length
 case neg=>
  have h3:¬decide ((j:Int)<((l.map Opn.toI).length:Int))=true:=by simp;omega
  have h4:¬decide ((j:Int)<(l.length:Int))=true:=by simp;omega
  rw[List.drop_eq_nil_of_le (by omega)]at hR
  have hR:s=Mg l sto2:=hR
  subst hR
  repeat'((conv=>whnf);((with_reducible refine Aw (by(with_reducible exact Bool.of_not_eq_true (by assumption))) (fun hb=>?_));(try rw[hb]);(try simp only[Aa,Bool.false_eq_true,Bool.true_eq_false]at hb)))
  all_goals(try(conv=>whnf))
  trace_state
  (apply dKq<;>kernel_rfl)
 obtain⟨o,ho⟩:∃x,l[j]?=some x:=⟨_,List.getElem?_eq_getElem hjl⟩
 have h3:¬decide ((j:Int)<((l.map Opn.toI).length:Int))=false:=by simp;omega
 have h4:¬decide ((j:Int)<(l.length:Int))=false:=by simp;omega
 have hdr:l.drop j=o::l.drop (j+1):=by rw[List.drop_eq_getElem_cons hjl];rw[List.getElem?_eq_getElem hjl]at ho;cases ho;rfl
 rw[hdr]at hR
 have hoo:=hok o (List.mem_of_getElem? ho)
 have hd:=Ahx hI (by omega) o hoo.2 (by omega)
 have hI2:=(hI.step o (by omega)).mono (show 41*j+o.l.length+1≤41*(j+1)by omega)
 replace hR:Mg (l.drop (j+1)) (s.stepM o)=Mg l sto2:=hR
 generalize s.stepM o=s' at*
 generalize Aia s o=b at hd
 have hdr:Ae5 o=r0∨Ae5 o=r1 o.n:=by unfold Ae5;split<;>simp
 generalize Ae5 o=R at hd hdr
 obtain⟨k,n,cl,x,rev,most⟩:=o
 rcases hdr with rfl|rfl
 ·repeat'((conv=>whnf);first|((with_reducible refine Ax (by(with_reducible exact Bool.of_not_eq_false (by assumption))) (fun hb=>?_));(try rw[hb]);(try simp only[Aa,Bool.false_eq_true,Bool.true_eq_false]at hb))|((with_reducible refine Exists.intro ?_ ?_);focus (and_intros<;>first|omega|kernel_rfl|(intro _ hh;cases hh;done)|(simp;done)|decide))|((try dsimp only);(rw[B6 ho]))|((with_reducible refine CallWp.mk ?_);refine⟨_,hd,?_⟩;rintro _ _ ⟨rfl,rfl⟩)|(skip;rw[hw]))
  all_goals(try(conv=>whnf))
  refine Round.by (j+1,s') ?_ ⟨by omega,hI2,hR⟩ (by dsimp only;omega)
  try dsimp only
  show norm _ _=upd _ _
  kernel_rfl
 ·repeat'((conv=>whnf);first|((with_reducible refine Ax (by(with_reducible exact Bool.of_not_eq_false (by assumption))) (fun hb=>?_));(try rw[hb]);(try simp only[Aa,Bool.false_eq_true,Bool.true_eq_false]at hb))|((with_reducible refine Exists.intro ?_ ?_);focus (and_intros<;>first|omega|kernel_rfl|(intro _ hh;cases hh;done)|(simp;done)|decide))|((try dsimp only);(rw[B6 ho]))|((with_reducible refine CallWp.mk ?_);refine⟨_,hd,?_⟩;rintro _ _ ⟨rfl,rfl⟩)|((try dsimp only);rw[hw]))
  all_goals(try(conv=>whnf))
  refine Round.by (j+1,s') ?_ ⟨by omega,hI2,hR⟩ (by dsimp only;omega)
  try dsimp only
  show norm _ _=upd _ _
  kernel_rfl

theorem Aiy:∀{p k:Az},(p≤k∧k<p++[0])↔k=p
 | [],[]=>by simp
 | [],x::k=>by
   simp only[List.nil_append]
   rw[List.cons_lt_cons_iff]
   have h1:¬x<0:=by
    intro h
    have:=UInt8.lt_iff_toNat_lt.1 h
    simp at this
   have h2:¬k<[]:=List.not_lt_nil k
   simp[h1,h2]
 |a::p,[]=>by simp
 |a::p,x::k=>by
  have ih:=Aiy (p:=p) (k:=k)
  simp only[List.cons_append]
  rw[List.cons_le_cons_iff,List.cons_lt_cons_iff,List.cons.injEq, ←ih]
  constructor
  ·rintro⟨h3,h4⟩
   rcases h3 with h3|⟨rfl,h3⟩
   ·rcases h4 with h4|⟨rfl,_⟩
    ·exact absurd (UInt8.lt_trans h3 h4) (UInt8.lt_irrefl _)
    ·exact absurd h3 (UInt8.lt_irrefl _)
   ·rcases h4 with h4|⟨_,h4⟩
    ·exact absurd h4 (UInt8.lt_irrefl _)
    ·exact⟨rfl,h3,h4⟩
  ·rintro⟨rfl,h3,h4⟩
   exact⟨.inr ⟨rfl,h3⟩,.inr ⟨rfl,h4⟩⟩

def A1 (vs:List Ver):Ver:=vs.getLast?.getD ver0
def fK (n a:Az) (v:Ver):Int:=if(C1 a).1=n∧v.gone=false then 1 else 0
def fB (n a:Az) (v:Ver):Int:=if(C1 a).1=n∧v.gone=false then((C1 a).2.1.length:Int)+(v.val.length:Int)else 0
def sumF (f:Az→Ver→Int):List Hld→Int
 | []=>0
 |h::r=>f h.at_ (A1 h.vs)+sumF f r
theorem Aim (f:Az→Ver→Int):∀a b:List Hld,sumF f (a++b)=sumF f a+sumF f b
 | [],b=>by simp[sumF]
 |h::r,b=>by simp only[List.cons_append,sumF,Aim f r b];omega
theorem Aj0 {f:Az→Ver→Int} {h:Hld}:∀{l:List Hld} {p:Nat} {e:Hld},l[p]?=some e→sumF f (l.set p h)=sumF f l - f e.at_ (A1 e.vs)+f h.at_ (A1 h.vs)
 | [],p,e,he=>by simp at he
 |x::r,0,e,he=>by
  simp only[List.getElem?_cons_zero,Option.some.injEq]at he
  subst he
  simp only[List.set_cons_zero,sumF];omega
 |x::r,p+1,e,he=>by
  simp only[List.getElem?_cons_succ]at he
  simp only[List.set_cons_succ,sumF,Aj0 he];omega
theorem Aj4 (vs:List Ver) (v:Ver):A1 (vs++[v])=v:=by simp[A1]
theorem Ai4 {l:List Hld} {a:Az} {e:Hld} (hf:bsF (Kh a) (eqH a) l=true) (he:l[Km (Kh a) l]?=some e):Q1 l a=A1 e.vs:=by
 unfold Q1 Sto.lastM Sto.pi Sto.pf
 dsimp only
 rw[he]
 dsimp only
 rw[if_pos hf]
 rfl
theorem Gs {f:Az→Ver→Int} {l:List Hld} {a:Az} {v:Ver} (h0:f a ver0=0):sumF f (putA l a v)=sumF f l - f a (Q1 l a)+f a v:=by
 unfold putA putL
 split
 ·rename_i hf
  obtain⟨e,h2,h3⟩:=Afp hf
  have h4:e.at_=a:=by simpa[eqH]using h3
  rw[Zv h2,Aj0 h2,Ai4 hf h2]
  dsimp only
  rw[Aj4,h4]
 ·rename_i hf
  rw[show Q1 l a=ver0 from Sto.lastM_no (s:=⟨[],l⟩) (show bsF (Kh a) (eqH a) l=false by simpa using hf),h0]
  rw[Aim]
  conv=>rhs;rw[←List.take_append_drop (Km (Kh a) l) l,Aim]
  simp only[sumF,A1,List.getLast?_singleton,Option.getD_some]
  omega
theorem Ah8 {n k:Az} {v:Ver} (hn:n.length<256):fK n (B7 n k) v=if v.gone=false then 1 else 0:=by
 unfold fK;rw[Mt hn];simp
theorem Ah7 {n k:Az} {v:Ver} (hn:n.length<256):fB n (B7 n k) v=if v.gone=false then(k.length:Int)+(v.val.length:Int)else 0:=by
 unfold fB;rw[Mt hn];simp
theorem Akf {n n' k:Az} {v:Ver} (hn:n.length<256) (h:n'≠n):fK n' (B7 n k) v=0:=by
 unfold fK;rw[Mt hn,if_neg (fun c=>h c.1.symm)]
theorem Ake {n n' k:Az} {v:Ver} (hn:n.length<256) (h:n'≠n):fB n' (B7 n k) v=0:=by
 unfold fB;rw[Mt hn,if_neg (fun c=>h c.1.symm)]
theorem Af5 {n a:Az} {v:Ver} (h:v.gone=true):fK n a v=0:=by unfold fK;rw[if_neg (fun c=>by rw[h]at c;cases c.2)]
theorem Lq {n a:Az} {v:Ver} (h:v.gone=true):fB n a v=0:=by unfold fB;rw[if_neg (fun c=>by rw[h]at c;cases c.2)]
theorem Ajs {n k:Az} {c:Chg} {x:WSt} (hn:n.length<256) (h1:x.t.keys=sumF (fK n) x.l) (h2:x.t.bytes=sumF (fB n) x.l):
 (Dw n k c x).t.keys=sumF (fK n) (Dw n k c x).l∧(Dw n k c x).t.bytes=sumF (fB n) (Dw n k c x).l:=by
 have g0:ver0.gone=true:=rfl
 unfold Dw
 dsimp only
 split
 ·exact⟨h1,h2⟩
 ·rename_i hcw
  split
  ·rename_i hc
   have hw:(Q1 x.l (B7 n k)).gone=false:=by
    cases h:(Q1 x.l (B7 n k)).gone with
    |false=>rfl
    |true=>exact absurd ⟨hc,h⟩ hcw
   dsimp only
   rw[Gs (Af5 g0),Gs (Lq g0),Ah8 hn,Ah8 hn,Ah7 hn,Ah7 hn,hw]
   simp only[if_true,Bool.true_eq_false,if_false]
   omega
  ·split
   ·rename_i hw
    dsimp only
    rw[Gs (Af5 g0),Gs (Lq g0),Ah8 hn,Ah8 hn,Ah7 hn,Ah7 hn,hw]
    simp only[if_true,Bool.true_eq_false,if_false]
    omega
   ·rename_i hw
    have hw:(Q1 x.l (B7 n k)).gone=false:=by simpa using hw
    dsimp only
    rw[Gs (Af5 g0),Gs (Lq g0),Ah8 hn,Ah8 hn,Ah7 hn,Ah7 hn,hw]
    simp only[if_true,Bool.true_eq_false,if_false]
    omega
theorem Ajy {n k n':Az} {c:Chg} {x:WSt} (hn:n.length<256) (h:n'≠n):
 sumF (fK n') (Dw n k c x).l=sumF (fK n') x.l∧sumF (fB n') (Dw n k c x).l=sumF (fB n') x.l:=by
 have g0:ver0.gone=true:=rfl
 rcases Q7 n k c x with e|⟨v,_,e,_⟩
 ·rw[e];exact⟨rfl,rfl⟩
 ·rw[e,Gs (Af5 g0),Gs (Lq g0),Akf hn h,Akf hn h,Ake hn h,Ake hn h]
  omega
def VK (l:List Hld):Prop:=∀h∈l,(C1 h.at_).2.1.length≤64∧∀v∈h.vs,v.gone=false→1≤v.made∧v.made≤v.rev
theorem VK.put {l:List Hld} {n k:Az} {v:Ver} (h:VK l) (hn:n.length<256) (hk:k.length≤64) (hv:v.gone=false→1≤v.made∧v.made≤v.rev):VK (putA l (B7 n k) v):=by
 intro x hx
 rcases Ajm hx with hx|rfl|⟨e,he,_,rfl⟩
 ·exact h x hx
 ·dsimp only
  rw[Mt hn]
  exact⟨hk,fun w hw=>by simp only[List.mem_singleton]at hw;subst hw;exact hv⟩
 ·dsimp only
  rw[Mt hn]
  refine⟨hk,fun w hw=>?_⟩
  rcases List.mem_append.1 hw with hw|hw
  ·exact(h e he).2 w hw
  ·simp only[List.mem_singleton]at hw;subst hw;exact hv
theorem Aj9 (l:List Hld) (a:Az):Q1 l a=ver0∨∃e∈l,e.at_=a∧Q1 l a∈e.vs:=by
 cases hf:bsF (Kh a) (eqH a) l with
 |false=>exact .inl (Sto.lastM_no (s:=⟨[],l⟩) hf)
 |true=>
  obtain⟨e,h2,h3⟩:=Afp hf
  rw[Ai4 hf h2]
  unfold A1
  cases hl:e.vs.getLast? with
  |none=>exact .inl rfl
  |some v=>exact .inr ⟨e,List.mem_of_getElem? h2,by simpa[eqH]using h3,List.mem_of_getLast? hl⟩
theorem Aj1 {n k:Az} {c:Chg} {x:WSt} {U:Az→Int} (hn:n.length<256) (hk:k.length≤64) (hr:0≤x.t.rev) (h:VK x.l) (hw:WInv U x.l) (hU:U (B7 n k)≤x.t.rev):VK (Dw n k c x).l:=by
 unfold Dw
 dsimp only
 split
 ·exact h
 ·split
  ·exact h.put hn hk (fun c=>by cases c)
  ·split
   ·exact h.put hn hk (fun _=>by dsimp only;omega)
   ·rename_i hg
    refine h.put hn hk (fun _=>?_)
    dsimp only
    rcases Aj9 x.l (B7 n k)with e|⟨e,he,hea,hm⟩
    ·rw[e]at hg;exact absurd rfl hg
    ·have h3:=(h e he).2 _ hm (by simpa using hg)
     have h4:=((hw.2 e he).2.2 _ hm).2
     rw[hea]at h4
     omega
theorem Aif {n:Az} {F:List Chg} {R:Az→Int} {r:Int} (hn:n.length<256) (hr:0≤r):∀{KK:List Az} {x:WSt},KK.Nodup→(∀k∈KK,k.length≤64)→x.t.rev=r→WInv (bndW n r R KK) x.l→VK x.l→x.t.keys=sumF (fK n) x.l→x.t.bytes=sumF (fB n) x.l→
 VK (Ge n F KK x).l∧(Ge n F KK x).t.keys=sumF (fK n) (Ge n F KK x).l∧(Ge n F KK x).t.bytes=sumF (fB n) (Ge n F KK x).l∧∀n',n'≠n→sumF (fK n') (Ge n F KK x).l=sumF (fK n') x.l∧sumF (fB n') (Ge n F KK x).l=sumF (fB n') x.l
 | [],x,_,_,_,_,h1,h2,h3=>⟨h1,h2,h3,fun _ _=>⟨rfl,rfl⟩⟩
 |k::KK,x,hd,hk,hx,hw,h1,h2,h3=>by
  obtain⟨d1,d2⟩:=List.nodup_cons.1 hd
  have g1:=Ag6 (x:=x) (R:=R) (c:=getF F k) hn d1 (by omega) (by rw[hx];exact hw)
  rw[hx]at g1
  have g2:=Aj1 (c:=getF F k) hn (hk k (List.mem_cons_self ..)) (by omega) h1 hw (by unfold bndW;rw[Mt hn,if_pos rfl,if_pos (List.mem_cons_self ..)];omega)
  obtain⟨g3,g4⟩:=Ajs (k:=k) (c:=getF F k) hn h2 h3
  obtain⟨i1,i2,i3,i4⟩:=Aif (F:=F) (R:=R) hn hr (KK:=KK) (x:=Dw n k (getF F k) x) d2 (fun y hy=>hk y (List.mem_cons_of_mem _ hy)) ((Agt _ _ _ _).1.trans hx) g1 g2 g3 g4
  refine⟨i1,i2,i3,fun n' hn'=>?_⟩
  obtain⟨j1,j2⟩:=i4 n' hn'
  obtain⟨o1,o2⟩:=Ajy (k:=k) (c:=getF F k) (x:=x) hn hn'
  exact⟨j1.trans o1,j2.trans o2⟩
structure CInv (s:Sto):Prop where
 cnt:∀n,(s.tal n).keys=sumF (fK n) s.l∧(s.tal n).bytes=sumF (fB n) s.l
 vk:VK s.l
theorem CInv.write {m:Nat} {s:Sto} (h:SInv m s) (hc:CInv s) (n:Az) (cs:List Chg):CInv (s.writeM n cs).1:=by
 unfold Sto.writeM
 split
 ·exact hc
 ·rename_i i hi
  split
  ·exact hc
  ·rename_i F hF
   obtain⟨f1,f2,_⟩:=Agz hF (by simp) (by simp)
   have hn:=h.name hi
   obtain⟨g1,g2,g3,g4⟩:=Aif (F:=F) (R:=fun n=>(s.tal n).rev) (r:=(s.tal n).rev) hn (by have:=h.rv n;omega) (KK:=Dc (F.map Chg.key)) (x:=⟨s.tal n,s.l,false⟩) (Ahj f1) (fun k hk=>(Ajq f2 hk).1) rfl (h.start n _) hc.vk (hc.cnt n).1 (hc.cnt n).2
   generalize Ge n F (Dc (F.map Chg.key)) ⟨s.tal n,s.l,false⟩=Z at*
   dsimp only at g1 g2 g3 g4
   refine⟨fun n'=>?_,g1⟩
   rw[Mi hi]
   dsimp only
   split
   ·rename_i e
    subst e
    unfold WSt.fin
    split
    ·exact⟨g2,g3⟩
    ·exact⟨g2,g3⟩
   ·rename_i e
    obtain⟨o1,o2⟩:=g4 n' e
    rw[o1,o2]
    exact hc.cnt n'
theorem Aj2 {r:Int} {vs:List Ver} (h0:vs≠[]) (h:vs.length≤Lm r vs):(A1 vs).gone=true:=by
 have h1:=Ve r vs h0
 unfold Lm at h
 rw[List.getElem?_eq_getElem h1]at h
 dsimp only at h
 split at h
 ·rename_i hg
  unfold A1
  rw[List.getLast?_eq_getElem?,show vs.length - 1=Eo r vs by omega,List.getElem?_eq_getElem h1]
  exact hg.1
 ·omega
theorem Aj3 {vs:List Ver} {k:Nat} (h:vs.drop k≠[]):A1 (vs.drop k)=A1 vs:=by
 unfold A1
 rw[List.getLast?_drop,if_neg]
 intro c
 exact h (List.drop_eq_nil_of_le c)
theorem Ahm {f:Az→Ver→Int} {n:Az} {r:Int} (hg:∀a v,v.gone=true→f a v=0):∀{l:List Hld},(∀h∈l,h.vs≠[])→sumF f (l.filterMap (Pf n r))=sumF f l
 | [],_=>rfl
 |h::t,h0=>by
  have ih:=Ahm (n:=n) (r:=r) hg (l:=t) fun x hx=>h0 x (List.mem_cons_of_mem _ hx)
  have hv:=h0 h (List.mem_cons_self ..)
  rw[List.filterMap_cons]
  cases e:Pf n r h with
  |none=>
   dsimp only
   rw[ih,sumF]
   unfold Pf at e
   split at e
   ·split at e
    ·rename_i hk
     rw[hg _ _ (Aj2 hv hk)]
     omega
    ·cases e
   ·cases e
  |some h'=>
   obtain⟨a1,k,a2,a3⟩:=Agy e
   dsimp only
   have h4:=a3 hv
   rw[sumF,sumF,ih,a1,a2,Aj3 (by rw[←a2];exact h4)]
theorem CInv.comp {m:Nat} {s:Sto} (h:SInv m s) (hc:CInv s) (n:Az) (rev:Int):CInv (s.compM n rev).1:=by
 unfold Sto.compM
 split
 ·exact hc
 ·rename_i i hi
  split
  ·obtain⟨c1,_⟩:=Ahp (n:=n) (rev:=rev) (l:=s.l) (x:=⟨[],0⟩)
   rw[List.nil_append]at c1
   generalize Mz n rev s.l ⟨[],0⟩=Z at*
   have h0:∀x∈s.l,x.vs≠[]:=fun x hx=>(h.lb.held x hx).2.1
   refine⟨fun n'=>?_,fun x hx=>?_⟩
   ·rw[Mi hi]
    dsimp only
    rw[c1,Ahm (fun a v hg=>Af5 hg) h0,Ahm (fun a v hg=>Lq hg) h0]
    split
    ·rename_i e
     subst e
     exact hc.cnt n'
    ·exact hc.cnt n'
   ·dsimp only at hx
    rw[c1]at hx
    obtain⟨y,hy,e⟩:=List.mem_filterMap.1 hx
    obtain⟨a1,k,a2,_⟩:=Agy e
    rw[a1,a2]
    exact⟨(hc.vk y hy).1,fun v hv=>(hc.vk y hy).2 v (List.mem_of_mem_drop hv)⟩
  ·exact hc
theorem CInv.open {s:Sto} (hc:CInv s) (nm:Bool) (n:Az):CInv (s.openM nm n).1:=by
 have h2:=(Ah4 (s:=s) (nm:=nm) (n:=n) (n':=[])).2
 refine⟨fun n'=>?_,?_⟩
 ·rw[h2,Ah4.1];exact hc.cnt n'
 ·rw[h2];exact hc.vk
theorem CInv.step {m:Nat} {s:Sto} (h:SInv m s) (hc:CInv s) (o:Opn):CInv (s.stepM o):=by
 unfold Sto.stepM
 split
 ·exact hc.write h _ _
 ·split
  ·exact hc.comp h _ _
  ·split
   ·exact hc.open _ _
   ·exact hc
theorem Aj7:∀{p a b:Az},p++a<p++b↔a<b
 | [],a,b=>by simp
 |c::p,a,b=>by
  simp only[List.cons_append]
  rw[List.cons_lt_cons_iff,Aj7 (p:=p)]
  have:¬c<c:=UInt8.lt_irrefl c
  simp[this]
theorem Akd {vs:List Ver} {R:Int} (h:VSo vs) (h1:vs≠[]) (hR:∀v∈vs,v.rev≤R):D1 vs R=if(A1 vs).gone=true then(verN,false)else(A1 vs,true):=by
 rw[Lg h,List.filter_eq_self.2 (fun v hv=>by simpa using hR v hv)]
 unfold A1
 cases hl:vs.getLast? with
 |none=>exact absurd (List.getLast?_eq_none_iff.1 hl) h1
 |some v=>rfl
def Bv:List (Az × Ver)→Int
 | []=>0
 |p::r=>(p.1.length:Int)+(p.2.val.length:Int)+Bv r
theorem Ahy:∀a b:List (Az × Ver),Bv (a++b)=Bv a+Bv b
 | [],b=>by simp[Bv]
 |h::r,b=>by simp only[List.cons_append,Bv,Ahy r b];omega
theorem Ah9 {n:Az} {R:Int}:∀{l:List Hld},(∀h∈l,Lies h.at_∧VSo h.vs∧h.vs≠[]∧((C1 h.at_).1=n→∀v∈h.vs,v.rev≤R))→LSo l→VK l→
 ((Lh n R l).length:Int)=sumF (fK n) l∧Bv (Lh n R l)=sumF (fB n) l∧(Lh n R l).Pairwise (fun a b=>a.1<b.1)∧∀p∈Lh n R l,(p.1.length≤64∧(1≤p.2.made∧p.2.made≤p.2.rev∧p.2.rev≤R))∧∃h∈l,h.at_=B7 n p.1
 | [],_,_,_=>⟨rfl,rfl,List.Pairwise.nil,by intro p hp;cases hp⟩
 |h::r,h0,hs,hk=>by
  rw[LSo,List.map_cons,List.pairwise_cons]at hs
  obtain⟨i1,i2,i3,i4⟩:=Ah9 (n:=n) (R:=R) (l:=r) (fun x hx=>h0 x (List.mem_cons_of_mem _ hx)) hs.2 (fun x hx=>hk x (List.mem_cons_of_mem _ hx))
  obtain⟨a1,a2,a3,a4⟩:=h0 h (List.mem_cons_self ..)
  obtain⟨k1,k2⟩:=hk h (List.mem_cons_self ..)
  unfold Lh at i1 i2 i3 i4 ⊢
  rw[List.filterMap_cons]
  simp only[sumF]
  by_cases hn:(C1 h.at_).1=n
  ·have hv:=Akd a2 a3 (a4 hn)
   cases hg:(A1 h.vs).gone with
   |true=>
    rw[hg,if_pos rfl]at hv
    rw[show gV n R h=none by unfold gV;rw[hv,if_neg (fun c=>by cases c.2)],Af5 hg,Lq hg]
    dsimp only
    exact⟨by omega,by omega,i3,fun p hp=>⟨(i4 p hp).1,by obtain⟨y,hy,e⟩:=(i4 p hp).2;exact⟨y,List.mem_cons_of_mem _ hy,e⟩⟩⟩
   |false=>
    rw[hg,if_neg (by simp)]at hv
    have hat:h.at_=B7 n (C1 h.at_).2.1:=by rw[←hn];exact a1.whose.1
    rw[show gV n R h=some ((C1 h.at_).2.1,A1 h.vs)by unfold gV;rw[hv,if_pos ⟨hn,rfl⟩]]
    have hlm:A1 h.vs∈h.vs:=by
     unfold A1
     cases hl:h.vs.getLast? with
     |none=>exact absurd (List.getLast?_eq_none_iff.1 hl) a3
     |some v=>exact List.mem_of_getLast? hl
    have hmr:=k2 _ hlm hg
    have hrR:=a4 hn _ hlm
    refine⟨?_,?_,?_,?_⟩
    ·rw[show fK n h.at_ (A1 h.vs)=1 by unfold fK;rw[if_pos ⟨hn,hg⟩]]
     simp only[List.length_cons];omega
    ·rw[show fB n h.at_ (A1 h.vs)=((C1 h.at_).2.1.length:Int)+((A1 h.vs).val.length:Int)by unfold fB;rw[if_pos ⟨hn,hg⟩]]
     simp only[Bv];omega
    ·rw[List.pairwise_cons]
     refine⟨fun p hp=>?_,i3⟩
     obtain⟨y,hy,e⟩:=(i4 p hp).2
     have h5:=hs.1 y.at_ (List.mem_map_of_mem hy)
     rw[hat,e,Ahd n (C1 h.at_).2.1,Ahd n p.1,Aj7]at h5
     rw[hat]at h5
     rw[Ahd, ←Ahd,Mt (by rw[←hn];exact a1.whose.2)]at h5
     exact h5
    ·intro p hp
     rcases List.mem_cons.1 hp with rfl|hp
     ·exact⟨⟨k1,hmr.1,hmr.2,hrR⟩,h,List.mem_cons_self ..,hat⟩
     ·exact⟨(i4 p hp).1,by obtain⟨y,hy,e⟩:=(i4 p hp).2;exact⟨y,List.mem_cons_of_mem _ hy,e⟩⟩
  ·rw[Ahu hn,show fK n h.at_ (A1 h.vs)=0 by unfold fK;rw[if_neg (fun c=>hn c.1)],show fB n h.at_ (A1 h.vs)=0 by unfold fB;rw[if_neg (fun c=>hn c.1)]]
   dsimp only
   exact⟨by omega,by omega,i3,fun p hp=>⟨(i4 p hp).1,by obtain⟨y,hy,e⟩:=(i4 p hp).2;exact⟨y,List.mem_cons_of_mem _ hy,e⟩⟩⟩
end Go.Ab
