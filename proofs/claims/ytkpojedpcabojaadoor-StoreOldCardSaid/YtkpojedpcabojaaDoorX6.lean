/- Lemmas -/
import Derived.Test.YtkpojedpcabojaaDoorWF
set_option linter.unusedVariables false
set_option linter.unusedSimpArgs false
set_option maxRecDepth 100000
set_option maxHeartbeats 40000000
namespace Go.Ab
open Go.Proofs
theorem Air {m:Nat} {s:Sto} (h:SInv m s) (hm:m≤80000) (n:Az) (cs:List Chg) (hn:n.length≤1000) (hcs:cs.length≤1000):
 Fn Tryd.prog Da [sP s,.v (.str n),.v (.list (cs.map Chg.toI))] (Is (.tup [.i (ti (s.writeM n cs).2.1),.i (ti (s.writeM n cs).2.2)]) [sP (s.writeM n cs).1,.no,.no]):=by
 unfold Sto.writeM
 cases hf:s.fi n with
 |none=>exact Ai8 s n cs hf
 |some i=>
  dsimp only
  cases hF:K6 cs []with
  |none=>exact Aji s n cs i hf hcs none rfl hF
  |some F=>
   have hrv:=h.rv n
   exact R4 Aep Aex s n cs i hf hn hcs (h.lb.mono hm) ((h.tb n).mono hm) (by omega) F (some F) rfl hF _ rfl
theorem Ai3 {m:Nat} {s:Sto} (h:SInv m s) (hm:m≤80000) (n:Az) (rev:Int):
 Fn Tryd.prog Kc [sP s,.v (.str n),.v (ti rev)] (Is (.v (ti (s.compM n rev).2)) [sP (s.compM n rev).1,.no,.no]):=by
 unfold Sto.compM
 cases hf:s.fi n with
 |none=>exact Aic s n rev hf
 |some i=>
  dsimp only
  by_cases he:s.compE n rev=0
  ·rw[if_pos he]
   obtain⟨e1,e2,e3⟩:=Aht he
   have hrv:=h.rv n
   exact Uz s n rev i hf (h.lb.mono hm) ⟨e1,e2,e3,by omega⟩ _ rfl
  ·rw[if_neg he]
   exact Ain s n rev i hf he
theorem Aff {m:Nat} {s:Sto} (h:SInv m s) (hm:m≤80000) (n:Az) (hn:n.length≤1000) (x:Sp) (rev most:Int):
 Fn Tryd.prog C9 [sP s,.v (.str n),.v x.toI,.v (ti rev),.v (ti most)] (Is (.tup [.i (.list ((s.rangeM n x rev most).1.map Pr.toI)),.i (.bool (s.rangeM n x rev most).2.1),.i (ti (s.rangeM n x rev most).2.2)]) [sP s,.no,.no,.no,.no]):=by
 have hrv:=h.rv n
 exact Ai5 ofC s (h.bd hm) n (by omega) x rev most (by omega)
theorem Ag4 (s:Sto) (n:Az):Fn Tryd.prog Ec [sP s,.v (.str n)] (Is (.v (ti (s.openM (D9 n) n).2)) [sP (s.openM (D9 n) n).1,.no]):=
 Aa2 s n (D9 n) (Aa1 n)
theorem Ag2 {x:Sp} {most:Int}:∀{l:List (Az × Ver)} {out:List Pr},(out.length:Int)≤most→((Mf x most l out).1.length:Int)≤most
 | [],out,h=>h
 |p::r,out,h=>by
  unfold Mf
  split
  ·exact Ag2 h
  ·split
   ·exact h
   ·exact Ag2 (by simp;omega)
theorem Ae6 {n:Az} {x:Sp} {rev most:Int}:∀{l:List Hld} {out:List Pr},(out.length:Int)≤most→((Ep n x rev most l out).1.length:Int)≤most
 | [],out,h=>h
 |p::r,out,h=>by
  unfold Ep
  split
  ·exact h
  ·split
   ·exact Ae6 h
   ·split
    ·exact Ae6 h
    ·split
     ·exact h
     ·exact Ae6 (by simp;omega)
theorem Aiz (s:Sto) (n:Az) (x:Sp) (rev most:Int):(s.rangeM n x rev most).1.length≤16:=by
 unfold Sto.rangeM
 split
 ·simp
 ·split
  ·simp
  ·rename_i h
   have h:SpR x∧0≤rev∧1≤most∧most≤16:=Classical.not_not.1 h
   split
   ·simp
   ·split
    ·simp
    ·have:=Ae6 (n:=n) (x:=x) (rev:=if rev=0 then(s.tal n).rev else rev) (l:=s.l.drop (Km (Kh (B7 n [])) s.l)) (out:=[]) (most:=most) (by simp;omega)
     dsimp only
     omega
def Aia (s:Sto) (o:Opn):Bool:=
 if o.k=0 then decide ((s.writeM o.n o.l).2.1=0)&&decide ((s.writeM o.n o.l).2.2=16)
 else if o.k=1 then decide ((s.rangeM o.n o.x o.rev o.most).1=[])&&(decide ((s.rangeM o.n o.x o.rev o.most).2.1=false)&&decide ((s.rangeM o.n o.x o.rev o.most).2.2=16))
 else if o.k=2 then decide ((s.compM o.n o.rev).2=16)
 else if o.k=3 then decide ((s.openM (D9 o.n) o.n).2=(if D9 o.n=true then 0 else 5))
 else true
def Ae5 (o:Opn):SV:=if o.k=3∧D9 o.n=true then r1 o.n else r0
theorem Ahx {m:Nat} {s:Sto} (h:SInv m s) (hm:m≤80000) (o:Opn) (hn:o.n.length≤1000) (hl:o.l.length≤1000):
 Fn Tryd.prog Agu [sP s,r0,.v o.toI] (Is (.v (.bool (Aia s o))) [sP (s.stepM o),Ae5 o,.no]):=by
 refine Agq ?_ (by simp)
 obtain⟨k,n,l,x,rev,most⟩:=o
 dsimp only at hn hl
 unfold Aia Ae5 Sto.stepM Opn.toI
 dsimp only
 by_cases k0:k=0
 ·subst k0
  simp only[if_true]
  have hw:=Air h hm n l hn hl
  have hv:=Ajv n (l.map Chg.toI)
  generalize s.writeM n l=Z at*
  obtain⟨s',a,b⟩:=Z
  dsimp only at hw ⊢
  repeat'((conv=>whnf);first|((with_reducible refine Ax (by first|((with_reducible refine decide_eq_true ?_);omega)|(with_reducible rfl)) (fun hb=>?_));(try rw[hb]);(try simp only[Aa,Bool.false_eq_true,Bool.true_eq_false]at hb))|((with_reducible refine Aw (by(with_reducible rfl)) (fun hb=>?_));(try rw[hb]);(try simp only[Aa,Bool.false_eq_true,Bool.true_eq_false]at hb))|((with_reducible refine And.intro (fun hb=>?_) (fun hb=>?_))<;>(((try rw[hb]);(try simp only[Aa,Bool.false_eq_true,Bool.true_eq_false]at hb);(try subst hb))))|((with_reducible refine Exists.intro ?_ ?_);focus (and_intros<;>first|omega|kernel_rfl|(intro _ hh;cases hh;done)|(simp;done)|decide))|((with_reducible refine CallWp.mk ?_);refine⟨_,hw,?_⟩;rintro _ _ ⟨rfl,rfl⟩)|((with_reducible refine CallWp.mk ?_);refine⟨_,hv,?_⟩;rintro _ _ ⟨rfl,rfl⟩))
  all_goals(try(conv=>whnf))
  all_goals((apply dKq<;>kernel_rfl))
 rw[if_neg k0,if_neg k0]
 have g0:¬decide (k=0)=true:=by simpa using k0
 by_cases k1:k=1
 ·subst k1
  simp only[if_true]
  have hw:=Aff h hm n hn x rev most
  have hv:=Aju n x rev most
  have hsl:=Aiz s n x rev most
  generalize s.rangeM n x rev most=Z at*
  obtain⟨a,b,c⟩:=Z
  dsimp only at hw hsl ⊢
  have hs:=Agx a [] (by omega)
  simp only[List.map_nil]at hs
  generalize decide (a=[])=t at*
  rw[if_neg (show ¬(1:Int)=2 by decide),if_neg (show ¬(1:Int)=3 by decide),if_neg (show ¬((1:Int)=3∧D9 n=true)by simp)]
  repeat'((conv=>whnf);first|((with_reducible refine Ax (by first|((with_reducible refine decide_eq_true ?_);omega)|(with_reducible rfl)) (fun hb=>?_));(try rw[hb]);(try simp only[Aa,Bool.false_eq_true,Bool.true_eq_false]at hb))|((with_reducible refine Aw (by first|(with_reducible exact Bool.of_not_eq_true (by assumption))|(with_reducible rfl)) (fun hb=>?_));(try rw[hb]);(try simp only[Aa,Bool.false_eq_true,Bool.true_eq_false]at hb))|((with_reducible refine And.intro (fun hb=>?_) (fun hb=>?_))<;>(((try rw[hb]);(try simp only[Aa,Bool.false_eq_true,Bool.true_eq_false]at hb);(try subst hb))))|((with_reducible refine Exists.intro ?_ ?_);focus (and_intros<;>first|omega|kernel_rfl|(intro _ hh;cases hh;done)|(simp;done)|decide))|((with_reducible refine CallWp.mk ?_);refine⟨_,hw,?_⟩;rintro _ _ ⟨rfl,rfl⟩)|((with_reducible refine CallWp.mk ?_);refine⟨_,hv,?_⟩;rintro _ _ ⟨rfl,rfl⟩)|((with_reducible refine CallWp.mk ?_);refine⟨_,hs,?_⟩;rintro _ _ ⟨rfl,rfl⟩))
  all_goals(try(conv=>whnf))
  all_goals((apply dKq<;>kernel_rfl))
 rw[if_neg k1]
 have g1:¬decide (k=1)=true:=by simpa using k1
 by_cases k2:k=2
 ·subst k2
  simp only[if_true]
  have hw:=Ai3 h hm n rev
  have hv:=Ajw n rev
  generalize s.compM n rev=Z at*
  obtain⟨s',a⟩:=Z
  dsimp only at hw ⊢
  repeat'((conv=>whnf);first|((with_reducible refine Ax (by first|((with_reducible refine decide_eq_true ?_);omega)|(with_reducible rfl)) (fun hb=>?_));(try rw[hb]);(try simp only[Aa,Bool.false_eq_true,Bool.true_eq_false]at hb))|((with_reducible refine Aw (by(with_reducible exact Bool.of_not_eq_true (by assumption))) (fun hb=>?_));(try rw[hb]);(try simp only[Aa,Bool.false_eq_true,Bool.true_eq_false]at hb))|((with_reducible refine Exists.intro ?_ ?_);focus (and_intros<;>first|omega|kernel_rfl|(intro _ hh;cases hh;done)|(simp;done)|decide))|((with_reducible refine Drawn.mkV ?_ ?_ ?_ (fun hfact=>?_));(focus kernel_rfl);(focus kernel_rfl);(focus kernel_rfl);(try simp only[dRS]at hfact))|((with_reducible refine CallIs.mk ?_);refine⟨_,_,hw,?_⟩)|((with_reducible refine CallIs.mk ?_);refine⟨_,_,hv,?_⟩))
  all_goals(try(conv=>whnf))
  refine Done.mk ?_ ?_
  ·refine And.intro ?_ ?_
   ·kernel_rfl
   ·kernel_rfl
  ·kernel_rfl
 rw[if_neg k2,if_neg k2]
 have g2:¬decide (k=2)=true:=by simpa using k2
 by_cases k3:k=3
 ·subst k3
  simp only[if_true,true_and]
  have hw:=Ag4 s n
  have hv:=Ajx n
  generalize s.openM (D9 n) n=Z at*
  obtain⟨s',a⟩:=Z
  generalize D9 n=b at*
  dsimp only at hw ⊢
  cases b with
  |true=>
   simp only[if_true]at hv ⊢
   repeat'((conv=>whnf);first|((with_reducible refine Ax (by first|((with_reducible refine decide_eq_true ?_);omega)|(with_reducible rfl)) (fun hb=>?_));(try rw[hb]);(try simp only[Aa,Bool.false_eq_true,Bool.true_eq_false]at hb))|((with_reducible refine Aw (by(with_reducible exact Bool.of_not_eq_true (by assumption))) (fun hb=>?_));(try rw[hb]);(try simp only[Aa,Bool.false_eq_true,Bool.true_eq_false]at hb))|((with_reducible refine Exists.intro ?_ ?_);focus (and_intros<;>first|omega|kernel_rfl|(intro _ hh;cases hh;done)|(simp;done)|decide))|((with_reducible refine Drawn.mkV ?_ ?_ ?_ (fun hfact=>?_));(focus kernel_rfl);(focus kernel_rfl);(focus kernel_rfl);(try simp only[dRS]at hfact))|((with_reducible refine CallIs.mk ?_);refine⟨_,_,hw,?_⟩)|((with_reducible refine CallIs.mk ?_);refine⟨_,_,hv,?_⟩))
   all_goals(try(conv=>whnf))
   (apply dKq<;>kernel_rfl)
  |false=>
   simp only[Bool.false_eq_true,if_false]at hv ⊢
   repeat'((conv=>whnf);first|((with_reducible refine Ax (by first|((with_reducible refine decide_eq_true ?_);omega)|(with_reducible rfl)) (fun hb=>?_));(try rw[hb]);(try simp only[Aa,Bool.false_eq_true,Bool.true_eq_false]at hb))|((with_reducible refine Aw (by(with_reducible exact Bool.of_not_eq_true (by assumption))) (fun hb=>?_));(try rw[hb]);(try simp only[Aa,Bool.false_eq_true,Bool.true_eq_false]at hb))|((with_reducible refine Exists.intro ?_ ?_);focus (and_intros<;>first|omega|kernel_rfl|(intro _ hh;cases hh;done)|(simp;done)|decide))|((with_reducible refine Drawn.mkV ?_ ?_ ?_ (fun hfact=>?_));(focus kernel_rfl);(focus kernel_rfl);(focus kernel_rfl);(try simp only[dRS]at hfact))|((with_reducible refine CallIs.mk ?_);refine⟨_,_,hw,?_⟩)|((with_reducible refine CallIs.mk ?_);refine⟨_,_,hv,?_⟩))
   all_goals(try(conv=>whnf))
   (apply dKq<;>kernel_rfl)
 have g3:¬decide (k=3)=true:=by simpa using k3
 rw[if_neg k3,if_neg k3,if_neg (fun c=>k3 c.1)]
 repeat'((conv=>whnf);first|((with_reducible refine Aw (by(with_reducible exact Bool.of_not_eq_true (by assumption))) (fun hb=>?_));(try rw[hb]);(try simp only[Aa,Bool.false_eq_true,Bool.true_eq_false]at hb))|((with_reducible refine Exists.intro ?_ ?_);focus (and_intros<;>first|omega|kernel_rfl|(simp;done))))
 all_goals(try(conv=>whnf))
 (apply dKq<;>kernel_rfl)

open Go.Proofs
def Opn.hd (j:Nat) (o:Opn):Prop:=100≤j∨40<o.l.length∨1000<o.n.length∨1000<o.x.f.length∨1000<o.x.t.length
instance (j:Nat) (o:Opn):Decidable (o.hd j):=by unfold Opn.hd;infer_instance
def Chg.big (c:Chg):Prop:=1000<c.key.length∨1000<c.val.length
instance (c:Chg):Decidable c.big:=by unfold Chg.big;infer_instance
def cGo:List Chg→Bool
 | []=>false
 |c::r=>if c.big then true else cGo r
def F9:Nat→List Opn→Bool
 |_,[]=>false
 |j,o::r=>if o.hd j then true else if cGo o.l=true then true else F9 (j+1) r
theorem Ahr:∀{l:List Opn} {j:Nat},F9 j l=false→j≤100→j+l.length≤100∧∀o∈l,o.l.length≤40∧o.n.length≤1000
 | [],j,_,hj=>⟨by simpa using hj,by simp⟩
 |o::r,j,h,hj=>by
  unfold F9 at h
  split at h
  ·cases h
  ·rename_i h1
   split at h
   ·cases h
   ·unfold Opn.hd at h1
    obtain⟨a,b⟩:=Ahr h (by omega)
    refine⟨by rw[List.length_cons];omega,fun x hx=>?_⟩
    rcases List.mem_cons.1 hx with rfl|hx
    ·exact⟨by omega,by omega⟩
    ·exact b x hx
theorem Ls (l:List Opn):Fn Tryd.prog Agk [.v (.list (l.map Opn.toI))] (Is (.v (.bool (F9 0 l))) [.no]):=by
 refine Agh ?_ (by simp)
 obtain⟨RES,hRES⟩:∃R,F9 0 l=R:=⟨_,rfl⟩
 rw[hRES]
 repeat'((conv=>whnf);first|((with_reducible refine Exists.intro ?_ ?_);focus (and_intros<;>(with_reducible rfl)))|(with_reducible intro hfact))
 all_goals(try(conv=>whnf))
 have hl:l.length≤9223372036854775807:=by simpa[maxLen]using hfact
 refine LoopWq.by (X:=Nat) (fun j=>[(9,.v (ti (j:Int)))]) (fun j=>j≤l.length∧F9 j (l.drop j)=RES) (fun j=>l.length - j) 0 (by kernel_rfl) ⟨Nat.zero_le _,hRES⟩ ?_
 rintro j ⟨hj,hR⟩
 (try dsimp only at hj hR ⊢)
 by_cases hjl:j<l.length
 case neg=>
  have h3:¬decide ((j:Int)<((l.map Opn.toI).length:Int))=true:=by simp;omega
  have h4:¬decide ((j:Int)<(l.length:Int))=true:=by simp;omega
  rw[List.drop_eq_nil_of_le (by omega)]at hR
  have hR:false=RES:=hR
  subst hR
  repeat'((conv=>whnf);((with_reducible refine Aw (by first|(with_reducible assumption)|(with_reducible exact Bool.of_not_eq_true (by assumption))) (fun hb=>?_));(try rw[hb]);(try simp only[Aa,Bool.false_eq_true,Bool.true_eq_false]at hb)))
  all_goals(try(conv=>whnf))
  (apply dKq<;>kernel_rfl)
 have hw:IntKind.i64.wrap ((j:Int)+1)=((j+1:Nat):Int):=(Bf (by omega)).trans (by omega)
 obtain⟨o,ho⟩:∃x,l[j]?=some x:=⟨_,List.getElem?_eq_getElem hjl⟩
 have h3:¬decide ((j:Int)<((l.map Opn.toI).length:Int))=false:=by simp;omega
 have h4:¬decide ((j:Int)<(l.length:Int))=false:=by simp;omega
 have hdr:l.drop j=o::l.drop (j+1):=by rw[List.drop_eq_getElem_cons hjl];rw[List.getElem?_eq_getElem hjl]at ho;cases ho;rfl
 rw[hdr]at hR
 unfold F9 at hR
 by_cases hd:o.hd j
 ·rw[if_pos hd]at hR
  subst hR
  obtain⟨k,n,cl,⟨xf,xt⟩,rev,most⟩:=o
  unfold Opn.hd at hd
  (try dsimp only at hd)
  have g1:(decide ((100:Int)≤(j:Int)))=decide (100≤j):=by simp;omega
  have hcl:(cl.map Chg.toI).length=cl.length:=List.length_map _
  repeat'((conv=>whnf);first|((with_reducible refine Ax (by first|(with_reducible assumption)|(with_reducible exact Bool.of_not_eq_false (by assumption))|(with_reducible rfl)) (fun hb=>?_));(try rw[hb]);(try simp only[Aa,Bool.false_eq_true,Bool.true_eq_false]at hb))|((with_reducible refine Aw (by(with_reducible rfl)) (fun hb=>?_));(try rw[hb]);(try simp only[Aa,Bool.false_eq_true,Bool.true_eq_false]at hb))|((with_reducible refine And.intro (fun hb=>?_) (fun hb=>?_))<;>first|(exfalso;((simp only[LENS]at hb<;>omega)))|((try rw[hb]);(try simp only[Aa,Bool.false_eq_true,Bool.true_eq_false]at hb)))|((with_reducible refine Exists.intro ?_ ?_);focus (and_intros<;>first|omega|(with_reducible rfl)|kernel_rfl|(simp;done)))|(with_reducible intro hfact)|((try dsimp only);(rw[B6 ho]))|((try dsimp only);rw[hcl]))
  all_goals(try(conv=>whnf))
  all_goals((apply dKq<;>kernel_rfl))
 rw[if_neg hd]at hR
 obtain⟨k,n,cl,⟨xf,xt⟩,rev,most⟩:=o
 unfold Opn.hd at hd
 (try dsimp only at hd hR)
 have hcl:(cl.map Chg.toI).length=cl.length:=List.length_map _
 have hclm:cl.length≤40:=by omega
 repeat'((conv=>whnf);first|((with_reducible refine Ax (by(with_reducible exact Bool.of_not_eq_false (by assumption))) (fun hb=>?_));(try rw[hb]);(try simp only[Aa,Bool.false_eq_true,Bool.true_eq_false]at hb))|((with_reducible refine Aw (by first|((with_reducible refine decide_eq_false ?_);omega)|(with_reducible rfl)) (fun hb=>?_));(try rw[hb]);(try simp only[Aa,Bool.false_eq_true,Bool.true_eq_false]at hb))|((with_reducible refine And.intro (fun hb=>?_) (fun hb=>?_))<;>first|(exfalso;((simp only[LENS]at hb<;>omega)))|((try rw[hb]);(try simp only[Aa,Bool.false_eq_true,Bool.true_eq_false]at hb)))|((with_reducible refine Exists.intro ?_ ?_);focus (and_intros<;>first|omega|(with_reducible rfl)|kernel_rfl|(simp;done)))|(with_reducible intro hfact)|((try dsimp only);(rw[B6 ho]))|((try dsimp only);rw[hcl]))
 all_goals(try(conv=>whnf))
 refine LoopWq.by (X:=Nat) (fun q=>[(47,.v (ti (q:Int)))]) (fun q=>q≤cl.length∧(if cGo (cl.drop q)=true then true else F9 (j+1) (l.drop (j+1)))=RES) (fun q=>cl.length - q) 0 (by kernel_rfl) ⟨Nat.zero_le _,hR⟩ ?_
 rintro q ⟨hq,hQ⟩
 (try dsimp only at hq hQ ⊢)
 have hw2:IntKind.i64.wrap ((q:Int)+1)=((q+1:Nat):Int):=(Bf (by omega)).trans (by omega)
 by_cases hql:q<cl.length
 case neg=>
  have h5:¬decide ((q:Int)<((cl.map Chg.toI).length:Int))=true:=by simp;omega
  have h6:¬decide ((q:Int)<(cl.length:Int))=true:=by simp;omega
  rw[List.drop_eq_nil_of_le (by omega)]at hQ
  have hQ:F9 (j+1) (l.drop (j+1))=RES:=hQ
  repeat'((conv=>whnf);first|((with_reducible refine Aw (by(with_reducible exact Bool.of_not_eq_true (by assumption))) (fun hb=>?_));(try rw[hb]);(try simp only[Aa,Bool.false_eq_true,Bool.true_eq_false]at hb))|(skip;rw[hw]))
  all_goals(try(conv=>whnf))
  refine Round.by (j+1) ?_ ⟨by omega,hQ⟩ (by omega)
  try dsimp only
  show norm _ _=upd _ _
  kernel_rfl
 obtain⟨c,hc⟩:∃x,cl[q]?=some x:=⟨_,List.getElem?_eq_getElem hql⟩
 have h5:¬decide ((q:Int)<((cl.map Chg.toI).length:Int))=false:=by simp;omega
 have h6:¬decide ((q:Int)<(cl.length:Int))=false:=by simp;omega
 have hdq:cl.drop q=c::cl.drop (q+1):=by rw[List.drop_eq_getElem_cons hql];rw[List.getElem?_eq_getElem hql]at hc;cases hc;rfl
 rw[hdq]at hQ
 unfold cGo at hQ
 obtain⟨ck,cv,cg⟩:=c
 by_cases hb:(Chg.mk ck cv cg).big
 ·rw[if_pos hb]at hQ
  have hQ:true=RES:=hQ
  subst hQ
  unfold Chg.big at hb
  (try dsimp only at hb)
  repeat'((conv=>whnf);first|((with_reducible refine Ax (by first|(with_reducible assumption)|(with_reducible exact Bool.of_not_eq_false (by assumption))|(with_reducible rfl)) (fun hb=>?_));(try rw[hb]);(try simp only[Aa,Bool.false_eq_true,Bool.true_eq_false]at hb))|((with_reducible refine Aw (by(with_reducible rfl)) (fun hb=>?_));(try rw[hb]);(try simp only[Aa,Bool.false_eq_true,Bool.true_eq_false]at hb))|((with_reducible refine And.intro (fun hb=>?_) (fun hb=>?_))<;>first|(exfalso;((simp only[LENS]at hb<;>omega)))|((try rw[hb]);(try simp only[Aa,Bool.false_eq_true,Bool.true_eq_false]at hb)))|((with_reducible refine Exists.intro ?_ ?_);focus (and_intros<;>first|omega|(with_reducible rfl)|kernel_rfl|(simp;done)))|(with_reducible intro hfact)|((try dsimp only);(rw[B6 hc])))
  all_goals(try(conv=>whnf))
  all_goals((apply dKq<;>kernel_rfl))
 ·rw[if_neg hb]at hQ
  unfold Chg.big at hb
  (try dsimp only at hb)
  repeat'((conv=>whnf);first|((with_reducible refine Ax (by(with_reducible exact Bool.of_not_eq_false (by assumption))) (fun hb=>?_));(try rw[hb]);(try simp only[Aa,Bool.false_eq_true,Bool.true_eq_false]at hb))|((with_reducible refine Aw (by(with_reducible rfl)) (fun hb=>?_));(try rw[hb]);(try simp only[Aa,Bool.false_eq_true,Bool.true_eq_false]at hb))|((with_reducible refine And.intro (fun hb=>?_) (fun hb=>?_))<;>first|(exfalso;((simp only[LENS]at hb<;>omega)))|((try rw[hb]);(try simp only[Aa,Bool.false_eq_true,Bool.true_eq_false]at hb)))|((with_reducible refine Exists.intro ?_ ?_);focus (and_intros<;>first|omega|(with_reducible rfl)|kernel_rfl|(simp;done)))|(with_reducible intro hfact)|((try dsimp only);(rw[B6 hc]))|((try dsimp only);rw[hw2]))
  all_goals(try(conv=>whnf))
  refine Round.by (q+1) ?_ ⟨by omega,hQ⟩ (by omega)
  try dsimp only
  show norm _ _=upd _ _
  kernel_rfl

open Go.Proofs
def sto2:Sto:=⟨[([116],tal0),([117],tal0)],[]⟩
theorem Ai9:(Sto.mk [] []).openM (D9 [116]) [116]=(⟨[([116],tal0)],[]⟩,0):=by
 rw[show D9 [116]=true by rfl];rfl
theorem Aja:(Sto.mk [([116],tal0)] []).openM (D9 [117]) [117]=(sto2,0):=by
 rw[show D9 [117]=true by rfl];rfl
theorem inv2:SInv 0 sto2:=by
 have h1:=Ajr.open (nm:=D9 [116]) [116] Aha
 rw[Ai9]at h1
 have h2:=h1.open (nm:=D9 [117]) [117] Aha
 rw[Aja]at h2
 exact h2
def Mg:List Opn→Sto→Sto
 | [],s=>s
 |o::r,s=>Mg r (s.stepM o)
def Aiw (l:List Opn):Prop:=∀o∈l,o.l.length≤40∧o.n.length≤1000
theorem Ah3:∀{l:List Opn} {m:Nat} {s:Sto},SInv m s→Aiw l→m+41*l.length≤80000→SInv (m+41*l.length) (Mg l s)
 | [],m,s,h,_,_=>h
 |o::r,m,s,h,hok,hm=>by
  rw[List.length_cons]at hm ⊢
  have h1:=hok o (List.mem_cons_self ..)
  have h2:=(h.step o (by omega)).mono (show m+o.l.length+1≤m+41 by omega)
  have h3:=Ah3 h2 (fun x hx=>hok x (List.mem_cons_of_mem _ hx)) (by omega)
  rw[show m+41*(r.length+1)=m+41+41*r.length by omega]
  exact h3
theorem Ahh:∀{l:List Opn} {s:Sto} {n:Az},(s.fi n).isSome=true→((Mg l s).fi n).isSome=true
 | [],s,n,h=>h
 |o::r,s,n,h=>Ahh (l:=r) (s:=s.stepM o) (Aiv h)
theorem Aiq (l:List Opn) (hl:l.length≤100) (hok:Aiw l):Fn Tryd.prog Lr [.v (.list (l.map Opn.toI))] (Is (sP (Mg l sto2)) [.no]):=by
 refine Af7 ?_ (by simp)
 have ho1:=Ag4 ⟨[],[]⟩ [116]
 rw[Ai9]at ho1
 have ho2:=Ag4 ⟨[([116],tal0)],[]⟩ [117]
 rw[Aja]at ho2
 repeat'((conv=>whnf);first|((with_reducible refine Exists.intro ?_ ?_);focus (and_intros<;>first|(with_reducible rfl)|kernel_rfl|(intro _ hh;cases hh;done)|(simp;done)|decide))|(with_reducible intro hfact)|((with_reducible refine CallWp.mk ?_);refine⟨_,Adg,?_⟩;rintro _ _ ⟨rfl,rfl⟩)|((with_reducible refine CallWp.mk ?_);refine⟨_,ho1,?_⟩;rintro _ _ ⟨rfl,rfl⟩)|((with_reducible refine CallWp.mk ?_);refine⟨_,ho2,?_⟩;rintro _ _ ⟨rfl,rfl⟩))
 all_goals(try(conv=>whnf))
 refine LoopWq.by (X:=Nat × Sto) (fun y=>[(13,.v (ti (y.1:Int))),(3,sP y.2)]) (fun y=>y.1≤l.length∧SInv (41*y.1) y.2∧Mg (l.drop y.1) y.2=Mg l sto2) (fun y=>l.length - y.1) (0,sto2) (by kernel_rfl) ⟨Nat.zero_le _,inv2,rfl⟩ ?_
 rintro⟨j,s⟩ ⟨hj,hI,hR⟩
 dsimp only at hj hI hR ⊢
 have hw:IntKind.i64.wrap ((j:Int)+1)=((j+1:Nat):Int):=(Bf (by omega)).trans (by omega)
 by_cases hjl:j<l.length
 case neg=>
  have h3:¬decide ((j:Int)<((l.map Opn.toI).length:Int))=true:=by simp;omega
  have h4:¬decide ((j:Int)<(l.length:Int))=true:=by simp;omega
  rw[List.drop_eq_nil_of_le (by omega)]at hR
  have hR:s=Mg l sto2:=hR
  subst hR
  repeat'((conv=>whnf);((with_reducible refine Aw (by(with_reducible exact Bool.of_not_eq_true (by assumption))) (fun hb=>?_));(try rw[hb]);(try simp only[Aa,Bool.false_eq_true,Bool.true_eq_false]at hb)))
  all_goals(try(conv=>whnf))
  trace_state
  (apply dKq<;>kernel_rfl)
 obtain⟨o,ho⟩:∃x,l[j]?=some x:=⟨_,List.getElem?_eq_getElem hjl⟩
 have h3:¬decide ((j:Int)<((l.map Opn.toI).length:Int))=false:=by simp;omega
 have h4:¬decide ((j:Int)<(l.length:Int))=false:=by simp;omega
 have hdr:l.drop j=o::l.drop (j+1):=by rw[List.drop_eq_getElem_cons hjl];rw[List.getElem?_eq_getElem hjl]at ho;cases ho;rfl
 rw[hdr]at hR
 have hoo:=hok o (List.mem_of_getElem? ho)
 have hd:=Ahx hI (by omega) o hoo.2 (by omega)
 have hI2:=(hI.step o (by omega)).mono (show 41*j+o.l.length+1≤41*(j+1)by omega)
 replace hR:Mg (l.drop (j+1)) (s.stepM o)=Mg l sto2:=hR
 generalize s.stepM o=s' at*
 generalize Aia s o=b at hd
 have hdr:Ae5 o=r0∨Ae5 o=r1 o.n:=by unfold Ae5;split<;>simp
 generalize Ae5 o=R at hd hdr
 obtain⟨k,n,cl,x,rev,most⟩:=o
 rcases hdr with rfl|rfl
 ·repeat'((conv=>whnf);first|((with_reducible refine Ax (by(with_reducible exact Bool.of_not_eq_false (by assumption))) (fun hb=>?_));(try rw[hb]);(try simp only[Aa,Bool.false_eq_true,Bool.true_eq_false]at hb))|((with_reducible refine Exists.intro ?_ ?_);focus (and_intros<;>first|omega|kernel_rfl|(intro _ hh;cases hh;done)|(simp;done)|decide))|((try dsimp only);(rw[B6 ho]))|((with_reducible refine CallWp.mk ?_);refine⟨_,hd,?_⟩;rintro _ _ ⟨rfl,rfl⟩)|(skip;rw[hw]))
  all_goals(try(conv=>whnf))
  refine Round.by (j+1,s') ?_ ⟨by omega,hI2,hR⟩ (by dsimp only;omega)
  try dsimp only
  show norm _ _=upd _ _
  kernel_rfl
 ·repeat'((conv=>whnf);first|((with_reducible refine Ax (by(with_reducible exact Bool.of_not_eq_false (by assumption))) (fun hb=>?_));(try rw[hb]);(try simp only[Aa,Bool.false_eq_true,Bool.true_eq_false]at hb))|((with_reducible refine Exists.intro ?_ ?_);focus (and_intros<;>first|omega|kernel_rfl|(intro _ hh;cases hh;done)|(simp;done)|decide))|((try dsimp only);(rw[B6 ho]))|((with_reducible refine CallWp.mk ?_);refine⟨_,hd,?_⟩;rintro _ _ ⟨rfl,rfl⟩)|((try dsimp only);rw[hw]))
  all_goals(try(conv=>whnf))
  refine Round.by (j+1,s') ?_ ⟨by omega,hI2,hR⟩ (by dsimp only;omega)
  try dsimp only
  show norm _ _=upd _ _
  kernel_rfl

open Go.Proofs
theorem Ah8 (l l2:List Opn) (x:Sp) (hg:F9 0 l=true∨F9 0 l2=true∨1000<x.f.length∨1000<x.t.length):
 Fn Tryd.prog Lf [.v (.list (l.map Opn.toI)),.v (.list (l2.map Opn.toI)),.v x.toI] (Is (.v (.bool true)) [.no,.no,.no]):=by
 refine Lq ?_ (by simp)
 have h1:=Ls l
 have h2:=Ls l2
 generalize F9 0 l=b1 at*
 generalize F9 0 l2=b2 at*
 obtain⟨xf,xt⟩:=x
 dsimp only at hg
 cases b1 with
 |true=>
  repeat'((conv=>whnf);first|((with_reducible refine Ax (by(with_reducible rfl)) (fun hb=>?_));(try rw[hb]);(try simp only[Aa,Bool.false_eq_true,Bool.true_eq_false]at hb))|((with_reducible refine And.intro (fun hb=>?_) (fun hb=>?_))<;>first|(exact absurd hb (by decide))|((try rw[hb]);(try simp only[Aa,Bool.false_eq_true,Bool.true_eq_false]at hb)))|((with_reducible refine Exists.intro ?_ ?_);focus (and_intros<;>first|(intro _ hh;cases hh;done)|(simp;done)|decide))|((with_reducible refine CallWp.mk ?_);refine⟨_,Wv,?_⟩;rintro _ _ ⟨rfl,rfl⟩)|((with_reducible refine CallWp.mk ?_);refine⟨_,h1,?_⟩;rintro _ _ ⟨rfl,rfl⟩))
  all_goals(try(conv=>whnf))
  all_goals((apply dKq<;>kernel_rfl))
 |false=>
 cases b2 with
 |true=>
  repeat'((conv=>whnf);first|((with_reducible refine Ax (by(with_reducible rfl)) (fun hb=>?_));(try rw[hb]);(try simp only[Aa,Bool.false_eq_true,Bool.true_eq_false]at hb))|((with_reducible refine Aw (by(with_reducible rfl)) (fun hb=>?_));(try rw[hb]);(try simp only[Aa,Bool.false_eq_true,Bool.true_eq_false]at hb))|((with_reducible refine And.intro (fun hb=>?_) (fun hb=>?_))<;>first|(exact absurd hb (by decide))|((try rw[hb]);(try simp only[Aa,Bool.false_eq_true,Bool.true_eq_false]at hb)))|((with_reducible refine Exists.intro ?_ ?_);focus (and_intros<;>first|(intro _ hh;cases hh;done)|(simp;done)|decide))|((with_reducible refine CallWp.mk ?_);refine⟨_,Wv,?_⟩;rintro _ _ ⟨rfl,rfl⟩)|((with_reducible refine CallWp.mk ?_);refine⟨_,h1,?_⟩;rintro _ _ ⟨rfl,rfl⟩)|((with_reducible refine CallWp.mk ?_);refine⟨_,h2,?_⟩;rintro _ _ ⟨rfl,rfl⟩))
  all_goals(try(conv=>whnf))
  all_goals((apply dKq<;>kernel_rfl))
 |false=>
 have hg:1000<xf.length∨1000<xt.length:=by simpa using hg
 repeat'((conv=>whnf);first|((with_reducible refine Ax (by(with_reducible rfl)) (fun hb=>?_));(try rw[hb]);(try simp only[Aa,Bool.false_eq_true,Bool.true_eq_false]at hb))|((with_reducible refine Aw (by(with_reducible rfl)) (fun hb=>?_));(try rw[hb]);(try simp only[Aa,Bool.false_eq_true,Bool.true_eq_false]at hb))|((with_reducible refine And.intro (fun hb=>?_) (fun hb=>?_))<;>first|(exact absurd hb (by decide))|(exfalso;((simp only[LENS]at hb<;>omega)))|((try rw[hb]);(try simp only[Aa,Bool.false_eq_true,Bool.true_eq_false]at hb)))|((with_reducible refine Exists.intro ?_ ?_);focus (and_intros<;>first|omega|(with_reducible rfl)|kernel_rfl|(intro _ hh;cases hh;done)|(simp;done)|decide))|(with_reducible intro hfact)|((with_reducible refine CallWp.mk ?_);refine⟨_,Wv,?_⟩;rintro _ _ ⟨rfl,rfl⟩)|((with_reducible refine CallWp.mk ?_);refine⟨_,h1,?_⟩;rintro _ _ ⟨rfl,rfl⟩)|((with_reducible refine CallWp.mk ?_);refine⟨_,h2,?_⟩;rintro _ _ ⟨rfl,rfl⟩))
 all_goals(try(conv=>whnf))
 all_goals((apply dKq<;>kernel_rfl))
theorem Ahg (l l2:List Opn) (x:Sp) (b1:F9 0 l=false) (b2:F9 0 l2=false) (hx1:x.f.length≤1000) (hx2:x.t.length≤1000) (S:Sto) (hS:Mg l sto2=S) (hI:SInv 4100 S) (hf:(S.fi [116]).isSome=true)
 (hp:Fn Tryd.prog Lr [.v (.list (l.map Opn.toI))] (Is (sP S) [.no])) (hbad:¬SpR x∨(SpR x∧(S.tal [116]).rev=0)):
 Fn Tryd.prog Lf [.v (.list (l.map Opn.toI)),.v (.list (l2.map Opn.toI)),.v x.toI] (Is (.v (.bool true)) [.no,.no,.no]):=by
 refine Lq ?_ (by simp)
 have h1:=Ls l
 have h2:=Ls l2
 rw[b1]at h1
 rw[b2]at h2
 have hrev:=Aih S [116]
 have hrg:=Aff hI (by omega) [116] (by decide) x 0 16
 have hsr:=Pu x
 have hr0:=hI.rv [116]
 rcases hbad with hb|⟨hb,h0⟩
 ·have hM:S.rangeM [116] x 0 16=([],false,1):=by
   unfold Sto.rangeM
   rw[if_neg (by obtain⟨i,hi⟩:=Option.isSome_iff_exists.1 hf;rw[hi];simp),if_pos (fun c=>hb c.1)]
  rw[hM]at hrg
  rw[decide_eq_false hb]at hsr
  dsimp only at hrg
  generalize (S.tal [116]).rev=R at*
  obtain⟨xf,xt⟩:=x
  dsimp only at hx1 hx2
  repeat'((conv=>whnf);first|((with_reducible refine Aw (by first|(with_reducible assumption)|(with_reducible rfl)) (fun hb=>?_));(try rw[hb]);(try simp only[Aa,Bool.false_eq_true,Bool.true_eq_false]at hb))|((with_reducible refine And.intro (fun hb=>?_) (fun hb=>?_))<;>first|(exact absurd hb (by decide))|(exfalso;((simp only[LENS]at hb<;>omega)))|((try rw[hb]);(try simp only[Aa,Bool.false_eq_true,Bool.true_eq_false]at hb)))|((with_reducible refine Exists.intro ?_ ?_);focus (and_intros<;>first|omega|(with_reducible rfl)|kernel_rfl|(intro _ hh;cases hh;done)|(simp;done)|decide))|(with_reducible intro hfact)|((with_reducible refine CallWp.mk ?_);refine⟨_,Wv,?_⟩;rintro _ _ ⟨rfl,rfl⟩)|((with_reducible refine CallWp.mk ?_);refine⟨_,h1,?_⟩;rintro _ _ ⟨rfl,rfl⟩)|((with_reducible refine CallWp.mk ?_);refine⟨_,h2,?_⟩;rintro _ _ ⟨rfl,rfl⟩))
  all_goals(try(conv=>whnf))
  generalize hKK:F7 Tryd.prog _ _=KK
  as_aux_lemma=>
   repeat'((conv=>whnf);first|((with_reducible refine Exists.intro ?_ ?_);focus (and_intros<;>first|omega|(intro _ hh;cases hh;done)|(simp;done)))|((with_reducible refine CallWp.mk ?_);refine⟨_,hp,?_⟩;rintro _ _ ⟨rfl,rfl⟩))
   all_goals(try(conv=>whnf))
   rw[←hKK]
   clear hKK
   as_aux_lemma=>
    repeat'((conv=>whnf);first|((with_reducible refine Ax (by first|(with_reducible assumption)|((with_reducible refine decide_eq_true ?_);omega)|(with_reducible rfl)) (fun hb=>?_));(try rw[hb]);(try simp only[Aa,Bool.false_eq_true,Bool.true_eq_false]at hb))|((with_reducible refine Aw (by first|(with_reducible assumption)|((with_reducible refine decide_eq_false ?_);first|(with_reducible assumption)|omega)|(with_reducible rfl)) (fun hb=>?_));(try rw[hb]);(try simp only[Aa,Bool.false_eq_true,Bool.true_eq_false]at hb))|((with_reducible refine And.intro (fun hb=>?_) (fun hb=>?_))<;>first|(exact absurd hb (by decide))|((try rw[hb]);(try simp only[Aa,Bool.false_eq_true,Bool.true_eq_false]at hb);(try subst hb)))|((with_reducible refine Exists.intro ?_ ?_);focus (and_intros<;>first|omega|kernel_rfl|(intro _ hh;cases hh;done)|(simp;done)|decide))|((with_reducible refine CallWp.mk ?_);refine⟨_,hrev,?_⟩;rintro _ _ ⟨rfl,rfl⟩)|((with_reducible refine CallWp.mk ?_);refine⟨_,hrg,?_⟩;rintro _ _ ⟨rfl,rfl⟩)|((with_reducible refine CallWp.mk ?_);refine⟨_,hsr,?_⟩;rintro _ _ ⟨rfl,rfl⟩))
    all_goals(try(conv=>whnf))
    all_goals((apply dKq<;>kernel_rfl))
 ·rw[Ag3 hI hf hb ⟨by omega,by omega,.inl rfl⟩ (by decide)]at hrg
  rw[h0]at hrev
  dsimp only at hrg
  generalize (List.map Pr.toI (Mf x 16 (Lh [116] (if(0:Int)=0 then(S.tal [116]).rev else 0) S.l) []).1)=A at*
  generalize (Mf x 16 (Lh [116] (if(0:Int)=0 then(S.tal [116]).rev else 0) S.l) []).2=B at*
  obtain⟨xf,xt⟩:=x
  dsimp only at hx1 hx2
  repeat'((conv=>whnf);first|((with_reducible refine Aw (by first|(with_reducible assumption)|(with_reducible rfl)) (fun hb=>?_));(try rw[hb]);(try simp only[Aa,Bool.false_eq_true,Bool.true_eq_false]at hb))|((with_reducible refine And.intro (fun hb=>?_) (fun hb=>?_))<;>first|(exact absurd hb (by decide))|(exfalso;((simp only[LENS]at hb<;>omega)))|((try rw[hb]);(try simp only[Aa,Bool.false_eq_true,Bool.true_eq_false]at hb)))|((with_reducible refine Exists.intro ?_ ?_);focus (and_intros<;>first|omega|(with_reducible rfl)|kernel_rfl|(intro _ hh;cases hh;done)|(simp;done)|decide))|(with_reducible intro hfact)|((with_reducible refine CallWp.mk ?_);refine⟨_,Wv,?_⟩;rintro _ _ ⟨rfl,rfl⟩)|((with_reducible refine CallWp.mk ?_);refine⟨_,h1,?_⟩;rintro _ _ ⟨rfl,rfl⟩)|((with_reducible refine CallWp.mk ?_);refine⟨_,h2,?_⟩;rintro _ _ ⟨rfl,rfl⟩))
  all_goals(try(conv=>whnf))
  generalize hKK:F7 Tryd.prog _ _=KK
  as_aux_lemma=>
   repeat'((conv=>whnf);first|((with_reducible refine Exists.intro ?_ ?_);focus (and_intros<;>first|omega|(intro _ hh;cases hh;done)|(simp;done)))|((with_reducible refine CallWp.mk ?_);refine⟨_,hp,?_⟩;rintro _ _ ⟨rfl,rfl⟩))
   all_goals(try(conv=>whnf))
   rw[←hKK]
   clear hKK
   as_aux_lemma=>
    repeat'((conv=>whnf);first|((with_reducible refine Ax (by first|(with_reducible assumption)|((with_reducible refine decide_eq_true ?_);omega)|(with_reducible rfl)) (fun hb=>?_));(try rw[hb]);(try simp only[Aa,Bool.false_eq_true,Bool.true_eq_false]at hb))|((with_reducible refine Exists.intro ?_ ?_);focus (and_intros<;>first|omega|kernel_rfl|(intro _ hh;cases hh;done)|(simp;done)|decide))|((with_reducible refine CallWp.mk ?_);refine⟨_,hrev,?_⟩;rintro _ _ ⟨rfl,rfl⟩)|((with_reducible refine CallWp.mk ?_);refine⟨_,hrg,?_⟩;rintro _ _ ⟨rfl,rfl⟩))
    all_goals(try(conv=>whnf))
    all_goals((apply dKq<;>kernel_rfl))

open Go.Proofs
theorem Aif (l l2:List Opn) (x:Sp) (b1:F9 0 l=false) (b2:F9 0 l2=false) (hx1:x.f.length≤1000) (hx2:x.t.length≤1000) (S:Sto) (hI:SInv 4100 S) (hf:(S.fi [116]).isSome=true)
 (hp:Fn Tryd.prog Lr [.v (.list (l.map Opn.toI))] (Is (sP S) [.no])) (hx:SpR x) (R:Int) (hR:(S.tal [116]).rev=R) (hR0:R≠0) (hl2:l2.length≤100) (hok:Aiw l2) (A:List Pr) (B:Bool) (hAB:Mf x 16 (Lh [116] R S.l) []=(A,B)):
 Fn Tryd.prog Lf [.v (.list (l.map Opn.toI)),.v (.list (l2.map Opn.toI)),.v x.toI] (Is (.v (.bool true)) [.no,.no,.no]):=by
 refine Lq ?_ (by simp)
 have h1:=Ls l
 have h2:=Ls l2
 rw[b1]at h1
 rw[b2]at h2
 have hrev:=Aih S [116]
 have hrg:=Aff hI (by omega) [116] (by decide) x 0 16
 have hr0:=hI.rv [116]
 have hA16:A.length≤16:=by
  have:=Ag2 (x:=x) (most:=16) (l:=Lh [116] R S.l) (out:=[]) (by simp)
  rw[hAB]at this
  dsimp only at this
  omega
 rw[Ag3 hI hf hx ⟨by omega,by omega,.inl rfl⟩ (by decide),if_pos rfl]at hrg
 rw[hR]at hrev hrg hr0
 rw[hAB]at hrg
 dsimp only at hrg
 have hsame:=Agx A A (by omega)
 rw[decide_eq_true rfl]at hsame
 have hR1:¬decide (R=0)=true:=by simpa using hR0
 have hxl1:¬decide ((1000:Int)<(x.f.length:Int))=true:=by simp;omega
 have hxl2:¬decide ((1000:Int)<(x.t.length:Int))=true:=by simp;omega
 repeat'((conv=>whnf);first|((with_reducible refine Aw (by first|(with_reducible assumption)|(with_reducible exact Bool.of_not_eq_true (by assumption))|(with_reducible rfl)) (fun hb=>?_));(try rw[hb]);(try simp only[Aa,Bool.false_eq_true,Bool.true_eq_false]at hb))|((with_reducible refine And.intro (fun hb=>?_) (fun hb=>?_))<;>first|(exact absurd hb (by decide))|((try rw[hb]);(try simp only[Aa,Bool.false_eq_true,Bool.true_eq_false]at hb)))|((with_reducible refine Exists.intro ?_ ?_);focus (and_intros<;>first|omega|(with_reducible rfl)|kernel_rfl|(intro _ hh;cases hh;done)|(simp;done)|decide))|(with_reducible intro hfact)|((with_reducible refine CallWp.mk ?_);refine⟨_,Wv,?_⟩;rintro _ _ ⟨rfl,rfl⟩)|((with_reducible refine CallWp.mk ?_);refine⟨_,h1,?_⟩;rintro _ _ ⟨rfl,rfl⟩)|((with_reducible refine CallWp.mk ?_);refine⟨_,h2,?_⟩;rintro _ _ ⟨rfl,rfl⟩))
 all_goals(try(conv=>whnf))
 generalize hKK:F7 Tryd.prog _ _=KK
 as_aux_lemma=>
  repeat'((conv=>whnf);first|((with_reducible refine Exists.intro ?_ ?_);focus (and_intros<;>first|omega|(intro _ hh;cases hh;done)|(simp;done)))|((with_reducible refine CallWp.mk ?_);refine⟨_,hp,?_⟩;rintro _ _ ⟨rfl,rfl⟩))
  all_goals(try(conv=>whnf))
  rw[←hKK]
  clear hKK
  as_aux_lemma=>
   repeat'((conv=>whnf);first|((with_reducible refine Aw (by first|(with_reducible assumption)|(with_reducible exact Bool.of_not_eq_true (by assumption))|(with_reducible rfl)) (fun hb=>?_));(try rw[hb]);(try simp only[Aa,Bool.false_eq_true,Bool.true_eq_false]at hb))|((with_reducible refine And.intro (fun hb=>?_) (fun hb=>?_))<;>first|(exact absurd hb (by decide))|((try rw[hb]);(try simp only[Aa,Bool.false_eq_true,Bool.true_eq_false]at hb)))|((with_reducible refine Exists.intro ?_ ?_);focus (and_intros<;>first|omega|(with_reducible rfl)|kernel_rfl|(intro _ hh;cases hh;done)|(simp;done)|decide))|(with_reducible intro hfact)|((with_reducible refine CallWp.mk ?_);refine⟨_,hrev,?_⟩;rintro _ _ ⟨rfl,rfl⟩)|((with_reducible refine CallWp.mk ?_);refine⟨_,hrg,?_⟩;rintro _ _ ⟨rfl,rfl⟩))
   all_goals(try(conv=>whnf))
   refine LoopWq.by (X:=Nat × Sto) (fun y=>[(67,.v (ti (y.1:Int))),(38,sP y.2)]) (fun y=>y.1≤l2.length∧SInv (4100+41*y.1) y.2∧(y.2.fi [116]).isSome=true∧R≤(y.2.tal [116]).rev∧(y.2.tal [116]).floor≤R∧Lh [116] R y.2.l=Lh [116] R S.l) (fun y=>l2.length - y.1) (0,S) (by kernel_rfl) ⟨Nat.zero_le _,hI,hf,(by show R≤(S.tal [116]).rev;omega),(by show(S.tal [116]).floor≤R;omega),rfl⟩ ?_
   rintro⟨j,s⟩ ⟨hj,hI1,hf1,hr1,hr2,hv⟩
   dsimp only at hj hI1 hf1 hr1 hr2 hv ⊢
   have hw:IntKind.i64.wrap ((j:Int)+1)=((j+1:Nat):Int):=(Bf (by omega)).trans (by omega)
   by_cases hjl:j<l2.length
   case neg=>
    have h3:¬decide ((j:Int)<((l2.map Opn.toI).length:Int))=true:=by simp;omega
    have h4:¬decide ((j:Int)<(l2.length:Int))=true:=by simp;omega
    repeat'((conv=>whnf);((with_reducible refine Aw (by first|(with_reducible assumption)|(with_reducible exact Bool.of_not_eq_true (by assumption))) (fun hb=>?_));(try rw[hb]);(try simp only[Aa,Bool.false_eq_true,Bool.true_eq_false]at hb)))
    all_goals(try(conv=>whnf))
    (apply dKq<;>kernel_rfl)
   obtain⟨o,ho⟩:∃x,l2[j]?=some x:=⟨_,List.getElem?_eq_getElem hjl⟩
   have h3:¬decide ((j:Int)<((l2.map Opn.toI).length:Int))=false:=by simp;omega
   have h4:¬decide ((j:Int)<(l2.length:Int))=false:=by simp;omega
   have hoo:=hok o (List.mem_of_getElem? ho)
   have hd:=Ahx hI1 (by omega) o hoo.2 (by omega)
   have hI2:=(hI1.step o (by omega)).mono (show 4100+41*j+o.l.length+1≤4100+41*(j+1)by omega)
   have hf2:=Aiv (o:=o) hf1
   have hr3:=Int.le_trans hr1 (Ajo (s:=s) (o:=o) [116])
   have hv2:=fun hfl=>(Ajh hI1 o (n:=[116]) (rev:=R) hr1 hfl).trans hv
   generalize s.stepM o=s' at*
   generalize Aia s o=b at hd
   have hdr:Ae5 o=r0∨Ae5 o=r1 o.n:=by unfold Ae5;split<;>simp
   generalize Ae5 o=Q at hd hdr
   have hflo:=Ai4 s' [116]
   have hrg2:=Aff hI2 (by omega) [116] (by decide) x R 16
   by_cases hfl:R<(s'.tal [116]).floor
   ·have hM:s'.rangeM [116] x R 16=([],false,14):=by
     unfold Sto.rangeM
     rw[if_neg (by obtain⟨i,hi⟩:=Option.isSome_iff_exists.1 hf2;rw[hi];simp),if_neg (fun c=>c ⟨hx,by omega,by omega,by omega⟩),if_neg (by omega),if_pos (by omega)]
    rw[hM]at hrg2
    dsimp only at hrg2
    have hfb:¬decide (R<(s'.tal [116]).floor)=false:=by simpa using hfl
    generalize (s'.tal [116]).floor=FL at hflo hfb hfl
    obtain⟨k,n,cl,⟨xf,xt⟩,rev,most⟩:=o
    rcases hdr with rfl|rfl
    ·repeat'((conv=>whnf);first|((with_reducible refine Ax (by first|(with_reducible assumption)|(with_reducible exact Bool.of_not_eq_false (by assumption))|((with_reducible refine decide_eq_true ?_);omega)|(with_reducible rfl)) (fun hb=>?_));(try rw[hb]);(try simp only[Aa,Bool.false_eq_true,Bool.true_eq_false]at hb))|((with_reducible refine Exists.intro ?_ ?_);focus (and_intros<;>first|omega|(with_reducible rfl)|kernel_rfl|(intro _ hh;cases hh;done)|(simp;done)|decide))|(with_reducible intro hfact)|((try dsimp only);(rw[B6 ho]))|((with_reducible refine CallWp.mk ?_);refine⟨_,hd,?_⟩;rintro _ _ ⟨rfl,rfl⟩)|((with_reducible refine CallWp.mk ?_);refine⟨_,hrg2,?_⟩;rintro _ _ ⟨rfl,rfl⟩)|((with_reducible refine CallWp.mk ?_);refine⟨_,hflo,?_⟩;rintro _ _ ⟨rfl,rfl⟩))
     all_goals(try(conv=>whnf))
     (apply dKq<;>kernel_rfl)
    ·repeat'((conv=>whnf);first|((with_reducible refine Ax (by first|(with_reducible assumption)|(with_reducible exact Bool.of_not_eq_false (by assumption))|((with_reducible refine decide_eq_true ?_);omega)|(with_reducible rfl)) (fun hb=>?_));(try rw[hb]);(try simp only[Aa,Bool.false_eq_true,Bool.true_eq_false]at hb))|((with_reducible refine Exists.intro ?_ ?_);focus (and_intros<;>first|omega|(with_reducible rfl)|kernel_rfl|(intro _ hh;cases hh;done)|(simp;done)|decide))|(with_reducible intro hfact)|((try dsimp only);(rw[B6 ho]))|((with_reducible refine CallWp.mk ?_);refine⟨_,hd,?_⟩;rintro _ _ ⟨rfl,rfl⟩)|((with_reducible refine CallWp.mk ?_);refine⟨_,hrg2,?_⟩;rintro _ _ ⟨rfl,rfl⟩)|((with_reducible refine CallWp.mk ?_);refine⟨_,hflo,?_⟩;rintro _ _ ⟨rfl,rfl⟩))
     all_goals(try(conv=>whnf))
     (apply dKq<;>kernel_rfl)
   ·rw[Ag3 hI2 hf2 hx ⟨by omega,by omega,.inr (by omega)⟩ (by decide),if_neg hR0,hv2 (by omega),hAB]at hrg2
    dsimp only at hrg2
    have hfb:¬decide (R<(s'.tal [116]).floor)=true:=by simpa using hfl
    have hnx:j+1≤l2.length∧SInv (4100+41*(j+1)) s'∧(s'.fi [116]).isSome=true∧R≤(s'.tal [116]).rev∧(s'.tal [116]).floor≤R∧Lh [116] R s'.l=Lh [116] R S.l:=⟨by omega,hI2,hf2,hr3,by omega,hv2 (by omega)⟩
    generalize (s'.tal [116]).floor=FL at hflo hfb
    obtain⟨k,n,cl,⟨xf,xt⟩,rev,most⟩:=o
    have hBB:¬(!decide (B=B))=true:=by simp
    rcases hdr with rfl|rfl
    ·repeat'((conv=>whnf);first|((with_reducible refine Ax (by first|(with_reducible assumption)|(with_reducible exact Bool.of_not_eq_false (by assumption))) (fun hb=>?_));(try rw[hb]);(try simp only[Aa,Bool.false_eq_true,Bool.true_eq_false]at hb))|((with_reducible refine Aw (by first|(with_reducible assumption)|(with_reducible exact Bool.of_not_eq_true (by assumption))|(with_reducible rfl)) (fun hb=>?_));(try rw[hb]);(try simp only[Aa,Bool.false_eq_true,Bool.true_eq_false]at hb))|((with_reducible refine And.intro (fun hb=>?_) (fun hb=>?_))<;>first|(exact absurd hb (by decide))|((try rw[hb]);(try simp only[Aa,Bool.false_eq_true,Bool.true_eq_false]at hb)))|((with_reducible refine Exists.intro ?_ ?_);focus (and_intros<;>first|omega|kernel_rfl|(intro _ hh;cases hh;done)|(simp;done)|decide))|((try dsimp only);(rw[B6 ho]))|((with_reducible refine CallWp.mk ?_);refine⟨_,hd,?_⟩;rintro _ _ ⟨rfl,rfl⟩)|((with_reducible refine CallWp.mk ?_);refine⟨_,hrg2,?_⟩;rintro _ _ ⟨rfl,rfl⟩)|((with_reducible refine CallWp.mk ?_);refine⟨_,hflo,?_⟩;rintro _ _ ⟨rfl,rfl⟩)|((with_reducible refine CallWp.mk ?_);refine⟨_,hsame,?_⟩;rintro _ _ ⟨rfl,rfl⟩)|(skip;rw[hw]))
     all_goals(try(conv=>whnf))
     refine Round.by (j+1,s') ?_ hnx (by dsimp only;omega)
     try dsimp only
     show norm _ _=upd _ _
     kernel_rfl
    ·repeat'((conv=>whnf);first|((with_reducible refine Ax (by first|(with_reducible assumption)|(with_reducible exact Bool.of_not_eq_false (by assumption))) (fun hb=>?_));(try rw[hb]);(try simp only[Aa,Bool.false_eq_true,Bool.true_eq_false]at hb))|((with_reducible refine Aw (by first|(with_reducible assumption)|(with_reducible exact Bool.of_not_eq_true (by assumption))|(with_reducible rfl)) (fun hb=>?_));(try rw[hb]);(try simp only[Aa,Bool.false_eq_true,Bool.true_eq_false]at hb))|((with_reducible refine And.intro (fun hb=>?_) (fun hb=>?_))<;>first|(exact absurd hb (by decide))|((try rw[hb]);(try simp only[Aa,Bool.false_eq_true,Bool.true_eq_false]at hb)))|((with_reducible refine Exists.intro ?_ ?_);focus (and_intros<;>first|omega|kernel_rfl|(intro _ hh;cases hh;done)|(simp;done)|decide))|((try dsimp only);(rw[B6 ho]))|((with_reducible refine CallWp.mk ?_);refine⟨_,hd,?_⟩;rintro _ _ ⟨rfl,rfl⟩)|((with_reducible refine CallWp.mk ?_);refine⟨_,hrg2,?_⟩;rintro _ _ ⟨rfl,rfl⟩)|((with_reducible refine CallWp.mk ?_);refine⟨_,hflo,?_⟩;rintro _ _ ⟨rfl,rfl⟩)|((with_reducible refine CallWp.mk ?_);refine⟨_,hsame,?_⟩;rintro _ _ ⟨rfl,rfl⟩)|((try dsimp only);rw[hw]))
     all_goals(try(conv=>whnf))
     refine Round.by (j+1,s') ?_ hnx (by dsimp only;omega)
     try dsimp only
     show norm _ _=upd _ _
     kernel_rfl
theorem Ajs (l l2:List Opn) (x:Sp):Fn Tryd.prog Lf [.v (.list (l.map Opn.toI)),.v (.list (l2.map Opn.toI)),.v x.toI] (Is (.v (.bool true)) [.no,.no,.no]):=by
 by_cases hg:F9 0 l=true∨F9 0 l2=true∨1000<x.f.length∨1000<x.t.length
 ·exact Ah8 l l2 x hg
 have b1:F9 0 l=false:=by cases h:F9 0 l with|false=>rfl|true=>exact absurd (.inl h) hg
 have b2:F9 0 l2=false:=by cases h:F9 0 l2 with|false=>rfl|true=>exact absurd (.inr (.inl h)) hg
 have hx1:x.f.length≤1000:=by omega
 have hx2:x.t.length≤1000:=by omega
 obtain⟨g1,g2⟩:=Ahr b1 (by omega)
 obtain⟨g3,g4⟩:=Ahr b2 (by omega)
 have hp:=Aiq l (by omega) g2
 have hI:=(Ah3 inv2 g2 (by omega)).mono (show 0+41*l.length≤4100 by omega)
 have hf:((Mg l sto2).fi [116]).isSome=true:=Ahh (by rfl)
 by_cases hx:SpR x
 ·by_cases h0:((Mg l sto2).tal [116]).rev=0
  ·exact Ahg l l2 x b1 b2 hx1 hx2 _ rfl hI hf hp (.inr ⟨hx,h0⟩)
  ·exact Aif l l2 x b1 b2 hx1 hx2 _ hI hf hp hx _ rfl h0 (by omega) g4 _ _ rfl
 ·exact Ahg l l2 x b1 b2 hx1 hx2 _ rfl hI hf hp (.inl hx)
end Go.Ab
