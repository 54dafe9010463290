/- Lemmas -/
import Derived.Test.YtkpojedpcabojaaDoorX2
set_option linter.unusedVariables false
set_option linter.unusedSimpArgs false
set_option maxRecDepth 100000
set_option maxHeartbeats 40000000
namespace Go.Ab
open Go.Proofs
def Opn.hd(j:Nat)(o:Opn):Prop:=100≤j∨40<o.l.length∨1000<o.n.length∨1000<o.x.f.length∨1000<o.x.t.length
instance(j:Nat)(o:Opn):Decidable (o.hd j):=by unfold Opn.hd;infer_instance
def Chg.big(c:Chg):Prop:=1000<c.key.length∨1000<c.val.length
instance(c:Chg):Decidable c.big:=by unfold Chg.big;infer_instance
def cGo:List Chg→Bool
 | []=>false
 |c::r=>if c.big then true else cGo r
def Ai:Nat→List Opn→Bool
 |_,[]=>false
 |j,o::r=>if o.hd j then true else if cGo o.l=true then true else Ai (j+1) r
theorem Ef:∀{l:List Opn} {j:Nat},Ai j l=false→j≤100→j+l.length≤100∧∀o∈l,o.l.length≤40∧o.n.length≤1000
 | [],j,_,hj=>⟨by simpa using hj,by simp⟩
 |o::r,j,h,hj=>by
  unfold Ai at h;split at h
  ·cases h
  ·rename_i h1;split at h
   ·cases h
   ·unfold Opn.hd at h1;obtain⟨a,b⟩:=Ef h (by omega)
    refine⟨by rw[List.length_cons];omega,fun x hx=>?_⟩
    rcases List.mem_cons.1 hx with rfl|hx
    ·exact⟨by omega,by omega⟩
    ·exact b x hx
theorem Bv(l:List Opn):Fn Tryd.prog C7 [.v (.list (l.map Opn.toI))] (Is (.v (.bool (Ai 0 l))) [.no]):=by
 refine Cx ?_ (by simp)
 obtain⟨RES,hRES⟩:∃R,Ai 0 l=R:=⟨_,rfl⟩;rw[hRES];repeat'((conv=>whnf);first|((with_reducible refine Exists.intro ?_ ?_);focus (and_intros<;>(with_reducible rfl)))|(with_reducible intro hfact))
 all_goals(try(conv=>whnf))
 have hl:l.length≤9223372036854775807:=by simpa[maxLen]using hfact
 refine LoopWq.by (X:=Nat) (fun j=>[(9,.v (ti (j:Int)))]) (fun j=>j≤l.length∧Ai j (l.drop j)=RES) (fun j=>l.length - j) 0 (by kernel_rfl) ⟨Nat.zero_le _,hRES⟩ ?_
 rintro j ⟨hj,hR⟩
 (try dsimp only at hj hR ⊢)
 by_cases hjl:j<l.length
 case neg=>
  have h3:¬decide ((j:Int)<((l.map Opn.toI).length:Int))=true:=by simp;omega
  have h4:¬decide ((j:Int)<(l.length:Int))=true:=by simp;omega
  rw[List.drop_eq_nil_of_le (by omega)]at hR
  have hR:false=RES:=hR;subst hR;repeat'((conv=>whnf);((with_reducible refine Aw (by first|(with_reducible assumption)|(with_reducible exact Bool.of_not_eq_true (by assumption))) (fun hb=>?_));(try rw[hb]);(try simp only[Aa]at hb)))
  all_goals(try(conv=>whnf))
  (apply dKq<;>kernel_rfl)
 have hw:IntKind.i64.wrap ((j:Int)+1)=((j+1:Nat):Int):=(Bf (by omega)).trans (by omega)
 obtain⟨o,ho⟩:∃x,l[j]?=some x:=⟨_,List.getElem?_eq_getElem hjl⟩;have h3:¬decide ((j:Int)<((l.map Opn.toI).length:Int))=false:=by simp;omega
 have h4:¬decide ((j:Int)<(l.length:Int))=false:=by simp;omega
 have hdr:l.drop j=o::l.drop (j+1):=by rw[List.drop_eq_getElem_cons hjl];rw[List.getElem?_eq_getElem hjl]at ho;cases ho;rfl
 rw[hdr]at hR;unfold Ai at hR;by_cases hd:o.hd j
 ·rw[if_pos hd]at hR;subst hR;obtain⟨k,n,cl,⟨xf,xt⟩,rev,most⟩:=o;unfold Opn.hd at hd
  (try dsimp only at hd)
  have g1:(decide ((100:Int)≤(j:Int)))=decide (100≤j):=by simp;omega
  have hcl:(cl.map Chg.toI).length=cl.length:=List.length_map _;repeat'((conv=>whnf);first|((with_reducible refine Ax (by first|(with_reducible assumption)|(with_reducible exact Bool.of_not_eq_false (by assumption))|(with_reducible rfl)) (fun hb=>?_));(try rw[hb]);(try simp only[Aa]at hb))|((with_reducible refine Aw (by(with_reducible rfl)) (fun hb=>?_));(try rw[hb]);(try simp only[Aa]at hb))|((with_reducible refine And.intro (fun hb=>?_) (fun hb=>?_))<;>first|(exfalso;((simp only[LENS]at hb<;>omega)))|((try rw[hb]);(try simp only[Aa]at hb)))|((with_reducible refine Exists.intro ?_ ?_);focus (and_intros<;>first|omega|(with_reducible rfl)|kernel_rfl|(simp;done)))|(with_reducible intro hfact)|((try dsimp only);(rw[B6 ho]))|((try dsimp only);rw[hcl]))
  all_goals(try(conv=>whnf))
  all_goals((apply dKq<;>kernel_rfl))
 rw[if_neg hd]at hR;obtain⟨k,n,cl,⟨xf,xt⟩,rev,most⟩:=o;unfold Opn.hd at hd
 (try dsimp only at hd hR)
 have hcl:(cl.map Chg.toI).length=cl.length:=List.length_map _;have hclm:cl.length≤40:=by omega
 repeat'((conv=>whnf);first|((with_reducible refine Ax (by(with_reducible exact Bool.of_not_eq_false (by assumption))) (fun hb=>?_));(try rw[hb]);(try simp only[Aa]at hb))|((with_reducible refine Aw (by first|((with_reducible refine decide_eq_false ?_);omega)|(with_reducible rfl)) (fun hb=>?_));(try rw[hb]);(try simp only[Aa]at hb))|((with_reducible refine And.intro (fun hb=>?_) (fun hb=>?_))<;>first|(exfalso;((simp only[LENS]at hb<;>omega)))|((try rw[hb]);(try simp only[Aa]at hb)))|((with_reducible refine Exists.intro ?_ ?_);focus (and_intros<;>first|omega|(with_reducible rfl)|kernel_rfl|(simp;done)))|(with_reducible intro hfact)|((try dsimp only);(rw[B6 ho]))|((try dsimp only);rw[hcl]))
 all_goals(try(conv=>whnf))
 refine LoopWq.by (X:=Nat) (fun q=>[(47,.v (ti (q:Int)))]) (fun q=>q≤cl.length∧(if cGo (cl.drop q)=true then true else Ai (j+1) (l.drop (j+1)))=RES) (fun q=>cl.length - q) 0 (by kernel_rfl) ⟨Nat.zero_le _,hR⟩ ?_
 rintro q ⟨hq,hQ⟩
 (try dsimp only at hq hQ ⊢)
 have hw2:IntKind.i64.wrap ((q:Int)+1)=((q+1:Nat):Int):=(Bf (by omega)).trans (by omega)
 by_cases hql:q<cl.length
 case neg=>
  have h5:¬decide ((q:Int)<((cl.map Chg.toI).length:Int))=true:=by simp;omega
  have h6:¬decide ((q:Int)<(cl.length:Int))=true:=by simp;omega
  rw[List.drop_eq_nil_of_le (by omega)]at hQ
  have hQ:Ai (j+1) (l.drop (j+1))=RES:=hQ;repeat'((conv=>whnf);first|((with_reducible refine Aw (by(with_reducible exact Bool.of_not_eq_true (by assumption))) (fun hb=>?_));(try rw[hb]);(try simp only[Aa]at hb))|(skip;rw[hw]))
  all_goals(try(conv=>whnf))
  refine Round.by (j+1) ?_ ⟨by omega,hQ⟩ (by omega)
  try dsimp only
  show norm _ _=upd _ _
  kernel_rfl
 obtain⟨c,hc⟩:∃x,cl[q]?=some x:=⟨_,List.getElem?_eq_getElem hql⟩;have h5:¬decide ((q:Int)<((cl.map Chg.toI).length:Int))=false:=by simp;omega
 have h6:¬decide ((q:Int)<(cl.length:Int))=false:=by simp;omega
 have hdq:cl.drop q=c::cl.drop (q+1):=by rw[List.drop_eq_getElem_cons hql];rw[List.getElem?_eq_getElem hql]at hc;cases hc;rfl
 rw[hdq]at hQ;unfold cGo at hQ;obtain⟨ck,cv,cg⟩:=c;by_cases hb:(Chg.mk ck cv cg).big
 ·rw[if_pos hb]at hQ;have hQ:true=RES:=hQ;subst hQ;unfold Chg.big at hb
  (try dsimp only at hb)
  repeat'((conv=>whnf);first|((with_reducible refine Ax (by first|(with_reducible assumption)|(with_reducible exact Bool.of_not_eq_false (by assumption))|(with_reducible rfl)) (fun hb=>?_));(try rw[hb]);(try simp only[Aa]at hb))|((with_reducible refine Aw (by(with_reducible rfl)) (fun hb=>?_));(try rw[hb]);(try simp only[Aa]at hb))|((with_reducible refine And.intro (fun hb=>?_) (fun hb=>?_))<;>first|(exfalso;((simp only[LENS]at hb<;>omega)))|((try rw[hb]);(try simp only[Aa]at hb)))|((with_reducible refine Exists.intro ?_ ?_);focus (and_intros<;>first|omega|(with_reducible rfl)|kernel_rfl|(simp;done)))|(with_reducible intro hfact)|((try dsimp only);(rw[B6 hc])))
  all_goals(try(conv=>whnf))
  all_goals((apply dKq<;>kernel_rfl))
 ·rw[if_neg hb]at hQ;unfold Chg.big at hb
  (try dsimp only at hb)
  repeat'((conv=>whnf);first|((with_reducible refine Ax (by(with_reducible exact Bool.of_not_eq_false (by assumption))) (fun hb=>?_));(try rw[hb]);(try simp only[Aa]at hb))|((with_reducible refine Aw (by(with_reducible rfl)) (fun hb=>?_));(try rw[hb]);(try simp only[Aa]at hb))|((with_reducible refine And.intro (fun hb=>?_) (fun hb=>?_))<;>first|(exfalso;((simp only[LENS]at hb<;>omega)))|((try rw[hb]);(try simp only[Aa]at hb)))|((with_reducible refine Exists.intro ?_ ?_);focus (and_intros<;>first|omega|(with_reducible rfl)|kernel_rfl|(simp;done)))|(with_reducible intro hfact)|((try dsimp only);(rw[B6 hc]))|((try dsimp only);rw[hw2]))
  all_goals(try(conv=>whnf))
  refine Round.by (q+1) ?_ ⟨by omega,hQ⟩ (by omega)
  try dsimp only
  show norm _ _=upd _ _
  kernel_rfl

open Go.Proofs
def sto2:Sto:=⟨[([116],tal0),([117],tal0)],[]⟩
theorem Ai9:(Sto.mk [] []).openM (D9 [116]) [116]=(⟨[([116],tal0)],[]⟩,0):=by
 rw[show D9 [116]=true by rfl];rfl
theorem Aja:(Sto.mk [([116],tal0)] []).openM (D9 [117]) [117]=(sto2,0):=by
 rw[show D9 [117]=true by rfl];rfl
theorem inv2:SInv 0 sto2:=by
 have h1:=Ajr.open (nm:=D9 [116]) [116] Aha;rw[Ai9]at h1;have h2:=h1.open (nm:=D9 [117]) [117] Aha;rw[Aja]at h2;exact h2
def A0:List Opn→Sto→Sto
 | [],s=>s
 |o::r,s=>A0 r (s.stepM o)
def F2(l:List Opn):Prop:=∀o∈l,o.l.length≤40∧o.n.length≤1000
theorem E3:∀{l:List Opn} {m:Nat} {s:Sto},SInv m s→F2 l→m+41*l.length≤80000→SInv (m+41*l.length) (A0 l s)
 | [],m,s,h,_,_=>h
 |o::r,m,s,h,hok,hm=>by
  rw[List.length_cons]at hm ⊢;have h1:=hok o (List.mem_cons_self ..);have h2:=(h.step o (by omega)).mono (show m+o.l.length+1≤m+41 by omega)
  have h3:=E3 h2 (fun x hx=>hok x (List.mem_cons_of_mem _ hx)) (by omega)
  rw[show m+41*(r.length+1)=m+41+41*r.length by omega]
  exact h3
theorem Ed:∀{l:List Opn} {s:Sto} {n:Az},(s.fi n).isSome=true→((A0 l s).fi n).isSome=true
 | [],s,n,h=>h
 |o::r,s,n,h=>Ed (l:=r) (s:=s.stepM o) (F0 h)
theorem Fp(l:List Opn)(hl:l.length≤100)(hok:F2 l):Fn Tryd.prog A5 [.v (.list (l.map Opn.toI))] (Is (sP (A0 l sto2)) [.no]):=by
 refine Ch ?_ (by simp)
 have ho1:=Dy ⟨[],[]⟩ [116];rw[Ai9]at ho1;have ho2:=Dy ⟨[([116],tal0)],[]⟩ [117];rw[Aja]at ho2;repeat'((conv=>whnf);first|((with_reducible refine Exists.intro ?_ ?_);focus (and_intros<;>first|(with_reducible rfl)|kernel_rfl|(intro _ hh;cases hh;done)|(simp;done)|decide))|(with_reducible intro hfact)|((with_reducible refine CallWp.mk ?_);refine⟨_,Adg,?_⟩;rintro _ _ ⟨rfl,rfl⟩)|((with_reducible refine CallWp.mk ?_);refine⟨_,ho1,?_⟩;rintro _ _ ⟨rfl,rfl⟩)|((with_reducible refine CallWp.mk ?_);refine⟨_,ho2,?_⟩;rintro _ _ ⟨rfl,rfl⟩))
 all_goals(try(conv=>whnf))
 refine LoopWq.by (X:=Nat × Sto) (fun y=>[(13,.v (ti (y.1:Int))),(3,sP y.2)]) (fun y=>y.1≤l.length∧SInv (41*y.1) y.2∧A0 (l.drop y.1) y.2=A0 l sto2) (fun y=>l.length - y.1) (0,sto2) (by kernel_rfl) ⟨Nat.zero_le _,inv2,rfl⟩ ?_
 rintro⟨j,s⟩ ⟨hj,hI,hR⟩;dsimp only at hj hI hR ⊢;have hw:IntKind.i64.wrap ((j:Int)+1)=((j+1:Nat):Int):=(Bf (by omega)).trans (by omega)
 by_cases hjl:j<l.length
 case neg=>
  have h3:¬decide ((j:Int)<((l.map Opn.toI).length:Int))=true:=by simp;omega
  have h4:¬decide ((j:Int)<(l.length:Int))=true:=by simp;omega
  rw[List.drop_eq_nil_of_le (by omega)]at hR
  have hR:s=A0 l sto2:=hR;subst hR;repeat'((conv=>whnf);((with_reducible refine Aw (by(with_reducible exact Bool.of_not_eq_true (by assumption))) (fun hb=>?_));(try rw[hb]);(try simp only[Aa]at hb)))
  all_goals(try(conv=>whnf))
  trace_state
  (apply dKq<;>kernel_rfl)
 obtain⟨o,ho⟩:∃x,l[j]?=some x:=⟨_,List.getElem?_eq_getElem hjl⟩;have h3:¬decide ((j:Int)<((l.map Opn.toI).length:Int))=false:=by simp;omega
 have h4:¬decide ((j:Int)<(l.length:Int))=false:=by simp;omega
 have hdr:l.drop j=o::l.drop (j+1):=by rw[List.drop_eq_getElem_cons hjl];rw[List.getElem?_eq_getElem hjl]at ho;cases ho;rfl
 rw[hdr]at hR;have hoo:=hok o (List.mem_of_getElem? ho);have hd:=Ej hI (by omega) o hoo.2 (by omega)
 have hI2:=(hI.step o (by omega)).mono (show 41*j+o.l.length+1≤41*(j+1)by omega)
 replace hR:A0 (l.drop (j+1)) (s.stepM o)=A0 l sto2:=hR
 generalize s.stepM o=s' at*;generalize Fa s o=b at hd;have hdr:B4 o=r0∨B4 o=r1 o.n:=by unfold B4;split<;>simp
 generalize B4 o=R at hd hdr;obtain⟨k,n,cl,x,rev,most⟩:=o;rcases hdr with rfl|rfl
 ·repeat'((conv=>whnf);first|((with_reducible refine Ax (by(with_reducible exact Bool.of_not_eq_false (by assumption))) (fun hb=>?_));(try rw[hb]);(try simp only[Aa]at hb))|((with_reducible refine Exists.intro ?_ ?_);focus (and_intros<;>first|omega|kernel_rfl|(intro _ hh;cases hh;done)|(simp;done)|decide))|((try dsimp only);(rw[B6 ho]))|((with_reducible refine CallWp.mk ?_);refine⟨_,hd,?_⟩;rintro _ _ ⟨rfl,rfl⟩)|(skip;rw[hw]))
  all_goals(try(conv=>whnf))
  refine Round.by (j+1,s') ?_ ⟨by omega,hI2,hR⟩ (by dsimp only;omega)
  try dsimp only
  show norm _ _=upd _ _
  kernel_rfl
 ·repeat'((conv=>whnf);first|((with_reducible refine Ax (by(with_reducible exact Bool.of_not_eq_false (by assumption))) (fun hb=>?_));(try rw[hb]);(try simp only[Aa]at hb))|((with_reducible refine Exists.intro ?_ ?_);focus (and_intros<;>first|omega|kernel_rfl|(intro _ hh;cases hh;done)|(simp;done)|decide))|((try dsimp only);(rw[B6 ho]))|((with_reducible refine CallWp.mk ?_);refine⟨_,hd,?_⟩;rintro _ _ ⟨rfl,rfl⟩)|((try dsimp only);rw[hw]))
  all_goals(try(conv=>whnf))
  refine Round.by (j+1,s') ?_ ⟨by omega,hI2,hR⟩ (by dsimp only;omega)
  try dsimp only
  show norm _ _=upd _ _
  kernel_rfl

def A1(vs:List Ver):Ver:=vs.getLast?.getD ver0
def fK(n a:Az)(v:Ver):Int:=if(C1 a).1=n∧v.gone=false then 1 else 0
def fB(n a:Az)(v:Ver):Int:=if(C1 a).1=n∧v.gone=false then((C1 a).2.1.length:Int)+(v.val.length:Int)else 0
def sumF(f:Az→Ver→Int):List Hld→Int
 | []=>0
 |h::r=>f h.at_ (A1 h.vs)+sumF f r
theorem Aim(f:Az→Ver→Int):∀a b:List Hld,sumF f (a++b)=sumF f a+sumF f b
 | [],b=>by simp[sumF]
 |h::r,b=>by simp only[List.cons_append,sumF,Aim f r b];omega
theorem Aj0{f:Az→Ver→Int}{h:Hld}:∀{l:List Hld} {p:Nat} {e:Hld},l[p]?=some e→sumF f (l.set p h)=sumF f l - f e.at_ (A1 e.vs)+f h.at_ (A1 h.vs)
 | [],p,e,he=>by simp at he
 |x::r,0,e,he=>by
  simp only[List.getElem?_cons_zero,Option.some.injEq]at he;subst he;simp only[List.set_cons_zero,sumF];omega
 |x::r,p+1,e,he=>by
  simp only[List.getElem?_cons_succ]at he;simp only[List.set_cons_succ,sumF,Aj0 he];omega
theorem Aj4(vs:List Ver)(v:Ver):A1 (vs++[v])=v:=by simp[A1]
theorem Ai4{l:List Hld}{a:Az}{e:Hld}(hf:bsF (Kh a) (eqH a) l=true)(he:l[Km (Kh a) l]?=some e):Q1 l a=A1 e.vs:=by
 unfold Q1 Sto.lastM Sto.pi Sto.pf;dsimp only;rw[he];dsimp only;rw[if_pos hf];rfl
theorem Gs{f:Az→Ver→Int}{l:List Hld}{a:Az}{v:Ver}(h0:f a ver0=0):sumF f (putA l a v)=sumF f l - f a (Q1 l a)+f a v:=by
 unfold putA putL;split
 ·rename_i hf;obtain⟨e,h2,h3⟩:=Afp hf;have h4:e.at_=a:=by simpa[eqH]using h3
  rw[Zv h2,Aj0 h2,Ai4 hf h2];dsimp only;rw[Aj4,h4]
 ·rename_i hf;rw[show Q1 l a=ver0 from Sto.lastM_no (s:=⟨[],l⟩) (show bsF (Kh a) (eqH a) l=false by simpa using hf),h0]
  rw[Aim]
  conv=>rhs;rw[←List.take_append_drop (Km (Kh a) l) l,Aim]
  simp only[sumF,A1,List.getLast?_singleton,Option.getD_some];omega
theorem Ah8{n k:Az}{v:Ver}(hn:n.length<256):fK n (B7 n k) v=if v.gone=false then 1 else 0:=by
 unfold fK;rw[Mt hn];simp
theorem Ah7{n k:Az}{v:Ver}(hn:n.length<256):fB n (B7 n k) v=if v.gone=false then(k.length:Int)+(v.val.length:Int)else 0:=by
 unfold fB;rw[Mt hn];simp
theorem Akf{n n' k:Az}{v:Ver}(hn:n.length<256)(h:n'≠n):fK n' (B7 n k) v=0:=by
 unfold fK;rw[Mt hn,if_neg (fun c=>h c.1.symm)]
theorem Ake{n n' k:Az}{v:Ver}(hn:n.length<256)(h:n'≠n):fB n' (B7 n k) v=0:=by
 unfold fB;rw[Mt hn,if_neg (fun c=>h c.1.symm)]
theorem Af5{n a:Az}{v:Ver}(h:v.gone=true):fK n a v=0:=by unfold fK;rw[if_neg (fun c=>by rw[h]at c;cases c.2)]
theorem Lq{n a:Az}{v:Ver}(h:v.gone=true):fB n a v=0:=by unfold fB;rw[if_neg (fun c=>by rw[h]at c;cases c.2)]
theorem Ajs{n k:Az}{c:Chg}{x:WSt}(hn:n.length<256)(h1:x.t.keys=sumF (fK n) x.l)(h2:x.t.bytes=sumF (fB n) x.l):
 (Dw n k c x).t.keys=sumF (fK n) (Dw n k c x).l∧(Dw n k c x).t.bytes=sumF (fB n) (Dw n k c x).l:=by
 have g0:ver0.gone=true:=rfl;unfold Dw;dsimp only;split
 ·exact⟨h1,h2⟩
 ·rename_i hcw;split
  ·rename_i hc;have hw:(Q1 x.l (B7 n k)).gone=false:=by
    cases h:(Q1 x.l (B7 n k)).gone with
    |false=>rfl
    |true=>exact absurd ⟨hc,h⟩ hcw
   dsimp only;rw[Gs (Af5 g0),Gs (Lq g0),Ah8 hn,Ah8 hn,Ah7 hn,Ah7 hn,hw];simp only[if_true,Bool.true_eq_false,if_false];omega
  ·split
   ·rename_i hw;dsimp only;rw[Gs (Af5 g0),Gs (Lq g0),Ah8 hn,Ah8 hn,Ah7 hn,Ah7 hn,hw];simp only[if_true,Bool.true_eq_false,if_false];omega
   ·rename_i hw;have hw:(Q1 x.l (B7 n k)).gone=false:=by simpa using hw
    dsimp only;rw[Gs (Af5 g0),Gs (Lq g0),Ah8 hn,Ah8 hn,Ah7 hn,Ah7 hn,hw];simp only[if_true,Bool.true_eq_false,if_false];omega
theorem Ajy{n k n':Az}{c:Chg}{x:WSt}(hn:n.length<256)(h:n'≠n):
 sumF (fK n') (Dw n k c x).l=sumF (fK n') x.l∧sumF (fB n') (Dw n k c x).l=sumF (fB n') x.l:=by
 have g0:ver0.gone=true:=rfl;rcases Q7 n k c x with e|⟨v,_,e,_⟩
 ·rw[e];exact⟨rfl,rfl⟩
 ·rw[e,Gs (Af5 g0),Gs (Lq g0),Akf hn h,Akf hn h,Ake hn h,Ake hn h];omega
def VK(l:List Hld):Prop:=∀h∈l,(C1 h.at_).2.1.length≤64∧∀v∈h.vs,v.gone=false→1≤v.made∧v.made≤v.rev
theorem VK.put{l:List Hld}{n k:Az}{v:Ver}(h:VK l)(hn:n.length<256)(hk:k.length≤64)(hv:v.gone=false→1≤v.made∧v.made≤v.rev):VK (putA l (B7 n k) v):=by
 intro x hx;rcases Ajm hx with hx|rfl|⟨e,he,_,rfl⟩
 ·exact h x hx
 ·dsimp only;rw[Mt hn];exact⟨hk,fun w hw=>by simp only[List.mem_singleton]at hw;subst hw;exact hv⟩
 ·dsimp only;rw[Mt hn];refine⟨hk,fun w hw=>?_⟩
  rcases List.mem_append.1 hw with hw|hw
  ·exact(h e he).2 w hw
  ·simp only[List.mem_singleton]at hw;subst hw;exact hv
theorem Aj9(l:List Hld)(a:Az):Q1 l a=ver0∨∃e∈l,e.at_=a∧Q1 l a∈e.vs:=by
 cases hf:bsF (Kh a) (eqH a) l with
 |false=>exact .inl (Sto.lastM_no (s:=⟨[],l⟩) hf)
 |true=>
  obtain⟨e,h2,h3⟩:=Afp hf;rw[Ai4 hf h2];unfold A1;cases hl:e.vs.getLast? with
  |none=>exact .inl rfl
  |some v=>exact .inr ⟨e,List.mem_of_getElem? h2,by simpa[eqH]using h3,List.mem_of_getLast? hl⟩
theorem Aj1{n k:Az}{c:Chg}{x:WSt}{U:Az→Int}(hn:n.length<256)(hk:k.length≤64)(hr:0≤x.t.rev)(h:VK x.l)(hw:WInv U x.l)(hU:U (B7 n k)≤x.t.rev):VK (Dw n k c x).l:=by
 unfold Dw;dsimp only;split
 ·exact h
 ·split
  ·exact h.put hn hk (fun c=>by cases c)
  ·split
   ·exact h.put hn hk (fun _=>by dsimp only;omega)
   ·rename_i hg;refine h.put hn hk (fun _=>?_)
    dsimp only;rcases Aj9 x.l (B7 n k)with e|⟨e,he,hea,hm⟩
    ·rw[e]at hg;exact absurd rfl hg
    ·have h3:=(h e he).2 _ hm (by simpa using hg)
     have h4:=((hw.2 e he).2.2 _ hm).2;rw[hea]at h4;omega
theorem Aif{n:Az}{F:List Chg}{R:Az→Int}{r:Int}(hn:n.length<256)(hr:0≤r):∀{KK:List Az} {x:WSt},KK.Nodup→(∀k∈KK,k.length≤64)→x.t.rev=r→WInv (bndW n r R KK) x.l→VK x.l→x.t.keys=sumF (fK n) x.l→x.t.bytes=sumF (fB n) x.l→
 VK (Ge n F KK x).l∧(Ge n F KK x).t.keys=sumF (fK n) (Ge n F KK x).l∧(Ge n F KK x).t.bytes=sumF (fB n) (Ge n F KK x).l∧∀n',n'≠n→sumF (fK n') (Ge n F KK x).l=sumF (fK n') x.l∧sumF (fB n') (Ge n F KK x).l=sumF (fB n') x.l
 | [],x,_,_,_,_,h1,h2,h3=>⟨h1,h2,h3,fun _ _=>⟨rfl,rfl⟩⟩
 |k::KK,x,hd,hk,hx,hw,h1,h2,h3=>by
  obtain⟨d1,d2⟩:=List.nodup_cons.1 hd;have g1:=Ag6 (x:=x) (R:=R) (c:=getF F k) hn d1 (by omega) (by rw[hx];exact hw)
  rw[hx]at g1;have g2:=Aj1 (c:=getF F k) hn (hk k (List.mem_cons_self ..)) (by omega) h1 hw (by unfold bndW;rw[Mt hn,if_pos rfl,if_pos (List.mem_cons_self ..)];omega)
  obtain⟨g3,g4⟩:=Ajs (k:=k) (c:=getF F k) hn h2 h3;obtain⟨i1,i2,i3,i4⟩:=Aif (F:=F) (R:=R) hn hr (KK:=KK) (x:=Dw n k (getF F k) x) d2 (fun y hy=>hk y (List.mem_cons_of_mem _ hy)) ((Agt _ _ _ _).1.trans hx) g1 g2 g3 g4
  refine⟨i1,i2,i3,fun n' hn'=>?_⟩
  obtain⟨j1,j2⟩:=i4 n' hn';obtain⟨o1,o2⟩:=Ajy (k:=k) (c:=getF F k) (x:=x) hn hn';exact⟨j1.trans o1,j2.trans o2⟩
structure CInv(s:Sto):Prop where
 cnt:∀n,(s.tal n).keys=sumF (fK n) s.l∧(s.tal n).bytes=sumF (fB n) s.l
 vk:VK s.l
theorem CInv.write{m:Nat}{s:Sto}(h:SInv m s)(hc:CInv s)(n:Az)(cs:List Chg):CInv (s.writeM n cs).1:=by
 unfold Sto.writeM;split
 ·exact hc
 ·rename_i i hi;split
  ·exact hc
  ·rename_i F hF;obtain⟨f1,f2,_⟩:=Agz hF (by simp) (by simp)
   have hn:=h.name hi;obtain⟨g1,g2,g3,g4⟩:=Aif (F:=F) (R:=fun n=>(s.tal n).rev) (r:=(s.tal n).rev) hn (by have:=h.rv n;omega) (KK:=Dc (F.map Chg.key)) (x:=⟨s.tal n,s.l,false⟩) (Ahj f1) (fun k hk=>(Ajq f2 hk).1) rfl (h.start n _) hc.vk (hc.cnt n).1 (hc.cnt n).2
   generalize Ge n F (Dc (F.map Chg.key)) ⟨s.tal n,s.l,false⟩=Z at*;dsimp only at g1 g2 g3 g4;refine⟨fun n'=>?_,g1⟩
   rw[Mi hi];dsimp only;split
   ·rename_i e;subst e;unfold WSt.fin;split
    ·exact⟨g2,g3⟩
    ·exact⟨g2,g3⟩
   ·rename_i e;obtain⟨o1,o2⟩:=g4 n' e;rw[o1,o2];exact hc.cnt n'
theorem Aj2{r:Int}{vs:List Ver}(h0:vs≠[])(h:vs.length≤Lm r vs):(A1 vs).gone=true:=by
 have h1:=Ve r vs h0;unfold Lm at h;rw[List.getElem?_eq_getElem h1]at h;dsimp only at h;split at h
 ·rename_i hg;unfold A1;rw[List.getLast?_eq_getElem?,show vs.length - 1=Eo r vs by omega,List.getElem?_eq_getElem h1]
  exact hg.1
 ·omega
theorem Aj3{vs:List Ver}{k:Nat}(h:vs.drop k≠[]):A1 (vs.drop k)=A1 vs:=by
 unfold A1;rw[List.getLast?_drop,if_neg];intro c;exact h (List.drop_eq_nil_of_le c)
theorem Ahm{f:Az→Ver→Int}{n:Az}{r:Int}(hg:∀a v,v.gone=true→f a v=0):∀{l:List Hld},(∀h∈l,h.vs≠[])→sumF f (l.filterMap (Pf n r))=sumF f l
 | [],_=>rfl
 |h::t,h0=>by
  have ih:=Ahm (n:=n) (r:=r) hg (l:=t) fun x hx=>h0 x (List.mem_cons_of_mem _ hx)
  have hv:=h0 h (List.mem_cons_self ..);rw[List.filterMap_cons];cases e:Pf n r h with
  |none=>
   dsimp only;rw[ih,sumF];unfold Pf at e;split at e
   ·split at e
    ·rename_i hk;rw[hg _ _ (Aj2 hv hk)];omega
    ·cases e
   ·cases e
  |some h'=>
   obtain⟨a1,k,a2,a3⟩:=Agy e;dsimp only;have h4:=a3 hv;rw[sumF,sumF,ih,a1,a2,Aj3 (by rw[←a2];exact h4)]
theorem CInv.comp{m:Nat}{s:Sto}(h:SInv m s)(hc:CInv s)(n:Az)(rev:Int):CInv (s.compM n rev).1:=by
 unfold Sto.compM;split
 ·exact hc
 ·rename_i i hi;split
  ·obtain⟨c1,_⟩:=Ahp (n:=n) (rev:=rev) (l:=s.l) (x:=⟨[],0⟩);rw[List.nil_append]at c1;generalize Mz n rev s.l ⟨[],0⟩=Z at*;have h0:∀x∈s.l,x.vs≠[]:=fun x hx=>(h.lb.held x hx).2.1
   refine⟨fun n'=>?_,fun x hx=>?_⟩
   ·rw[Mi hi];dsimp only;rw[c1,Ahm (fun a v hg=>Af5 hg) h0,Ahm (fun a v hg=>Lq hg) h0]
    split
    ·rename_i e;subst e;exact hc.cnt n'
    ·exact hc.cnt n'
   ·dsimp only at hx;rw[c1]at hx;obtain⟨y,hy,e⟩:=List.mem_filterMap.1 hx;obtain⟨a1,k,a2,_⟩:=Agy e;rw[a1,a2];exact⟨(hc.vk y hy).1,fun v hv=>(hc.vk y hy).2 v (List.mem_of_mem_drop hv)⟩
  ·exact hc
theorem CInv.open{s:Sto}(hc:CInv s)(nm:Bool)(n:Az):CInv (s.openM nm n).1:=by
 have h2:=(Ah4 (s:=s) (nm:=nm) (n:=n) (n':=[])).2;refine⟨fun n'=>?_,?_⟩
 ·rw[h2,Ah4.1];exact hc.cnt n'
 ·rw[h2];exact hc.vk
theorem CInv.step{m:Nat}{s:Sto}(h:SInv m s)(hc:CInv s)(o:Opn):CInv (s.stepM o):=by
 unfold Sto.stepM;split
 ·exact hc.write h _ _
 ·split
  ·exact hc.comp h _ _
  ·split
   ·exact hc.open _ _
   ·exact hc

open Go.Proofs
theorem Ei:∀{l:List Opn} {m:Nat} {s:Sto},SInv m s→CInv s→F2 l→m+41*l.length≤80000→CInv (A0 l s)
 | [],m,s,_,h,_,_=>h
 |o::r,m,s,hi,h,hok,hm=>by
  rw[List.length_cons]at hm;have h1:=hok o (List.mem_cons_self ..);exact Ei (l:=r) (s:=s.stepM o) ((hi.step o (by omega)).mono (show m+o.l.length+1≤m+41 by omega)) (h.step hi o) (fun x hx=>hok x (List.mem_cons_of_mem _ hx)) (by omega)
theorem Jh:CInv sto2:=by
 have h0:CInv ⟨[],[]⟩:=⟨fun n=>⟨rfl,rfl⟩,by intro h hh;cases hh⟩
 have h1:=h0.open (D9 [116]) [116];rw[Ai9]at h1;have h2:=h1.open (D9 [117]) [117];rw[Aja]at h2;exact h2

open Go.Proofs
abbrev F_kT:FuncId:=Am
abbrev Hi:FuncId:=Aj
theorem H6:KeysC Tryd.prog F_kT Hi 109:=KeysC.of Hj
open Go.RowKit Go.Maps Go.Sort Go.Shelf in
theorem Gv:∀args w,(callFunc 111 args).run Tryd.prog w= .ok (.enter 111 args) w:=enters_of Tryd.func111 (by kernel_rfl) rfl
set_option maxHeartbeats 4000000 in
theorem Jg:SortedC Tryd.prog Ju Hi 9:=by
 have h:=SortedC.of Afh Hj Afi Adx Gv;exact h
def Sto.names(s:Sto):List Az:=Dc (s.sp.map (·.1))
theorem Fs(s:Sto)(hnd:(s.sp.map (·.1)).Nodup)(hl:s.sp.length≤1000):Fn Tryd.prog Bs [sP s] (Is (.v (.list (s.names.map I.str))) [sP s]):=by
 refine Dp ?_ (by simp)
 obtain⟨KS,hKS⟩:∃K,K=s.sp.map fun x=>I.str x.1:=⟨_,rfl⟩
 have hks1:∀x∈KS,∃s,x=I.str s:=fun x hx=>by rw[hKS]at hx;obtain⟨c,_,rfl⟩:=List.mem_map.1 hx;exact⟨_,rfl⟩
 have hks2:KS.length≤1000000:=by rw[hKS,List.length_map];omega
 have hks3:(KS.map strV).Nodup:=by rw[hKS,List.map_map];exact hnd
 have hSI:Gq KS=s.names.map I.str:=by
  unfold Sto.names;rw[←Acr,hKS,List.map_map];rfl
 rw[←hSI];obtain⟨VS,hVS⟩:∃V,V=s.sp.map fun x=>D.ptr (.it x.2.toI):=⟨_,rfl⟩
 obtain⟨L,hL⟩:∃V,V=s.l.map Hld.toD:=⟨_,rfl⟩;have hs:sP s= .own [] (.ptr (stD KS VS L)):=by rw[hKS,hVS,hL];rfl
 rw[hs];repeat'((conv=>whnf);first|((with_reducible refine Aw (by(with_reducible rfl)) (fun hb=>?_));(try rw[hb]);(try simp only[Aa]at hb))|((with_reducible refine Exists.intro ?_ ?_);focus (and_intros<;>first|(exact hks1)|(exact hks2)|(exact hks3)|omega|(with_reducible rfl)|kernel_rfl|(simp;done)))|((refine Ad0 H6 ?_))|((refine Zo Jg ?_)))
 all_goals(try(conv=>whnf))
 (apply dKq<;>kernel_rfl)

open Go.Proofs
def Dt:Stm:=(sO [O1 (.box 1 0),gA 2 (.nils 50 4)] (sO [gA 3 (.nils 50 4)] (.seq (sO [gL 10 1,gC 11 47 [(true,10)],gN 12 11,gM 13 (cI 0)] (.block 0 (.loop [0,4,5,6,7,10,14,15,16,17,18,19,20,21,22,23,24,25,26,27,28,29,30,31,32,33,34,35,54,55,56,57,58,59] (sO [gB 14 .lss 13 12] (.seq (.cond 14 .skip (.exit 0)) (.seq (.block 1 (sO [gI 15 1 11 13,gL 16 15,gA 5 16] (sO [gL 17 1,O1 (.nchk 18 17),gF 19 18 0,gL 20 19,gM 21 5,O1 (.mget 22 .nilp false 20 21),gA 6 22] (.seq (.drw [0,0,2,6,14,0,32,96,224,511,0,2047] [gM 23 5,gM 24 6,O1 (.nchk 25 24),gF 26 25 0,gL 27 26,gM 28 6,O1 (.nchk 29 28),gF 30 29 1,gL 31 30,O1 (.buildD 32 [(.it (.str [])),(.it (.int .i64 0)),(.it (.int .i64 0)),(.vec 130 2 [])] [(0,23),(1,27),(2,31)]),O1 (.allocD 7 (.st [(.it (.str [])),(.it (.int .i64 0)),(.it (.int .i64 0)),(.vec 130 2 [])])),gS 4 7 32]) (.seq (sO [gL 33 1,gM 34 5,.inl none (some 35) 60 79 [33,34]] (.block 2 (.rngF 35 105 50 60 [36,37] Fy (sO [gA 8 36] (.ops [gA 9 37])) (.block 3 (.drw [0,1,0,0,8,24,56,0,248,504,1016,2040,4092,8188,16383,32767,65535] [gF 38 7 3,gL 39 38,gM 40 9,gL 41 1,O1 (.nchk 42 41),gF 43 42 1,gL 44 43,gM 45 8,gI 46 2 44 45,gF 47 46 1,gL 48 47,.peek none (some 49) 83 [nL 48],O1 (.buildD 50 [(.it (.str [])),(.vec 125 4 [])] [(0,40),(1,49)]),O1 (.bslD 51 130 2 (.agg [(.str []),(.list [])]) 1 [(0,50)]),O1 (.app 52 130 2 40 39 51),gF 53 7 3,gS 1 53 52]))))) (.ops [gM 54 3,O1 (.loadF 55 true 4 7),O1 (.bsl 56 50 4 (.agg [(.str []),(.int .i64 0),(.int .i64 0),(.list [])]) 1 [(0,55)]),O1 (.app 57 50 4 56 54 56),gA 3 57])))))) (.ops [gB 58 .add 13 (cI 1),gM 13 58]))))))) (sO [gM 59 3,O1 (.mov 2 50 4 59)] .ret))))
theorem Dx:OF 44 60 Dt [.t 2]:=oF Tryd.func44 rfl Tryd.ntmps44 (by kernel_rfl) (by kernel_rfl)

open Go.Proofs
def Bt(n:Az):List Hld→List Kv→List Kv
 | [],out=>out
 |h::r,out=>if(C1 h.at_).1≠n then out else Bt n r (out++[⟨(C1 h.at_).2.1,h.vs⟩])
def Sto.dumpS(s:Sto)(n:Az):Spc:=⟨n,(s.tal n).rev,(s.tal n).floor,Bt n (s.l.drop (Km (Kh (B7 n [])) s.l)) []⟩
def Kv.toD(h:Kv):D:=.st [.it (.str h.key),.vec Bb 4 ((h.vs.map Ver.toI).map D.it)]
theorem Kv.toD_I(h:Kv):h.toD.toI=some h.toI:=by
 simp only[Kv.toD,Kv.toI,D.toI,toIs,Ad]
theorem Hm(l:List Kv):toIs (l.map Kv.toD)=some (l.map Kv.toI):=Vg Kv.toD_I l
theorem Ee:∀l:List Ver,strips (l.map Ver.toI)=l.map Ver.toI
 | []=>rfl
 |x::l=>by simp only[List.map_cons,strips,Ee l];rfl
theorem Gu(hof:Zb)(s:Sto)(hB:s.Bd)(NM:List Az)(hnm:∀n∈NM,n.length≤1000∧(s.fi n).isSome=true)(hNl:NM.length≤1000)
 (hsp:Fn Tryd.prog Bs [sP s] (Is (.v (.list (NM.map I.str))) [sP s])):
 Fn Tryd.prog B9 [sP s] (Is (.v (.list ((NM.map s.dumpS).map Spc.toI))) [sP s]):=by
 obtain⟨T1,T2,hof⟩:=hof;refine Dx ?_ (by simp)
 repeat'((conv=>whnf);first|((with_reducible refine Exists.intro ?_ ?_);focus (and_intros<;>first|omega|(with_reducible rfl)|kernel_rfl|(intro _ hh;cases hh;done)|(simp;done)|decide))|(with_reducible intro hfact)|((with_reducible refine CallWp.mk ?_);refine⟨_,hsp,?_⟩;rintro _ _ ⟨rfl,rfl⟩))
 all_goals(try(conv=>whnf))
 refine LoopWq.by (X:=Nat × List I) (fun y=>[(13,.v (ti (y.1:Int))),(3,.vec 50 4 y.2)]) (fun y=>y.1≤NM.length∧y.2=((NM.take y.1).map s.dumpS).map Spc.toI) (fun y=>NM.length - y.1) (0,[]) (by kernel_rfl) ⟨Nat.zero_le _,rfl⟩ ?_
 rintro⟨j,OUT⟩ ⟨hj,hO⟩;dsimp only at hj hO ⊢;have hw:IntKind.i64.wrap ((j:Int)+1)=((j+1:Nat):Int):=(Bf (by omega)).trans (by omega)
 have hOl:OUT.length≤1000:=by rw[hO];simp;omega
 by_cases hjl:j<NM.length
 case neg=>
  have hlt:¬decide ((j:Int)<((NM.map I.str).length:Int))=true:=by simp;omega
  have hlt2:¬decide ((j:Int)<(NM.length:Int))=true:=by simp;omega
  rw[List.take_of_length_le (by omega)]at hO
  rw[←hO];repeat'((conv=>whnf);first|((with_reducible refine Aw (by(with_reducible exact Bool.of_not_eq_true (by assumption))) (fun hb=>?_));(try rw[hb]);(try simp only[Aa]at hb))|((with_reducible refine Exists.intro ?_ ?_);focus (and_intros<;>first|omega|(with_reducible rfl)|(simp;done))))
  all_goals(try(conv=>whnf))
  (apply dKq<;>kernel_rfl)
 obtain⟨n,hn⟩:∃x,NM[j]?=some x:=⟨_,List.getElem?_eq_getElem hjl⟩;have hlt:¬decide ((j:Int)<((NM.map I.str).length:Int))=false:=by simp;omega
 have hlt2:¬decide ((j:Int)<(NM.length:Int))=false:=by simp;omega
 obtain⟨hn1,hn2⟩:=hnm n (List.mem_of_getElem? hn);obtain⟨i,hi⟩:=Option.isSome_iff_exists.1 hn2;obtain⟨h1,h2,h3⟩:=Sto.fi_some hi;have hI:=U8 s.l;have hwh:=L1 n [] (by omega) (by simp)
 have hbs:=L0 s.l (B7 n []) (by have:=hB.len;omega)
 obtain⟨A,hA⟩:∃A,A=Km (Kh (B7 n [])) s.l:=⟨_,rfl⟩;obtain⟨B,hB'⟩:∃B,B=bsF (Kh (B7 n [])) (eqH (B7 n [])) s.l:=⟨_,rfl⟩;rw[←hA, ←hB']at hbs;repeat'((conv=>whnf);first|((with_reducible refine Ax (by first|(with_reducible assumption)|(with_reducible exact Bool.of_not_eq_false (by assumption))) (fun hb=>?_));(try rw[hb]);(try simp only[Aa]at hb))|((with_reducible refine Exists.intro ?_ ?_);focus (and_intros<;>first|omega|(with_reducible rfl)|kernel_rfl|(intro _ hh;cases hh;done)|(simp;done)|decide))|(with_reducible intro hfact)|((with_reducible refine And.intro ?_ ?_);focus (first|(with_reducible rfl)|decide))|((with_reducible refine Drawn.mkV ?_ ?_ ?_ (fun hfact=>?_));(focus (as_aux_lemma=>kernel_rfl));(focus (as_aux_lemma=>kernel_rfl));(focus (as_aux_lemma=>kernel_rfl));(try simp only[dRS]at hfact))|((try dsimp only);(rw[B6 hn]))|((refine Abo hof ?_))|((with_reducible refine CallWp.mk ?_);refine⟨_,hwh,?_⟩;rintro _ _ ⟨rfl,rfl⟩)|((refine Bj ?_ (by decide)))|((with_reducible refine CallWp.mk ?_);refine⟨_,hbs,?_⟩;rintro _ _ ⟨rfl,rfl⟩)|(((with_reducible apply A9));(focus (simp only[D.at,D.put,D.kid,D.setKid,mkSt,Jo,D.toI,toIs,Ad,Af,h1,h3,hI,Sto.toD,Tal.toI]<;>exact rfl)))|(((with_reducible apply A3));(focus rfl);(focus (simp only[D.at,D.put,D.kid,D.setKid,mkSt,Jo,D.toI,toIs,Ad,Af,h1,h3,hI,Sto.toD,Tal.toI]<;>exact rfl));(try(focus exact rfl))))
 all_goals(try(conv=>whnf))
 have hAl:A≤s.l.length:=by rw[hA];exact Hp _ _
 obtain⟨RES,hRES⟩:∃R,Bt n (s.l.drop A) []=R:=⟨_,rfl⟩;have hDS:s.dumpS n=⟨n,(s.tal n).rev,(s.tal n).floor,RES⟩:=by unfold Sto.dumpS;rw[←hA,hRES]
 refine LoopWq.by (X:=Nat × List Kv) (fun y=>[(5,.v (ti (y.1:Int))),(57,.own [] (.ptr (.st [.it (.str n),.it (ti (s.tal n).rev),.it (ti (s.tal n).floor),.vec 130 2 (y.2.map Kv.toD)])))]) (fun y=>y.1≤s.l.length∧y.2.length≤y.1∧Bt n (s.l.drop y.1) y.2=RES) (fun y=>s.l.length - y.1) (A,[]) (by kernel_rfl) ⟨hAl,Nat.zero_le _,hRES⟩ ?_
 rintro⟨q,KV⟩ ⟨hq,hkl,hR⟩;dsimp only at hq hkl hR ⊢;have hlen:=hB.len;have hlm:(s.l.map Hld.toD).length=s.l.length:=List.length_map _;have hwq:IntKind.i64.wrap ((q:Int)+1)=((q+1:Nat):Int):=(Bf (by omega)).trans (by omega)
 by_cases hql:q<s.l.length
 case neg=>
  have hlt:¬decide ((q:Int)<(s.l.length:Int))=true:=by simp;omega
  rw[List.drop_eq_nil_of_le (by omega)]at hR
  have hR:KV=RES:=hR;subst hR;have hKI:=Hm KV;repeat'((conv=>whnf);first|((with_reducible refine Aw (by first|(with_reducible exact Bool.of_not_eq_true (by assumption))|((with_reducible refine decide_eq_false ?_);omega)) (fun hb=>?_));(try rw[hb]);(try simp only[Aa]at hb))|((with_reducible refine Exists.intro ?_ ?_);focus (and_intros<;>first|omega|(with_reducible rfl)|kernel_rfl|exact Ah (by rfl)|(simp only[LENS];omega)|(simp;done)))|(with_reducible intro hfact)|((with_reducible refine And.intro ?_ ?_);focus ((with_reducible rfl)))|((try dsimp only);rw[hw])|(((with_reducible apply A9));(focus (simp only[D.at,D.put,D.kid,D.setKid,mkSt,Jo,D.toI,toIs,Ad,Af,Sto.toD,hlm,hKI]<;>exact rfl))))
  all_goals(try(conv=>whnf))
  have hRND:OUT++[Spc.toI ⟨n,(s.tal n).rev,(s.tal n).floor,KV⟩]=((NM.take (j+1)).map s.dumpS).map Spc.toI:=by
   rw[List.take_add_one,hn,hO, ←hDS];simp
  refine Round.by (j+1,OUT++[Spc.toI ⟨n,(s.tal n).rev,(s.tal n).floor,KV⟩]) ?_ ⟨by omega,hRND⟩ (by dsimp only;omega)
  try dsimp only
  show norm _ _=upd _ _
  kernel_rfl
 obtain⟨h,he⟩:∃h,s.l[q]?=some h:=⟨_,List.getElem?_eq_getElem hql⟩;have hlt:¬decide ((q:Int)<(s.l.length:Int))=false:=by simp;omega
 obtain⟨hb1,hb2,hb3⟩:=hB.held h (List.mem_of_getElem? he);have hwho:=L2 h.at_ hb1;have hdr:s.l.drop q=h::s.l.drop (q+1):=by rw[List.drop_eq_getElem_cons hql];rw[List.getElem?_eq_getElem hql]at he;cases he;rfl
 rw[hdr]at hR;simp only[Bt]at hR;generalize C1 h.at_=wk at hwho hR;obtain⟨w,k,z⟩:=wk;dsimp only at hwho hR;by_cases hwn:w=n
 case neg=>
  have hnb:¬(!decide (w=n))=false:=by simpa using hwn
  have hnb2:¬decide (w=n)=true:=by simpa using hwn
  rw[if_pos hwn]at hR;subst hR;have hKI:=Hm KV;repeat'((conv=>whnf);first|((with_reducible refine Ax (by first|(with_reducible assumption)|(with_reducible exact Bool.of_not_eq_false (by assumption))|((with_reducible refine decide_eq_true ?_);omega)|(with_reducible rfl)) (fun hb=>?_));(try rw[hb]);(try simp only[Aa]at hb))|((with_reducible refine Exists.intro ?_ ?_);focus (and_intros<;>first|omega|(with_reducible rfl)|kernel_rfl|(intro _ hh;cases hh;done)|exact Ah (by rfl)|(simp only[LENS];omega)|(simp;done)|decide))|(with_reducible intro hfact)|((with_reducible refine And.intro ?_ ?_);focus ((with_reducible rfl)))|((with_reducible refine CallWp.mk ?_);refine⟨_,hwho,?_⟩;rintro _ _ ⟨rfl,rfl⟩)|((try dsimp only);rw[hw])|(((with_reducible apply A9));(focus (simp only[D.at,D.put,D.kid,D.setKid,mkSt,Jo,D.toI,toIs,Ad,Af,Sto.toD,hlm,he,hKI]<;>exact rfl)))|(((with_reducible apply A3));(focus rfl);(focus (simp only[D.at,D.put,D.kid,D.setKid,mkSt,Jo,D.toI,toIs,Ad,Af,Sto.toD,hlm,he,hKI]<;>exact rfl));(try(focus exact rfl))))
  all_goals(try(conv=>whnf))
  have hRND:OUT++[Spc.toI ⟨n,(s.tal n).rev,(s.tal n).floor,KV⟩]=((NM.take (j+1)).map s.dumpS).map Spc.toI:=by
   rw[List.take_add_one,hn,hO, ←hDS];simp
  refine Round.by (j+1,OUT++[Spc.toI ⟨n,(s.tal n).rev,(s.tal n).floor,KV⟩]) ?_ ⟨by omega,hRND⟩ (by dsimp only;omega)
  try dsimp only
  show norm _ _=upd _ _
  kernel_rfl
 subst hwn;rw[if_neg (by simp)]at hR
 have hnb:¬(!decide (w=w))=true:=by simp
 have hnb2:¬decide (w=w)=false:=by simp
 have hcl:=Cf (h.vs.map Ver.toI) (fun u hu=>by obtain⟨v,_,rfl⟩:=List.mem_map.1 hu;rfl) (by simp;omega)
 obtain⟨a,vs⟩:=h;dsimp only at hcl hR hb3;repeat'((conv=>whnf);first|((with_reducible refine Ax (by first|(with_reducible assumption)|((with_reducible refine decide_eq_true ?_);omega)) (fun hb=>?_));(try rw[hb]);(try simp only[Aa]at hb))|((with_reducible refine Aw (by first|(with_reducible exact Bool.of_not_eq_true (by assumption))|(with_reducible rfl)) (fun hb=>?_));(try rw[hb]);(try simp only[Aa]at hb))|((with_reducible refine And.intro (fun hb=>?_) (fun hb=>?_))<;>first|(exact absurd hb (by decide))|((try rw[hb]);(try simp only[Aa]at hb)))|((with_reducible refine Exists.intro ?_ ?_);focus (and_intros<;>first|omega|(with_reducible rfl)|kernel_rfl|(intro _ hh;cases hh;done)|exact Ag rfl|(simp only[LENS];omega)|(simp;done)|decide))|(with_reducible intro hfact)|((with_reducible refine And.intro ?_ ?_);focus (first|(with_reducible rfl)|(exact rfl)))|((with_reducible refine Drawn.mkV ?_ ?_ ?_ (fun hfact=>?_));(focus (as_aux_lemma=>kernel_rfl));(focus (as_aux_lemma=>kernel_rfl));(focus (as_aux_lemma=>kernel_rfl));(try simp only[dRS]at hfact))|((with_reducible refine CallWp.mk ?_);refine⟨_,hwho,?_⟩;rintro _ _ ⟨rfl,rfl⟩)|((with_reducible refine CallIs.mk ?_);refine⟨_,_,hcl,?_⟩)|((try dsimp only);rw[hwq])|(((with_reducible apply Ba));(focus (simp only[D.at,D.put,D.kid,D.setKid,mkSt,Jo,D.toI,toIs,Ad,Af,Sto.toD,Hld.toD,hlm,he]<;>exact rfl)))|(((with_reducible apply A3));(focus rfl);(focus (simp only[D.at,D.put,D.kid,D.setKid,mkSt,Jo,D.toI,toIs,Ad,Af,Sto.toD,Hld.toD,hlm,he]<;>exact rfl));(try(focus exact rfl))))
 all_goals(try(conv=>whnf))
 refine Round.by (q+1,KV++[⟨k,vs⟩]) ?_ ⟨by omega,by simp;omega,hR⟩ (by dsimp only;omega)
 try dsimp only
 have hap:(KV++[(⟨k,vs⟩:Kv)]).map Kv.toD=KV.map Kv.toD++[.st [.it (.str k),.vec Bb 4 ((vs.map Ver.toI).map D.it)]]:=by simp[Kv.toD]
 rw[hap];simp only[Ee];show norm _ _=upd _ _
 kernel_rfl

open Go.Proofs
def KvBd(ks:List Kv):Prop:=ks.length≤100000∧∀h∈ks,h.key.length≤1000∧h.vs.length≤100000∧∀v∈h.vs,v.val.length≤1000
end Go.Ab

