/- Lemmas -/
import Derived.Test.YtkpojedpcabojaaDoorY3
set_option linter.unusedVariables false
set_option linter.unusedSimpArgs false
set_option maxRecDepth 100000
set_option maxHeartbeats 40000000
namespace Go.Ab
open Go.Proofs
theorem Cq{α:Type}{a b:List α}{i:Nat}{x:α}(h:a.take i=b.take i)(ha:a[i]?=some x)(hb:b[i]?=some x):a.take (i+1)=b.take (i+1):=by
 rw[List.take_add_one,List.take_add_one,h,ha,hb]
def F4(a:List Spc):Prop:=a.length≤100000∧∀p∈a,p.keys.length≤100000∧∀h∈p.keys,h.vs.length≤100000
theorem Fq(a b:List Spc)(ha:F4 a)(hb0:F4 b):Fn Tryd.prog Dm [.v (.list (a.map Spc.toI)),.v (.list (b.map Spc.toI))] (Is (.v (.bool (decide (a=b)))) [.no,.no]):=by
 refine Di ?_ (by simp)
 obtain⟨ha1,ha2⟩:=ha;obtain⟨hb1,hb2⟩:=hb0;by_cases hl:a.length=b.length
 case neg=>
  have h1:¬(!decide (((a.map Spc.toI).length:Int)=((b.map Spc.toI).length:Int)))=false:=by simp;omega
  have h2:decide (a=b)=false:=decide_eq_false (fun e=>hl (by rw[e]))
  rw[h2];repeat'((conv=>whnf);first|((with_reducible refine Ax (by(with_reducible exact Bool.of_not_eq_false (by assumption))) (fun hb=>?_));(try rw[hb]);(try simp only[Aa]at hb))|((with_reducible refine Exists.intro ?_ ?_);focus (and_intros<;>(with_reducible rfl)))|(with_reducible intro hfact))
  all_goals(try(conv=>whnf))
  (apply dKq<;>kernel_rfl)
 have h1:¬(!decide (((a.map Spc.toI).length:Int)=((b.map Spc.toI).length:Int)))=true:=by simp;omega
 repeat'((conv=>whnf);first|((with_reducible refine Aw (by(with_reducible exact Bool.of_not_eq_true (by assumption))) (fun hb=>?_));(try rw[hb]);(try simp only[Aa]at hb))|((with_reducible refine Exists.intro ?_ ?_);focus (and_intros<;>(with_reducible rfl)))|(with_reducible intro hfact))
 all_goals(try(conv=>whnf))
 refine LoopWq.by (X:=Nat) (fun j=>[(5,.v (ti (j:Int)))]) (fun j=>j≤a.length∧a.take j=b.take j) (fun j=>a.length - j) 0 (by kernel_rfl) ⟨Nat.zero_le _,rfl⟩ ?_
 rintro j ⟨hj,hp⟩
 (try dsimp only at hj hp ⊢)
 have hw:IntKind.i64.wrap ((j:Int)+1)=((j+1:Nat):Int):=(Bf (by omega)).trans (by omega)
 by_cases hjl:j<a.length
 case neg=>
  have h3:¬decide ((j:Int)<((a.map Spc.toI).length:Int))=true:=by simp;omega
  have h4:¬decide ((j:Int)<(a.length:Int))=true:=by simp;omega
  rw[List.take_of_length_le (by omega),List.take_of_length_le (by omega)]at hp
  rw[decide_eq_true hp];repeat'((conv=>whnf);first|((with_reducible refine Aw (by(with_reducible exact Bool.of_not_eq_true (by assumption))) (fun hb=>?_));(try rw[hb]);(try simp only[Aa]at hb))|((with_reducible refine Exists.intro ?_ ?_);focus (and_intros<;>(with_reducible rfl)))|(with_reducible intro hfact))
  all_goals(try(conv=>whnf))
  (apply dKq<;>kernel_rfl)
 obtain⟨x,hx⟩:∃x,a[j]?=some x:=⟨_,List.getElem?_eq_getElem hjl⟩;obtain⟨y,hy⟩:∃y,b[j]?=some y:=⟨_,List.getElem?_eq_getElem (by omega)⟩
 have h3:¬decide ((j:Int)<((a.map Spc.toI).length:Int))=false:=by simp;omega
 have h4:¬decide ((j:Int)<(a.length:Int))=false:=by simp;omega
 have hab:a=b→x=y:=fun e=>by rw[e]at hx;exact Option.some.inj (hx.symm.trans hy)
 have hxb:=ha2 x (List.mem_of_getElem? hx);have hyb:=hb2 y (List.mem_of_getElem? hy);obtain⟨xn,xr,xf,xk⟩:=x;obtain⟨yn,yr,yf,yk⟩:=y;simp only[Spc.mk.injEq]at hab;dsimp only at hxb hyb;obtain⟨hxb1,hxb2⟩:=hxb;obtain⟨hyb1,hyb2⟩:=hyb;by_cases c1:xn=yn
 case neg=>
  have e1:¬(!decide (xn=yn))=false:=by simp[c1]
  have hne:decide (a=b)=false:=decide_eq_false fun e=>c1 (hab e).1
  rw[hne];repeat'((conv=>whnf);first|((with_reducible refine Ax (by first|(with_reducible exact Bool.of_not_eq_false (by assumption))|(with_reducible rfl)) (fun hb=>?_));(try rw[hb]);(try simp only[Aa]at hb))|((with_reducible refine Exists.intro ?_ ?_);focus (and_intros<;>first|omega|(with_reducible rfl)|kernel_rfl))|(with_reducible intro hfact)|((with_reducible refine Drawn.mkV ?_ ?_ ?_ (fun hfact=>?_));(focus (as_aux_lemma=>kernel_rfl));(focus (as_aux_lemma=>kernel_rfl));(focus (as_aux_lemma=>kernel_rfl));(try simp only[dRS]at hfact))|((try dsimp only);(rw[B6 hx]))|((try dsimp only);(rw[B6 hy])))
  all_goals(try(conv=>whnf))
  (apply dKq<;>kernel_rfl)
 have e1:¬(!decide (xn=yn))=true:=by simp[c1]
 by_cases c2:xr=yr
 case neg=>
  have e2:¬(!decide (xr=yr))=false:=by simp[c2]
  have hne:decide (a=b)=false:=decide_eq_false fun e=>c2 (hab e).2.1
  rw[hne];repeat'((conv=>whnf);first|((with_reducible refine Ax (by first|(with_reducible exact Bool.of_not_eq_false (by assumption))|(with_reducible rfl)) (fun hb=>?_));(try rw[hb]);(try simp only[Aa]at hb))|((with_reducible refine Aw (by first|(with_reducible assumption)|(with_reducible exact Bool.of_not_eq_true (by assumption))|(with_reducible rfl)) (fun hb=>?_));(try rw[hb]);(try simp only[Aa]at hb);(try subst hb))|((with_reducible refine Exists.intro ?_ ?_);focus (and_intros<;>first|omega|(with_reducible rfl)|kernel_rfl))|(with_reducible intro hfact)|((with_reducible refine Drawn.mkV ?_ ?_ ?_ (fun hfact=>?_));(focus (as_aux_lemma=>kernel_rfl));(focus (as_aux_lemma=>kernel_rfl));(focus (as_aux_lemma=>kernel_rfl));(try simp only[dRS]at hfact))|((try dsimp only);(rw[B6 hx]))|((try dsimp only);(rw[B6 hy])))
  all_goals(try(conv=>whnf))
  (apply dKq<;>kernel_rfl)
 have e2:¬(!decide (xr=yr))=true:=by simp[c2]
 by_cases c3:xf=yf
 case neg=>
  have e3:¬(!decide (xf=yf))=false:=by simp[c3]
  have hne:decide (a=b)=false:=decide_eq_false fun e=>c3 (hab e).2.2.1
  rw[hne];repeat'((conv=>whnf);first|((with_reducible refine Ax (by first|(with_reducible exact Bool.of_not_eq_false (by assumption))|(with_reducible rfl)) (fun hb=>?_));(try rw[hb]);(try simp only[Aa]at hb))|((with_reducible refine Aw (by first|(with_reducible assumption)|(with_reducible exact Bool.of_not_eq_true (by assumption))|(with_reducible rfl)) (fun hb=>?_));(try rw[hb]);(try simp only[Aa]at hb);(try subst hb))|((with_reducible refine Exists.intro ?_ ?_);focus (and_intros<;>first|omega|(with_reducible rfl)|kernel_rfl))|(with_reducible intro hfact)|((with_reducible refine Drawn.mkV ?_ ?_ ?_ (fun hfact=>?_));(focus (as_aux_lemma=>kernel_rfl));(focus (as_aux_lemma=>kernel_rfl));(focus (as_aux_lemma=>kernel_rfl));(try simp only[dRS]at hfact))|((try dsimp only);(rw[B6 hx]))|((try dsimp only);(rw[B6 hy])))
  all_goals(try(conv=>whnf))
  (apply dKq<;>kernel_rfl)
 have e3:¬(!decide (xf=yf))=true:=by simp[c3]
 by_cases c4:xk.length=yk.length
 case neg=>
  have e4:¬(!decide (((xk.map Kv.toI).length:Int)=((yk.map Kv.toI).length:Int)))=false:=by simp;omega
  have hne:decide (a=b)=false:=decide_eq_false fun e=>c4 (by rw[(hab e).2.2.2])
  rw[hne];repeat'((conv=>whnf);first|((with_reducible refine Ax (by(with_reducible exact Bool.of_not_eq_false (by assumption))) (fun hb=>?_));(try rw[hb]);(try simp only[Aa]at hb))|((with_reducible refine Aw (by first|(with_reducible assumption)|(with_reducible exact Bool.of_not_eq_true (by assumption))|(with_reducible rfl)) (fun hb=>?_));(try rw[hb]);(try simp only[Aa]at hb);(try subst hb))|((with_reducible refine Exists.intro ?_ ?_);focus (and_intros<;>first|omega|(with_reducible rfl)|kernel_rfl))|(with_reducible intro hfact)|((with_reducible refine Drawn.mkV ?_ ?_ ?_ (fun hfact=>?_));(focus (as_aux_lemma=>kernel_rfl));(focus (as_aux_lemma=>kernel_rfl));(focus (as_aux_lemma=>kernel_rfl));(try simp only[dRS]at hfact))|((try dsimp only);(rw[B6 hx]))|((try dsimp only);(rw[B6 hy])))
  all_goals(try(conv=>whnf))
  (apply dKq<;>kernel_rfl)
 have e4:¬(!decide (((xk.map Kv.toI).length:Int)=((yk.map Kv.toI).length:Int)))=true:=by simp;omega
 repeat'((conv=>whnf);first|((with_reducible refine Ax (by(with_reducible exact Bool.of_not_eq_false (by assumption))) (fun hb=>?_));(try rw[hb]);(try simp only[Aa]at hb))|((with_reducible refine Aw (by first|(with_reducible exact Bool.of_not_eq_true (by assumption))|(with_reducible rfl)) (fun hb=>?_));(try rw[hb]);(try simp only[Aa]at hb);(try subst hb))|((with_reducible refine Exists.intro ?_ ?_);focus (and_intros<;>first|omega|(with_reducible rfl)|kernel_rfl))|(with_reducible intro hfact)|((with_reducible refine Drawn.mkV ?_ ?_ ?_ (fun hfact=>?_));(focus (as_aux_lemma=>kernel_rfl));(focus (as_aux_lemma=>kernel_rfl));(focus (as_aux_lemma=>kernel_rfl));(try simp only[dRS]at hfact))|((try dsimp only);(rw[B6 hx]))|((try dsimp only);(rw[B6 hy])))
 all_goals(try(conv=>whnf))
 refine LoopWq.by (X:=Nat) (fun k=>[(6,.v (ti (k:Int)))]) (fun k=>k≤xk.length∧xk.take k=yk.take k) (fun k=>xk.length - k) 0 (by kernel_rfl) ⟨Nat.zero_le _,rfl⟩ ?_
 rintro k ⟨hk,hq⟩
 (try dsimp only at hk hq ⊢)
 have hwk:IntKind.i64.wrap ((k:Int)+1)=((k+1:Nat):Int):=(Bf (by omega)).trans (by omega)
 by_cases hkl:k<xk.length
 case neg=>
  have h5:¬decide ((k:Int)<((xk.map Kv.toI).length:Int))=true:=by simp;omega
  have h6:¬decide ((k:Int)<(xk.length:Int))=true:=by simp;omega
  rw[List.take_of_length_le (by omega),List.take_of_length_le (by omega)]at hq
  have hnx:a.take (j+1)=b.take (j+1):=Cq hp hx (by rw[hy,c1,c2,c3,hq])
  repeat'((conv=>whnf);first|((with_reducible refine Aw (by(with_reducible exact Bool.of_not_eq_true (by assumption))) (fun hb=>?_));(try rw[hb]);(try simp only[Aa]at hb))|((with_reducible refine Exists.intro ?_ ?_);focus (and_intros<;>first|omega|(with_reducible rfl)|kernel_rfl))|(with_reducible intro hfact)|((try dsimp only);(rw[B6 hx]))|((try dsimp only);rw[hw]))
  all_goals(try(conv=>whnf))
  refine Round.by (j+1) ?_ ⟨by omega,hnx⟩ (by omega)
  try dsimp only
  show norm _ _=upd _ _
  kernel_rfl
 obtain⟨u,hu⟩:∃x,xk[k]?=some x:=⟨_,List.getElem?_eq_getElem hkl⟩;obtain⟨w,hwv⟩:∃y,yk[k]?=some y:=⟨_,List.getElem?_eq_getElem (by omega)⟩
 have h5:¬decide ((k:Int)<((xk.map Kv.toI).length:Int))=false:=by simp;omega
 have h6:¬decide ((k:Int)<(xk.length:Int))=false:=by simp;omega
 have hab2:a=b→u=w:=fun e=>by
  have:=(hab e).2.2.2;rw[this]at hu;exact Option.some.inj (hu.symm.trans hwv)
 have hub:=hxb2 u (List.mem_of_getElem? hu);have hwb:=hyb2 w (List.mem_of_getElem? hwv);obtain⟨uk,uv⟩:=u;obtain⟨wk,wv⟩:=w;simp only[Kv.mk.injEq]at hab2;dsimp only at hub hwb;by_cases c5:uk=wk
 case neg=>
  have e5:¬(!decide (uk=wk))=false:=by simp[c5]
  have hne:decide (a=b)=false:=decide_eq_false fun e=>c5 (hab2 e).1
  rw[hne];repeat'((conv=>whnf);first|((with_reducible refine Ax (by first|(with_reducible exact Bool.of_not_eq_false (by assumption))|(with_reducible rfl)) (fun hb=>?_));(try rw[hb]);(try simp only[Aa]at hb))|((with_reducible refine Exists.intro ?_ ?_);focus (and_intros<;>first|omega|(with_reducible rfl)|kernel_rfl|(simp;done)))|(with_reducible intro hfact)|((with_reducible refine Drawn.mkV ?_ ?_ ?_ (fun hfact=>?_));(focus (as_aux_lemma=>kernel_rfl));(focus (as_aux_lemma=>kernel_rfl));(focus (as_aux_lemma=>kernel_rfl));(try simp only[dRS]at hfact))|((try dsimp only);(rw[B6 hx]))|((try dsimp only);(rw[B6 hy]))|((try dsimp only);(rw[B6 hu]))|((try dsimp only);(rw[B6 hwv])))
  all_goals(try(conv=>whnf))
  (apply dKq<;>kernel_rfl)
 have e5:¬(!decide (uk=wk))=true:=by simp[c5]
 by_cases c6:uv.length=wv.length
 case neg=>
  have e6:¬(!decide (((uv.map Ver.toI).length:Int)=((wv.map Ver.toI).length:Int)))=false:=by simp;omega
  have hne:decide (a=b)=false:=decide_eq_false fun e=>c6 (by rw[(hab2 e).2])
  rw[hne];repeat'((conv=>whnf);first|((with_reducible refine Ax (by(with_reducible exact Bool.of_not_eq_false (by assumption))) (fun hb=>?_));(try rw[hb]);(try simp only[Aa]at hb))|((with_reducible refine Aw (by first|(with_reducible assumption)|(with_reducible exact Bool.of_not_eq_true (by assumption))|(with_reducible rfl)) (fun hb=>?_));(try rw[hb]);(try simp only[Aa]at hb);(try subst hb))|((with_reducible refine Exists.intro ?_ ?_);focus (and_intros<;>first|omega|(with_reducible rfl)|kernel_rfl|(simp;done)))|(with_reducible intro hfact)|((with_reducible refine Drawn.mkV ?_ ?_ ?_ (fun hfact=>?_));(focus (as_aux_lemma=>kernel_rfl));(focus (as_aux_lemma=>kernel_rfl));(focus (as_aux_lemma=>kernel_rfl));(try simp only[dRS]at hfact))|((try dsimp only);(rw[B6 hx]))|((try dsimp only);(rw[B6 hy]))|((try dsimp only);(rw[B6 hu]))|((try dsimp only);(rw[B6 hwv])))
  all_goals(try(conv=>whnf))
  (apply dKq<;>kernel_rfl)
 have e6:¬(!decide (((uv.map Ver.toI).length:Int)=((wv.map Ver.toI).length:Int)))=true:=by simp;omega
 repeat'((conv=>whnf);first|((with_reducible refine Ax (by(with_reducible exact Bool.of_not_eq_false (by assumption))) (fun hb=>?_));(try rw[hb]);(try simp only[Aa]at hb))|((with_reducible refine Aw (by first|(with_reducible exact Bool.of_not_eq_true (by assumption))|(with_reducible rfl)) (fun hb=>?_));(try rw[hb]);(try simp only[Aa]at hb);(try subst hb))|((with_reducible refine Exists.intro ?_ ?_);focus (and_intros<;>first|omega|(with_reducible rfl)|kernel_rfl|(simp;done)))|(with_reducible intro hfact)|((with_reducible refine Drawn.mkV ?_ ?_ ?_ (fun hfact=>?_));(focus (as_aux_lemma=>kernel_rfl));(focus (as_aux_lemma=>kernel_rfl));(focus (as_aux_lemma=>kernel_rfl));(try simp only[dRS]at hfact))|((try dsimp only);(rw[B6 hx]))|((try dsimp only);(rw[B6 hy]))|((try dsimp only);(rw[B6 hu]))|((try dsimp only);(rw[B6 hwv])))
 all_goals(try(conv=>whnf))
 refine LoopWq.by (X:=Nat) (fun n=>[(9,.v (ti (n:Int)))]) (fun n=>n≤uv.length∧uv.take n=wv.take n) (fun n=>uv.length - n) 0 (by kernel_rfl) ⟨Nat.zero_le _,rfl⟩ ?_
 rintro n ⟨hn,hr⟩
 (try dsimp only at hn hr ⊢)
 have hwn:IntKind.i64.wrap ((n:Int)+1)=((n+1:Nat):Int):=(Bf (by omega)).trans (by omega)
 by_cases hnl:n<uv.length
 case neg=>
  have h7:¬decide ((n:Int)<((uv.map Ver.toI).length:Int))=true:=by simp;omega
  have h8:¬decide ((n:Int)<(uv.length:Int))=true:=by simp;omega
  rw[List.take_of_length_le (by omega),List.take_of_length_le (by omega)]at hr
  have hnx:xk.take (k+1)=yk.take (k+1):=Cq hq hu (by rw[hwv,c5,hr])
  repeat'((conv=>whnf);first|((with_reducible refine Aw (by(with_reducible exact Bool.of_not_eq_true (by assumption))) (fun hb=>?_));(try rw[hb]);(try simp only[Aa]at hb))|((with_reducible refine Exists.intro ?_ ?_);focus (and_intros<;>first|omega|(with_reducible rfl)|kernel_rfl|(simp;done)))|(with_reducible intro hfact)|((try dsimp only);rw[hwk]))
  all_goals(try(conv=>whnf))
  refine Round.by (k+1) ?_ ⟨by omega,hnx⟩ (by omega)
  try dsimp only
  show norm _ _=upd _ _
  kernel_rfl
 obtain⟨v,hv⟩:∃x,uv[n]?=some x:=⟨_,List.getElem?_eq_getElem hnl⟩;obtain⟨z,hz⟩:∃y,wv[n]?=some y:=⟨_,List.getElem?_eq_getElem (by omega)⟩
 have h7:¬decide ((n:Int)<((uv.map Ver.toI).length:Int))=false:=by simp;omega
 have h8:¬decide ((n:Int)<(uv.length:Int))=false:=by simp;omega
 have hab3:a=b→v=z:=fun e=>by
  have:=(hab2 e).2;rw[this]at hv;exact Option.some.inj (hv.symm.trans hz)
 obtain⟨vr,vm,vv,vg⟩:=v;obtain⟨zr,zm,zv,zg⟩:=z;have hqe:(decide (vr=zr)&&(decide (vm=zm)&&(decide (vv=zv)&&(decide (vg=zg)&&true))))=decide (Ver.mk vr vm vv vg=Ver.mk zr zm zv zg):=by rw[Bool.eq_iff_iff];simp
 by_cases c7:Ver.mk vr vm vv vg=Ver.mk zr zm zv zg
 ·have g:¬(!(decide (vr=zr)&&(decide (vm=zm)&&(decide (vv=zv)&&(decide (vg=zg)&&true)))))=true:=by rw[hqe];simp[c7]
  have hnx:uv.take (n+1)=wv.take (n+1):=Cq hr hv (by rw[hz,c7])
  repeat'((conv=>whnf);first|((with_reducible refine Ax (by first|(with_reducible assumption)|(with_reducible exact Bool.of_not_eq_false (by assumption))) (fun hb=>?_));(try rw[hb]);(try simp only[Aa]at hb))|((with_reducible refine Aw (by(with_reducible exact Bool.of_not_eq_true (by assumption))) (fun hb=>?_));(try rw[hb]);(try simp only[Aa]at hb))|((with_reducible refine Exists.intro ?_ ?_);focus (and_intros<;>first|omega|(with_reducible rfl)|kernel_rfl|(simp;done)))|(with_reducible intro hfact)|((with_reducible refine Drawn.mkV ?_ ?_ ?_ (fun hfact=>?_));(focus (as_aux_lemma=>kernel_rfl));(focus (as_aux_lemma=>kernel_rfl));(focus (as_aux_lemma=>kernel_rfl));(try simp only[dRS]at hfact))|((try dsimp only);(rw[B6 hv]))|((try dsimp only);(rw[B6 hz]))|(skip;rw[hwn]))
  all_goals(try(conv=>whnf))
  refine Round.by (n+1) ?_ ⟨by omega,hnx⟩ (by omega)
  try dsimp only
  show norm _ _=upd _ _
  kernel_rfl
 ·have g:¬(!(decide (vr=zr)&&(decide (vm=zm)&&(decide (vv=zv)&&(decide (vg=zg)&&true)))))=false:=by rw[hqe];simp[c7]
  have hne:decide (a=b)=false:=decide_eq_false fun e=>c7 (hab3 e)
  rw[hne];repeat'((conv=>whnf);first|((with_reducible refine Ax (by(with_reducible exact Bool.of_not_eq_false (by assumption))) (fun hb=>?_));(try rw[hb]);(try simp only[Aa]at hb))|((with_reducible refine Exists.intro ?_ ?_);focus (and_intros<;>first|omega|(with_reducible rfl)|kernel_rfl|(simp;done)))|(with_reducible intro hfact)|((with_reducible refine Drawn.mkV ?_ ?_ ?_ (fun hfact=>?_));(focus (as_aux_lemma=>kernel_rfl));(focus (as_aux_lemma=>kernel_rfl));(focus (as_aux_lemma=>kernel_rfl));(try simp only[dRS]at hfact))|((try dsimp only);(rw[B6 hv]))|((try dsimp only);(rw[B6 hz])))
  all_goals(try(conv=>whnf))
  (apply dKq<;>kernel_rfl)

open Go.Proofs
def Ev(n:Az):List Spc→Nat→Int
 | [],_=> -1
 |p::r,i=>if p.name=n then(i:Int)else Ev n r (i+1)

open Go.Proofs
def KL(m:Nat)(ks:List Kv):Prop:=ks.length≤m∧∀h∈ks,h.vs.length≤m

def G3(n:Az)(h:Hld):Option Kv:=if(C1 h.at_).1=n then some ⟨(C1 h.at_).2.1,h.vs⟩else none
def keysOf(n:Az)(l:List Hld):List Kv:=l.filterMap (G3 n)
theorem E1{n:Az}:∀{d:List Hld} {out:List Kv},(d.Pairwise fun a b=>(C1 b.at_).1=n→(C1 a.at_).1=n)→Bt n d out=out++keysOf n d
 | [],out,_=>by simp[Bt,keysOf]
 |h::r,out,hp=>by
  obtain⟨h1,h2⟩:=List.pairwise_cons.1 hp;unfold Bt keysOf;rw[List.filterMap_cons];by_cases hn:(C1 h.at_).1=n
  ·rw[if_neg (by simpa using hn),E1 h2,show G3 n h=some ⟨(C1 h.at_).2.1,h.vs⟩by unfold G3;rw[if_pos hn]]
   simp[keysOf]
  ·rw[if_pos hn,show G3 n h=none by unfold G3;rw[if_neg hn]]
   have:r.filterMap (G3 n)=[]:=by
    rw[List.filterMap_eq_nil_iff];intro a ha;unfold G3;rw[if_neg (fun e=>hn (h1 a ha e))]
   simp[this]
theorem Hh{l:List Hld}{n:Az}(hn:n.length<256)(hl:LSo l)(hv:∀h∈l,Lies h.at_):∀a∈l.take (Km (Kh (B7 n [])) l),(C1 a.at_).1≠n:=by
 rw[LSo,List.pairwise_map]at hl;obtain⟨h1,_⟩:=Aho (lt:=Kh (B7 n [])) (l:=l) (hl.imp fun {a b} hab hb=>by simp only[Kh,decide_eq_true_eq]at*;exact List.lt_trans hab hb)
 intro a ha e;have h3:=(hv a (List.mem_of_mem_take ha)).whose.1;have h4:=h1 a ha;simp only[Kh,decide_eq_true_eq]at h4;rw[e]at h3;rw[h3,Ahd]at h4;exact absurd h4 (List.not_lt.2 (List.IsPrefix.le (List.prefix_append (B7 n []) (C1 a.at_).2.1)))
theorem Gt{l:List Hld}{n:Az}(hn:n.length<256)(hl:LSo l)(hv:∀h∈l,Lies h.at_):Bt n (l.drop (Km (Kh (B7 n [])) l)) []=keysOf n l:=by
 rw[E1 (Aio (rev:=0) hn hl hv).2,List.nil_append]
 conv=>rhs;rw[←List.take_append_drop (Km (Kh (B7 n [])) l) l]
 unfold keysOf;rw[List.filterMap_append,show(l.take (Km (Kh (B7 n [])) l)).filterMap (G3 n)=[]from List.filterMap_eq_nil_iff.2 fun a ha=>by unfold G3;rw[if_neg (Hh hn hl hv a ha)]]
 rfl

def Sto.spcS(s:Sto)(n:Az):Spc:=⟨n,(s.tal n).rev,(s.tal n).floor,keysOf n s.l⟩
def Sto.ref(s:Sto):List Spc:=s.names.map s.spcS
theorem Agp{s:Sto}{n:Az}:n∈s.names↔(s.fi n).isSome=true:=by
 unfold Sto.names;rw[Aje,Aiv]
theorem Ahz{f:Az→Spc}(hf:∀n,(f n).name=n){n:Az}:∀{NM:List Az} {k:Nat},n∈NM→∃i,Ev n (NM.map f) k=((k+i:Nat):Int)∧NM[i]?=some n
 | [],k,h=>by cases h
 |m::NM,k,h=>by
  rw[List.map_cons];unfold Ev;by_cases e:m=n
  ·rw[if_pos (by rw[hf];exact e)]
   exact⟨0,by simp,by simp[e]⟩
  ·rw[if_neg (by rw[hf];exact e)]
   obtain⟨i,h1,h2⟩:=Ahz hf (n:=n) (NM:=NM) (k:=k+1) ((List.mem_cons.1 h).resolve_left fun c=>e c.symm)
   exact⟨i+1,by rw[h1];congr 1;omega,by simpa using h2⟩
theorem Aii{s:Sto}{n:Az}(h:(s.fi n).isSome=true):∃i:Nat,Ev n s.ref 0=(i:Int)∧s.ref[i]?=some (s.spcS n)∧s.names[i]?=some n:=by
 obtain⟨i,h1,h2⟩:=Ahz (f:=s.spcS) (fun _=>rfl) (k:=0) (Agp.2 h)
 exact⟨i,by rw[Nat.zero_add]at h1;exact h1,by unfold Sto.ref;rw[List.getElem?_map,h2];rfl,h2⟩
theorem Nv{n:Az}{h:Hld}(e:(C1 h.at_).1≠n):G3 n h=none:=by unfold G3;rw[if_neg e]
theorem Aki{m:Nat}{s:Sto}(h:SInv m s):s.names.Nodup:=Ahj h.nd

def Jm(ks:List Kv)(k:Az):List Ver:=((ks.find? fun h=>decide (h.key=k)).map (·.vs)).getD []
abbrev KSo(ks:List Kv):Prop:=ks.Pairwise fun a b=>a.key<b.key
theorem Dv(h:Kv)(r:List Kv)(k:Az):Jm (h::r) k=if h.key=k then h.vs else Jm r k:=by
 unfold Jm;rw[List.find?_cons];by_cases e:h.key=k
 ·simp[e]
 ·simp[e]
theorem R6{ks:List Kv}{k:Az}(h:∀x∈ks,k<x.key):Jm ks k=[]:=by
 unfold Jm;rw[List.find?_eq_none.2]
 ·rfl
 ·intro x hx e;simp only[decide_eq_true_eq]at e;have:=h x hx;rw[e]at this;exact absurd this (List.lt_irrefl k)
theorem KSo.ext:∀{a b:List Kv},KSo a→KSo b→(∀x∈a,x.vs≠[])→(∀x∈b,x.vs≠[])→(∀k,Jm a k=Jm b k)→a=b
 | [],[],_,_,_,_,_=>rfl
 | [],y::b,_,_,_,hb,h=>by
   have:=h y.key;rw[Dv,if_pos rfl]at this;exact absurd this.symm (hb y (List.mem_cons_self ..))
 |x::a,[],_,_,ha,_,h=>by
  have:=h x.key;rw[Dv,if_pos rfl]at this;exact absurd this (ha x (List.mem_cons_self ..))
 |x::a,y::b,h1,h2,ha,hb,h=>by
  obtain⟨a1,a2⟩:=List.pairwise_cons.1 h1;obtain⟨b1,b2⟩:=List.pairwise_cons.1 h2;have hxy:x.key=y.key:=by
   by_cases e:x.key=y.key
   ·exact e
   exfalso;by_cases c:x.key<y.key
   ·have:=h x.key;rw[Dv,if_pos rfl,R6 (ks:=y::b) (fun z hz=>by
     rcases List.mem_cons.1 hz with rfl|hz
     ·exact c
     ·exact List.lt_trans c (b1 z hz))]at this
    exact ha x (List.mem_cons_self ..) this
   ·have c2:y.key<x.key:=Std.lt_of_le_of_ne (List.not_lt.1 c) fun q=>e q.symm
    have:=h y.key;rw[Dv (h:=y),if_pos rfl,R6 (ks:=x::a) (fun z hz=>by
     rcases List.mem_cons.1 hz with rfl|hz
     ·exact c2
     ·exact List.lt_trans c2 (a1 z hz))]at this
    exact hb y (List.mem_cons_self ..) this.symm
  have hv:x.vs=y.vs:=by
   have:=h x.key;rw[Dv,if_pos rfl,Dv,if_pos hxy.symm]at this;exact this
  have htl:∀k,Jm a k=Jm b k:=fun k=>by
   by_cases e:x.key=k
   ·rw[R6 (ks:=a) (fun z hz=>by rw[←e];exact a1 z hz),R6 (ks:=b) (fun z hz=>by rw[←e,hxy];exact b1 z hz)]
   ·have:=h k;rw[Dv,if_neg e,Dv,if_neg (by rw[←hxy];exact e)]at this
    exact this
  rw[KSo.ext a2 b2 (fun z hz=>ha z (List.mem_cons_of_mem _ hz)) (fun z hz=>hb z (List.mem_cons_of_mem _ hz)) htl]
  obtain⟨xk,xv⟩:=x;obtain⟨yk,yv⟩:=y;dsimp only at hxy hv;rw[hxy,hv]

def sumV(n:Az):List Hld→Int
 | []=>0
 |h::r=>(if(C1 h.at_).1=n then(h.vs.length:Int)else 0)+sumV n r
theorem Ai6(n:Az):∀a b:List Hld,sumV n (a++b)=sumV n a+sumV n b
 | [],b=>by simp[sumV]
 |h::r,b=>by simp only[List.cons_append,sumV,Ai6 n r b];omega
theorem Ak6{n:Az}{h:Hld}:∀{l:List Hld} {p:Nat} {e:Hld},l[p]?=some e→sumV n (l.set p h)=sumV n l - (if(C1 e.at_).1=n then(e.vs.length:Int)else 0)+(if(C1 h.at_).1=n then(h.vs.length:Int)else 0)
 | [],p,e,he=>by simp at he
 |x::r,0,e,he=>by
  simp only[List.getElem?_cons_zero,Option.some.injEq]at he;subst he;simp only[List.set_cons_zero,sumV];omega
 |x::r,p+1,e,he=>by
  simp only[List.getElem?_cons_succ]at he;simp only[List.set_cons_succ,sumV,Ak6 he];omega
theorem Aen{n:Az}{l:List Hld}{a:Az}{v:Ver}:sumV n (putA l a v)=sumV n l+if(C1 a).1=n then 1 else 0:=by
 unfold putA putL;split
 ·rename_i hf;obtain⟨e,h2,h3⟩:=Afp hf;have h4:e.at_=a:=by simpa[eqH]using h3
  rw[Zv h2,Ak6 h2];dsimp only;rw[h4];split
  ·simp only[List.length_append,List.length_singleton];omega
  ·omega
 ·rename_i hf;rw[Ai6]
  conv=>rhs;rw[←List.take_append_drop (Km (Kh a) l) l,Ai6]
  simp only[sumV,List.length_singleton];split<;>omega
theorem Akj{n k:Az}{c:Chg}{x:WSt}(hn:n.length<256)(h:x.t.vers=sumV n x.l):(Dw n k c x).t.vers=sumV n (Dw n k c x).l:=by
 have hw:(C1 (B7 n k)).1=n:=by rw[Mt hn]
 unfold Dw;dsimp only;split
 ·exact h
 ·split
  ·dsimp only;rw[Aen,if_pos hw,h]
  ·split
   ·dsimp only;rw[Aen,if_pos hw,h]
   ·dsimp only;rw[Aen,if_pos hw,h]
theorem Akk{n k n':Az}{c:Chg}{x:WSt}(hn:n.length<256)(h:n'≠n):sumV n' (Dw n k c x).l=sumV n' x.l:=by
 rcases Q7 n k c x with e|⟨v,_,e,_⟩
 ·rw[e]
 ·rw[e,Aen,Mt hn,if_neg (fun q=>h q.symm)];omega
theorem Aib{n:Az}{F:List Chg}(hn:n.length<256):∀{KK:List Az} {x:WSt},x.t.vers=sumV n x.l→(Ge n F KK x).t.vers=sumV n (Ge n F KK x).l∧∀n',n'≠n→sumV n' (Ge n F KK x).l=sumV n' x.l
 | [],x,h=>⟨h,fun _ _=>rfl⟩
 |k::KK,x,h=>by
  obtain⟨a,b⟩:=Aib (F:=F) hn (KK:=KK) (Akj (k:=k) (c:=getF F k) hn h);exact⟨a,fun n' hn'=>(b n' hn').trans (Akk hn hn')⟩
def VInv(s:Sto):Prop:=∀n,(s.tal n).vers=sumV n s.l
theorem VInv.write{m:Nat}{s:Sto}(h:SInv m s)(hc:VInv s)(n:Az)(cs:List Chg):VInv (s.writeM n cs).1:=by
 unfold Sto.writeM;split
 ·exact hc
 ·rename_i i hi;split
  ·exact hc
  ·rename_i F hF;have hn:n.length<256:=by
    obtain⟨_,_,h3⟩:=Sto.fi_some hi;exact h.nm _ (List.mem_of_getElem? h3)
   obtain⟨a,b⟩:=Aib (F:=F) hn (KK:=Dc (F.map Chg.key)) (x:=⟨s.tal n,s.l,false⟩) (hc n);generalize Ge n F (Dc (F.map Chg.key)) ⟨s.tal n,s.l,false⟩=Z at*;intro n';rw[Mi hi];dsimp only at b ⊢;by_cases e:n'=n
   ·subst e;rw[if_pos rfl, ←a];unfold WSt.fin;split<;>rfl
   ·rw[if_neg e,b n' e];exact hc n'
theorem Aku{n:Az}{rev:Int}:∀{l:List Hld} {x:CSt},(Mz n rev l x).c=x.c+sumV n (l.filterMap (Pf n rev))
 | [],x=>by show x.c=x.c+0;omega
 |h::r,x=>by
  unfold Mz;rw[Aku,List.filterMap_cons];unfold Uy Pf;by_cases e:(C1 h.at_).1=n
  ·rw[if_pos e,if_pos e];by_cases g:h.vs.length≤Lm rev h.vs
   ·rw[if_pos g,if_pos g]
   ·rw[if_neg g,if_neg g];dsimp only;simp only[sumV];rw[if_pos e,List.length_drop];omega
  ·rw[if_neg e,if_neg e];dsimp only;simp only[sumV];rw[if_neg e];omega
theorem Ak5{n n':Az}{rev:Int}(hn:n'≠n):∀{l:List Hld},sumV n' (l.filterMap (Pf n rev))=sumV n' l
 | []=>rfl
 |h::r=>by
  rw[List.filterMap_cons];have ih:=Ak5 (rev:=rev) hn (l:=r);by_cases e:(C1 h.at_).1=n
  ·have e2:¬(C1 h.at_).1=n':=fun q=>hn (q.symm.trans e)
   cases hc:Pf n rev h with
   |none=>
    dsimp only;rw[ih];simp only[sumV];rw[if_neg e2,Int.zero_add]
   |some y=>
    obtain⟨a1,k,a2,_⟩:=Agy hc;dsimp only;simp only[sumV];rw[a1,if_neg e2,if_neg e2,Int.zero_add,Int.zero_add,ih]
  ·rw[show Pf n rev h=some h by unfold Pf;rw[if_neg e]]
   dsimp only;simp only[sumV];rw[ih]
theorem VInv.comp{s:Sto}(hc:VInv s)(n:Az)(rev:Int):VInv (s.compM n rev).1:=by
 unfold Sto.compM;split
 ·exact hc
 ·rename_i i hi;split
  ·obtain⟨c1,_⟩:=Ahp (n:=n) (rev:=rev) (l:=s.l) (x:=⟨[],0⟩);have c2:=Aku (n:=n) (rev:=rev) (l:=s.l) (x:=⟨[],0⟩);rw[List.nil_append]at c1;generalize Mz n rev s.l ⟨[],0⟩=Z at*;dsimp only at c2;intro n';rw[Mi hi];dsimp only;rw[c1];by_cases e:n'=n
   ·subst e;rw[if_pos rfl];dsimp only;rw[c2];omega
   ·rw[if_neg e,Ak5 e];exact hc n'
  ·exact hc
theorem VInv.open{s:Sto}(hc:VInv s)(nm:Bool)(n:Az):VInv (s.openM nm n).1:=by
 have h2:=(Ah4 (s:=s) (nm:=nm) (n:=n) (n':=[])).2;intro n';rw[h2,Ah4.1];exact hc n'

open Go.Proofs
theorem Af9(s:Sto):s.ref.length=s.sp.length:=by unfold Sto.ref Sto.names;rw[List.length_map,Ajd,List.length_map]
theorem Amu(n:Az)(l:List Hld):(keysOf n l).length≤l.length:=List.length_filterMap_le _ _
theorem Aiq{n:Az}{l:List Hld}{x:Kv}(hx:x∈keysOf n l):∃y∈l,x.key=(C1 y.at_).2.1∧x.vs=y.vs:=by
 obtain⟨y,hy,e⟩:=List.mem_filterMap.1 hx;unfold G3 at e;split at e
 ·simp only[Option.some.injEq]at e;subst e;exact⟨y,hy,rfl,rfl⟩
 ·cases e
theorem Aie{m:Nat}{s:Sto}(h:SInv m s)(hm:m≤80000)(hc:CInv s)(n:Az):KvBd (keysOf n s.l)∧KL 80000 (keysOf n s.l):=by
 have hl:=Amu n s.l;have hlen:=h.lb.len;refine⟨⟨by omega,fun x hx=>?_⟩,⟨by omega,fun x hx=>?_⟩⟩
 ·obtain⟨y,hy,e1,e2⟩:=Aiq hx;obtain⟨_,_,b3,b4⟩:=h.lb.held y hy;have:=(hc.vk y hy).1;rw[e1,e2];exact⟨by omega,by omega,b4⟩
 ·obtain⟨y,hy,e1,e2⟩:=Aiq hx;obtain⟨_,_,b3,b4⟩:=h.lb.held y hy;rw[e2];omega

theorem Hf{l:List Hld}{n n' k:Az}{v:Ver}(hn:n.length<256)(h:n'≠n):keysOf n' (putA l (B7 n k) v)=keysOf n' l:=by
 have hw:∀x:Hld,x.at_=B7 n k→G3 n' x=none:=fun x hx=>Nv (by rw[hx,Mt hn];exact Ne.symm h)
 exact Aiw (g:=G3 n') (hw _ rfl) fun x _ hx=>by rw[hw x hx];exact hw _ hx
theorem Et{n k n':Az}{c:Chg}{x:WSt}(hn:n.length<256)(h:n'≠n):keysOf n' (Dw n k c x).l=keysOf n' x.l:=by
 rcases Q7 n k c x with e|⟨v,_,e,_⟩
 ·rw[e]
 ·rw[e,Hf hn h]
theorem D7{n n':Az}{F:List Chg}(hn:n.length<256)(h:n'≠n):∀{KK:List Az} {x:WSt},keysOf n' (Ge n F KK x).l=keysOf n' x.l
 | [],_=>rfl
 |k::KK,x=>by
  unfold Ge;rw[D7 hn h,Et hn h]
theorem Ez{n n':Az}{rev:Int}(h:n'≠n):∀{l:List Hld},keysOf n' (l.filterMap (Pf n rev))=keysOf n' l
 | []=>rfl
 |x::r=>by
  have ih:=Ez (rev:=rev) h (l:=r);unfold keysOf at ih ⊢;by_cases e:(C1 x.at_).1=n
  ·have h0:G3 n' x=none:=Nv (by rw[e];exact Ne.symm h)
   rw[List.filterMap_cons,List.filterMap_cons (l:=r) (a:=x),h0];cases hc:Pf n rev x with
   |none=>exact ih
   |some x'=>
    dsimp only;rw[List.filterMap_cons,Nv (by rw[(Agy hc).1,e];exact Ne.symm h)]
    exact ih
  ·rw[List.filterMap_cons];have:Pf n rev x=some x:=by unfold Pf;rw[if_neg e]
   rw[this];dsimp only;rw[List.filterMap_cons,List.filterMap_cons,ih]
theorem Fj{m:Nat}{s:Sto}(hI:SInv m s)(o:Opn){n:Az}(h:n≠o.n):(s.stepM o).tal n=s.tal n∧keysOf n (s.stepM o).l=keysOf n s.l:=by
 unfold Sto.stepM;split
 ·unfold Sto.writeM;split
  ·exact⟨rfl,rfl⟩
  ·rename_i i hi;split
   ·exact⟨rfl,rfl⟩
   ·exact⟨by rw[Mi hi,if_neg h],by dsimp only;rw[D7 (hI.name hi) h]⟩
 ·split
  ·unfold Sto.compM;split
   ·exact⟨rfl,rfl⟩
   ·rename_i i hi;split
    ·refine⟨by rw[Mi hi,if_neg h],?_⟩
     dsimp only;rw[(Ahp (n:=o.n) (rev:=o.rev) (l:=s.l) (x:=⟨[],0⟩)).1,List.nil_append,Ez h]
    ·exact⟨rfl,rfl⟩
  ·split
   ·exact⟨Ah4.1,by rw[Ah4 (n':=n).2]⟩
   ·exact⟨rfl,rfl⟩
theorem Hg{m:Nat}{s:Sto}(hI:SInv m s)(o:Opn){n:Az}(h:n≠o.n):(s.stepM o).spcS n=s.spcS n:=by
 obtain⟨h1,h2⟩:=Fj hI o h;unfold Sto.spcS;rw[h1,h2]

open Go.Proofs
theorem VInv.step{m:Nat}{s:Sto}(h:SInv m s)(hc:VInv s)(o:Opn):VInv (s.stepM o):=by
 unfold Sto.stepM;split
 ·exact hc.write h _ _
 ·split
  ·exact hc.comp _ _
  ·split
   ·exact hc.open _ _
   ·exact hc
theorem Fi{s:Sto}(h:s.sp.length≤8)(o:Opn):(s.stepM o).sp.length≤8:=by
 unfold Sto.stepM;split
 ·unfold Sto.writeM;split
  ·exact h
  ·split
   ·exact h
   ·dsimp only;rw[List.length_set];exact h
 ·split
  ·unfold Sto.compM;split
   ·exact h
   ·split
    ·dsimp only;rw[List.length_set];exact h
    ·exact h
  ·split
   ·unfold Sto.openM;split
    ·exact h
    ·split
     ·exact h
     ·split
      ·exact h
      ·dsimp only;rw[List.length_append,List.length_singleton];omega
   ·exact h

open Go.Proofs
abbrev tQ:Az:=[116]

open Go.Proofs
theorem Fe{m:Nat}{s:Sto}(h:SInv m s)(hm:m≤80000)(h8:s.sp.length≤8):Fn Tryd.prog B9 [sP s] (Is (.v (.list (s.ref.map Spc.toI))) [sP s]):=by
 have hsp:=Fs s h.nd (by omega)
 have hin:∀n∈s.names,n.length≤1000∧(s.fi n).isSome=true:=fun n hn=>by
  have hf:=Agp.1 hn;refine⟨?_,hf⟩;obtain⟨i,hi⟩:=Option.isSome_iff_exists.1 hf;have:=h.name hi;omega
 have hd:=Gu ofC s (h.bd (by omega)) s.names hin (by unfold Sto.names;rw[Ajd,List.length_map];omega) hsp
 rw[show s.names.map s.dumpS=s.ref from List.map_congr_left fun n hn=>by
  unfold Sto.dumpS Sto.spcS;obtain⟨i,hi⟩:=Option.isSome_iff_exists.1 (hin n hn).2;rw[Gt (h.name hi) h.wi.1 fun y hy=>(h.wi.2 y hy).1]]at hd
 exact hd
theorem H8{m:Nat}{s:Sto}(h:SInv m s)(hm:m≤80000)(h8:s.sp.length≤8)(hc:CInv s):F4 s.ref:=by
 have hlr:=Af9 s;refine⟨by omega,fun p hp=>?_⟩
 obtain⟨n,_,rfl⟩:=List.mem_map.1 hp;have hk:=(Aie h (by omega) hc n).2
 exact⟨Nat.le_trans hk.1 (by omega),fun x hx=>Nat.le_trans (hk.2 x hx) (by omega)⟩
structure QInv(j:Nat)(s:Sto):Prop where
 inv:SInv (101*j) s
 c:CInv s
 v:VInv s
 nm:s.sp.map (·.1)=[tQ]
theorem QInv.len{j:Nat}{s:Sto}(h:QInv j s):s.sp.length=1:=by
 have:=congrArg List.length h.nm;simpa using this
theorem QInv.write{j:Nat}{s:Sto}(h:QInv j s){cs:List Chg}(hcs:cs.length≤100):QInv (j+1) (s.writeM tQ cs).1:=by
 refine⟨(h.inv.write tQ cs).mono (by omega),h.c.write h.inv tQ cs,h.v.write h.inv tQ cs,?_⟩
 rw[←h.nm];unfold Sto.writeM;split
 ·rfl
 ·rename_i i hi;split
  ·rfl
  ·exact Agj hi
theorem QInv.t{j:Nat}{s:Sto}(h:QInv j s):∃i,s.fi tQ=some i:=by
 have:s.fi tQ=(aw1).fi tQ:=Ajf (s:=aw1) (s':=s) (by rw[h.nm];rfl) tQ
 exact⟨0,this⟩
theorem QInv.u{j:Nat}{s:Sto}(h:QInv j s):s.fi [117]=none:=Ajf (s:=aw1) (s':=s) (by rw[h.nm];rfl) [117]
theorem QInv.ref{j:Nat}{s:Sto}(h:QInv j s):s.ref=[s.spcS tQ]:=by
 unfold Sto.ref Sto.names;rw[h.nm];simp[Dc]

open Go.Proofs
def Bw:Stm:=(sO [gA 4 cF] (.seq (sO [gC 11 30 [],gT 12 11] (cR 12 [gA 4 cF])) (.seq (sO [gM 13 0,gC 14 31 [nL 13],gM 15 14,qf 15 (iM 16 1),.call (some (15,false)) (some 17) 31 [nL 16],gP 18 15 cT 17] (cR 18 [gA 4 cT])) (sO [gM 19 0,gC 20 32 [nL 19],O1 (.alloc 5 (.one (.i .nilp))),O1 (.stP 5 20)] (sO [O1 (.mkm 21 45 [] [5]),gM 6 21] (sO [gM 22 6,.inc none (some 23) 57 22 45 [5] [],gA 7 23] (sO [gL 24 5,gC 25 22 [(true,24),nL (cS [117])],gA 8 25] (.seq (sO [gM 26 1,gN 27 26,gM 28 (cI 0)] (.block 0 (.loop [10,13,16,19,29,30,31,32,33,34,35,36,37,38,39,40,41,42,46] (sO [gB 29 .lss 28 27] (.seq (.cond 29 .skip (.exit 0)) (.seq (.block 1 (sO [gI 30 7 26 28,gU 31 7 30,O1 (.alloc 10 (.one (.i (.agg [(.int .i64 0),(.str []),(.list []),(.agg [(.str []),(.str [])]),(.int .i64 0),(.int .i64 0)])))),gS 7 10 31] (.seq (sO [gF 32 10 1,gL 33 32,gB 34 .eql 33 (cS [117])] (.cond 34 (.ops [gF 35 10 1,gS 1 35 (cS [116])]) .skip)) (.ops [gL 36 5,O1 (.buildD 37 [(.vec 50 4 [])] []),O1 (.boxD 38 37),gU 39 7 10,gC 40 35 [(true,36),(true,38),nL 39]])))) (.ops [gB 41 .add 28 (cI 1),gM 28 41]))))))) (sO [gM 42 7,gN 43 42,gB 44 .eql 43 (cI 1),gM 45 44,qt 45 (iM 46 7),qt 45 (iM 47 6),.inc (some (45,true)) (some 48) 57 47 45 [5] [],.call (some (45,true)) (some 49) 43 [nL 46,nL 48],gP 50 45 49 cF,gM 51 50,qt 51 (iL 52 5),.call (some (51,true)) (some 53) 22 [(true,52),nL (cS [117])],qt 51 (iM 54 8),qt 51 (iB 55 .eql 53 54),gP 56 51 55 cF,gA 4 56] .ret)))))))))
theorem Aq:OF 10 57 Bw [.t 4]:=oF Tryd.func10 rfl Tryd.ntmps10 (by kernel_rfl) (by kernel_rfl)
end Go.Ab
