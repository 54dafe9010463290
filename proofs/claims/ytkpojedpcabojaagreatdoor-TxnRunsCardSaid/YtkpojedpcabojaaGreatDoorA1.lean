/- Lemmas -/
import Derived.Test.YtkpojedpcabojaaGreatDoorY3
import Derived.Shelf.Spec.SlicesGrow
set_option linter.unusedVariables false
set_option linter.unusedSimpArgs false
set_option maxRecDepth 100000
set_option maxHeartbeats 40000000
namespace Go.Ab
open Go.Proofs
theorem A0k{α:Type}{a b:List α}{i:Nat}{x:α}(h:a.take i=b.take i)(ha:a[i]?=some x)(hb:b[i]?=some x):a.take (i+1)=b.take (i+1):=by
 rw[Amx,Amx,h,ha,hb]
def Bg2(a:List Spc):Prop:=a.length≤100000∧∀p∈a,p.keys.length≤100000∧∀h∈p.keys,h.vs.length≤100000
theorem Bgb(a b:List Spc)(ha:Bg2 a)(hb0:Bg2 b):Fn Tryz.prog A2i [.v (.list (a.map Spc.Bx)),.v (.list (b.map Spc.Bx))] (Is (.v (.bool (decide (a=b)))) [.no,.no]):=by
 refine A2f ?_ (by simp)
 obtain⟨ha1,ha2⟩:=ha;obtain⟨hb1,hb2⟩:=hb0;by_cases hl:a.length=b.length
 case neg=>
  have h1:¬(!decide (((a.map Spc.Bx).length:Int)=((b.map Spc.Bx).length:Int)))=false:=by simp;omega
  have h2:decide (a=b)=false:=decide_eq_false (fun e=>hl (by rw[e]))
  rw[h2];repeat'((conv=>whnf);first|(with_reducible refine Ax (by exact Ai (by assumption)) fun hb=>?_);(try rw[hb]);try simp only[Aa]at hb|(with_reducible refine Ac ?_ ?_);focus (and_intros<;>(with_reducible rfl))|with_reducible intro Cq)
  all_goals(try(conv=>whnf))
  (apply Dj<;>kernel_rfl)
 have h1:¬(!decide (((a.map Spc.Bx).length:Int)=((b.map Spc.Bx).length:Int)))=true:=by simp;omega
 repeat'((conv=>whnf);first|(with_reducible refine Aw (by exact Ak (by assumption)) fun hb=>?_);(try rw[hb]);try simp only[Aa]at hb|(with_reducible refine Ac ?_ ?_);focus (and_intros<;>(with_reducible rfl))|with_reducible intro Cq)
 all_goals(try(conv=>whnf))
 refine Afm.by (X:=Nat) (fun j=>[(5,.v (ti (j:Int)))]) (fun j=>j≤a.length∧a.take j=b.take j) (fun j=>a.length - j) 0 (by kernel_rfl) ⟨Cr _,rfl⟩ ?_
 rintro j ⟨hj,hp⟩
 (try dsimp only at hj hp ⊢)
 have hw:=zwj (j:=j) (by omega)
 by_cases hjl:j<a.length
 case neg=>
  have h3:¬decide ((j:Int)<((a.map Spc.Bx).length:Int))=true:=by simp;omega
  have h4:¬decide ((j:Int)<(a.length:Int))=true:=by simp;omega
  rw[Am2 (by omega),Am2 (by omega)]at hp
  rw[decide_eq_true hp];repeat'((conv=>whnf);first|(with_reducible refine Aw (by exact Ak (by assumption)) fun hb=>?_);(try rw[hb]);try simp only[Aa]at hb|(with_reducible refine Ac ?_ ?_);focus (and_intros<;>(with_reducible rfl))|with_reducible intro Cq)
  all_goals(try(conv=>whnf))
  (apply Dj<;>kernel_rfl)
 obtain⟨x,hx⟩:∃x,a[j]?=some x:=⟨_,Ae hjl⟩;obtain⟨y,hy⟩:∃y,b[j]?=some y:=⟨_,Ae (by omega)⟩
 have h3:¬decide ((j:Int)<((a.map Spc.Bx).length:Int))=false:=by simp;omega
 have h4:¬decide ((j:Int)<(a.length:Int))=false:=by simp;omega
 have hab:a=b→x=y:=fun e=>by rw[e]at hx;exact Aag (hx.symm.trans hy)
 have hxb:=ha2 x (Cb hx);have hyb:=hb2 y (Cb hy);obtain⟨xn,xr,xf,xk⟩:=x;obtain⟨yn,yr,yf,yk⟩:=y;simp only[Spc.mk.injEq]at hab;dsimp only at hxb hyb;obtain⟨B0t,Bwe⟩:=hxb;obtain⟨B0u,Bwf⟩:=hyb;by_cases c1:xn=yn
 case neg=>
  have e1:¬(!decide (xn=yn))=false:=by simp[c1]
  have Cf:decide (a=b)=false:=decide_eq_false fun e=>c1 (hab e).1
  rw[Cf];repeat'((conv=>whnf);first|(with_reducible refine Ax (by first|exact Ai (by assumption)|rfl) fun hb=>?_);(try rw[hb]);try simp only[Aa]at hb|(with_reducible refine Ac ?_ ?_);focus (and_intros<;>first|omega|with_reducible rfl|kernel_rfl)|with_reducible intro Cq|(with_reducible refine Ai2.mkV ?_ ?_ ?_ fun Cq=>?_);(iterate 3 focus (as_aux_lemma=>kernel_rfl));try simp only[zRL]at Cq|(try dsimp only);(first|rw[B6 hx]|rw[B6 hy]))
  all_goals(try(conv=>whnf))
  (apply Dj<;>kernel_rfl)
 have e1:¬(!decide (xn=yn))=true:=by simp[c1]
 by_cases c2:xr=yr
 case neg=>
  have e2:¬(!decide (xr=yr))=false:=by simp[c2]
  have Cf:decide (a=b)=false:=decide_eq_false fun e=>c2 (hab e).2.1
  rw[Cf];repeat'((conv=>whnf);first|(with_reducible refine Ax (by first|exact Ai (by assumption)|rfl) fun hb=>?_);(try rw[hb]);try simp only[Aa]at hb|(with_reducible refine Aw (by first|assumption|exact Ak (by assumption)|rfl) fun hb=>?_);(try rw[hb]);(try simp only[Aa]at hb);try subst hb|(with_reducible refine Ac ?_ ?_);focus (and_intros<;>first|omega|with_reducible rfl|kernel_rfl)|with_reducible intro Cq|(with_reducible refine Ai2.mkV ?_ ?_ ?_ fun Cq=>?_);(iterate 3 focus (as_aux_lemma=>kernel_rfl));try simp only[zRL]at Cq|(try dsimp only);(first|rw[B6 hx]|rw[B6 hy]))
  all_goals(try(conv=>whnf))
  (apply Dj<;>kernel_rfl)
 have e2:¬(!decide (xr=yr))=true:=by simp[c2]
 by_cases c3:xf=yf
 case neg=>
  have e3:¬(!decide (xf=yf))=false:=by simp[c3]
  have Cf:decide (a=b)=false:=decide_eq_false fun e=>c3 (hab e).2.2.1
  rw[Cf];repeat'((conv=>whnf);first|(with_reducible refine Ax (by first|exact Ai (by assumption)|rfl) fun hb=>?_);(try rw[hb]);try simp only[Aa]at hb|(with_reducible refine Aw (by first|assumption|exact Ak (by assumption)|rfl) fun hb=>?_);(try rw[hb]);(try simp only[Aa]at hb);try subst hb|(with_reducible refine Ac ?_ ?_);focus (and_intros<;>first|omega|with_reducible rfl|kernel_rfl)|with_reducible intro Cq|(with_reducible refine Ai2.mkV ?_ ?_ ?_ fun Cq=>?_);(iterate 3 focus (as_aux_lemma=>kernel_rfl));try simp only[zRL]at Cq|(try dsimp only);(first|rw[B6 hx]|rw[B6 hy]))
  all_goals(try(conv=>whnf))
  (apply Dj<;>kernel_rfl)
 have e3:¬(!decide (xf=yf))=true:=by simp[c3]
 by_cases c4:xk.length=yk.length
 case neg=>
  have e4:¬(!decide (((xk.map Kv.Bx).length:Int)=((yk.map Kv.Bx).length:Int)))=false:=by simp;omega
  have Cf:decide (a=b)=false:=decide_eq_false fun e=>c4 (by rw[(hab e).2.2.2])
  rw[Cf];repeat'((conv=>whnf);first|(with_reducible refine Ax (by exact Ai (by assumption)) fun hb=>?_);(try rw[hb]);try simp only[Aa]at hb|(with_reducible refine Aw (by first|assumption|exact Ak (by assumption)|rfl) fun hb=>?_);(try rw[hb]);(try simp only[Aa]at hb);try subst hb|(with_reducible refine Ac ?_ ?_);focus (and_intros<;>first|omega|with_reducible rfl|kernel_rfl)|with_reducible intro Cq|(with_reducible refine Ai2.mkV ?_ ?_ ?_ fun Cq=>?_);(iterate 3 focus (as_aux_lemma=>kernel_rfl));try simp only[zRL]at Cq|(try dsimp only);(first|rw[B6 hx]|rw[B6 hy]))
  all_goals(try(conv=>whnf))
  (apply Dj<;>kernel_rfl)
 have e4:¬(!decide (((xk.map Kv.Bx).length:Int)=((yk.map Kv.Bx).length:Int)))=true:=by simp;omega
 repeat'((conv=>whnf);first|(with_reducible refine Ax (by exact Ai (by assumption)) fun hb=>?_);(try rw[hb]);try simp only[Aa]at hb|(with_reducible refine Aw (by first|exact Ak (by assumption)|rfl) fun hb=>?_);(try rw[hb]);(try simp only[Aa]at hb);try subst hb|(with_reducible refine Ac ?_ ?_);focus (and_intros<;>first|omega|with_reducible rfl|kernel_rfl)|with_reducible intro Cq|(with_reducible refine Ai2.mkV ?_ ?_ ?_ fun Cq=>?_);(iterate 3 focus (as_aux_lemma=>kernel_rfl));try simp only[zRL]at Cq|(try dsimp only);(first|rw[B6 hx]|rw[B6 hy]))
 all_goals(try(conv=>whnf))
 refine Afm.by (X:=Nat) (fun k=>[(6,.v (ti (k:Int)))]) (fun k=>k≤xk.length∧xk.take k=yk.take k) (fun k=>xk.length - k) 0 (by kernel_rfl) ⟨Cr _,rfl⟩ ?_
 rintro k ⟨hk,hq⟩
 (try dsimp only at hk hq ⊢)
 have hwk:=zwj (j:=k) (by omega)
 by_cases hkl:k<xk.length
 case neg=>
  have h5:¬decide ((k:Int)<((xk.map Kv.Bx).length:Int))=true:=by simp;omega
  have h6:¬decide ((k:Int)<(xk.length:Int))=true:=by simp;omega
  rw[Am2 (by omega),Am2 (by omega)]at hq
  have hnx:a.take (j+1)=b.take (j+1):=A0k hp hx (by rw[hy,c1,c2,c3,hq])
  repeat'((conv=>whnf);first|(with_reducible refine Aw (by exact Ak (by assumption)) fun hb=>?_);(try rw[hb]);try simp only[Aa]at hb|(with_reducible refine Ac ?_ ?_);focus (and_intros<;>first|omega|with_reducible rfl|kernel_rfl)|with_reducible intro Cq|(try dsimp only);(first|rw[B6 hx]|rw[hw]))
  all_goals(try(conv=>whnf))
  refine Round.by (j+1) ?_ ⟨by omega,hnx⟩ (by omega)
  try dsimp only
  show norm _ _=Cx _ _
  kernel_rfl
 obtain⟨u,hu⟩:∃x,xk[k]?=some x:=⟨_,Ae hkl⟩;obtain⟨w,hwv⟩:∃y,yk[k]?=some y:=⟨_,Ae (by omega)⟩
 have h5:¬decide ((k:Int)<((xk.map Kv.Bx).length:Int))=false:=by simp;omega
 have h6:¬decide ((k:Int)<(xk.length:Int))=false:=by simp;omega
 have Bg3:a=b→u=w:=fun e=>by
  have:=(hab e).2.2.2;rw[this]at hu;exact Aag (hu.symm.trans hwv)
 have hub:=Bwe u (Cb hu);have hwb:=Bwf w (Cb hwv);obtain⟨uk,uv⟩:=u;obtain⟨wk,wv⟩:=w;simp only[Kv.mk.injEq]at Bg3;dsimp only at hub hwb;by_cases c5:uk=wk
 case neg=>
  have e5:¬(!decide (uk=wk))=false:=by simp[c5]
  have Cf:decide (a=b)=false:=decide_eq_false fun e=>c5 (Bg3 e).1
  rw[Cf];repeat'((conv=>whnf);first|(with_reducible refine Ax (by first|exact Ai (by assumption)|rfl) fun hb=>?_);(try rw[hb]);try simp only[Aa]at hb|(with_reducible refine Ac ?_ ?_);focus (and_intros<;>first|omega|with_reducible rfl|kernel_rfl|simp;done)|with_reducible intro Cq|(with_reducible refine Ai2.mkV ?_ ?_ ?_ fun Cq=>?_);(iterate 3 focus (as_aux_lemma=>kernel_rfl));try simp only[zRL]at Cq|(try dsimp only);(first|rw[B6 hx]|rw[B6 hy]|rw[B6 hu]|rw[B6 hwv]))
  all_goals(try(conv=>whnf))
  (apply Dj<;>kernel_rfl)
 have e5:¬(!decide (uk=wk))=true:=by simp[c5]
 by_cases c6:uv.length=wv.length
 case neg=>
  have e6:¬(!decide (((uv.map Fk.Bx).length:Int)=((wv.map Fk.Bx).length:Int)))=false:=by simp;omega
  have Cf:decide (a=b)=false:=decide_eq_false fun e=>c6 (by rw[(Bg3 e).2])
  rw[Cf];repeat'((conv=>whnf);first|(with_reducible refine Ax (by exact Ai (by assumption)) fun hb=>?_);(try rw[hb]);try simp only[Aa]at hb|(with_reducible refine Aw (by first|assumption|exact Ak (by assumption)|rfl) fun hb=>?_);(try rw[hb]);(try simp only[Aa]at hb);try subst hb|(with_reducible refine Ac ?_ ?_);focus (and_intros<;>first|omega|with_reducible rfl|kernel_rfl|simp;done)|with_reducible intro Cq|(with_reducible refine Ai2.mkV ?_ ?_ ?_ fun Cq=>?_);(iterate 3 focus (as_aux_lemma=>kernel_rfl));try simp only[zRL]at Cq|(try dsimp only);(first|rw[B6 hx]|rw[B6 hy]|rw[B6 hu]|rw[B6 hwv]))
  all_goals(try(conv=>whnf))
  (apply Dj<;>kernel_rfl)
 have e6:¬(!decide (((uv.map Fk.Bx).length:Int)=((wv.map Fk.Bx).length:Int)))=true:=by simp;omega
 repeat'((conv=>whnf);first|(with_reducible refine Ax (by exact Ai (by assumption)) fun hb=>?_);(try rw[hb]);try simp only[Aa]at hb|(with_reducible refine Aw (by first|exact Ak (by assumption)|rfl) fun hb=>?_);(try rw[hb]);(try simp only[Aa]at hb);try subst hb|(with_reducible refine Ac ?_ ?_);focus (and_intros<;>first|omega|with_reducible rfl|kernel_rfl|simp;done)|with_reducible intro Cq|(with_reducible refine Ai2.mkV ?_ ?_ ?_ fun Cq=>?_);(iterate 3 focus (as_aux_lemma=>kernel_rfl));try simp only[zRL]at Cq|(try dsimp only);(first|rw[B6 hx]|rw[B6 hy]|rw[B6 hu]|rw[B6 hwv]))
 all_goals(try(conv=>whnf))
 refine Afm.by (X:=Nat) (fun n=>[(9,.v (ti (n:Int)))]) (fun n=>n≤uv.length∧uv.take n=wv.take n) (fun n=>uv.length - n) 0 (by kernel_rfl) ⟨Cr _,rfl⟩ ?_
 rintro n ⟨hn,hr⟩
 (try dsimp only at hn hr ⊢)
 have hwn:=zwj (j:=n) (by omega)
 by_cases hnl:n<uv.length
 case neg=>
  have h7:¬decide ((n:Int)<((uv.map Fk.Bx).length:Int))=true:=by simp;omega
  have h8:¬decide ((n:Int)<(uv.length:Int))=true:=by simp;omega
  rw[Am2 (by omega),Am2 (by omega)]at hr
  have hnx:xk.take (k+1)=yk.take (k+1):=A0k hq hu (by rw[hwv,c5,hr])
  repeat'((conv=>whnf);first|(with_reducible refine Aw (by exact Ak (by assumption)) fun hb=>?_);(try rw[hb]);try simp only[Aa]at hb|(with_reducible refine Ac ?_ ?_);focus (and_intros<;>first|omega|with_reducible rfl|kernel_rfl|simp;done)|with_reducible intro Cq|(try dsimp only);rw[hwk])
  all_goals(try(conv=>whnf))
  refine Round.by (k+1) ?_ ⟨by omega,hnx⟩ (by omega)
  try dsimp only
  show norm _ _=Cx _ _
  kernel_rfl
 obtain⟨v,hv⟩:∃x,uv[n]?=some x:=⟨_,Ae hnl⟩;obtain⟨z,hz⟩:∃y,wv[n]?=some y:=⟨_,Ae (by omega)⟩
 have h7:¬decide ((n:Int)<((uv.map Fk.Bx).length:Int))=false:=by simp;omega
 have h8:¬decide ((n:Int)<(uv.length:Int))=false:=by simp;omega
 have Bwc:a=b→v=z:=fun e=>by
  have:=(Bg3 e).2;rw[this]at hv;exact Aag (hv.symm.trans hz)
 obtain⟨vr,vm,vv,vg⟩:=v;obtain⟨zr,zm,zv,zg⟩:=z;have hqe:(decide (vr=zr)&&(decide (vm=zm)&&(decide (vv=zv)&&(decide (vg=zg)&&true))))=decide (Fk.mk vr vm vv vg=Fk.mk zr zm zv zg):=by rw[Bool.eq_iff_iff];simp
 by_cases c7:Fk.mk vr vm vv vg=Fk.mk zr zm zv zg
 ·have g:¬(!(decide (vr=zr)&&(decide (vm=zm)&&(decide (vv=zv)&&(decide (vg=zg)&&true)))))=true:=by rw[hqe];simp[c7]
  have hnx:uv.take (n+1)=wv.take (n+1):=A0k hr hv (by rw[hz,c7])
  repeat'((conv=>whnf);first|(with_reducible first|refine Ax (by first|assumption|exact Ai (by assumption)) fun hb=>?_|refine Aw (by exact Ak (by assumption)) fun hb=>?_);(try rw[hb]);try simp only[Aa]at hb|(with_reducible refine Ac ?_ ?_);focus (and_intros<;>first|omega|with_reducible rfl|kernel_rfl|simp;done)|with_reducible intro Cq|(with_reducible refine Ai2.mkV ?_ ?_ ?_ fun Cq=>?_);(iterate 3 focus (as_aux_lemma=>kernel_rfl));try simp only[zRL]at Cq|(try dsimp only);(first|rw[B6 hv]|rw[B6 hz])|skip;rw[hwn])
  all_goals(try(conv=>whnf))
  refine Round.by (n+1) ?_ ⟨by omega,hnx⟩ (by omega)
  try dsimp only
  show norm _ _=Cx _ _
  kernel_rfl
 ·have g:¬(!(decide (vr=zr)&&(decide (vm=zm)&&(decide (vv=zv)&&(decide (vg=zg)&&true)))))=false:=by rw[hqe];simp[c7]
  have Cf:decide (a=b)=false:=decide_eq_false fun e=>c7 (Bwc e)
  rw[Cf];repeat'((conv=>whnf);first|(with_reducible refine Ax (by exact Ai (by assumption)) fun hb=>?_);(try rw[hb]);try simp only[Aa]at hb|(with_reducible refine Ac ?_ ?_);focus (and_intros<;>first|omega|with_reducible rfl|kernel_rfl|simp;done)|with_reducible intro Cq|(with_reducible refine Ai2.mkV ?_ ?_ ?_ fun Cq=>?_);(iterate 3 focus (as_aux_lemma=>kernel_rfl));try simp only[zRL]at Cq|(try dsimp only);(first|rw[B6 hv]|rw[B6 hz]))
  all_goals(try(conv=>whnf))
  (apply Dj<;>kernel_rfl)

open Go.Proofs
abbrev rT(R:List Spc):SV:=.own [] (.ptr (.st [.vec 52 4 ((R.map Spc.Bx).map D.it)]))
def Aqo(n:Az):List Spc→Nat→Int
 | [],_=> -1
 |p::r,i=>if p.name=n then(i:Int)else Aqo n r (i+1)
theorem Auo(R:List Spc)(n:Az)(hl:R.length≤100000):Fn Tryz.prog Ay3 [rT R,.v (.str n)] (Is (.v (ti (Aqo n R 0))) [rT R,.no]):=by
 refine Ayw ?_ (by simp)
 obtain⟨C4,Ajz⟩:∃X,Aqo n R 0=X:=⟨_,rfl⟩;rw[Ajz];have hlm:((R.map Spc.Bx).map D.it).length=R.length:=by simp
 (skip)
 all_goals(try(conv=>whnf))
 refine Afm.by (X:=Nat) (fun j=>[(5,.v (ti (j:Int)))]) (fun j=>j≤R.length∧Aqo n (R.drop j) j=C4) (fun j=>R.length - j) 0 (by kernel_rfl) ⟨Cr _,Ajz⟩ ?_
 rintro j ⟨hj,hR⟩
 (try dsimp only at hj hR ⊢)
 have hw:=zwj (j:=j) (by omega)
 by_cases hjl:j<R.length
 case neg=>
  have h4:¬decide ((j:Int)<(R.length:Int))=true:=by simp;omega
  have h3:¬decide ((j:Int)<((((R.map Spc.Bx).map D.it).length:Nat):Int))=true:=by rw[hlm];exact h4
  rw[Db (by omega)]at hR
  have hR:(-1:Int)=C4:=hR;subst hR;repeat'((conv=>whnf);first|(with_reducible refine Aw (by exact Ak (by assumption)) fun hb=>?_);(try rw[hb]);try simp only[Aa]at hb|(with_reducible refine Ac ?_ ?_);focus (and_intros<;>first|omega|with_reducible rfl|kernel_rfl|simp;done)|with_reducible intro Cq)
  all_goals(try(conv=>whnf))
  (apply Dj<;>kernel_rfl)
 obtain⟨p,he⟩:∃x,R[j]?=some x:=⟨_,Ae hjl⟩;have h4:¬decide ((j:Int)<(R.length:Int))=false:=by simp;omega
 have h3:¬decide ((j:Int)<((((R.map Spc.Bx).map D.it).length:Nat):Int))=false:=by rw[hlm];exact h4
 have hdr:R.drop j=p::R.drop (j+1):=by rw[Cc hjl];rw[Ae hjl]at he;cases he;rfl
 rw[hdr]at hR;simp only[Aqo]at hR;obtain⟨pn,pr,pf,pk⟩:=p;dsimp only at hR;by_cases hn:pn=n
 ·rw[if_pos hn]at hR;subst hR;have e1:¬decide (pn=n)=false:=by simpa using hn
  repeat'((conv=>whnf);first|(with_reducible refine Ax (by exact Ai (by assumption)) fun hb=>?_);(try rw[hb]);(try simp only[Aa]at hb);try subst hb|(with_reducible refine Ac ?_ ?_);focus (and_intros<;>first|omega|with_reducible rfl|kernel_rfl|simp;done)|with_reducible intro Cq|(with_reducible apply A3);(focus rfl);(focus (simp only[D.at,D.put,D.Xw,D.Fh,Mg,Jo,D.Bx,Js,Ad,Af,he,hlm]<;>exact rfl));(try(focus exact rfl)))
  all_goals(try(conv=>whnf))
  (apply Dj<;>kernel_rfl)
 ·rw[if_neg hn]at hR;have e1:¬decide (pn=n)=true:=by simpa using hn
  repeat'((conv=>whnf);first|(with_reducible first|refine Ax (by exact Ai (by assumption)) fun hb=>?_|refine Aw (by exact Ak (by assumption)) fun hb=>?_);(try rw[hb]);try simp only[Aa]at hb|(with_reducible refine Ac ?_ ?_);focus (and_intros<;>first|omega|with_reducible rfl|kernel_rfl|simp;done)|with_reducible intro Cq|(try dsimp only);rw[hw]|(with_reducible apply A3);(focus rfl);(focus (simp only[D.at,D.put,D.Xw,D.Fh,Mg,Jo,D.Bx,Js,Ad,Af,he,hlm]<;>exact rfl));(try(focus exact rfl)))
  all_goals(try(conv=>whnf))
  refine Round.by (j+1) ?_ ⟨by omega,hR⟩ (by omega)
  try dsimp only
  show norm _ _=Cx _ _
  kernel_rfl

open Go.Proofs
def rrP(p:Spc)(x:Sp)(rev many:Int):List Pr × Bool × Int:=
 if ¬(SpR x∧0≤rev∧1≤many∧many≤16)then([],false,1)else if p.rev<rev then([],false,13)else if 0<rev∧rev<p.floor then([],false,14)else
 if many<(Ara x (if rev=0 then p.rev else rev) p.keys []).length then((Ara x (if rev=0 then p.rev else rev) p.keys []).take many.toNat,true,0)else(Ara x (if rev=0 then p.rev else rev) p.keys [],false,0)
theorem Bf8(R:List Spc)(n:Az)(x:Sp)(rev many:Int)(hl:R.length≤100000)(hf:Aqo n R 0= -1):
 Fn Tryz.prog Aq5 [rT R,.v (.str n),.v x.Bx,.v (ti rev),.v (ti many)] (Is (.tup [.i (.list []),.i (.bool false),.i (ti 16)]) [rT R,.no,.no,.no,.no]):=by
 refine At4 ?_ (by simp)
 have hfi:=Auo R n hl;rw[hf]at hfi;repeat'((conv=>whnf);first|(with_reducible refine Ax (by first|refine decide_eq_true ?_;omega|rfl) fun hb=>?_);(try rw[hb]);try simp only[Aa]at hb|(with_reducible refine Ac ?_ ?_);focus (and_intros<;>first|kernel_rfl|intro _ hh;cases hh;done|simp;done|decide)|(with_reducible refine Ct.mk ?_);refine⟨_,hfi,?_⟩;rintro _ _ ⟨rfl,rfl⟩)
 all_goals(try(conv=>whnf))
 (apply Dj<;>kernel_rfl)
theorem Bf9(R:List Spc)(n:Az)(x:Sp)(rev many:Int)(hl:R.length≤100000)(i:Nat)(p:Spc)(hf:Aqo n R 0=(i:Int))(he:R[i]?=some p)(hb:p.keys.length≤100000)(hv:∀h∈p.keys,h.vs.length≤100000):
 Fn Tryz.prog Aq5 [rT R,.v (.str n),.v x.Bx,.v (ti rev),.v (ti many)] (Is (.tup [.i (.list ((rrP p x rev many).1.map Pr.Bx)),.i (.bool (rrP p x rev many).2.1),.i (ti (rrP p x rev many).2.2)]) [rT R,.no,.no,.no,.no]):=by
 refine At4 ?_ (by simp)
 have hfi:=Auo R n hl;rw[hf]at hfi;have hil:=(A7.1 he).1;have hlm:((R.map Spc.Bx).map D.it).length=R.length:=by simp
 have hsr:=A7f x;have Bk8:=fun rev=>A82 p x rev hb hv
 obtain⟨pn,prv,pfl,pk⟩:=p;dsimp only at hb hv Bk8;unfold rrP;dsimp only;by_cases hx:SpR x
 case neg=>
  rw[decide_eq_false hx]at hsr;rw[if_pos (fun c=>hx c.1)]
  repeat'((conv=>whnf);first|(with_reducible first|refine Ax (by rfl) fun hb=>?_|refine Aw (by first|refine decide_eq_false ?_;omega|rfl) fun hb=>?_);(try rw[hb]);try simp only[Aa]at hb|((with_reducible refine A5 (fun hb=>?_) fun hb=>?_)<;>first|exact absurd hb (by decide)|(try rw[hb]);try simp only[Aa]at hb)|(with_reducible refine Ac ?_ ?_);focus (and_intros<;>first|omega|with_reducible rfl|kernel_rfl|intro _ hh;cases hh;done|simp;done|decide)|(with_reducible refine Ct.mk ?_);(first|refine⟨_,hfi,?_⟩|refine⟨_,hsr,?_⟩);rintro _ _ ⟨rfl,rfl⟩|(with_reducible apply A3);(focus rfl);(focus (simp only[D.at,D.put,D.Xw,D.Fh,Mg,Jo,D.Bx,Js,Ad,Af,he,hlm]<;>exact rfl));(try(focus exact rfl)))
  all_goals(try(conv=>whnf))
  all_goals((apply Dj<;>kernel_rfl))
 rw[decide_eq_true hx]at hsr;by_cases h1:rev<0
 case pos=>
  rw[if_pos (fun c=>by omega)]
  repeat'((conv=>whnf);first|(with_reducible first|refine Ax (by first|refine decide_eq_true ?_;assumption|rfl) fun hb=>?_|refine Aw (by first|refine decide_eq_false ?_;omega|rfl) fun hb=>?_);(try rw[hb]);try simp only[Aa]at hb|((with_reducible refine A5 (fun hb=>?_) fun hb=>?_)<;>first|exact absurd hb (by decide)|(try rw[hb]);try simp only[Aa]at hb)|(with_reducible refine Ac ?_ ?_);focus (and_intros<;>first|omega|with_reducible rfl|kernel_rfl|intro _ hh;cases hh;done|simp;done|decide)|(with_reducible refine Ct.mk ?_);(first|refine⟨_,hfi,?_⟩|refine⟨_,hsr,?_⟩);rintro _ _ ⟨rfl,rfl⟩|(with_reducible apply A3);(focus rfl);(focus (simp only[D.at,D.put,D.Xw,D.Fh,Mg,Jo,D.Bx,Js,Ad,Af,he,hlm]<;>exact rfl));(try(focus exact rfl)))
  all_goals(try(conv=>whnf))
  all_goals((apply Dj<;>kernel_rfl))
 by_cases h2:many<1
 case pos=>
  rw[if_pos (fun c=>by omega)]
  repeat'((conv=>whnf);first|(with_reducible first|refine Ax (by first|refine decide_eq_true ?_;assumption|rfl) fun hb=>?_|refine Aw (by first|((refine decide_eq_false ?_);first|assumption|omega)|rfl) fun hb=>?_);(try rw[hb]);try simp only[Aa]at hb|((with_reducible refine A5 (fun hb=>?_) fun hb=>?_)<;>first|exact absurd hb (by decide)|(try rw[hb]);try simp only[Aa]at hb)|(with_reducible refine Ac ?_ ?_);focus (and_intros<;>first|omega|with_reducible rfl|kernel_rfl|intro _ hh;cases hh;done|simp;done|decide)|(with_reducible refine Ct.mk ?_);(first|refine⟨_,hfi,?_⟩|refine⟨_,hsr,?_⟩);rintro _ _ ⟨rfl,rfl⟩|(with_reducible apply A3);(focus rfl);(focus (simp only[D.at,D.put,D.Xw,D.Fh,Mg,Jo,D.Bx,Js,Ad,Af,he,hlm]<;>exact rfl));(try(focus exact rfl)))
  all_goals(try(conv=>whnf))
  all_goals((apply Dj<;>kernel_rfl))
 by_cases h3:16<many
 case pos=>
  rw[if_pos (fun c=>by omega)]
  repeat'((conv=>whnf);first|(with_reducible first|refine Ax (by first|refine decide_eq_true ?_;assumption|rfl) fun hb=>?_|refine Aw (by first|((refine decide_eq_false ?_);first|assumption|omega)|rfl) fun hb=>?_);(try rw[hb]);try simp only[Aa]at hb|((with_reducible refine A5 (fun hb=>?_) fun hb=>?_)<;>first|exact absurd hb (by decide)|(try rw[hb]);try simp only[Aa]at hb)|(with_reducible refine Ac ?_ ?_);focus (and_intros<;>first|omega|with_reducible rfl|kernel_rfl|intro _ hh;cases hh;done|simp;done|decide)|(with_reducible refine Ct.mk ?_);(first|refine⟨_,hfi,?_⟩|refine⟨_,hsr,?_⟩);rintro _ _ ⟨rfl,rfl⟩|(with_reducible apply A3);(focus rfl);(focus (simp only[D.at,D.put,D.Xw,D.Fh,Mg,Jo,D.Bx,Js,Ad,Af,he,hlm]<;>exact rfl));(try(focus exact rfl)))
  all_goals(try(conv=>whnf))
  all_goals((apply Dj<;>kernel_rfl))
 rw[if_neg (fun c=>c ⟨hx,by omega,by omega,by omega⟩)]
 by_cases h4:prv<rev
 case pos=>
  rw[if_pos h4];repeat'((conv=>whnf);first|(with_reducible first|refine Ax (by first|refine decide_eq_true ?_;assumption|rfl) fun hb=>?_|refine Aw (by first|((refine decide_eq_false ?_);first|assumption|omega)|rfl) fun hb=>?_);(try rw[hb]);try simp only[Aa]at hb|((with_reducible refine A5 (fun hb=>?_) fun hb=>?_)<;>first|exact absurd hb (by decide)|(try rw[hb]);try simp only[Aa]at hb)|(with_reducible refine Ac ?_ ?_);focus (and_intros<;>first|omega|with_reducible rfl|kernel_rfl|intro _ hh;cases hh;done|simp;done|decide)|(with_reducible refine Ct.mk ?_);(first|refine⟨_,hfi,?_⟩|refine⟨_,hsr,?_⟩);rintro _ _ ⟨rfl,rfl⟩|(with_reducible apply A3);(focus rfl);(focus (simp only[D.at,D.put,D.Xw,D.Fh,Mg,Jo,D.Bx,Js,Ad,Af,he,hlm]<;>exact rfl));(try(focus exact rfl)))
  all_goals(try(conv=>whnf))
  all_goals((apply Dj<;>kernel_rfl))
 rw[if_neg h4];by_cases h5:0<rev∧rev<pfl
 case pos=>
  rw[if_pos h5];repeat'((conv=>whnf);first|(with_reducible first|refine Ax (by first|refine decide_eq_true ?_;omega|rfl) fun hb=>?_|refine Aw (by first|((refine decide_eq_false ?_);first|assumption|omega)|rfl) fun hb=>?_);(try rw[hb]);try simp only[Aa]at hb|((with_reducible refine A5 (fun hb=>?_) fun hb=>?_)<;>first|exact absurd hb (by decide)|exfalso;((simp only[An]at hb<;>omega))|(try rw[hb]);try simp only[Aa]at hb)|(with_reducible refine Ac ?_ ?_);focus (and_intros<;>first|omega|with_reducible rfl|kernel_rfl|intro _ hh;cases hh;done|simp;done|decide)|(with_reducible refine Ct.mk ?_);(first|refine⟨_,hfi,?_⟩|refine⟨_,hsr,?_⟩);rintro _ _ ⟨rfl,rfl⟩|(with_reducible apply A3);(focus rfl);(focus (simp only[D.at,D.put,D.Xw,D.Fh,Mg,Jo,D.Bx,Js,Ad,Af,he,hlm]<;>exact rfl));(try(focus exact rfl)))
  all_goals(try(conv=>whnf))
  all_goals((apply Dj<;>kernel_rfl))
 rw[if_neg h5];by_cases h6:rev=0
 ·subst h6;simp only[if_true];have hal:=Bk8 prv;generalize Ara x prv pk []=l at hal ⊢;by_cases hmo:many<(l.length:Int)
  ·rw[if_pos hmo];have g5:¬decide (many<((l.map Pr.Bx).length:Int))=false:=by simp;omega
   have g6:¬decide (many<(l.length:Int))=false:=by simp;omega
   have htk:(l.map Pr.Bx).take many.toNat=(l.take many.toNat).map Pr.Bx:=by rw[List.map_take]
   repeat'((conv=>whnf);first|(with_reducible first|refine Ax (by first|exact Ai (by assumption)|refine decide_eq_true ?_;omega) fun hb=>?_|refine Aw (by first|((refine decide_eq_false ?_);first|assumption|omega)|rfl) fun hb=>?_);(try rw[hb]);try simp only[Aa]at hb|((with_reducible refine A5 (fun hb=>?_) fun hb=>?_)<;>first|exact absurd hb (by decide)|(try rw[hb]);try simp only[Aa]at hb)|(with_reducible refine Ac ?_ ?_);focus (and_intros<;>first|omega|with_reducible rfl|kernel_rfl|intro _ hh;cases hh;done|exact size_map (fun _=>rfl)|simp only[An];omega|simp;done|decide)|with_reducible intro Cq|(with_reducible refine Ct.mk ?_);(first|refine⟨_,hfi,?_⟩|refine⟨_,hsr,?_⟩|refine⟨_,hal,?_⟩);rintro _ _ ⟨rfl,rfl⟩|(with_reducible apply A3);(focus rfl);(focus (simp only[D.at,D.put,D.Xw,D.Fh,Mg,Jo,D.Bx,Js,Ad,Af,he,hlm]<;>exact rfl));(try(focus exact rfl)))
   all_goals(try(conv=>whnf))
   refine Am1.mk ⟨?_,by kernel_rfl⟩ (by kernel_rfl)
   dsimp only;rw[←htk]
   kernel_rfl
  ·rw[if_neg hmo];have g5:¬decide (many<((l.map Pr.Bx).length:Int))=true:=by simp;omega
   have g6:¬decide (many<(l.length:Int))=true:=by simp;omega
   repeat'((conv=>whnf);first|(with_reducible first|refine Ax (by first|refine decide_eq_true ?_;omega|rfl) fun hb=>?_|refine Aw (by first|exact Ak (by assumption)|((refine decide_eq_false ?_);first|assumption|omega)|rfl) fun hb=>?_);(try rw[hb]);try simp only[Aa]at hb|((with_reducible refine A5 (fun hb=>?_) fun hb=>?_)<;>first|exact absurd hb (by decide)|(try rw[hb]);try simp only[Aa]at hb)|(with_reducible refine Ac ?_ ?_);focus (and_intros<;>first|omega|with_reducible rfl|kernel_rfl|intro _ hh;cases hh;done|simp;done|decide)|with_reducible intro Cq|(with_reducible refine Ct.mk ?_);(first|refine⟨_,hfi,?_⟩|refine⟨_,hsr,?_⟩|refine⟨_,hal,?_⟩);rintro _ _ ⟨rfl,rfl⟩|(with_reducible apply A3);(focus rfl);(focus (simp only[D.at,D.put,D.Xw,D.Fh,Mg,Jo,D.Bx,Js,Ad,Af,he,hlm]<;>exact rfl));(try(focus exact rfl)))
   all_goals(try(conv=>whnf))
   (apply Dj<;>kernel_rfl)
 ·simp only[if_neg h6];have hal:=Bk8 rev;generalize Ara x rev pk []=l at hal ⊢;by_cases hmo:many<(l.length:Int)
  ·rw[if_pos hmo];have g5:¬decide (many<((l.map Pr.Bx).length:Int))=false:=by simp;omega
   have g6:¬decide (many<(l.length:Int))=false:=by simp;omega
   have htk:(l.map Pr.Bx).take many.toNat=(l.take many.toNat).map Pr.Bx:=by rw[List.map_take]
   repeat'((conv=>whnf);first|(with_reducible first|refine Ax (by first|exact Ai (by assumption)|refine decide_eq_true ?_;omega|rfl) fun hb=>?_|refine Aw (by first|((refine decide_eq_false ?_);first|assumption|omega)|rfl) fun hb=>?_);(try rw[hb]);try simp only[Aa]at hb|((with_reducible refine A5 (fun hb=>?_) fun hb=>?_)<;>first|exact absurd hb (by decide)|exfalso;((simp only[An]at hb<;>omega))|(try rw[hb]);try simp only[Aa]at hb)|(with_reducible refine Ac ?_ ?_);focus (and_intros<;>first|omega|with_reducible rfl|kernel_rfl|intro _ hh;cases hh;done|exact size_map (fun _=>rfl)|simp only[An];omega|simp;done|decide)|with_reducible intro Cq|(with_reducible refine Ct.mk ?_);(first|refine⟨_,hfi,?_⟩|refine⟨_,hsr,?_⟩|refine⟨_,hal,?_⟩);rintro _ _ ⟨rfl,rfl⟩|(with_reducible apply A3);(focus rfl);(focus (simp only[D.at,D.put,D.Xw,D.Fh,Mg,Jo,D.Bx,Js,Ad,Af,he,hlm]<;>exact rfl));(try(focus exact rfl)))
   all_goals(try(conv=>whnf))
   refine Am1.mk ⟨?_,by kernel_rfl⟩ (by kernel_rfl)
   dsimp only;rw[←htk]
   kernel_rfl
  ·rw[if_neg hmo];have g5:¬decide (many<((l.map Pr.Bx).length:Int))=true:=by simp;omega
   have g6:¬decide (many<(l.length:Int))=true:=by simp;omega
   repeat'((conv=>whnf);first|(with_reducible first|refine Ax (by first|refine decide_eq_true ?_;omega|rfl) fun hb=>?_|refine Aw (by first|exact Ak (by assumption)|((refine decide_eq_false ?_);first|assumption|omega)|rfl) fun hb=>?_);(try rw[hb]);try simp only[Aa]at hb|((with_reducible refine A5 (fun hb=>?_) fun hb=>?_)<;>first|exact absurd hb (by decide)|exfalso;((simp only[An]at hb<;>omega))|(try rw[hb]);try simp only[Aa]at hb)|(with_reducible refine Ac ?_ ?_);focus (and_intros<;>first|omega|with_reducible rfl|kernel_rfl|intro _ hh;cases hh;done|simp;done|decide)|with_reducible intro Cq|(with_reducible refine Ct.mk ?_);(first|refine⟨_,hfi,?_⟩|refine⟨_,hsr,?_⟩|refine⟨_,hal,?_⟩);rintro _ _ ⟨rfl,rfl⟩|(with_reducible apply A3);(focus rfl);(focus (simp only[D.at,D.put,D.Xw,D.Fh,Mg,Jo,D.Bx,Js,Ad,Af,he,hlm]<;>exact rfl));(try(focus exact rfl)))
   all_goals(try(conv=>whnf))
   (apply Dj<;>kernel_rfl)

open Go.Shelf Go.RowKit
theorem Anq(z:Array Value)(n:Nat):(Builtin.zeroCells z n).size=n*z.size:=by
 simp[Builtin.zeroCells]
theorem Ar5{P:Program}{ρ:Ren}(L:Go.Proofs.Lays8.n4 P ρ){i:TypeInfo}{z:Value}(hi:P.info? (ρ.t 25)=some i)(hz:i.zero=some z)(hzs:z.cells.size=i.size)(h0:0<i.size)(hb:i.bytes≤100000)(n:Nat)(hn:n≤1000000):
 Fn P (ρ.f 4) [.vec (ρ.t 25) i.size [],.v (.int .i64 n)] (Is (.vec (ρ.t 25) i.size []) [.no,.no]):=by
 intro G σ Fr w Ahz H2 hlen Ar2;have hc0:=(Ar2 0 _ rfl).2;have hc1:C7 G (.int .i64 n) (Ahz.getD 1 undef):=(Ar2 1 _ rfl).2;rw[C7.int]at hc1;have hca:Ahz= #[Ahz.getD 0 undef,.int .i64 n]:=by
  rw[←hc1];apply Array.ext
  ·simpa using hlen
  ·intro j h1 h2;have:j=0∨j=1:=by simp at h2;omega
   rcases this with rfl|rfl<;>simp[Array.getD,h1]
 generalize Ahz.getD 0 undef=c0 at hc0 hca;obtain⟨xs,Akd,Bqe,_,Aoe⟩:=(show Aiu G σ w (0,0) (ρ.t 25) i.size [] c0 from hc0);have outs:∀(w':World) (σ':Lab),∀(j:Nat) (sv:SV),[SV.no,SV.no][j]?=some sv→sv.root=none∧Ab1 G σ' w' j sv (Ahz.getD j undef):=by
  intro w' σ' j sv hj;have:sv= .no:=by
   have:=Cb hj;simpa using this
  subst this;exact⟨rfl,trivial⟩
 have room:∀(base:Option Addr) (cap:Nat),c0= .slice base 0 cap→n≤cap→cap≤maxLen→Calls P (ρ.f 4) Ahz w fun e w'=>∃(r:SV) (os:List SV) (c:Value) (G':Mem) (σ':Lab),e= .returned c∧Is (.vec (ρ.t 25) i.size []) [.no,.no] r os∧G.le G'∧WOk G' σ' Fr ⟨w,0, #[]⟩ w'∧
  r.root=none∧Ab1 G' σ' w' 2 r c∧os.length=2∧∀i sv,os[i]?=some sv→sv.root=none∧Ab1 G' σ' w' i sv (Ahz.getD i undef):=by
  intro base cap hc hnc hcm;rw[hca,hc];refine(Go.Proofs.Any8.slices_Grow_room L base 0 cap n w (Cr _) (by simpa[maxLen]using hcm) (by omega) (by omega)).mono ?_
  rintro e w' ⟨rfl,rfl⟩
  let σ':Lab:=fun b=>if σ b=some (0,0)then some (2,0)else none
  have inv:∀{b Gf},σ' b=some Gf→σ b=some (0,0)∧Gf=(2,0):=by
   intro b Gf h;simp only[σ']at h;split at h
   ·rename_i h1;cases h;exact⟨h1,rfl⟩
   ·cases h
  refine⟨_,_,_,G,σ',rfl,⟨rfl,rfl⟩,Mem.le.refl G,⟨H2.fixed,fun b Gf h=>H2.own b _ (inv h).1,fun b b' Gf h h'=>H2.inj b b' _ (inv h).1 (inv h').1,H2.frame,rfl,rfl,rfl,Bz _,H2.apart,H2.amb⟩,rfl,?_,rfl,?_⟩
  ·refine⟨xs,by rw[←hc];exact Akd,Bqe,by simp,?_⟩
   intro b Sy;rw[←hc]at Sy;simp only[σ',Aoe b Sy,if_true]
  ·rw[←hc, ←hca];exact outs w' σ'
 have grow:∀(base:Option Addr) (cap:Nat) (cs:List Value),c0= .slice base 0 cap→cap<n→cs.length=cap*i.size→(base=none→cap=0)→(∀a,base=some a→∀j v,cs[j]?=some v→w.cell? (a.add j)=some v)→
  Calls P (ρ.f 4) Ahz w fun e w'=>∃(r:SV) (os:List SV) (c:Value) (G':Mem) (σ':Lab),e= .returned c∧Is (.vec (ρ.t 25) i.size []) [.no,.no] r os∧G.le G'∧WOk G' σ' Fr ⟨w,0, #[]⟩ w'∧
  r.root=none∧Ab1 G' σ' w' 2 r c∧os.length=2∧∀i sv,os[i]?=some sv→sv.root=none∧Ab1 G' σ' w' i sv (Ahz.getD i undef):=by
  intro base cap cs hc hcn hcl Au3 hcs;have Avd:(0+n)*i.bytes≤140737488355328:=by
   have:(0+n)*i.bytes≤1000000*100000:=Nat.mul_le_mul (by omega) hb
   omega
  rw[hca,hc];refine(Go.Proofs.Any8.slices_Grow_grow L i z hi hz h0 base 0 cap n cs w (Cr _) (by omega) Avd (by omega) hcl Au3 hcs).mono ?_
  rintro e w' ⟨rfl,rfl⟩;have hge:=grownCap_ge w (0+n) cap (ρ.t 25);have hle:=grownCap_le_maxLen w (0+n) cap (ρ.t 25) (by simp only[maxLen];omega)
  generalize grownCap w (0+n) cap (ρ.t 25)=gc at hge hle ⊢
  let σ':Lab:=fun b=>if b=w.heap.size then some (2,0)else none
  have inv:∀{b Gf},σ' b=some Gf→b=w.heap.size∧Gf=(2,0):=by
   intro b Gf h;simp only[σ']at h;split at h
   ·rename_i h1;cases h;exact⟨h1,rfl⟩
   ·cases h
  have hold:∀(o:Obj) (b:Nat) (o':Obj),w.heap[b]?=some o'→(w.drew.alloc o).heap[b]?=some o':=by
   intro o b o' Sy;have Ze:=(Ht.1 Sy).1;show(w.heap.push o)[b]?=_;rw[Am3,if_neg (by omega)]
   exact Sy
  have hfr:∀(M:Mem),(∀(b:Nat) (o:Obj),M b=some o→w.heap[b]?=some o)→M w.heap.size=none:=by
   intro M hM;cases hx:M w.heap.size with
   |none=>rfl
   |some o=>
    have:=(Ht.1 (hM _ _ hx)).1;omega
  refine⟨_,_,_,G,σ',rfl,⟨rfl,rfl⟩,Mem.le.refl G,⟨fun b o h=>hold _ b o (H2.fixed b o h),?_,?_,fun b o h=>hold _ b o (H2.frame b o h),rfl,rfl,rfl,?_,H2.apart,H2.amb⟩,rfl,?_,rfl,?_⟩
  ·intro b Gf h;rw[(inv h).1];exact⟨hfr G H2.fixed,hfr Fr H2.frame,by show _<(w.heap.push _).size;simp⟩
  ·intro b b' Gf h h';rw[(inv h).1,(inv h').1]
  ·show w.heap.size≤(w.heap.push _).size;simp
  ·refine⟨[],⟨by simp,.inr ⟨w.heap.size,gc,cs.toArray++Builtin.zeroCells z.cells (0+n - cap)++Builtin.zeroCells z.cells (gc - (0+n)),rfl,Cr _,?_,Cr _,hle,?_,by simp⟩⟩,rfl,by simp,?_⟩
   ·refine Row.of ?_;show(w.heap.push _)[w.heap.size]?=_;rw[Am3,if_pos rfl]
   ·simp only[Array.size_append,Auz,hcl,Anq,hzs];rw[←Aj7, ←Aj7]
    congr 1
    omega
   ·intro b Sy;simp only[Value.ownBlock,A0]at Sy;simp only[σ', ←Sy,if_true]
  ·rw[←hc, ←hca];exact outs _ σ'
 rcases Akd.2 with⟨hc,_⟩|⟨g,cap,cur,hc,_,hg,_,hcm,Au0,_⟩
 ·by_cases hn0:n=0
  ·exact room none 0 hc (by omega) (by simp[maxLen])
  ·exact grow none 0 [] hc (by omega) (by simp) (fun _=>rfl) (fun a h=>by cases h)
 ·by_cases hnc:n≤cap
  ·exact room _ cap hc hnc hcm
  ·refine grow _ cap cur.toList hc (by omega) (by simpa using Au0) (fun h=>by cases h) ?_
   rintro a ha j v hj;cases ha;obtain⟨ty,fz,hg,_⟩:=hg;rw[add_lit,cell_of_row w g (0+j) cur _ _ hg];simpa using hj

open Go.Proofs Go.Shelf
def Ap8:Ren:=⟨fun n=>if n=4 then 96 else n,fun n=>if n=25 then 77 else if n=22 then 24 else n,fun n=>n⟩
theorem Ar4:Lays8.n4 Tryz.prog Ap8 where
 mixed:=by kernel_rfl
 f4:=⟨Tryz.f96.name,by kernel_rfl,by kernel_rfl⟩
 t0:=by kernel_rfl
 a0:=fun _=>by kernel_rfl
 z0:=fun _=>by kernel_rfl
 v0:=fun _=>by kernel_rfl
 t3:=by kernel_rfl
 a3:=fun _=>by kernel_rfl
 z3:=fun _=>by kernel_rfl
 v3:=fun _=>by kernel_rfl
 t4:=by kernel_rfl
 a4:=fun _=>by kernel_rfl
 z4:=fun _=>by kernel_rfl
 v4:=fun _=>by kernel_rfl
 t9:=by kernel_rfl
 a9:=fun _=>by kernel_rfl
 z9:=fun _=>by kernel_rfl
 v9:=fun _=>by kernel_rfl
 t20:=by kernel_rfl
 a20:=fun _=>by kernel_rfl
 z20:=fun _=>by kernel_rfl
 v20:=fun _=>by kernel_rfl
 t22:=by kernel_rfl
 a22:=fun _=>by kernel_rfl
 z22:=fun _=>by kernel_rfl
 v22:=fun _=>by kernel_rfl
theorem Asa(n:Nat)(hn:n≤1000000):Fn Tryz.prog Fb [.vec Ams 7 [],.v (.int .i64 n)] (Is (.vec Ams 7 []) [.no,.no]):=
 Ar5 (P:=Tryz.prog) (ρ:=Ap8) Ar4 (i:=Tryz.t77) (z:=Tryz.t77.zero.getD undef) (by kernel_rfl) (by kernel_rfl) (by kernel_rfl) (by decide) (by decide) n hn
set_option maxHeartbeats 4000000

open Go.Proofs
def A8(s:Az)(k lo hi:Int):Bool:=match s[k.toNat]? with
 |some c=>decide (lo≤(c.toNat:Int)∧(c.toNat:Int)≤hi)
 |none=>false
theorem A57(s:Az)(k lo hi:Int)(h0:0≤k):Fn Tryz.prog A03 [.v (.str s),.v (.int .i64 k),.v (.int .u8 lo),.v (.int .u8 hi)] (Is (.v (.bool (A8 s k lo hi))) [.no,.no,.no,.no]):=by
 refine A0z ?_ (by simp)
 by_cases hk:k.toNat<s.length
 ·obtain⟨c,hc⟩:∃c,s[k.toNat]?=some c:=⟨_,Ae hk⟩;have Ze:¬decide (k<(s.length:Int))=false:=by simp;omega
  repeat'((conv=>whnf);first|(refine A5 (fun hb=>?_) (fun hb=>?_)<;>first|exact absurd hb (by first|assumption|decide)|(try rw[hb]);try simp only[Aa]at hb)|refine Ac ?_ ?_;focus (and_intros<;>first|omega|exact rfl)|intro Cq|(try dsimp only);rw[hc])
  all_goals(try(conv=>whnf))
  all_goals(refine Am1.mk ⟨SV.Aju ?_,by kernel_rfl⟩ (by kernel_rfl))
  all_goals(simp only[A8,hc];simp at*;first|done|omega|grind)
 ·have Ze:¬decide (k<(s.length:Int))=true:=by simp;omega
  repeat'((conv=>whnf);first|(refine A5 (fun hb=>?_) (fun hb=>?_)<;>first|exact absurd hb (by first|assumption|decide)|(try rw[hb]);try simp only[Aa]at hb)|refine Ac ?_ ?_;focus (and_intros<;>exact rfl)|intro Cq)
  all_goals(try(conv=>whnf))
  refine Am1.mk ⟨SV.Aju ?_,by kernel_rfl⟩ (by kernel_rfl)
  simp[A8,Aic (show s.length≤k.toNat by omega)]
def Fv(s:Az)(k n:Nat):Bool:=(List.range n).all fun i=>A8 s ((k+i:Nat):Int) 128 191
theorem A5c(s:Az)(k n:Nat)(hk:k≤10)(hn:n≤10):Fn Tryz.prog A14 [.v (.str s),.v (.int .i64 k),.v (.int .i64 n)] (Is (.v (.bool (Fv s k n))) [.no,.no,.no]):=by
 refine A1x ?_ (by simp)
 (skip)
 all_goals(try(conv=>whnf))
 refine Afm.by (X:=Nat) (fun x=>[(7,.v (.int .i64 x))]) (fun x=>x≤n∧Fv s k x=true) (fun x=>n - x) 0 (by kernel_rfl) ⟨Cr _,rfl⟩ ?_
 rintro x ⟨h1,h2⟩;by_cases hx:x<n
 ·have Ze:¬decide ((x:Int)<(n:Int))=false:=by simp[hx]
  have hw:IntKind.i64.wrap ((k:Int)+(x:Int))=((k+x:Nat):Int):=by
   rw[show(k:Int)+(x:Int)=((k+x:Nat):Int)by omega];exact Bf (by omega)
  have hs:=A57 s ((k+x:Nat):Int) 128 191 (by omega)
  repeat'((conv=>whnf);first|(refine A5 (fun hb=>?_) (fun hb=>?_)<;>first|exact absurd hb (by assumption)|(try rw[hb]);try simp only[Aa]at hb)|refine Ac ?_ ?_;focus (and_intros<;>first|intro _ hh;cases hh;done|simp;done|decide)|(try dsimp only);rw[hw]|refine Ct.mk ⟨_,hs,?_⟩;rintro _ _ ⟨rfl,rfl⟩)
  all_goals(try(conv=>whnf))
  ·rename_i hb;refine Am1.mk ⟨SV.Aju ?_,by kernel_rfl⟩ (by kernel_rfl)
   try simp only[Ad8]at hb
   symm;simp only[Fv,List.all_eq_false,Agu];exact⟨x,hx,by rw[hb];decide⟩
  ·rename_i hb;refine Round.by (x+1) ?_ ⟨hx,?_⟩ (by omega)
   ·rw[Dk hx (by simp only[maxLen];omega)]
    show norm _ _=Cx _ _
    kernel_rfl
   ·unfold Fv at h2 ⊢;rw[List.range_succ,List.all_append,h2];try simp only[Bool.not_eq_false']at hb
    simp only[List.all_cons,List.all_nil,Bool.and_true,Bool.true_and];exact hb
 ·have Ze:¬decide ((x:Int)<(n:Int))=true:=by simp;omega
  have:x=n:=by omega
  subst this;repeat'((conv=>whnf);(refine A5 (fun hb=>?_) (fun hb=>?_)<;>first|(exact absurd hb (by assumption))|((try rw[hb]);(try simp only[Aa]at hb))))
  all_goals(try(conv=>whnf))
  refine Am1.mk ⟨SV.Aju ?_,by kernel_rfl⟩ (by kernel_rfl)
  exact h2.symm
def G9(s:Az):Int:=
 if A8 s 0 0 127 then 1
 else if(A8 s 0 194 223&&Fv s 1 1)then 2
 else if(Fv s 1 2&&((A8 s 0 224 224&&A8 s 1 160 191)||A8 s 0 225 236||(A8 s 0 237 237&&A8 s 1 128 159)||A8 s 0 238 239))then 3
 else if(Fv s 1 3&&((A8 s 0 240 240&&A8 s 1 144 191)||A8 s 0 241 243||(A8 s 0 244 244&&A8 s 1 128 143)))then 4
 else 0
theorem Bhk(s:Az):Fn Tryz.prog Axa [.v (.str s)] (Is (.v (.int .i64 (G9 s))) [.no]):=by
 refine A1w ?_ (by simp)
 have t1:=A5c s 1 1 (by omega) (by omega)
 have t2:=A5c s 1 2 (by omega) (by omega)
 have t3:=A5c s 1 3 (by omega) (by omega)
 repeat'((conv=>whnf);first|(refine A5 (fun hb=>?_) (fun hb=>?_)<;>first|exact absurd hb (by decide)|(try rw[hb]);try simp only[Aa]at hb)|refine Ac ?_ ?_;focus (and_intros<;>first|intro _ hh;cases hh;done|simp;done|decide)|refine Ct.mk ⟨_,A57 _ _ _ _ (by omega),?_⟩;rintro _ _ ⟨rfl,rfl⟩|refine Ct.mk ⟨_,t1,?_⟩;rintro _ _ ⟨rfl,rfl⟩|refine Ct.mk ⟨_,t2,?_⟩;rintro _ _ ⟨rfl,rfl⟩|refine Ct.mk ⟨_,t3,?_⟩;rintro _ _ ⟨rfl,rfl⟩)
 all_goals(try(conv=>whnf))
 all_goals(refine Am1.mk ⟨congrArg (fun n=>SV.v (.int .i64 n)) ?_,by kernel_rfl⟩ (by kernel_rfl))
 all_goals(unfold G9;simp at*;grind)
end Go.Ab
