/- Lemmas -/
import Derived.Test.YtkpojedpcabojaaGreatDoorY3
set_option linter.unusedVariables false
set_option linter.unusedSimpArgs false
set_option maxRecDepth 100000
set_option maxHeartbeats 40000000
namespace Go.Ab
open Go.Proofs
theorem Ade{α:Type}{a b:List α}{i:Nat}{x:α}(h:a.take i=b.take i)(ha:a[i]?=some x)(hb:b[i]?=some x):a.take (i+1)=b.take (i+1):=by
 rw[D5,D5,h,ha,hb]
def Az2(a:List Cv):Prop:=a.length≤100000∧∀p∈a,p.keys.length≤100000∧∀h∈p.keys,h.vs.length≤100000
theorem Aqj(a b:List Cv)(ha:Az2 a)(hb0:Az2 b):Fn Tryz.prog Af7 [.v (.list (a.map Cv.Ap)),.v (.list (b.map Cv.Ap))] (Is (.v (.bool (decide (a=b)))) [.no,.no]):=by
 refine Afr ?_ (by simp)
 obtain⟨ha1,ha2⟩:=ha;obtain⟨Jx,Ku⟩:=hb0;by_cases hl:a.length=b.length
 case neg=>
  have h1:¬(!decide (((a.map Cv.Ap).length:Int)=((b.map Cv.Ap).length:Int)))=false:=by simp;omega
  have h2:decide (a=b)=false:=decide_eq_false (fun e=>hl (by rw[e]))
  rw[h2];repeat'((conv=>whnf);first|(with_reducible refine Bv (by exact Ae (by assumption)) fun hb=>?_);(try rw[hb]);try simp only[Am]at hb|(with_reducible refine Aa ?_ ?_);focus (and_intros<;>(with_reducible rfl))|with_reducible intro Av)
  all_goals(try(conv=>whnf))
  (apply D6<;>kernel_rfl)
 have h1:¬(!decide (((a.map Cv.Ap).length:Int)=((b.map Cv.Ap).length:Int)))=true:=by simp;omega
 repeat'((conv=>whnf);first|(with_reducible refine Bq (by exact Ag (by assumption)) fun hb=>?_);(try rw[hb]);try simp only[Am]at hb|(with_reducible refine Aa ?_ ?_);focus (and_intros<;>(with_reducible rfl))|with_reducible intro Av)
 all_goals(try(conv=>whnf))
 refine Ep.by (X:=Nat) (fun j=>[(5,.v (ti (j:Int)))]) (fun j=>j≤a.length∧a.take j=b.take j) (fun j=>a.length - j) 0 (by kernel_rfl) ⟨A3 _,rfl⟩ ?_
 rintro j ⟨hj,hp⟩
 (try dsimp only at hj hp ⊢)
 have hw:=zwj (j:=j) (by omega)
 by_cases E6:j<a.length
 case neg=>
  have h3:¬decide ((j:Int)<((a.map Cv.Ap).length:Int))=true:=by simp;omega
  have h4:¬decide ((j:Int)<(a.length:Int))=true:=by simp;omega
  rw[C9 (by omega),C9 (by omega)]at hp
  rw[decide_eq_true hp];repeat'((conv=>whnf);first|(with_reducible refine Bq (by exact Ag (by assumption)) fun hb=>?_);(try rw[hb]);try simp only[Am]at hb|(with_reducible refine Aa ?_ ?_);focus (and_intros<;>(with_reducible rfl))|with_reducible intro Av)
  all_goals(try(conv=>whnf))
  (apply D6<;>kernel_rfl)
 obtain⟨x,hx⟩:∃x,a[j]?=some x:=⟨_,Ac E6⟩;obtain⟨y,hy⟩:∃y,b[j]?=some y:=⟨_,Ac (by omega)⟩
 have h3:¬decide ((j:Int)<((a.map Cv.Ap).length:Int))=false:=by simp;omega
 have h4:¬decide ((j:Int)<(a.length:Int))=false:=by simp;omega
 have Te:a=b→x=y:=fun e=>by rw[e]at hx;exact Cy (hx.symm.trans hy)
 have hxb:=ha2 x (Aw hx);have hyb:=Ku y (Aw hy);obtain⟨xn,xr,xf,xk⟩:=x;obtain⟨yn,yr,yf,yk⟩:=y;simp only[Cv.mk.injEq]at Te;dsimp only at hxb hyb;obtain⟨B2g,Bxs⟩:=hxb;obtain⟨B2h,Bxx⟩:=hyb;by_cases c1:xn=yn
 case neg=>
  have e1:¬(!decide (xn=yn))=false:=by simp[c1]
  have A2:decide (a=b)=false:=decide_eq_false fun e=>c1 (Te e).1
  rw[A2];repeat'((conv=>whnf);first|(with_reducible refine Bv (by first|exact Ae (by assumption)|rfl) fun hb=>?_);(try rw[hb]);try simp only[Am]at hb|(with_reducible refine Aa ?_ ?_);focus (and_intros<;>first|omega|with_reducible rfl|kernel_rfl)|with_reducible intro Av|(with_reducible refine Dw.Gx ?_ ?_ ?_ fun Av=>?_);(iterate 3 focus (as_aux_lemma=>kernel_rfl));try simp only[zRL]at Av|(try dsimp only);(first|rw[Be hx]|rw[Be hy]))
  all_goals(try(conv=>whnf))
  (apply D6<;>kernel_rfl)
 have e1:¬(!decide (xn=yn))=true:=by simp[c1]
 by_cases c2:xr=yr
 case neg=>
  have e2:¬(!decide (xr=yr))=false:=by simp[c2]
  have A2:decide (a=b)=false:=decide_eq_false fun e=>c2 (Te e).2.1
  rw[A2];repeat'((conv=>whnf);first|(with_reducible refine Bv (by first|exact Ae (by assumption)|rfl) fun hb=>?_);(try rw[hb]);try simp only[Am]at hb|(with_reducible refine Bq (by first|assumption|exact Ag (by assumption)|rfl) fun hb=>?_);(try rw[hb]);(try simp only[Am]at hb);try subst hb|(with_reducible refine Aa ?_ ?_);focus (and_intros<;>first|omega|with_reducible rfl|kernel_rfl)|with_reducible intro Av|(with_reducible refine Dw.Gx ?_ ?_ ?_ fun Av=>?_);(iterate 3 focus (as_aux_lemma=>kernel_rfl));try simp only[zRL]at Av|(try dsimp only);(first|rw[Be hx]|rw[Be hy]))
  all_goals(try(conv=>whnf))
  (apply D6<;>kernel_rfl)
 have e2:¬(!decide (xr=yr))=true:=by simp[c2]
 by_cases c3:xf=yf
 case neg=>
  have e3:¬(!decide (xf=yf))=false:=by simp[c3]
  have A2:decide (a=b)=false:=decide_eq_false fun e=>c3 (Te e).2.2.1
  rw[A2];repeat'((conv=>whnf);first|(with_reducible refine Bv (by first|exact Ae (by assumption)|rfl) fun hb=>?_);(try rw[hb]);try simp only[Am]at hb|(with_reducible refine Bq (by first|assumption|exact Ag (by assumption)|rfl) fun hb=>?_);(try rw[hb]);(try simp only[Am]at hb);try subst hb|(with_reducible refine Aa ?_ ?_);focus (and_intros<;>first|omega|with_reducible rfl|kernel_rfl)|with_reducible intro Av|(with_reducible refine Dw.Gx ?_ ?_ ?_ fun Av=>?_);(iterate 3 focus (as_aux_lemma=>kernel_rfl));try simp only[zRL]at Av|(try dsimp only);(first|rw[Be hx]|rw[Be hy]))
  all_goals(try(conv=>whnf))
  (apply D6<;>kernel_rfl)
 have e3:¬(!decide (xf=yf))=true:=by simp[c3]
 by_cases c4:xk.length=yk.length
 case neg=>
  have e4:¬(!decide (((xk.map Kv.Ap).length:Int)=((yk.map Kv.Ap).length:Int)))=false:=by simp;omega
  have A2:decide (a=b)=false:=decide_eq_false fun e=>c4 (by rw[(Te e).2.2.2])
  rw[A2];repeat'((conv=>whnf);first|(with_reducible refine Bv (by exact Ae (by assumption)) fun hb=>?_);(try rw[hb]);try simp only[Am]at hb|(with_reducible refine Bq (by first|assumption|exact Ag (by assumption)|rfl) fun hb=>?_);(try rw[hb]);(try simp only[Am]at hb);try subst hb|(with_reducible refine Aa ?_ ?_);focus (and_intros<;>first|omega|with_reducible rfl|kernel_rfl)|with_reducible intro Av|(with_reducible refine Dw.Gx ?_ ?_ ?_ fun Av=>?_);(iterate 3 focus (as_aux_lemma=>kernel_rfl));try simp only[zRL]at Av|(try dsimp only);(first|rw[Be hx]|rw[Be hy]))
  all_goals(try(conv=>whnf))
  (apply D6<;>kernel_rfl)
 have e4:¬(!decide (((xk.map Kv.Ap).length:Int)=((yk.map Kv.Ap).length:Int)))=true:=by simp;omega
 repeat'((conv=>whnf);first|(with_reducible refine Bv (by exact Ae (by assumption)) fun hb=>?_);(try rw[hb]);try simp only[Am]at hb|(with_reducible refine Bq (by first|exact Ag (by assumption)|rfl) fun hb=>?_);(try rw[hb]);(try simp only[Am]at hb);try subst hb|(with_reducible refine Aa ?_ ?_);focus (and_intros<;>first|omega|with_reducible rfl|kernel_rfl)|with_reducible intro Av|(with_reducible refine Dw.Gx ?_ ?_ ?_ fun Av=>?_);(iterate 3 focus (as_aux_lemma=>kernel_rfl));try simp only[zRL]at Av|(try dsimp only);(first|rw[Be hx]|rw[Be hy]))
 all_goals(try(conv=>whnf))
 refine Ep.by (X:=Nat) (fun k=>[(6,.v (ti (k:Int)))]) (fun k=>k≤xk.length∧xk.take k=yk.take k) (fun k=>xk.length - k) 0 (by kernel_rfl) ⟨A3 _,rfl⟩ ?_
 rintro k ⟨hk,hq⟩
 (try dsimp only at hk hq ⊢)
 have hwk:=zwj (j:=k) (by omega)
 by_cases L8:k<xk.length
 case neg=>
  have h5:¬decide ((k:Int)<((xk.map Kv.Ap).length:Int))=true:=by simp;omega
  have h6:¬decide ((k:Int)<(xk.length:Int))=true:=by simp;omega
  rw[C9 (by omega),C9 (by omega)]at hq
  have Zt:a.take (j+1)=b.take (j+1):=Ade hp hx (by rw[hy,c1,c2,c3,hq])
  repeat'((conv=>whnf);first|(with_reducible refine Bq (by exact Ag (by assumption)) fun hb=>?_);(try rw[hb]);try simp only[Am]at hb|(with_reducible refine Aa ?_ ?_);focus (and_intros<;>first|omega|with_reducible rfl|kernel_rfl)|with_reducible intro Av|(try dsimp only);(first|rw[Be hx]|rw[hw]))
  all_goals(try(conv=>whnf))
  refine Round.by (j+1) ?_ ⟨by omega,Zt⟩ (by omega)
  try dsimp only
  show norm _ _=Dy _ _
  kernel_rfl
 obtain⟨u,hu⟩:∃x,xk[k]?=some x:=⟨_,Ac L8⟩;obtain⟨w,Sw⟩:∃y,yk[k]?=some y:=⟨_,Ac (by omega)⟩
 have h5:¬decide ((k:Int)<((xk.map Kv.Ap).length:Int))=false:=by simp;omega
 have h6:¬decide ((k:Int)<(xk.length:Int))=false:=by simp;omega
 have A9y:a=b→u=w:=fun e=>by
  have:=(Te e).2.2.2;rw[this]at hu;exact Cy (hu.symm.trans Sw)
 have hub:=Bxs u (Aw hu);have hwb:=Bxx w (Aw Sw);obtain⟨uk,uv⟩:=u;obtain⟨wk,wv⟩:=w;simp only[Kv.mk.injEq]at A9y;dsimp only at hub hwb;by_cases c5:uk=wk
 case neg=>
  have e5:¬(!decide (uk=wk))=false:=by simp[c5]
  have A2:decide (a=b)=false:=decide_eq_false fun e=>c5 (A9y e).1
  rw[A2];repeat'((conv=>whnf);first|(with_reducible refine Bv (by first|exact Ae (by assumption)|rfl) fun hb=>?_);(try rw[hb]);try simp only[Am]at hb|(with_reducible refine Aa ?_ ?_);focus (and_intros<;>first|omega|with_reducible rfl|kernel_rfl|simp;done)|with_reducible intro Av|(with_reducible refine Dw.Gx ?_ ?_ ?_ fun Av=>?_);(iterate 3 focus (as_aux_lemma=>kernel_rfl));try simp only[zRL]at Av|(try dsimp only);(first|rw[Be hx]|rw[Be hy]|rw[Be hu]|rw[Be Sw]))
  all_goals(try(conv=>whnf))
  (apply D6<;>kernel_rfl)
 have e5:¬(!decide (uk=wk))=true:=by simp[c5]
 by_cases c6:uv.length=wv.length
 case neg=>
  have e6:¬(!decide (((uv.map Bt.Ap).length:Int)=((wv.map Bt.Ap).length:Int)))=false:=by simp;omega
  have A2:decide (a=b)=false:=decide_eq_false fun e=>c6 (by rw[(A9y e).2])
  rw[A2];repeat'((conv=>whnf);first|(with_reducible refine Bv (by exact Ae (by assumption)) fun hb=>?_);(try rw[hb]);try simp only[Am]at hb|(with_reducible refine Bq (by first|assumption|exact Ag (by assumption)|rfl) fun hb=>?_);(try rw[hb]);(try simp only[Am]at hb);try subst hb|(with_reducible refine Aa ?_ ?_);focus (and_intros<;>first|omega|with_reducible rfl|kernel_rfl|simp;done)|with_reducible intro Av|(with_reducible refine Dw.Gx ?_ ?_ ?_ fun Av=>?_);(iterate 3 focus (as_aux_lemma=>kernel_rfl));try simp only[zRL]at Av|(try dsimp only);(first|rw[Be hx]|rw[Be hy]|rw[Be hu]|rw[Be Sw]))
  all_goals(try(conv=>whnf))
  (apply D6<;>kernel_rfl)
 have e6:¬(!decide (((uv.map Bt.Ap).length:Int)=((wv.map Bt.Ap).length:Int)))=true:=by simp;omega
 repeat'((conv=>whnf);first|(with_reducible refine Bv (by exact Ae (by assumption)) fun hb=>?_);(try rw[hb]);try simp only[Am]at hb|(with_reducible refine Bq (by first|exact Ag (by assumption)|rfl) fun hb=>?_);(try rw[hb]);(try simp only[Am]at hb);try subst hb|(with_reducible refine Aa ?_ ?_);focus (and_intros<;>first|omega|with_reducible rfl|kernel_rfl|simp;done)|with_reducible intro Av|(with_reducible refine Dw.Gx ?_ ?_ ?_ fun Av=>?_);(iterate 3 focus (as_aux_lemma=>kernel_rfl));try simp only[zRL]at Av|(try dsimp only);(first|rw[Be hx]|rw[Be hy]|rw[Be hu]|rw[Be Sw]))
 all_goals(try(conv=>whnf))
 refine Ep.by (X:=Nat) (fun n=>[(9,.v (ti (n:Int)))]) (fun n=>n≤uv.length∧uv.take n=wv.take n) (fun n=>uv.length - n) 0 (by kernel_rfl) ⟨A3 _,rfl⟩ ?_
 rintro n ⟨hn,hr⟩
 (try dsimp only at hn hr ⊢)
 have Qf:=zwj (j:=n) (by omega)
 by_cases hnl:n<uv.length
 case neg=>
  have h7:¬decide ((n:Int)<((uv.map Bt.Ap).length:Int))=true:=by simp;omega
  have h8:¬decide ((n:Int)<(uv.length:Int))=true:=by simp;omega
  rw[C9 (by omega),C9 (by omega)]at hr
  have Zt:xk.take (k+1)=yk.take (k+1):=Ade hq hu (by rw[Sw,c5,hr])
  repeat'((conv=>whnf);first|(with_reducible refine Bq (by exact Ag (by assumption)) fun hb=>?_);(try rw[hb]);try simp only[Am]at hb|(with_reducible refine Aa ?_ ?_);focus (and_intros<;>first|omega|with_reducible rfl|kernel_rfl|simp;done)|with_reducible intro Av|(try dsimp only);rw[hwk])
  all_goals(try(conv=>whnf))
  refine Round.by (k+1) ?_ ⟨by omega,Zt⟩ (by omega)
  try dsimp only
  show norm _ _=Dy _ _
  kernel_rfl
 obtain⟨v,hv⟩:∃x,uv[n]?=some x:=⟨_,Ac hnl⟩;obtain⟨z,hz⟩:∃y,wv[n]?=some y:=⟨_,Ac (by omega)⟩
 have h7:¬decide ((n:Int)<((uv.map Bt.Ap).length:Int))=false:=by simp;omega
 have h8:¬decide ((n:Int)<(uv.length:Int))=false:=by simp;omega
 have Bwa:a=b→v=z:=fun e=>by
  have:=(A9y e).2;rw[this]at hv;exact Cy (hv.symm.trans hz)
 obtain⟨vr,vm,vv,vg⟩:=v;obtain⟨zr,zm,zv,zg⟩:=z;have hqe:(decide (vr=zr)&&(decide (vm=zm)&&(decide (vv=zv)&&(decide (vg=zg)&&true))))=decide (Bt.mk vr vm vv vg=Bt.mk zr zm zv zg):=by rw[Bool.eq_iff_iff];simp
 by_cases c7:Bt.mk vr vm vv vg=Bt.mk zr zm zv zg
 ·have g:¬(!(decide (vr=zr)&&(decide (vm=zm)&&(decide (vv=zv)&&(decide (vg=zg)&&true)))))=true:=by rw[hqe];simp[c7]
  have Zt:uv.take (n+1)=wv.take (n+1):=Ade hr hv (by rw[hz,c7])
  repeat'((conv=>whnf);first|(with_reducible first|refine Bv (by first|assumption|exact Ae (by assumption)) fun hb=>?_|refine Bq (by exact Ag (by assumption)) fun hb=>?_);(try rw[hb]);try simp only[Am]at hb|(with_reducible refine Aa ?_ ?_);focus (and_intros<;>first|omega|with_reducible rfl|kernel_rfl|simp;done)|with_reducible intro Av|(with_reducible refine Dw.Gx ?_ ?_ ?_ fun Av=>?_);(iterate 3 focus (as_aux_lemma=>kernel_rfl));try simp only[zRL]at Av|(try dsimp only);(first|rw[Be hv]|rw[Be hz])|skip;rw[Qf])
  all_goals(try(conv=>whnf))
  refine Round.by (n+1) ?_ ⟨by omega,Zt⟩ (by omega)
  try dsimp only
  show norm _ _=Dy _ _
  kernel_rfl
 ·have g:¬(!(decide (vr=zr)&&(decide (vm=zm)&&(decide (vv=zv)&&(decide (vg=zg)&&true)))))=false:=by rw[hqe];simp[c7]
  have A2:decide (a=b)=false:=decide_eq_false fun e=>c7 (Bwa e)
  rw[A2];repeat'((conv=>whnf);first|(with_reducible refine Bv (by exact Ae (by assumption)) fun hb=>?_);(try rw[hb]);try simp only[Am]at hb|(with_reducible refine Aa ?_ ?_);focus (and_intros<;>first|omega|with_reducible rfl|kernel_rfl|simp;done)|with_reducible intro Av|(with_reducible refine Dw.Gx ?_ ?_ ?_ fun Av=>?_);(iterate 3 focus (as_aux_lemma=>kernel_rfl));try simp only[zRL]at Av|(try dsimp only);(first|rw[Be hv]|rw[Be hz]))
  all_goals(try(conv=>whnf))
  (apply D6<;>kernel_rfl)

open Go.Proofs
abbrev rT(R:List Cv):SV:=.own [] (.ptr (.st [.vec 52 4 ((R.map Cv.Ap).map D.it)]))
def Jz(n:A1):List Cv→Nat→Int
 | [],_=> -1
 |p::r,i=>if p.name=n then(i:Int)else Jz n r (i+1)
theorem Lh(R:List Cv)(n:A1)(hl:R.length≤100000):Fn Tryz.prog Zj [rT R,.v (.str n)] (Is (.v (ti (Jz n R 0))) [rT R,.no]):=by
 refine Yv ?_ (by simp)
 obtain⟨E3,Hj⟩:∃X,Jz n R 0=X:=⟨_,rfl⟩;rw[Hj];have Fk:((R.map Cv.Ap).map D.it).length=R.length:=by simp
 (skip)
 all_goals(try(conv=>whnf))
 refine Ep.by (X:=Nat) (fun j=>[(5,.v (ti (j:Int)))]) (fun j=>j≤R.length∧Jz n (R.drop j) j=E3) (fun j=>R.length - j) 0 (by kernel_rfl) ⟨A3 _,Hj⟩ ?_
 rintro j ⟨hj,hR⟩
 (try dsimp only at hj hR ⊢)
 have hw:=zwj (j:=j) (by omega)
 by_cases E6:j<R.length
 case neg=>
  have h4:¬decide ((j:Int)<(R.length:Int))=true:=by simp;omega
  have h3:¬decide ((j:Int)<((((R.map Cv.Ap).map D.it).length:Nat):Int))=true:=by rw[Fk];exact h4
  rw[Bo (by omega)]at hR
  have hR:(-1:Int)=E3:=hR;subst hR;repeat'((conv=>whnf);first|(with_reducible refine Bq (by exact Ag (by assumption)) fun hb=>?_);(try rw[hb]);try simp only[Am]at hb|(with_reducible refine Aa ?_ ?_);focus (and_intros<;>first|omega|with_reducible rfl|kernel_rfl|simp;done)|with_reducible intro Av)
  all_goals(try(conv=>whnf))
  (apply D6<;>kernel_rfl)
 obtain⟨p,he⟩:∃x,R[j]?=some x:=⟨_,Ac E6⟩;have h4:¬decide ((j:Int)<(R.length:Int))=false:=by simp;omega
 have h3:¬decide ((j:Int)<((((R.map Cv.Ap).map D.it).length:Nat):Int))=false:=by rw[Fk];exact h4
 have K9:R.drop j=p::R.drop (j+1):=by rw[A7 E6];rw[Ac E6]at he;cases he;rfl
 rw[K9]at hR;simp only[Jz]at hR;obtain⟨pn,pr,pf,pk⟩:=p;dsimp only at hR;by_cases hn:pn=n
 ·rw[if_pos hn]at hR;subst hR;have e1:¬decide (pn=n)=false:=by simpa using hn
  repeat'((conv=>whnf);first|(with_reducible refine Bv (by exact Ae (by assumption)) fun hb=>?_);(try rw[hb]);(try simp only[Am]at hb);try subst hb|(with_reducible refine Aa ?_ ?_);focus (and_intros<;>first|omega|with_reducible rfl|kernel_rfl|simp;done)|with_reducible intro Av|(with_reducible apply Dh);(focus rfl);(focus (simp only[D.at,D.put,D.Cr,D.Bc,B7,Bw,D.Ap,B8,A4,Dq,he,Fk]<;>exact rfl));(try(focus exact rfl)))
  all_goals(try(conv=>whnf))
  (apply D6<;>kernel_rfl)
 ·rw[if_neg hn]at hR;have e1:¬decide (pn=n)=true:=by simpa using hn
  repeat'((conv=>whnf);first|(with_reducible first|refine Bv (by exact Ae (by assumption)) fun hb=>?_|refine Bq (by exact Ag (by assumption)) fun hb=>?_);(try rw[hb]);try simp only[Am]at hb|(with_reducible refine Aa ?_ ?_);focus (and_intros<;>first|omega|with_reducible rfl|kernel_rfl|simp;done)|with_reducible intro Av|(try dsimp only);rw[hw]|(with_reducible apply Dh);(focus rfl);(focus (simp only[D.at,D.put,D.Cr,D.Bc,B7,Bw,D.Ap,B8,A4,Dq,he,Fk]<;>exact rfl));(try(focus exact rfl)))
  all_goals(try(conv=>whnf))
  refine Round.by (j+1) ?_ ⟨by omega,hR⟩ (by omega)
  try dsimp only
  show norm _ _=Dy _ _
  kernel_rfl

open Go.Proofs
def rrP(p:Cv)(x:Sp)(rev many:Int):List Pr × Bool × Int:=
 if ¬(Wo x∧0≤rev∧1≤many∧many≤16)then([],false,1)else if p.rev<rev then([],false,13)else if 0<rev∧rev<p.floor then([],false,14)else
 if many<(Kp x (if rev=0 then p.rev else rev) p.keys []).length then((Kp x (if rev=0 then p.rev else rev) p.keys []).take many.toNat,true,0)else(Kp x (if rev=0 then p.rev else rev) p.keys [],false,0)
theorem A6c(R:List Cv)(n:A1)(x:Sp)(rev many:Int)(hl:R.length≤100000)(hf:Jz n R 0= -1):
 Fn Tryz.prog Kx [rT R,.v (.str n),.v x.Ap,.v (ti rev),.v (ti many)] (Is (.F4 [.i (.list []),.i (.bool false),.i (ti 16)]) [rT R,.no,.no,.no,.no]):=by
 refine Rh ?_ (by simp)
 have H6:=Lh R n hl;rw[hf]at H6;repeat'((conv=>whnf);first|(with_reducible refine Bv (by first|refine decide_eq_true ?_;omega|rfl) fun hb=>?_);(try rw[hb]);try simp only[Am]at hb|(with_reducible refine Aa ?_ ?_);focus (and_intros<;>first|kernel_rfl|intro _ hh;cases hh;done|simp;done|decide)|(with_reducible refine A5.mk ?_);refine⟨_,H6,?_⟩;rintro _ _ ⟨rfl,rfl⟩)
 all_goals(try(conv=>whnf))
 (apply D6<;>kernel_rfl)
theorem A6d(R:List Cv)(n:A1)(x:Sp)(rev many:Int)(hl:R.length≤100000)(i:Nat)(p:Cv)(hf:Jz n R 0=(i:Int))(he:R[i]?=some p)(hb:p.keys.length≤100000)(hv:∀h∈p.keys,h.vs.length≤100000):
 Fn Tryz.prog Kx [rT R,.v (.str n),.v x.Ap,.v (ti rev),.v (ti many)] (Is (.F4 [.i (.list ((rrP p x rev many).1.map Pr.Ap)),.i (.bool (rrP p x rev many).2.1),.i (ti (rrP p x rev many).2.2)]) [rT R,.no,.no,.no,.no]):=by
 refine Rh ?_ (by simp)
 have H6:=Lh R n hl;rw[hf]at H6;have Pv:=(Ak.1 he).1;have Fk:((R.map Cv.Ap).map D.it).length=R.length:=by simp
 have hsr:=A49 x;have Bic:=fun rev=>A45 p x rev hb hv
 obtain⟨pn,Lm,L4,pk⟩:=p;dsimp only at hb hv Bic;unfold rrP;dsimp only;by_cases hx:Wo x
 case neg=>
  rw[decide_eq_false hx]at hsr;rw[if_pos (fun c=>hx c.1)]
  repeat'((conv=>whnf);first|(with_reducible first|refine Bv (by rfl) fun hb=>?_|refine Bq (by first|refine decide_eq_false ?_;omega|rfl) fun hb=>?_);(try rw[hb]);try simp only[Am]at hb|((with_reducible refine Ai (fun hb=>?_) fun hb=>?_)<;>first|exact absurd hb (by decide)|(try rw[hb]);try simp only[Am]at hb)|(with_reducible refine Aa ?_ ?_);focus (and_intros<;>first|omega|with_reducible rfl|kernel_rfl|intro _ hh;cases hh;done|simp;done|decide)|(with_reducible refine A5.mk ?_);(first|refine⟨_,H6,?_⟩|refine⟨_,hsr,?_⟩);rintro _ _ ⟨rfl,rfl⟩|(with_reducible apply Dh);(focus rfl);(focus (simp only[D.at,D.put,D.Cr,D.Bc,B7,Bw,D.Ap,B8,A4,Dq,he,Fk]<;>exact rfl));(try(focus exact rfl)))
  all_goals(try(conv=>whnf))
  all_goals((apply D6<;>kernel_rfl))
 rw[decide_eq_true hx]at hsr;by_cases h1:rev<0
 case pos=>
  rw[if_pos (fun c=>by omega)]
  repeat'((conv=>whnf);first|(with_reducible first|refine Bv (by first|refine decide_eq_true ?_;assumption|rfl) fun hb=>?_|refine Bq (by first|refine decide_eq_false ?_;omega|rfl) fun hb=>?_);(try rw[hb]);try simp only[Am]at hb|((with_reducible refine Ai (fun hb=>?_) fun hb=>?_)<;>first|exact absurd hb (by decide)|(try rw[hb]);try simp only[Am]at hb)|(with_reducible refine Aa ?_ ?_);focus (and_intros<;>first|omega|with_reducible rfl|kernel_rfl|intro _ hh;cases hh;done|simp;done|decide)|(with_reducible refine A5.mk ?_);(first|refine⟨_,H6,?_⟩|refine⟨_,hsr,?_⟩);rintro _ _ ⟨rfl,rfl⟩|(with_reducible apply Dh);(focus rfl);(focus (simp only[D.at,D.put,D.Cr,D.Bc,B7,Bw,D.Ap,B8,A4,Dq,he,Fk]<;>exact rfl));(try(focus exact rfl)))
  all_goals(try(conv=>whnf))
  all_goals((apply D6<;>kernel_rfl))
 by_cases h2:many<1
 case pos=>
  rw[if_pos (fun c=>by omega)]
  repeat'((conv=>whnf);first|(with_reducible first|refine Bv (by first|refine decide_eq_true ?_;assumption|rfl) fun hb=>?_|refine Bq (by first|((refine decide_eq_false ?_);first|assumption|omega)|rfl) fun hb=>?_);(try rw[hb]);try simp only[Am]at hb|((with_reducible refine Ai (fun hb=>?_) fun hb=>?_)<;>first|exact absurd hb (by decide)|(try rw[hb]);try simp only[Am]at hb)|(with_reducible refine Aa ?_ ?_);focus (and_intros<;>first|omega|with_reducible rfl|kernel_rfl|intro _ hh;cases hh;done|simp;done|decide)|(with_reducible refine A5.mk ?_);(first|refine⟨_,H6,?_⟩|refine⟨_,hsr,?_⟩);rintro _ _ ⟨rfl,rfl⟩|(with_reducible apply Dh);(focus rfl);(focus (simp only[D.at,D.put,D.Cr,D.Bc,B7,Bw,D.Ap,B8,A4,Dq,he,Fk]<;>exact rfl));(try(focus exact rfl)))
  all_goals(try(conv=>whnf))
  all_goals((apply D6<;>kernel_rfl))
 by_cases h3:16<many
 case pos=>
  rw[if_pos (fun c=>by omega)]
  repeat'((conv=>whnf);first|(with_reducible first|refine Bv (by first|refine decide_eq_true ?_;assumption|rfl) fun hb=>?_|refine Bq (by first|((refine decide_eq_false ?_);first|assumption|omega)|rfl) fun hb=>?_);(try rw[hb]);try simp only[Am]at hb|((with_reducible refine Ai (fun hb=>?_) fun hb=>?_)<;>first|exact absurd hb (by decide)|(try rw[hb]);try simp only[Am]at hb)|(with_reducible refine Aa ?_ ?_);focus (and_intros<;>first|omega|with_reducible rfl|kernel_rfl|intro _ hh;cases hh;done|simp;done|decide)|(with_reducible refine A5.mk ?_);(first|refine⟨_,H6,?_⟩|refine⟨_,hsr,?_⟩);rintro _ _ ⟨rfl,rfl⟩|(with_reducible apply Dh);(focus rfl);(focus (simp only[D.at,D.put,D.Cr,D.Bc,B7,Bw,D.Ap,B8,A4,Dq,he,Fk]<;>exact rfl));(try(focus exact rfl)))
  all_goals(try(conv=>whnf))
  all_goals((apply D6<;>kernel_rfl))
 rw[if_neg (fun c=>c ⟨hx,by omega,by omega,by omega⟩)]
 by_cases h4:Lm<rev
 case pos=>
  rw[if_pos h4];repeat'((conv=>whnf);first|(with_reducible first|refine Bv (by first|refine decide_eq_true ?_;assumption|rfl) fun hb=>?_|refine Bq (by first|((refine decide_eq_false ?_);first|assumption|omega)|rfl) fun hb=>?_);(try rw[hb]);try simp only[Am]at hb|((with_reducible refine Ai (fun hb=>?_) fun hb=>?_)<;>first|exact absurd hb (by decide)|(try rw[hb]);try simp only[Am]at hb)|(with_reducible refine Aa ?_ ?_);focus (and_intros<;>first|omega|with_reducible rfl|kernel_rfl|intro _ hh;cases hh;done|simp;done|decide)|(with_reducible refine A5.mk ?_);(first|refine⟨_,H6,?_⟩|refine⟨_,hsr,?_⟩);rintro _ _ ⟨rfl,rfl⟩|(with_reducible apply Dh);(focus rfl);(focus (simp only[D.at,D.put,D.Cr,D.Bc,B7,Bw,D.Ap,B8,A4,Dq,he,Fk]<;>exact rfl));(try(focus exact rfl)))
  all_goals(try(conv=>whnf))
  all_goals((apply D6<;>kernel_rfl))
 rw[if_neg h4];by_cases h5:0<rev∧rev<L4
 case pos=>
  rw[if_pos h5];repeat'((conv=>whnf);first|(with_reducible first|refine Bv (by first|refine decide_eq_true ?_;omega|rfl) fun hb=>?_|refine Bq (by first|((refine decide_eq_false ?_);first|assumption|omega)|rfl) fun hb=>?_);(try rw[hb]);try simp only[Am]at hb|((with_reducible refine Ai (fun hb=>?_) fun hb=>?_)<;>first|exact absurd hb (by decide)|exfalso;((simp only[Eu]at hb<;>omega))|(try rw[hb]);try simp only[Am]at hb)|(with_reducible refine Aa ?_ ?_);focus (and_intros<;>first|omega|with_reducible rfl|kernel_rfl|intro _ hh;cases hh;done|simp;done|decide)|(with_reducible refine A5.mk ?_);(first|refine⟨_,H6,?_⟩|refine⟨_,hsr,?_⟩);rintro _ _ ⟨rfl,rfl⟩|(with_reducible apply Dh);(focus rfl);(focus (simp only[D.at,D.put,D.Cr,D.Bc,B7,Bw,D.Ap,B8,A4,Dq,he,Fk]<;>exact rfl));(try(focus exact rfl)))
  all_goals(try(conv=>whnf))
  all_goals((apply D6<;>kernel_rfl))
 rw[if_neg h5];by_cases h6:rev=0
 ·subst h6;simp only[if_true];have X7:=Bic Lm;generalize Kp x Lm pk []=l at X7 ⊢;by_cases hmo:many<(l.length:Int)
  ·rw[if_pos hmo];have g5:¬decide (many<((l.map Pr.Ap).length:Int))=false:=by simp;omega
   have g6:¬decide (many<(l.length:Int))=false:=by simp;omega
   have Ya:(l.map Pr.Ap).take many.toNat=(l.take many.toNat).map Pr.Ap:=by rw[List.map_take]
   repeat'((conv=>whnf);first|(with_reducible first|refine Bv (by first|exact Ae (by assumption)|refine decide_eq_true ?_;omega) fun hb=>?_|refine Bq (by first|((refine decide_eq_false ?_);first|assumption|omega)|rfl) fun hb=>?_);(try rw[hb]);try simp only[Am]at hb|((with_reducible refine Ai (fun hb=>?_) fun hb=>?_)<;>first|exact absurd hb (by decide)|(try rw[hb]);try simp only[Am]at hb)|(with_reducible refine Aa ?_ ?_);focus (and_intros<;>first|omega|with_reducible rfl|kernel_rfl|intro _ hh;cases hh;done|exact size_map (fun _=>rfl)|simp only[Eu];omega|simp;done|decide)|with_reducible intro Av|(with_reducible refine A5.mk ?_);(first|refine⟨_,H6,?_⟩|refine⟨_,hsr,?_⟩|refine⟨_,X7,?_⟩);rintro _ _ ⟨rfl,rfl⟩|(with_reducible apply Dh);(focus rfl);(focus (simp only[D.at,D.put,D.Cr,D.Bc,B7,Bw,D.Ap,B8,A4,Dq,he,Fk]<;>exact rfl));(try(focus exact rfl)))
   all_goals(try(conv=>whnf))
   refine Gg.mk ⟨?_,by kernel_rfl⟩ (by kernel_rfl)
   dsimp only;rw[←Ya]
   kernel_rfl
  ·rw[if_neg hmo];have g5:¬decide (many<((l.map Pr.Ap).length:Int))=true:=by simp;omega
   have g6:¬decide (many<(l.length:Int))=true:=by simp;omega
   repeat'((conv=>whnf);first|(with_reducible first|refine Bv (by first|refine decide_eq_true ?_;omega|rfl) fun hb=>?_|refine Bq (by first|exact Ag (by assumption)|((refine decide_eq_false ?_);first|assumption|omega)|rfl) fun hb=>?_);(try rw[hb]);try simp only[Am]at hb|((with_reducible refine Ai (fun hb=>?_) fun hb=>?_)<;>first|exact absurd hb (by decide)|(try rw[hb]);try simp only[Am]at hb)|(with_reducible refine Aa ?_ ?_);focus (and_intros<;>first|omega|with_reducible rfl|kernel_rfl|intro _ hh;cases hh;done|simp;done|decide)|with_reducible intro Av|(with_reducible refine A5.mk ?_);(first|refine⟨_,H6,?_⟩|refine⟨_,hsr,?_⟩|refine⟨_,X7,?_⟩);rintro _ _ ⟨rfl,rfl⟩|(with_reducible apply Dh);(focus rfl);(focus (simp only[D.at,D.put,D.Cr,D.Bc,B7,Bw,D.Ap,B8,A4,Dq,he,Fk]<;>exact rfl));(try(focus exact rfl)))
   all_goals(try(conv=>whnf))
   (apply D6<;>kernel_rfl)
 ·simp only[if_neg h6];have X7:=Bic rev;generalize Kp x rev pk []=l at X7 ⊢;by_cases hmo:many<(l.length:Int)
  ·rw[if_pos hmo];have g5:¬decide (many<((l.map Pr.Ap).length:Int))=false:=by simp;omega
   have g6:¬decide (many<(l.length:Int))=false:=by simp;omega
   have Ya:(l.map Pr.Ap).take many.toNat=(l.take many.toNat).map Pr.Ap:=by rw[List.map_take]
   repeat'((conv=>whnf);first|(with_reducible first|refine Bv (by first|exact Ae (by assumption)|refine decide_eq_true ?_;omega|rfl) fun hb=>?_|refine Bq (by first|((refine decide_eq_false ?_);first|assumption|omega)|rfl) fun hb=>?_);(try rw[hb]);try simp only[Am]at hb|((with_reducible refine Ai (fun hb=>?_) fun hb=>?_)<;>first|exact absurd hb (by decide)|exfalso;((simp only[Eu]at hb<;>omega))|(try rw[hb]);try simp only[Am]at hb)|(with_reducible refine Aa ?_ ?_);focus (and_intros<;>first|omega|with_reducible rfl|kernel_rfl|intro _ hh;cases hh;done|exact size_map (fun _=>rfl)|simp only[Eu];omega|simp;done|decide)|with_reducible intro Av|(with_reducible refine A5.mk ?_);(first|refine⟨_,H6,?_⟩|refine⟨_,hsr,?_⟩|refine⟨_,X7,?_⟩);rintro _ _ ⟨rfl,rfl⟩|(with_reducible apply Dh);(focus rfl);(focus (simp only[D.at,D.put,D.Cr,D.Bc,B7,Bw,D.Ap,B8,A4,Dq,he,Fk]<;>exact rfl));(try(focus exact rfl)))
   all_goals(try(conv=>whnf))
   refine Gg.mk ⟨?_,by kernel_rfl⟩ (by kernel_rfl)
   dsimp only;rw[←Ya]
   kernel_rfl
  ·rw[if_neg hmo];have g5:¬decide (many<((l.map Pr.Ap).length:Int))=true:=by simp;omega
   have g6:¬decide (many<(l.length:Int))=true:=by simp;omega
   repeat'((conv=>whnf);first|(with_reducible first|refine Bv (by first|refine decide_eq_true ?_;omega|rfl) fun hb=>?_|refine Bq (by first|exact Ag (by assumption)|((refine decide_eq_false ?_);first|assumption|omega)|rfl) fun hb=>?_);(try rw[hb]);try simp only[Am]at hb|((with_reducible refine Ai (fun hb=>?_) fun hb=>?_)<;>first|exact absurd hb (by decide)|exfalso;((simp only[Eu]at hb<;>omega))|(try rw[hb]);try simp only[Am]at hb)|(with_reducible refine Aa ?_ ?_);focus (and_intros<;>first|omega|with_reducible rfl|kernel_rfl|intro _ hh;cases hh;done|simp;done|decide)|with_reducible intro Av|(with_reducible refine A5.mk ?_);(first|refine⟨_,H6,?_⟩|refine⟨_,hsr,?_⟩|refine⟨_,X7,?_⟩);rintro _ _ ⟨rfl,rfl⟩|(with_reducible apply Dh);(focus rfl);(focus (simp only[D.at,D.put,D.Cr,D.Bc,B7,Bw,D.Ap,B8,A4,Dq,he,Fk]<;>exact rfl));(try(focus exact rfl)))
   all_goals(try(conv=>whnf))
   (apply D6<;>kernel_rfl)

open Go.Proofs
def Aa3:List Ce→Bool
 | []=>true
 |c::r=>if c.ok then Aa3 r else false
def Xd(key:A1):List Ce→Bool→Bool
 | [],b=>b
 |c::r,b=>Xd key r (b&& !decide (c.key=key))
def Vs(key:A1)(rev:Int):List Kv→Bt→Bt
 | [],v=>v
 |h::r,v=>Vs key rev r (if h.key=key then Js rev h.vs Fx else v)
def Abc(p:Cv)(c:Ce)(was:Bt):Bt:=if c.gone=true then⟨p.rev+1,0,[],true⟩else⟨p.rev+1,if was.gone=true then p.rev+1 else was.made,c.val,false⟩
def Qb(p:Cv)(c:Ce)(r:List Ce)(nx:Cv):Cv:=
 if Xd c.key r true=false∨(c.gone=true∧(Vs c.key p.rev p.keys Fx).gone=true)then nx
 else⟨nx.name,p.rev+1,nx.floor,N5 c.key (Abc p c (Vs c.key p.rev p.keys Fx)) nx.keys [] false⟩
def Mn(p:Cv):List Ce→Cv→Cv
 | [],nx=>nx
 |c::r,nx=>Mn p r (Qb p c r nx)
def KL(m:Nat)(ks:List Kv):Prop:=ks.length≤m∧∀h∈ks,h.vs.length≤m
theorem Anw{key:A1}{v:Bt}{m:Nat}(hm:1≤m):∀{r out:List Kv} {d:Bool},(∀h∈r,h.vs.length+1≤m)→(∀h∈out,h.vs.length≤m)→
 (N5 key v r out d).length≤out.length+r.length+(if d=true then 0 else 1)∧∀h∈N5 key v r out d,h.vs.length≤m
 | [],out,d,_,ho=>by
   unfold N5;split
   ·rename_i hd;subst hd;exact⟨by simp,ho⟩
   ·rename_i hd;refine⟨by simp[hd],fun h hh=>?_⟩
    rcases Aj.1 hh with hh|hh
    ·exact ho h hh
    ·simp only[Cx]at hh;subst hh;simpa using hm
 |h::r,out,d,hr,ho=>by
  have h1:=hr h (Ar ..);have D2:=fun x hx=>hr x (Au _ hx)
  have ho':∀(c:Prop) [Decidable c],∀x∈(if c then out++[⟨key,[v]⟩]else out),x.vs.length≤m:=by
   intro c _ x hx;split at hx
   ·rcases Aj.1 hx with hx|hx
    ·exact ho x hx
    ·simp only[Cx]at hx;subst hx;simpa using hm
   ·exact ho x hx
  have hsn:∀(c:Prop) [Decidable c] (y:Kv),y.vs.length≤m→∀x∈(if c then out++[⟨key,[v]⟩]else out)++[y],x.vs.length≤m:=by
   intro c _ y hy x hx;rcases Aj.1 hx with hx|hx
   ·exact ho' c x hx
   ·simp only[Cx]at hx;subst hx;exact hy
  unfold N5;split
  ·rename_i hk;have hnl:¬(d=false∧key<h.key):=fun c=>by rw[hk]at c;exact absurd c.2 (Dt _)
   obtain⟨i1,i2⟩:=Anw (key:=key) (v:=v) hm (r:=r) (out:=(if d=false∧key<h.key then out++[⟨key,[v]⟩]else out)++[⟨h.key,h.vs++[v]⟩]) (d:=true) D2 (hsn _ _ (by simp;omega))
   refine⟨?_,i2⟩;rw[if_neg hnl]at i1 ⊢;simp only[Cw,Cg,Fb,if_true]at i1 ⊢;split<;>omega
  ·obtain⟨i1,i2⟩:=Anw (key:=key) (v:=v) hm (r:=r) (out:=(if d=false∧key<h.key then out++[⟨key,[v]⟩]else out)++[h]) (d:=if d=false∧key<h.key then true else d) D2 (hsn _ _ (by omega))
   refine⟨?_,i2⟩;by_cases hc:d=false∧key<h.key
   ·rw[if_pos hc,if_pos hc]at i1;rw[if_pos hc,if_pos hc,hc.1];simp only[Cw,Cg,Fb,if_true,D0,if_false]at i1 ⊢;omega
   ·rw[if_neg hc,if_neg hc]at i1;rw[if_neg hc,if_neg hc];simp only[Cw,Cg,Fb]at i1 ⊢;omega
theorem Bgc{m:Nat}{p nx:Cv}{c:Ce}{r:List Ce}(h:KL m nx.keys):KL (m+1) (Qb p c r nx).keys:=by
 unfold Qb;split
 ·exact⟨by have:=h.1;omega,fun x hx=>by have:=h.2 x hx;omega⟩
 ·obtain⟨i1,i2⟩:=Anw (key:=c.key) (v:=Abc p c (Vs c.key p.rev p.keys Fx)) (m:=m+1) (by omega) (r:=nx.keys) (out:=[]) (d:=false) (fun x hx=>by have:=h.2 x hx;omega) (by intro x hx;cases hx)
  refine⟨?_,i2⟩;simp only[Fb,D0,if_false]at i1;have:=h.1;dsimp only;omega
theorem A6e(R:List Cv)(n:A1)(cs:List I)(hl:R.length≤100000)(hf:Jz n R 0= -1):
 Fn Tryz.prog Jq [rT R,.v (.str n),.v (.list cs)] (Is (.F4 [.i (ti 0),.i (ti 16)]) [rT R,.no,.no]):=by
 refine Mm ?_ (by simp)
 have H6:=Lh R n hl;rw[hf]at H6;repeat'((conv=>whnf);first|(with_reducible refine Bv (by first|refine decide_eq_true ?_;omega|rfl) fun hb=>?_);(try rw[hb]);try simp only[Am]at hb|(with_reducible refine Aa ?_ ?_);focus (and_intros<;>first|kernel_rfl|intro _ hh;cases hh;done|simp;done|decide)|(with_reducible refine A5.mk ?_);refine⟨_,H6,?_⟩;rintro _ _ ⟨rfl,rfl⟩)
 all_goals(try(conv=>whnf))
 (apply D6<;>kernel_rfl)
theorem Bbj(R:List Cv)(n:A1)(cs:List Ce)(hl:R.length≤100000)(Kr:cs.length≤1000)(i:Nat)(p:Cv)(hf:Jz n R 0=(i:Int))(he:R[i]?=some p)(E3:Bool)(Ao1:E3=false)(Hj:Aa3 cs=E3):
 Fn Tryz.prog Jq [rT R,.v (.str n),.v (.list (cs.map Ce.Ap))] (Is (.F4 [.i (ti 0),.i (ti 1)]) [rT R,.no,.no]):=by
 refine Mm ?_ (by simp)
 have H6:=Lh R n hl;rw[hf]at H6;have Pv:=(Ak.1 he).1;have Fk:((R.map Cv.Ap).map D.it).length=R.length:=by simp
 have Eh:(cs.map Ce.Ap).length=cs.length:=An _;repeat'((conv=>whnf);first|(with_reducible refine Bq (by first|assumption|refine decide_eq_false ?_;omega) fun hb=>?_);(try rw[hb]);try simp only[Am]at hb|(with_reducible refine Aa ?_ ?_);focus (and_intros<;>first|kernel_rfl|intro _ hh;cases hh;done|simp;done|decide)|(with_reducible refine A5.mk ?_);refine⟨_,H6,?_⟩;rintro _ _ ⟨rfl,rfl⟩)
 all_goals(try(conv=>whnf))
 refine Ep.by (X:=Nat) (fun j=>[(9,.v (ti (j:Int)))]) (fun j=>j≤cs.length∧Aa3 (cs.drop j)=E3) (fun j=>cs.length - j) 0 (by kernel_rfl) ⟨A3 _,Hj⟩ ?_
 rintro j ⟨hj,hR⟩
 (try dsimp only at hj hR ⊢)
 have hw:=zwj (j:=j) (by omega)
 by_cases E6:j<cs.length
 case neg=>
  rw[Bo (by omega)]at hR
  rw[←hR]at Ao1;cases Ao1
 obtain⟨c,hc⟩:∃c,cs[j]?=some c:=⟨_,Ac E6⟩;have h3:¬decide ((j:Int)<(cs.length:Int))=false:=by simp;omega
 have h4:¬decide ((j:Int)<((cs.map Ce.Ap).length:Int))=false:=by simp;omega
 have K9:cs.drop j=c::cs.drop (j+1):=by rw[A7 E6];rw[Ac E6]at hc;cases hc;rfl
 rw[K9]at hR;simp only[Aa3]at hR;obtain⟨ck,cv,cg⟩:=c;by_cases Dj:(Ce.mk ck cv cg).ok
 ·rw[if_pos Dj]at hR;obtain⟨Tt,Vc⟩:=Dj;dsimp only at Tt Vc;cases cg with
  |true=>
   repeat'((conv=>whnf);first|(with_reducible first|refine Bv (by exact Ae (by assumption)) fun hb=>?_|refine Bq (by first|assumption|rfl) fun hb=>?_);(try rw[hb]);try simp only[Am]at hb|((with_reducible refine Ai (fun hb=>?_) fun hb=>?_)<;>first|exfalso;((simp only[Eu]at hb<;>omega))|(try rw[hb]);try simp only[Am]at hb)|(with_reducible refine Aa ?_ ?_);focus (and_intros<;>first|omega|with_reducible rfl|kernel_rfl)|with_reducible intro Av|(try dsimp only);(first|rw[Be hc]|rw[hw]))
   all_goals(try(conv=>whnf))
   refine Round.by (j+1) ?_ ⟨by omega,hR⟩ (by omega)
   try dsimp only
   show norm _ _=Dy _ _
   kernel_rfl
  |false=>
   have Vc:cv.length≤256:=by simpa using Vc
   repeat'((conv=>whnf);first|(with_reducible first|refine Bv (by first|exact Ae (by assumption)|rfl) fun hb=>?_|refine Bq (by first|assumption|rfl) fun hb=>?_);(try rw[hb]);try simp only[Am]at hb|((with_reducible refine Ai (fun hb=>?_) fun hb=>?_)<;>first|exfalso;((simp only[Eu]at hb<;>omega))|(try rw[hb]);try simp only[Am]at hb)|(with_reducible refine Aa ?_ ?_);focus (and_intros<;>first|omega|with_reducible rfl|kernel_rfl)|with_reducible intro Av|(try dsimp only);(first|rw[Be hc]|rw[hw]))
   all_goals(try(conv=>whnf))
   refine Round.by (j+1) ?_ ⟨by omega,hR⟩ (by omega)
   try dsimp only
   show norm _ _=Dy _ _
   kernel_rfl
 ·by_cases hk:1≤ck.length∧ck.length≤64
  ·cases cg with
   |true=>exact absurd ⟨hk,.inl rfl⟩ Dj
   |false=>
    have hv:¬cv.length≤256:=fun h=>Dj ⟨hk,.inr h⟩
    repeat'((conv=>whnf);first|(with_reducible first|refine Bv (by first|exact Ae (by assumption)|rfl) fun hb=>?_|refine Bq (by first|assumption|rfl) fun hb=>?_);(try rw[hb]);try simp only[Am]at hb|((with_reducible refine Ai (fun hb=>?_) fun hb=>?_)<;>first|exfalso;((simp only[Eu]at hb<;>omega))|(try rw[hb]);try simp only[Am]at hb)|(with_reducible refine Aa ?_ ?_);focus (and_intros<;>first|omega|with_reducible rfl|kernel_rfl)|with_reducible intro Av|(try dsimp only);rw[Be hc])
    all_goals(try(conv=>whnf))
    all_goals((apply D6<;>kernel_rfl))
  ·cases cg with
   |true=>
    repeat'((conv=>whnf);first|(with_reducible first|refine Bv (by first|exact Ae (by assumption)|rfl) fun hb=>?_|refine Bq (by first|assumption|rfl) fun hb=>?_);(try rw[hb]);try simp only[Am]at hb|((with_reducible refine Ai (fun hb=>?_) fun hb=>?_)<;>first|exfalso;((simp only[Eu]at hb<;>omega))|(try rw[hb]);try simp only[Am]at hb)|(with_reducible refine Aa ?_ ?_);focus (and_intros<;>first|omega|with_reducible rfl|kernel_rfl)|with_reducible intro Av|(try dsimp only);rw[Be hc])
    all_goals(try(conv=>whnf))
    all_goals((apply D6<;>kernel_rfl))
   |false=>
    repeat'((conv=>whnf);first|(with_reducible first|refine Bv (by first|exact Ae (by assumption)|rfl) fun hb=>?_|refine Bq (by first|assumption|rfl) fun hb=>?_);(try rw[hb]);try simp only[Am]at hb|((with_reducible refine Ai (fun hb=>?_) fun hb=>?_)<;>first|exfalso;((simp only[Eu]at hb<;>omega))|(try rw[hb]);try simp only[Am]at hb)|(with_reducible refine Aa ?_ ?_);focus (and_intros<;>first|omega|with_reducible rfl|kernel_rfl)|with_reducible intro Av|(try dsimp only);rw[Be hc])
    all_goals(try(conv=>whnf))
    all_goals((apply D6<;>kernel_rfl))
end Go.Ab
