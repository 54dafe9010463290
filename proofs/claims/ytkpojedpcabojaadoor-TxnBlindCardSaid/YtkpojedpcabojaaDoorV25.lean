/- Lemmas -/
import Derived.Test.YtkpojedpcabojaaDoorK5
set_option linter.unusedVariables false
set_option linter.unusedSimpArgs false
set_option maxRecDepth 100000
set_option maxHeartbeats 40000000
namespace Go.Ab
open Go.Proofs
theorem Anc{m:Nat}{s:Cn}(hI:Akb m s)(hm:m≤80000)(hC:Atm s)(n:Az)(hn:n.length≤1000)(hf:(s.fi n).isSome=true)(x:Sp)(hx:SpR x):
 Fn Tryd.prog Aqg [sP s,.v (.str n),.v x.Bx] (Is (.v (.list ((s.Avs n x).map I.str))) [sP s,.no,.no]):=by
 refine Apu ?_ (by simp)
 have hN:=Am7 hI hC n;have hlb:=hI.lb.len;obtain⟨E,hE⟩:∃E,s.inX n x=E:=⟨_,rfl⟩;have hEl:E.length≤80000:=by
  rw[←hE];unfold Cn.inX;exact Kq (List.length_filter_le _ _) (by have:=hN.len;omega)
 have Bs2:∀p∈E,p.1.length≤64:=fun p hp=>by
  rw[←hE]at hp;exact hN.k64 p (Ajh.1 hp).1
 have Beo:=fun q hq=>Asc hI hC hf hx (q:=q) hq
 unfold Cn.Avs;rw[hE]at Beo ⊢;rw[show(E.map (·.1)).map I.str=E.map fun p=>I.str p.1 by rw[List.map_map];rfl]
 obtain⟨xf,xt⟩:=x;dsimp only at Beo
 (skip)
 all_goals(try(conv=>whnf))
 refine Afm.by (X:=Nat × Bool × Az) (fun y=>[(8,.v (.bool y.2.1)),(7,.vec 9 1 ((E.take y.1).map fun p=>I.str p.1)),(5,.box (T.one (F.i (Sp.mk y.2.2 xt).Bx)))]) (fun y=>y.1≤E.length∧y.2.2=H7 ⟨xf,xt⟩ E y.1∧(if y.2.1=true then(y.1=0∨y.1<E.length)else y.1=E.length)) (fun y=>(E.length - y.1)+(if y.2.1=true then 1 else 0)) (0,true,xf) (by kernel_rfl) ⟨Cr _,rfl,by simp⟩ ?_
 rintro⟨q,mo,FR⟩ ⟨hq,hF,hmo⟩
 (try dsimp only at hq hF hmo ⊢)
 cases mo with
 |false=>
  have hmo:q=E.length:=by simpa using hmo
  subst hmo;rw[Aoy];repeat'((conv=>whnf);first|((with_reducible refine Aw (by(with_reducible rfl)) (fun hb=>?_));(try rw[hb]);(try simp only[Aa]at hb))|((with_reducible refine Ac ?_ ?_);focus (and_intros<;>first|omega|(with_reducible rfl)|(simp;done))))
  all_goals(try(conv=>whnf))
  (apply dKq<;>kernel_rfl)
 |true=>
  have hmo:q=0∨q<E.length:=by simpa using hmo
  have hrg:=Aff hI hm n hn ⟨FR,xt⟩ 0 16;have hpg:=Beo q hmo;rw[←hF]at hpg;rw[hpg]at hrg;dsimp only at hrg;obtain⟨AL,hAL⟩:∃A,A=(E.drop q).take 16:=⟨_,rfl⟩;have hAl:AL.length=min 16 (E.length - q):=by rw[hAL,Hg,Ei]
  have hAg:∀j p,AL[j]?=some p→E[q+j]?=some p:=fun j p hj=>by
   rw[hAL,Am5]at hj;split at hj
   ·rw[Ae3]at hj;exact hj
   ·cases hj
  rw[←hAL]at hrg;obtain⟨MO,hMO⟩:∃M,M=decide (16<(E.drop q).length):=⟨_,rfl⟩;rw[←hMO]at hrg;rw[Ei]at hMO;have hAP:∀j p,AL[j]?=some p→(AL.map Ayx)[j]?=some (Ayx p):=fun j p hj=>by rw[Ev,hj];rfl
  have Bm4:(AL.map Ayx).length=AL.length:=Bh _;generalize AL.map Ayx=AP at hrg hAP Bm4;have Bs0:(AP.map Pr.Bx).length=AL.length:=by rw[Bh,Bm4]
  repeat'((conv=>whnf);first|((with_reducible refine Ax (by first|(with_reducible assumption)|(with_reducible rfl)) (fun hb=>?_));(try rw[hb]);(try simp only[Aa]at hb))|((with_reducible refine Ac ?_ ?_);focus (and_intros<;>first|omega|(with_reducible rfl)|kernel_rfl|(intro _ hh;cases hh;done)|(simp;done)|decide))|(with_reducible intro Cq)|((with_reducible refine Ct.mk ?_);refine⟨_,hrg,?_⟩;rintro _ _ ⟨rfl,rfl⟩)|((try dsimp only);rw[Bs0]))
  all_goals(try(conv=>whnf))
  refine Afm.by (X:=Nat × Az) (fun y=>[(23,.v (ti (y.1:Int))),(7,.vec 9 1 ((E.take (q+y.1)).map fun p=>I.str p.1)),(5,.box (T.one (F.i (Sp.mk y.2 xt).Bx)))]) (fun y=>y.1≤AL.length∧y.2=H7 ⟨xf,xt⟩ E (q+y.1)) (fun y=>AL.length - y.1) (0,FR) (by kernel_rfl) ⟨Cr _,hF⟩ ?_
  rintro⟨j,F2⟩ ⟨hj,hF2⟩
  (try dsimp only at hj hF2 ⊢)
  have hwj:IntKind.i64.wrap ((j:Int)+1)=((j+1:Nat):Int):=(Bf (by omega)).trans (by omega)
  by_cases hjl:j<AL.length
  case neg=>
   have h3:¬decide ((j:Int)<(AL.length:Int))=true:=by simp;omega
   obtain rfl:j=AL.length:=by omega
   repeat'((conv=>whnf);((with_reducible refine Aw (by(with_reducible exact Ak (by assumption))) (fun hb=>?_));(try rw[hb]);(try simp only[Aa]at hb)))
   all_goals(try(conv=>whnf))
   refine Round.by (q+AL.length,MO,F2) ?_ ⟨(by show q+AL.length≤E.length;omega),hF2,?_⟩ ?_
   ·try dsimp only
    show norm _ _=upd _ _
    kernel_rfl
   ·cases MO with
    |true=>
     have:16<E.length - q:=by simpa using hMO.symm
     show q+AL.length=0∨q+AL.length<E.length;omega
    |false=>
     have:¬16<E.length - q:=by simpa using hMO.symm
     show q+AL.length=E.length;omega
   ·cases MO with
    |true=>
     have:16<E.length - q:=by simpa using hMO.symm
     simp;omega
    |false=>
     simp;omega
  obtain⟨p,hp'⟩:∃x,AL[j]?=some x:=⟨_,Ae hjl⟩;have h3:¬decide ((j:Int)<(AL.length:Int))=false:=by simp;omega
  have hpE:=hAg j p hp';have ho:=hAP j p hp';have h64:=Bs2 p (Cb hpE);have hnF:=Ajo (x:=⟨xf,xt⟩) hpE;have hT:(E.take (q+j+1)).map (fun p=>I.str p.1)=(E.take (q+j)).map (fun p=>I.str p.1)++[.str p.1]:=by rw[Amx,hpE];simp
  have hTl:((E.take (q+j)).map fun p=>I.str p.1).length≤80000:=by simp;omega
  obtain⟨pk,⟨pr,pm,pv,pg2⟩⟩:=p;dsimp only[Ayx]at ho h64 hnF hT;have hln:pk.length+[(0:UInt8)].length≤maxLen:=by simp[maxLen];omega
  repeat'((conv=>whnf);first|((with_reducible refine Ax (by first|(with_reducible assumption)|(with_reducible exact Ai (by assumption))) (fun hb=>?_));(try rw[hb]);(try simp only[Aa]at hb))|((with_reducible refine Ac ?_ ?_);focus (and_intros<;>first|omega|(with_reducible rfl)|kernel_rfl|exact Ah (by rfl)|(simp only[An];omega)|(simp;done)))|((try dsimp only);(rw[B6 ho]))|((try dsimp only);rw[hwj]))
  all_goals(try(conv=>whnf))
  refine Round.by (j+1,pk++[0]) ?_ ⟨by omega,hnF.symm⟩ (by dsimp only;omega)
  try dsimp only
  rw[show q+(j+1)=q+j+1 from rfl,hT];show norm _ _=upd _ _
  kernel_rfl

open Go.Proofs
def G6(x:Az):List Az→Nat→Int
 | [],_=> -1
 |y::r,k=>if x=y then(k:Int)else G6 x r (k+1)
theorem An0{x:Az}:∀{l:List Az} {k:Nat},decide (0≤G6 x l k)=decide (x∈l)
 | [],k=>by simp[G6]
 |y::r,k=>by
  unfold G6;by_cases e:x=y
  ·rw[if_pos e];simp[e]
  ·rw[if_neg e,An0];simp[e]
theorem Apx(l:List Az)(x:Az):Fn Tryd.prog Ez [.v (.list (l.map I.str)),.v (.str x)] (Is (.v (ti (G6 x l 0))) [.no,.no]):=by
 refine Et ?_ (by simp)
 have hl1:(l.map I.str).length=l.length:=Bh _;obtain⟨RES,Ajz⟩:∃R,G6 x l 0=R:=⟨_,rfl⟩;rw[Ajz];repeat'((conv=>whnf);first|((with_reducible refine Ac ?_ ?_);focus (and_intros<;>(with_reducible rfl)))|(with_reducible intro Cq)|((try dsimp only);rw[hl1]))
 all_goals(try(conv=>whnf))
 have A1r:l.length≤9223372036854775807:=by simpa[maxLen]using Cq
 refine Afm.by (X:=Nat) (fun j=>[(8,.v (ti (j:Int)))]) (fun j=>j≤l.length∧G6 x (l.drop j) j=RES) (fun j=>l.length - j) 0 (by kernel_rfl) ⟨Cr _,Ajz⟩ ?_
 rintro j ⟨hj,hR⟩
 (try dsimp only at hj hR ⊢)
 by_cases hjl:j<l.length
 case neg=>
  have h3:¬decide ((j:Int)<(l.length:Int))=true:=by simp;omega
  rw[Db (by omega)]at hR
  have hR:(-1:Int)=RES:=hR;subst hR;repeat'((conv=>whnf);((with_reducible refine Aw (by(with_reducible exact Ak (by assumption))) (fun hb=>?_));(try rw[hb]);(try simp only[Aa]at hb)))
  all_goals(try(conv=>whnf))
  (apply dKq<;>kernel_rfl)
 have hw:IntKind.i64.wrap ((j:Int)+1)=((j+1:Nat):Int):=(Bf (by omega)).trans (by omega)
 obtain⟨y,hy⟩:∃x,l[j]?=some x:=⟨_,Ae hjl⟩;have h3:¬decide ((j:Int)<(l.length:Int))=false:=by simp;omega
 have hdr:l.drop j=y::l.drop (j+1):=by rw[Cc hjl];rw[Ae hjl]at hy;cases hy;rfl
 rw[hdr]at hR;unfold G6 at hR;by_cases e:x=y
 ·have g1:¬decide (x=y)=false:=by simpa using e
  rw[if_pos e]at hR;subst hR;repeat'((conv=>whnf);first|((with_reducible refine Ax (by(with_reducible exact Ai (by assumption))) (fun hb=>?_));(try rw[hb]);(try simp only[Aa]at hb);(try subst hb))|((with_reducible refine Ac ?_ ?_);focus (and_intros<;>first|omega|kernel_rfl))|((try dsimp only);(rw[B6 hy])))
  all_goals(try(conv=>whnf))
  (apply dKq<;>kernel_rfl)
 ·have g1:¬decide (x=y)=true:=by simpa using e
  rw[if_neg e]at hR;repeat'((conv=>whnf);first|((with_reducible refine Ax (by(with_reducible exact Ai (by assumption))) (fun hb=>?_));(try rw[hb]);(try simp only[Aa]at hb))|((with_reducible refine Aw (by(with_reducible exact Ak (by assumption))) (fun hb=>?_));(try rw[hb]);(try simp only[Aa]at hb))|((with_reducible refine Ac ?_ ?_);focus (and_intros<;>first|omega|kernel_rfl))|((try dsimp only);(rw[B6 hy]))|(skip;rw[hw]))
  all_goals(try(conv=>whnf))
  refine Round.by (j+1) ?_ ⟨by omega,hR⟩ (by omega)
  try dsimp only
  show norm _ _=upd _ _
  kernel_rfl
theorem F0(l:List Az)(x:Az):Fn Tryd.prog D5 [.v (.list (l.map I.str)),.v (.str x)] (Is (.v (.bool (decide (x∈l)))) [.no,.no]):=by
 refine Dy ?_ (by simp)
 have hi:=Apx l x;rw[←An0 (k:=0)];generalize G6 x l 0=R at*;repeat'((conv=>whnf);first|((with_reducible refine Ac ?_ ?_);focus (and_intros<;>first|(intro _ hh;cases hh;done)|(simp;done)|decide))|((with_reducible refine Ct.mk ?_);refine⟨_,hi,?_⟩;rintro _ _ ⟨rfl,rfl⟩))
 all_goals(try(conv=>whnf))
 (apply dKq<;>kernel_rfl)
abbrev Rn.sv(r:Rn):SV:=.tup [.i (.bool r.yes),.i (.list (r.outs.map Ou.Bx)),.i (.list (r.chs.map Ef.Bx)),.i (ti r.e)]
theorem Cv(l:List Ou)(o:Ou):l.map Ou.Bx++[o.Bx]=(l++[o]).map Ou.Bx:=by simp
theorem Aon(l:List Ef)(o:Ef):l.map Ef.Bx++[o.Bx]=(l++[o]).map Ef.Bx:=by simp
theorem Arw(s:Cn)(n:Az)(ifs:List Cm)(th el:List Act)(hnd:(s.sp.map (·.1)).Nodup)(hsl:s.sp.length≤1000)(hf:s.fi n=none):
 Fn Tryd.prog F4 [sP s,.v (.str n),.v (.list (ifs.map Cm.Bx)),.v (.list (th.map Act.Bx)),.v (.list (el.map Act.Bx))] (Is (⟨false,[],[],16⟩:Rn).sv [sP s,.no,.no,.no,.no]):=by
 refine Ajw ?_ (by simp)
 have hsp:=Fs s hnd hsl;have hct:=F0 s.names n;rw[decide_eq_false (fun c=>by rw[Agp,hf]at c;cases c)]at hct
 generalize s.names=NM at*;repeat'((conv=>whnf);first|((with_reducible refine A5 (fun hb=>?_) (fun hb=>?_))<;>first|(exact absurd hb (by decide))|((try rw[hb]);(try simp only[Aa]at hb)))|((with_reducible refine Ac ?_ ?_);focus (and_intros<;>first|kernel_rfl|(intro _ hh;cases hh;done)|(simp;done)|decide))|((with_reducible refine Ct.mk ?_);refine⟨_,hsp,?_⟩;rintro _ _ ⟨rfl,rfl⟩)|((with_reducible refine Ct.mk ?_);refine⟨_,hct,?_⟩;rintro _ _ ⟨rfl,rfl⟩))
 all_goals(try(conv=>whnf))
 (apply dKq<;>kernel_rfl)
theorem Ar7(s:Cn)(n:Az)(ifs:List Cm)(th el:List Act)(hnd:(s.sp.map (·.1)).Nodup)(hsl:s.sp.length≤1000)(hf:(s.fi n).isSome=true)(hl:ifs.length+th.length+el.length≤1000)(hr:Cu ifs th el=false):
 Fn Tryd.prog F4 [sP s,.v (.str n),.v (.list (ifs.map Cm.Bx)),.v (.list (th.map Act.Bx)),.v (.list (el.map Act.Bx))] (Is (⟨false,[],[],1⟩:Rn).sv [sP s,.no,.no,.no,.no]):=by
 refine Ajw ?_ (by simp)
 have hsp:=Fs s hnd hsl;have hct:=F0 s.names n;have hrt:=Aga ifs th el hl;rw[hr]at hrt;rw[decide_eq_true (Agp.2 hf)]at hct;generalize s.names=NM at*;repeat'((conv=>whnf);first|((with_reducible refine A5 (fun hb=>?_) (fun hb=>?_))<;>first|(exact absurd hb (by decide))|((try rw[hb]);(try simp only[Aa]at hb)))|((with_reducible refine Ac ?_ ?_);focus (and_intros<;>first|kernel_rfl|(intro _ hh;cases hh;done)|(simp;done)|decide))|((with_reducible refine Ct.mk ?_);refine⟨_,hsp,?_⟩;rintro _ _ ⟨rfl,rfl⟩)|((with_reducible refine Ct.mk ?_);refine⟨_,hct,?_⟩;rintro _ _ ⟨rfl,rfl⟩)|((with_reducible refine Ct.mk ?_);refine⟨_,hrt,?_⟩;rintro _ _ ⟨rfl,rfl⟩))
 all_goals(try(conv=>whnf))
 (apply dKq<;>kernel_rfl)
theorem Arv{m:Nat}{s:Cn}(hI:Akb m s)(hm:m≤80000)(hC:Atm s)(n:Az)(ifs:List Cm)(th el:List Act)(hsl:s.sp.length≤1000)(hf:(s.fi n).isSome=true)(hl:ifs.length+th.length+el.length≤1000)(hr:Cu ifs th el=true)
 (YES:Bool) (hY:s.Aqu n ifs=YES) (L:List Act) (hL:(if YES=true then th else el)=L) (RES:List Ou × List Ef × Int) (Ajz:s.Auc n L [] []=RES) (RUN:Rn) (A78:(if RES.2.2=0 then(⟨YES,RES.1,RES.2.1,0⟩:Rn)else⟨false,[],[],RES.2.2⟩)=RUN):
 Fn Tryd.prog F4 [sP s,.v (.str n),.v (.list (ifs.map Cm.Bx)),.v (.list (th.map Act.Bx)),.v (.list (el.map Act.Bx))] (Is RUN.sv [sP s,.no,.no,.no,.no]):=by
 refine Ajw ?_ (by simp)
 obtain⟨i0,hi0⟩:=Asz.1 hf;have hn:=hI.name hi0;obtain⟨hr1,hr2,hr3⟩:=Akt hr;have hsp:=Fs s hI.nd hsl;have hct:=F0 s.names n;have hrt:=Aga ifs th el hl;have hho:=Apz hI hm n (by omega) ifs (by omega) fun c hc=>by have:=(hr2 c hc).1;omega
 rw[hr]at hrt;rw[hY]at hho;rw[decide_eq_true (Agp.2 hf)]at hct;have hLl:L.length≤8:=by rw[←hL];split<;>omega
 have Bs5:∀d∈L,d.ok:=fun d hd=>by
  rw[←hL]at hd;split at hd
  ·exact hr3 d (Aau _ hd)
  ·exact hr3 d (Ac6 _ hd)
 have hLm:(L.map Act.Bx).length=L.length:=Bh _;have hkl:∀x:Sp,(s.Avs n x).length≤80000:=fun x=>by
  unfold Cn.Avs Cn.inX;rw[Bh];exact Kq (List.length_filter_le _ _) (by have:=(Am7 hI hC n).len;have:=hI.lb.len;omega)
 generalize hNM:s.names=NM at*;have hYY:YES=true∨YES=false:=by cases YES<;>simp
 rcases hYY with rfl|rfl
 all_goals simp only[if_true,Ado,if_false]at hL
 all_goals replace hL:=hL.symm
 all_goals subst hL
 all_goals(
  repeat'((conv=>whnf);first|((with_reducible refine Ax (by first|(with_reducible assumption)|(with_reducible rfl)) (fun hb=>?_));(try rw[hb]);(try simp only[Aa]at hb))|((with_reducible refine Aw (by first|(with_reducible assumption)|(with_reducible rfl)) (fun hb=>?_));(try rw[hb]);(try simp only[Aa]at hb))|((with_reducible refine A5 (fun hb=>?_) (fun hb=>?_))<;>first|(exact absurd hb (by decide))|((try rw[hb]);(try simp only[Aa]at hb)))|((with_reducible refine Ac ?_ ?_);focus (and_intros<;>first|(with_reducible rfl)|kernel_rfl|(intro _ hh;cases hh;done)|(simp;done)|decide))|(with_reducible intro Cq)|((with_reducible refine Ct.mk ?_);refine⟨_,hsp,?_⟩;rintro _ _ ⟨rfl,rfl⟩)|((with_reducible refine Ct.mk ?_);refine⟨_,hct,?_⟩;rintro _ _ ⟨rfl,rfl⟩)|((with_reducible refine Ct.mk ?_);refine⟨_,hrt,?_⟩;rintro _ _ ⟨rfl,rfl⟩)|((with_reducible refine Ct.mk ?_);refine⟨_,hho,?_⟩;rintro _ _ ⟨rfl,rfl⟩)|((try dsimp only);rw[hLm]))
  all_goals(try(conv=>whnf)))
 all_goals
  refine Afm.by (X:=Nat × List Ou × List Ef) (fun y=>[(48,.v (ti (y.1:Int))),(16,.vec Anr 3 (y.2.1.map Ou.Bx)),(17,.vec E1 3 (y.2.2.map Ef.Bx))]) (fun y=>y.1≤L.length∧y.2.1.length≤y.1∧y.2.2.length≤y.1*80001∧s.Auc n (L.drop y.1) y.2.1 y.2.2=RES) (fun y=>L.length - y.1) (0,[],[]) (by kernel_rfl) ⟨Cr _,Bz _,by simp,Ajz⟩ ?_
  rintro⟨j,O,C⟩ ⟨hj,hOl,hCl,hR⟩
  (try dsimp only at hj hOl hCl hR ⊢)
  have hw:IntKind.i64.wrap ((j:Int)+1)=((j+1:Nat):Int):=(Bf (by omega)).trans (by omega)
  have Bnc:(O.map Ou.Bx).length≤8:=by rw[Bh];omega
  have By0:(C.map Ef.Bx).length≤1000000:=by rw[Bh];omega
  by_cases hjl:j<L.length
  case neg=>
   have h3:¬decide ((j:Int)<(L.length:Int))=true:=by simp;omega
   rw[Db (by omega)]at hR
   have hR:(O,C,0)=RES:=hR;subst hR;rw[if_pos rfl]at A78;subst A78;repeat'((conv=>whnf);first|((with_reducible refine Aw (by first|(with_reducible assumption)|(with_reducible exact Ak (by assumption))) (fun hb=>?_));(try rw[hb]);(try simp only[Aa]at hb))|((with_reducible refine Ac ?_ ?_);focus (and_intros<;>first|omega|(with_reducible rfl)|(simp;done))))
   all_goals(try(conv=>whnf))
   (apply dKq<;>kernel_rfl)
  have hms:L.length - (j+1)<L.length - j:=Nat.sub_lt_sub_left hjl (Ej j);have hO1:∀o:Ou,(O++[o]).length≤j+1:=fun o=>by rw[Hq];exact Nat.add_le_add_right hOl 1
  have hC1:C.length≤(j+1)*80001:=Kq hCl (Jh _ (Nat.le_succ j));have Beh:j+1≤L.length:=hjl;obtain⟨d,hd⟩:∃x,L[j]?=some x:=⟨_,Ae hjl⟩;have h3:¬decide ((j:Int)<(L.length:Int))=false:=by simp;omega
  have hdr:L.drop j=d::L.drop (j+1):=by rw[Cc hjl];rw[Ae hjl]at hd;cases hd;rfl
  have hdo:=Bs5 d (Cb hd);rw[hdr]at hR;unfold Cn.Auc at hR;obtain⟨dk,dx,Awk,dv,dr,dm⟩:=d;unfold Act.ok at hdo;dsimp only at hdo;have Bza:=hkl dx;by_cases k1:dk=1
  ·subst k1;rw[if_pos rfl]at hdo;have hrg:=Aff hI hm n (by omega) dx dr (if dm=0 then 16 else dm)
   unfold Cn.A0c Cn.A0d Cn.Ayo Ako at hR;dsimp only at hR;simp only[if_true,show ¬(1:Int)=2 by decide,show ¬(1:Int)=3 by decide,if_false,R2]at hR
   generalize s.An4 n dx dr (if dm=0 then 16 else dm)=Z at*
   obtain⟨P,mo,er⟩:=Z;dsimp only at hR hrg;obtain⟨xf,xt⟩:=dx;by_cases m0:dm=0
   ·subst m0;rw[if_pos rfl]at hrg;by_cases e0:er=0
    ·subst e0;rw[if_pos rfl]at hR;repeat'((conv=>whnf);first|((with_reducible refine Ax (by first|(with_reducible assumption)|(with_reducible exact Ai (by assumption))) (fun hb=>?_));(try rw[hb]);(try simp only[Aa]at hb))|((with_reducible refine A5 (fun hb=>?_) (fun hb=>?_))<;>first|(exact absurd hb (by decide))|((try rw[hb]);(try simp only[Aa]at hb);(try(with_reducible exact absurd trivial hb))))|((with_reducible refine Ac ?_ ?_);focus (and_intros<;>first|omega|(with_reducible rfl)|kernel_rfl|(intro _ hh;cases hh;done)|exact Ah (by rfl)|(simp only[An];omega)|(simp;done)|decide))|((try dsimp only);(rw[B6 hd]))|((with_reducible refine Ct.mk ?_);refine⟨_,hrg,?_⟩;rintro _ _ ⟨rfl,rfl⟩)|((try dsimp only);rw[hw]))
     all_goals(try(conv=>whnf))
     refine Round.by (j+1,O++[⟨P,mo,0⟩],C) ?_ ⟨Beh,hO1 _,hC1,hR⟩ hms;try dsimp only
     rw[←Cv];show norm _ _=upd _ _
     kernel_rfl
    ·rw[if_neg e0]at hR;subst hR;rw[if_neg e0]at A78;subst A78;have g0:¬(!decide (er=0))=false:=by simpa using e0
     repeat'((conv=>whnf);first|((with_reducible refine Ax (by first|(with_reducible assumption)|(with_reducible exact Ai (by assumption))) (fun hb=>?_));(try rw[hb]);(try simp only[Aa]at hb))|((with_reducible refine A5 (fun hb=>?_) (fun hb=>?_))<;>(((try rw[hb]);(try simp only[Aa]at hb);(try(with_reducible exact absurd trivial hb)))))|((with_reducible refine Ac ?_ ?_);focus (and_intros<;>first|omega|kernel_rfl|(intro _ hh;cases hh;done)|(simp;done)|decide))|((try dsimp only);(rw[B6 hd]))|((with_reducible refine Ct.mk ?_);refine⟨_,hrg,?_⟩;rintro _ _ ⟨rfl,rfl⟩))
     all_goals(try(conv=>whnf))
     (apply dKq<;>kernel_rfl)
   ·rw[if_neg m0]at hrg;have gm:¬decide (dm=0)=true:=by simpa using m0
    by_cases e0:er=0
    ·subst e0;rw[if_pos rfl]at hR;repeat'((conv=>whnf);first|((with_reducible refine Ax (by first|(with_reducible assumption)|(with_reducible exact Ai (by assumption))) (fun hb=>?_));(try rw[hb]);(try simp only[Aa]at hb))|((with_reducible refine Aw (by first|(with_reducible assumption)|(with_reducible exact Ak (by assumption))) (fun hb=>?_));(try rw[hb]);(try simp only[Aa]at hb))|((with_reducible refine A5 (fun hb=>?_) (fun hb=>?_))<;>first|(exact absurd hb (by decide))|((try rw[hb]);(try simp only[Aa]at hb);(try(with_reducible exact absurd trivial hb))))|((with_reducible refine Ac ?_ ?_);focus (and_intros<;>first|omega|(with_reducible rfl)|kernel_rfl|(intro _ hh;cases hh;done)|exact Ah (by rfl)|(simp only[An];omega)|(simp;done)|decide))|((try dsimp only);(rw[B6 hd]))|((with_reducible refine Ct.mk ?_);refine⟨_,hrg,?_⟩;rintro _ _ ⟨rfl,rfl⟩)|((try dsimp only);rw[hw]))
     all_goals(try(conv=>whnf))
     refine Round.by (j+1,O++[⟨P,mo,0⟩],C) ?_ ⟨Beh,hO1 _,hC1,hR⟩ hms;try dsimp only
     rw[←Cv];show norm _ _=upd _ _
     kernel_rfl
    ·rw[if_neg e0]at hR;subst hR;rw[if_neg e0]at A78;subst A78;have g0:¬(!decide (er=0))=false:=by simpa using e0
     repeat'((conv=>whnf);first|((with_reducible refine Ax (by first|(with_reducible assumption)|(with_reducible exact Ai (by assumption))) (fun hb=>?_));(try rw[hb]);(try simp only[Aa]at hb))|((with_reducible refine Aw (by first|(with_reducible assumption)|(with_reducible exact Ak (by assumption))) (fun hb=>?_));(try rw[hb]);(try simp only[Aa]at hb))|((with_reducible refine A5 (fun hb=>?_) (fun hb=>?_))<;>(((try rw[hb]);(try simp only[Aa]at hb);(try(with_reducible exact absurd trivial hb)))))|((with_reducible refine Ac ?_ ?_);focus (and_intros<;>first|omega|kernel_rfl|(intro _ hh;cases hh;done)|(simp;done)|decide))|((try dsimp only);(rw[B6 hd]))|((with_reducible refine Ct.mk ?_);refine⟨_,hrg,?_⟩;rintro _ _ ⟨rfl,rfl⟩))
     all_goals(try(conv=>whnf))
     (apply dKq<;>kernel_rfl)
  rw[if_neg k1]at hdo;have g1:¬decide (dk=1)=true:=by simpa using k1
  by_cases k2:dk=2
  ·subst k2;unfold Cn.A0c Cn.A0d Cn.Ayo at hR;dsimp only at hR;simp only[show ¬(2:Int)=1 by decide,if_true,show ¬(2:Int)=3 by decide,if_false]at hR
   obtain⟨xf,xt⟩:=dx;repeat'((conv=>whnf);first|((with_reducible refine Ax (by first|(with_reducible assumption)|(with_reducible exact Ai (by assumption))) (fun hb=>?_));(try rw[hb]);(try simp only[Aa]at hb))|((with_reducible refine Aw (by first|(with_reducible assumption)|(with_reducible exact Ak (by assumption))) (fun hb=>?_));(try rw[hb]);(try simp only[Aa]at hb))|((with_reducible refine A5 (fun hb=>?_) (fun hb=>?_))<;>(((try rw[hb]);(try simp only[Aa]at hb);(try(with_reducible exact absurd trivial hb)))))|((with_reducible refine Ac ?_ ?_);focus (and_intros<;>first|omega|(with_reducible rfl)|kernel_rfl|exact Ah (by rfl)|(simp only[An];omega)|(simp;done)))|((try dsimp only);(rw[B6 hd]))|((try dsimp only);rw[hw]))
   all_goals(try(conv=>whnf))
   refine Round.by (j+1,O++[⟨[],false,0⟩],C++[⟨Awk,dv,false⟩]) ?_ ⟨Beh,hO1 _,by simp;omega,hR⟩ hms
   try dsimp only
   rw[←Cv, ←Aon];show norm _ _=upd _ _
   kernel_rfl
  rw[if_neg k2]at hdo;obtain⟨k3,hxr⟩:=hdo;subst k3;have hkk:=Anc hI hm hC n (by omega) hf dx hxr
  unfold Cn.A0c Cn.A0d Cn.Ayo at hR;dsimp only at hR;simp only[show ¬(3:Int)=1 by decide,if_true,show ¬(3:Int)=2 by decide,if_false]at hR
  generalize s.Avs n dx=KX at*;obtain⟨xf,xt⟩:=dx;have hKm:(KX.map I.str).length=KX.length:=Bh _;repeat'((conv=>whnf);first|((with_reducible refine Ax (by first|(with_reducible assumption)|(with_reducible exact Ai (by assumption))) (fun hb=>?_));(try rw[hb]);(try simp only[Aa]at hb))|((with_reducible refine Aw (by first|(with_reducible assumption)|(with_reducible exact Ak (by assumption))|((with_reducible refine decide_eq_false ?_);(with_reducible assumption))) (fun hb=>?_));(try rw[hb]);(try simp only[Aa]at hb))|((with_reducible refine A5 (fun hb=>?_) (fun hb=>?_))<;>(((try rw[hb]);(try simp only[Aa]at hb);(try(with_reducible exact absurd trivial hb)))))|((with_reducible refine Ac ?_ ?_);focus (and_intros<;>first|omega|(with_reducible rfl)|kernel_rfl|(intro _ hh;cases hh;done)|(simp;done)|decide))|(with_reducible intro Cq)|((try dsimp only);(rw[B6 hd]))|((with_reducible refine Ct.mk ?_);refine⟨_,hkk,?_⟩;rintro _ _ ⟨rfl,rfl⟩)|((try dsimp only);rw[hKm]))
  all_goals(try(conv=>whnf))
  refine Afm.by (X:=Nat) (fun i=>[(97,.v (ti (i:Int))),(17,.vec E1 3 ((C++(KX.take i).map fun k=>(⟨k,[],true⟩:Ef)).map Ef.Bx)),(20,.box (T.one (F.i (.agg [.list [],.bool false,ti (i:Int)]))))]) (fun i=>i≤KX.length) (fun i=>KX.length - i) 0 (by simp only[List.take_zero,Kc,R2];kernel_rfl) (Cr _) ?_
  rintro i hi
  (try dsimp only at hi ⊢)
  have hwi:IntKind.i64.wrap ((i:Int)+1)=((i+1:Nat):Int):=(Bf (by omega)).trans (by omega)
  have By1:((C++(KX.take i).map fun k=>(⟨k,[],true⟩:Ef)).map Ef.Bx).length≤1000000:=by simp;omega
  by_cases hil:i<KX.length
  ·obtain⟨k,hk⟩:∃x,KX[i]?=some x:=⟨_,Ae hil⟩;have h5:¬decide ((i:Int)<(KX.length:Int))=false:=by simp;omega
   have hnx:(C++(KX.take (i+1)).map fun k=>(⟨k,[],true⟩:Ef)).map Ef.Bx=(C++(KX.take i).map fun k=>(⟨k,[],true⟩:Ef)).map Ef.Bx++[.agg [.str k,.str [],.bool true]]:=by rw[Amx,hk];simp[Ef.Bx]
   repeat'((conv=>whnf);first|((with_reducible refine Ax (by first|(with_reducible assumption)|(with_reducible exact Ai (by assumption))) (fun hb=>?_));(try rw[hb]);(try simp only[Aa]at hb))|((with_reducible refine Ac ?_ ?_);focus (and_intros<;>first|omega|(with_reducible rfl)|kernel_rfl|exact Ah (by rfl)|(simp only[An];omega)|(simp;done)))|((try dsimp only);(rw[B6 hk]))|(skip;rw[hwi]))
   all_goals(try(conv=>whnf))
   refine Round.by (i+1) ?_ (by omega) (by omega)
   try dsimp only
   rw[hnx];show norm _ _=upd _ _
   kernel_rfl
  have h5:¬decide ((i:Int)<(KX.length:Int))=true:=by simp;omega
  obtain rfl:i=KX.length:=by omega
  rw[Aoy];repeat'((conv=>whnf);first|((with_reducible refine Aw (by first|(with_reducible assumption)|(with_reducible exact Ak (by assumption))) (fun hb=>?_));(try rw[hb]);(try simp only[Aa]at hb))|((with_reducible refine Ac ?_ ?_);focus (and_intros<;>first|omega|(with_reducible rfl)|kernel_rfl|exact Ah (by rfl)|(simp only[An];omega)|(simp;done)))|(skip;rw[hw]))
  all_goals(try(conv=>whnf))
  refine Round.by (j+1,O++[⟨[],false,(KX.length:Int)⟩],C++KX.map fun k=>(⟨k,[],true⟩:Ef)) ?_ ⟨Beh,hO1 _,by simp;omega,hR⟩ hms
  try dsimp only
  rw[←Cv];show norm _ _=upd _ _
  kernel_rfl

theorem Bhg{s:Cn}{n:Az}{ifs:List Cm}{th el:List Act}(h:(s.runM n ifs th el).e=0):(s.fi n).isSome=true∧Cu ifs th el=true∧∃acts:List Act,(∀d∈acts,d∈th++el)∧acts.length≤8∧(s.runM n ifs th el).outs=acts.map (s.A0d n)∧(s.runM n ifs th el).chs=(acts.map (s.Ayo n)).flatten∧∀d∈acts,s.A0c n d=0:=by
 unfold Cn.runM at h ⊢;split at h
 ·cases h
 ·rename_i h1;rw[if_neg h1];split at h
  ·cases h
  ·rename_i h2;rw[if_neg h2];have hin:∀d∈(if s.Aqu n ifs=true then th else el),d∈th++el:=fun d hd=>by
    split at hd
    ·exact Aau _ hd
    ·exact Ac6 _ hd
   have hle:(if s.Aqu n ifs=true then th else el).length≤max th.length el.length:=by split<;>omega
   generalize (if s.Aqu n ifs=true then th else el)=L at h hin hle ⊢
   split at h
   ·rename_i h3;rw[if_pos h3];obtain⟨a1,a2,a3⟩:=Bae h3;have h2:Cu ifs th el=true:=by simpa using h2
    obtain⟨b1,_⟩:=Akt h2;refine⟨by cases hf:s.fi n with|none=>rw[hf]at h1;exact absurd rfl h1|some i=>rfl,h2,L,hin,by omega,?_,?_,a3⟩
    ·dsimp only;rw[a1];rfl
    ·dsimp only;rw[a2];rfl
   ·rename_i h3;exact absurd h h3
theorem Bdr{s:Cn}{n:Az}{ifs:List Cm}{th el:List Act}(h:(s.runM n ifs th el).e≠0):(s.runM n ifs th el).outs=[]∧(s.runM n ifs th el).chs=[]:=by
 unfold Cn.runM at h ⊢;split
 ·exact⟨rfl,rfl⟩
 ·rename_i h1;rw[if_neg h1]at h;split
  ·exact⟨rfl,rfl⟩
  ·rename_i h2;rw[if_neg h2]at h;generalize (if s.Aqu n ifs=true then th else el)=L at h ⊢
   split
   ·rename_i h3;rw[if_pos h3]at h;exact absurd rfl h
   ·exact⟨rfl,rfl⟩
theorem mem_reads{ifs:List Cm}{th el:List Act}{d:Act}(h:d∈th++el)(hk:d.kind=1):d.x∈C3 ifs th el:=
 Ac6 _ (Ajj.2 ⟨d,h,by unfold Ana;rw[if_pos hk]⟩)
theorem Bcu{th el:List Act}{d:Act}(h:d∈th++el)(hk:d.kind=3):d.x∈B9 th el:=
 Ajj.2 ⟨d,h,by unfold Aiy;rw[if_neg (by omega),if_pos hk]⟩
theorem Bp3{s:Cn}{n:Az}(cs:List Ef)(m:Az):((s.Acg n cs).1.fi m).isSome=(s.fi m).isSome:=by
 rw[Ajf];unfold Cn.Acg;split
 ·rfl
 ·rename_i i hi;split
  ·rfl
  ·exact Agj hi
def K1(s:Cn):Prop:=∀h∈s.l,1≤(C1 h.at_).2.1.length
theorem Aro{FF:List Ef}(h:∀c∈FF,c.ok){k:Az}(hk:k∈Dc (FF.map Ef.key)):1≤k.length:=by
 obtain⟨q,_,h2,h3⟩:=Adz (Aje.1 hk);have h4:=h _ (Cb h2);rw[←h3];exact h4.1.1
theorem Anf{n:Az}{F:List Ef}(hn:n.length<256):∀{KK:List Az} {x:WSt},(∀k∈KK,1≤k.length)→(∀h∈x.l,1≤(C1 h.at_).2.1.length)→∀h∈(Ge n F KK x).l,1≤(C1 h.at_).2.1.length
 | [],x,_,h=>h
 |k::KK,x,hk,h=>by
  unfold Ge;refine Anf hn (fun y hy=>hk y (B4 _ hy)) ?_
  rcases Q7 n k (Anv F k) x with e|⟨v,_,e,_⟩
  ·rw[e];exact h
  ·rw[e];intro y hy;rcases Ajm hy with h1|rfl|⟨e,_,_,rfl⟩
   ·exact h y h1
   ·dsimp only;rw[Mt hn];exact hk k (B2 ..)
   ·dsimp only;rw[Mt hn];exact hk k (B2 ..)
theorem K1.write{m:Nat}{s:Cn}(h:Akb m s)(hk:K1 s)(n:Az)(cs:List Ef):K1 (s.Acg n cs).1:=by
 unfold Cn.Acg;split
 ·exact hk
 ·rename_i i hi;split
  ·exact hk
  ·rename_i F hF;obtain⟨_,f2,_⟩:=Agz hF (by simp) (by simp)
   exact Anf (h.name hi) (fun k hk=>Aro f2 hk) hk
theorem K1.comp{s:Cn}(hk:K1 s)(n:Az)(rev:Int):K1 (s.Anu n rev).1:=by
 unfold Cn.Anu;split
 ·exact hk
 ·split
  ·obtain⟨c1,_⟩:=Ahp (n:=n) (rev:=rev) (l:=s.l) (x:=⟨[],0⟩);rw[H4]at c1;intro x hx;dsimp only at hx;rw[c1]at hx;obtain⟨y,hy,e⟩:=Ajj.1 hx;rw[(Agy e).1];exact hk y hy
  ·exact hk
theorem Bfn{m:Nat}{s:Cn}(h:Akb m s){n:Az}{cs FF:List Ef}{i:Nat}(hi:s.fi n=some i)(hF:K6 cs []=some FF):
 (∀k,Jm (keysOf n (s.Acg n cs).1.l) k=Jm (keysOf n s.l) k++Aui (s.Ann n) (Asr (keysOf n s.l) k) (Aoz cs k))∧(s.Acg n cs).2.2=0∧(s.Acg n cs).2.1=((s.Acg n cs).1.Zp n).rev∧
 (((s.Acg n cs).1.Zp n).rev=(s.Zp n).rev∧(∀k,Aui (s.Ann n) (Asr (keysOf n s.l) k) (Aoz cs k)=[])∨((s.Acg n cs).1.Zp n).rev=(s.Zp n).rev+1∧∃k,Aui (s.Ann n) (Asr (keysOf n s.l) k) (Aoz cs k)≠[]):=by
 obtain⟨q,_,_,hq⟩:=A2q (s:=s) (n:=n) (by rw[hi];rfl)
 obtain⟨e1,e2,e3⟩:=A9f h hi hF hq;have hn:=h.name hi;have hv0:∀y∈s.l,Avh y.at_:=fun y hy=>(h.wi.2 y hy).1
 have hks:=Di (n:=n) h.wi.1 hv0;have Cf:∀x∈keysOf n s.l,x.vs≠[]∧∀u∈x.vs,u.rev≤(s.Zp n).rev:=fun x hx=>by
  obtain⟨y,hy,e1,e2⟩:=Ch hv0 hx;rw[←e2];refine⟨(h.lb.held y hy).2.1,fun u hu=>?_⟩
  have:=((h.wi.2 y hy).2.2 u hu).2;dsimp only at this;rw[e1,Mt hn]at this;exact this
 obtain⟨_,_,_,_,r5,r6⟩:=A1m (p:=s.Ann n) hks Cf (cs:=cs) (nx:=s.Ann n) hks fun x hx=>(Cf x hx).1
 have A1d:(s.Acg n cs).1.Ann n=Asi (s.Ann n) cs (s.Ann n):=by
  have h1:(s.Acg n cs).1.names=s.names:=by
   unfold Cn.names Cn.Acg;rw[hi];dsimp only;rw[hF];dsimp only;have:=Agj (t:=(Ge n FF (Dc (FF.map Ef.key)) ⟨s.Zp n,s.l,false⟩).fin) (l:=(Ge n FF (Dc (FF.map Ef.key)) ⟨s.Zp n,s.l,false⟩).l) hi;dsimp only at this;rw[this]
  have h2:(s.Acg n cs).1.ref[q]?=some ((s.Acg n cs).1.Ann n):=by unfold Cn.ref;rw[h1,Ev,hq];rfl
  have hql:q<s.ref.length:=by
   unfold Cn.ref;rw[Bh];exact(A7.1 hq).1
  rw[e1,List.getElem?_set,if_pos rfl,if_pos hql]at h2;exact(Aag h2).symm
 rw[←A1d]at r5 r6;refine⟨r5,e3,?_,r6⟩;rw[e2, ←A1d];rfl

theorem Aws{α β:Type}{p:β→Bool}{f g:α→Option β}:∀{l:List α},(∀x∈l,(f x).filter p=(g x).filter p)→(l.filterMap f).filter p=(l.filterMap g).filter p
 | [],_=>rfl
 |x::r,h=>by
  have ih:=Aws (p:=p) (f:=f) (g:=g) (l:=r) fun y hy=>h y (B4 _ hy)
  have h0:=h x (B2 ..);rw[Fp,Fp];cases hf:f x with
  |none=>
   rw[hf]at h0;cases hg:g x with
   |none=>exact ih
   |some b=>
    rw[hg]at h0;dsimp only;rw[Aiw];cases hb:p b with
    |true=>simp[Option.filter,hb]at h0
    |false=>simpa using ih
  |some a=>
   rw[hf]at h0;dsimp only;rw[Aiw];cases hg:g x with
   |none=>
    rw[hg]at h0;cases ha:p a with
    |true=>simp[Option.filter,ha]at h0
    |false=>simpa using ih
   |some b=>
    rw[hg]at h0;dsimp only;rw[Aiw];cases ha:p a with
    |true=>
     cases hb:p b with
     |true=>
      simp[Option.filter,ha,hb]at h0;subst h0;simpa using ih
     |false=>simp[Option.filter,ha,hb]at h0
    |false=>
     cases hb:p b with
     |true=>simp[Option.filter,ha,hb]at h0
     |false=>simpa using ih
theorem A6a{m:Nat}{s:Cn}(hI:Akb m s){n:Az}{c:Ef}{x:Sp}(hx:¬Bw x c.key):(s.Acg n [c]).1.inX n x=s.inX n x:=by
 cases hi:s.fi n with
 |none=>rw[show(s.Acg n [c]).1=s from A4b (.inl hi)]
 |some i=>
  cases hF:K6 [c] []with
  |none=>rw[show(s.Acg n [c]).1=s from A4b (.inr hF)]
  |some FF=>
   have hn:=hI.name hi;have hI2:=hI.write n [c];have hr:=hI.rv n;obtain⟨w1,_,_,w4⟩:=Bfn hI hi hF;have hst:s.Ay2 ⟨0,n,[c],⟨[],[]⟩,0,0⟩=(s.Acg n [c]).1:=rfl;have hfl:((s.Acg n [c]).1.Zp n).floor=(s.Zp n).floor:=by
    obtain⟨q,_,_,hq⟩:=A2q (s:=s) (n:=n) (by rw[hi];rfl)
    unfold Cn.Acg;rw[hi];dsimp only;rw[hF];dsimp only;rw[Mi hi,if_pos rfl];obtain⟨f1,f2,_⟩:=Agz hF (by simp) (by simp)
    obtain⟨_,_,g3⟩:=Ahn (F:=FF) (x:=⟨s.Zp n,s.l,false⟩) hn (Ahj f1) (show 0≤(s.Zp n).rev by omega) (hI.start n (Dc (FF.map Ef.key)))
    unfold WSt.fin;split<;>exact g3
   have hv:=Bhp hI ⟨0,n,[c],⟨[],[]⟩,0,0⟩ (n:=n) (rev:=(s.Zp n).rev) (Ata _) (by rw[hst,hfl];omega)
   rw[hst]at hv;unfold Cn.inX;rw[←hv];unfold Lh;refine Aws fun y hy=>?_
   by_cases hyn:(C1 y.at_).1=n
   ·by_cases hyk:(C1 y.at_).2.1=c.key
    ·have:∀r,(gV n r y).filter (fun p=>decide (Bw x p.1))=none:=fun r=>by
      unfold gV;split
      ·rw[hyk];simp[Option.filter,hx]
      ·rfl
     rw[this,this]
    ·have hvs:∀v∈y.vs,v.rev≤(s.Zp n).rev:=fun v hv=>by
      have hat:y.at_=B7 n (C1 y.at_).2.1:=by rw[←hyn];exact(hI2.wi.2 y hy).1.whose.1
      have hl2:=Aqb hn hI2.wi.1 (fun y hy=>(hI2.wi.2 y hy).1) hy hat
      have hw:=w1 (C1 y.at_).2.1;rw[hl2,show Aoz [c] (C1 y.at_).2.1=none by unfold Aoz;rw[show Aoz [] (C1 y.at_).2.1=none from rfl];dsimp only;rw[if_neg (fun e=>hyk e.symm)]]at hw
      have hw:y.vs=Jm (keysOf n s.l) (C1 y.at_).2.1:=by rw[hw];simp[Aui]
      rw[hw]at hv;unfold Jm at hv;cases hf:(keysOf n s.l).find? (fun h=>decide (h.key=(C1 y.at_).2.1))with
      |none=>rw[hf]at hv;cases hv
      |some z=>
       rw[hf]at hv;obtain⟨e,he,h1,h2⟩:=Ch (fun y hy=>(hI.wi.2 y hy).1) (List.mem_of_find?_eq_some hf)
       have h3:=((hI.wi.2 e he).2.2 v (by rw[h2];exact hv)).2
       dsimp only at h3;rw[h1,Mt hn]at h3;exact h3
     have hso:=(hI2.wi.2 y hy).2.1;have Cf:=(hI2.lb.held y hy).2.1;have e1:=Apd (R:=((s.Acg n [c]).1.Zp n).rev) hso Cf fun v hv=>by
      have:=hvs v hv;rcases w4 with⟨e,_⟩|⟨e,_⟩<;>omega
     have e2:=Apd (R:=(s.Zp n).rev) hso Cf hvs;unfold gV;rw[e1,e2]
   ·rw[Ar0 hyn,Ar0 hyn]
theorem A3m{m:Nat}{s:Cn}(hI:Akb m s){n:Az}(hf:(s.fi n).isSome=true){x:Sp}(hx:SpR x){most:Int}(hm:1≤most∧most≤16):
 s.An4 n x 0 most=(((s.inX n x).map Ayx).take most.toNat,decide (most.toNat<(s.inX n x).length),0):=by
 have hr:=hI.rv n;rw[Aqt hI hf hx ⟨by omega,by omega,.inl rfl⟩ hm,if_pos rfl]
 have:=Ajx (x:=x) (m:=most.toNat) (V:=Lh n (s.Zp n).rev s.l) (out:=[]) (by simp)
 rw[show((most.toNat:Nat):Int)=most by omega]at this
 rw[this];unfold Cn.inX;simp
theorem Bft{m:Nat}{s:Cn}(hI:Akb m s){n:Az}{ifs:List Cm}{th el:List Act}{c:Ef}(hx:∀x∈C3 ifs th el++B9 th el,¬Bw x c.key)(h0:∀d∈th++el,d.kind=1→d.rev=0):
 (s.Acg n [c]).1.runM n ifs th el=s.runM n ifs th el:=by
 unfold Cn.runM;have hfi:=Bp3 (s:=s) (n:=n) [c] n;have Btq:((s.Acg n [c]).1.fi n).isNone=(s.fi n).isNone:=by
  cases h1:(s.Acg n [c]).1.fi n<;>cases h2:s.fi n<;>rw[h1,h2]at hfi<;>first|rfl|cases hfi
 rw[Btq];split
 ·rfl
 rename_i hf;have hf:(s.fi n).isSome=true:=by cases h:s.fi n with|none=>rw[h]at hf;exact absurd rfl hf|some i=>rfl
 have hf2:((s.Acg n [c]).1.fi n).isSome=true:=by rw[hfi];exact hf
 split
 ·rfl
 rename_i hr;obtain⟨_,Bt7,Awm⟩:=Akt (by simpa using hr:Cu ifs th el=true)
 have hI2:=hI.write n [c];have Bt5:∀l:List Cm,(∀d∈l,d∈ifs)→(s.Acg n [c]).1.Aqu n l=s.Aqu n l:=by
  intro l;induction l with
  |nil=>intro _;rfl
  |cons d r ih=>
   intro h;have hd:=h d (B2 ..);have hno:¬Bw (Arf d.key) c.key:=hx _ (Aau _ (Aau _ (X4.2 ⟨d,hd,rfl⟩)));have hR:=Aqy (Bt7 d hd).1.2;have e1:=A3m hI2 hf2 hR (most:=1) (by omega)
   have e2:=A3m hI hf hR (most:=1) (by omega)
   rw[A6a hI hno]at e1;unfold Cn.Aqu Cn.Be4;rw[e1,e2,ih fun x hx=>h x (B4 _ hx)]
 rw[Bt5 ifs fun d h=>h]
 have hgo:∀(l:List Act),(∀d∈l,d∈th++el)→∀o cc,(s.Acg n [c]).1.Auc n l o cc=s.Auc n l o cc:=by
  intro l;induction l with
  |nil=>intro _ o cc;rfl
  |cons d r ih=>
   intro h o cc;have hd:=h d (B2 ..);have hdo:=Awm d hd;have hk3:d.kind=3→(s.Acg n [c]).1.Avs n d.x=s.Avs n d.x:=fun hk=>by
    unfold Cn.Avs;rw[A6a hI (hx _ (Ac6 _ (Bcu hd hk)))]
   have hk1:d.kind=1→(s.Acg n [c]).1.An4 n d.x d.rev (Ako d)=s.An4 n d.x d.rev (Ako d):=fun hk=>by
    unfold Act.ok at hdo;rw[if_pos hk]at hdo;have hm:1≤Ako d∧Ako d≤16:=by unfold Ako;split<;>omega
    have e1:=A3m hI2 hf2 hdo.1 hm;have e2:=A3m hI hf hdo.1 hm;rw[A6a hI (hx _ (Aau _ (mem_reads hd hk)))]at e1;rw[h0 d hd hk,e1,e2]
   have hE:(s.Acg n [c]).1.A0c n d=s.A0c n d:=by
    unfold Cn.A0c;split
    ·rw[hk1 (by assumption)]
    ·rfl
   have hO:(s.Acg n [c]).1.A0d n d=s.A0d n d:=by
    unfold Cn.A0d;split
    ·rw[hk1 (by assumption)]
    ·split
     ·rw[hk3 (by assumption)]
     ·rfl
   have hC:(s.Acg n [c]).1.Ayo n d=s.Ayo n d:=by
    unfold Cn.Ayo;split
    ·rfl
    ·split
     ·rw[hk3 (by assumption)]
     ·rfl
   unfold Cn.Auc;rw[hE,hO,hC,ih fun x hx=>h x (B4 _ hx)]
 rw[hgo (if s.Aqu n ifs=true then th else el) fun d hd=>by
  split at hd
  ·exact Aau _ hd
  ·exact Ac6 _ hd]

open Go.Proofs
theorem inv1:Akb 0 aw1:=by
 have h1:=Ajr.open (nm:=D9 [116]) [116] Aha;rw[Ai9]at h1;exact h1

open Go.Proofs
abbrev tQ:Az:=[116]

open Go.Proofs
structure Ayk(j:Nat)(s:Cn):Prop where
 inv:Akb (101*j) s
 c:Atm s
 v:Axi s
 nm:s.sp.map (·.1)=[tQ]
theorem Ayk.len{j:Nat}{s:Cn}(h:Ayk j s):s.sp.length=1:=by
 have:=congrArg List.length h.nm;simpa using this
theorem Ayk.write{j:Nat}{s:Cn}(h:Ayk j s){cs:List Ef}(hcs:cs.length≤100):Ayk (j+1) (s.Acg tQ cs).1:=by
 refine⟨(h.inv.write tQ cs).mono (by omega),h.c.write h.inv tQ cs,h.v.write h.inv tQ cs,?_⟩
 rw[←h.nm];unfold Cn.Acg;split
 ·rfl
 ·rename_i i hi;split
  ·rfl
  ·exact Agj hi
theorem Ayk.t{j:Nat}{s:Cn}(h:Ayk j s):∃i,s.fi tQ=some i:=by
 have:s.fi tQ=(aw1).fi tQ:=Ajf (s:=aw1) (s':=s) (by rw[h.nm];rfl) tQ
 exact⟨0,this⟩
theorem Ayk.u{j:Nat}{s:Cn}(h:Ayk j s):s.fi [117]=none:=Ajf (s:=aw1) (s':=s) (by rw[h.nm];rfl) [117]
theorem Ayk.ref{j:Nat}{s:Cn}(h:Ayk j s):s.ref=[s.Ann tQ]:=by
 unfold Cn.ref Cn.names;rw[h.nm];simp[Dc]
theorem Aqs:Ayk 0 aw1:=by
 have hc:Atm ⟨[],[]⟩:=⟨fun n=>⟨rfl,rfl⟩,by intro h hh;cases hh⟩
 have hv:Axi ⟨[],[]⟩:=fun n=>rfl
 have h1:=hc.open (D9 tQ) tQ;have h2:=hv.open (D9 tQ) tQ;rw[Ai9]at h1 h2;exact⟨inv1,h1,h2,rfl⟩
theorem Baf:Fn Tryd.prog As3 [rT [],.v (.str [116])] (Is (.v (ti 0)) [rT aw1.ref,.no]):=by
 have h:=Bqp Ajr (by simp) [116]
 rw[Ai9]at h;rw[show(Cn.mk [] []).ref=[]by unfold Cn.ref Cn.names;simp[Dc]]at h
 exact h

structure Txn where
 ifs:List Cm
 th:List Act
 el:List Act
def Txn.Bx(t:Txn):I:=.agg [.list (t.ifs.map Cm.Bx),.list (t.th.map Act.Bx),.list (t.el.map Act.Bx)]
def Cm.big(c:Cm):Prop:=1000<c.key.length∨1000<c.val.length
instance(c:Cm):Decidable c.big:=by unfold Cm.big;infer_instance
def Act.big(d:Act):Prop:=1000<d.key.length∨1000<d.val.length∨1000<d.x.f.length∨1000<d.x.t.length
instance(d:Act):Decidable d.big:=by unfold Act.big;infer_instance
def Ajk:List Cm→Bool
 | []=>false
 |c::r=>if c.big then true else Ajk r
def A6:List Act→Bool
 | []=>false
 |d::r=>if d.big then true else A6 r
def Txn.Axo(t:Txn):Bool:=if 60<t.ifs.length+t.th.length+t.el.length then true else if Ajk t.ifs=true then true else if A6 t.th=true then true else A6 t.el
theorem Aoo:∀{l:List Cm},Ajk l=false→∀c∈l,¬c.big
 | [],_,c,h=>by cases h
 |d::r,h,c,hc=>by
  unfold Ajk at h;split at h
  ·cases h
  ·rcases Bg.1 hc with rfl|hc
   ·assumption
   ·exact Aoo h c hc
theorem Akc:∀{l:List Act},A6 l=false→∀c∈l,¬c.big
 | [],_,c,h=>by cases h
 |d::r,h,c,hc=>by
  unfold A6 at h;split at h
  ·cases h
  ·rcases Bg.1 hc with rfl|hc
   ·assumption
   ·exact Akc h c hc
theorem Txn.Bhz{t:Txn}(h:t.Axo=false):t.ifs.length+t.th.length+t.el.length≤60∧(∀c∈t.ifs,¬c.big)∧∀d∈t.th++t.el,¬d.big:=by
 unfold Txn.Axo at h;split at h
 ·cases h
 ·split at h
  ·cases h
  ·split at h
   ·cases h
   ·rename_i h1 h2 h3;refine⟨by omega,Aoo (by simpa using h2),fun d hd=>?_⟩
    rcases Bv.1 hd with hd|hd
    ·exact Akc (by simpa using h3) d hd
    ·exact Akc h d hd
def Awq:List (List Ef)→Cn→Cn × Bool
 | [],s=>(s,true)
 |l::r,s=>if 100<l.length then(s,false)else if cGo l=true then(s,false)else Awq r (s.Acg tQ l).1
def Az0(w:List (List Ef))(fl:Int):Cn × Bool:=if 40<w.length then(aw1,false)else if(Awq w aw1).2=true then(((Awq w aw1).1.Anu tQ fl).1,true)else((Awq w aw1).1,false)
structure A0b(j:Nat)(s:Cn):Prop extends Ayk j s where
 k1:K1 s
theorem A0b.write{j:Nat}{s:Cn}(h:A0b j s){cs:List Ef}(hcs:cs.length≤100):A0b (j+1) (s.Acg tQ cs).1:=⟨h.toAyk.write hcs,h.k1.write h.inv tQ cs⟩
theorem A0b.comp{j:Nat}{s:Cn}(h:A0b j s)(hj:j≤700)(fl:Int):A0b j (s.Anu tQ fl).1:=by
 refine⟨⟨h.inv.comp (by omega) tQ fl,h.c.comp h.inv tQ fl,h.v.comp tQ fl,?_⟩,h.k1.comp tQ fl⟩
 rw[←h.nm];unfold Cn.Anu;split
 ·rfl
 ·rename_i i hi;split
  ·exact Agj hi
  ·rfl
theorem Bd1:A0b 0 aw1:=⟨Aqs,by intro h hh;cases hh⟩
theorem A6t:∀{w:List (List Ef)} {j:Nat} {s:Cn},A0b j s→∃k,k≤j+w.length∧A0b k (Awq w s).1
 | [],j,s,h=>⟨j,by simp,h⟩
 |l::r,j,s,h=>by
  unfold Awq;split
  ·exact⟨j,by omega,h⟩
  ·split
   ·exact⟨j,by omega,h⟩
   ·obtain⟨k,hk,hi⟩:=A6t (w:=r) (h.write (cs:=l) (by omega))
    exact⟨k,by rw[Ho];omega,hi⟩
theorem Bfu(w:List (List Ef))(fl:Int):∃k,k≤40∧A0b k (Az0 w fl).1:=by
 unfold Az0;split
 ·exact⟨0,by omega,Bd1⟩
 ·obtain⟨k,hk,hi⟩:=A6t (w:=w) Bd1;split
  ·exact⟨k,by omega,hi.comp (by omega) fl⟩
  ·exact⟨k,by omega,hi⟩
end Go.Ab
