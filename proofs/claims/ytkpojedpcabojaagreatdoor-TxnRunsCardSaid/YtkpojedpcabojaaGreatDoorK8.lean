/- Lemmas -/
import Derived.Test.YtkpojedpcabojaaGreatDoorK6
import Derived.Test.YtkpojedpcabojaaGreatDoorL2
set_option linter.unusedVariables false
set_option linter.unusedSimpArgs false
set_option maxRecDepth 100000
set_option maxHeartbeats 40000000
namespace Go.Ab
open Go.Proofs
def G6(x:Az):List Az→Nat→Int
 | [],_=> -1
 |y::r,k=>if x=y then(k:Int)else G6 x r (k+1)
theorem An0{x:Az}:∀{l:List Az} {k:Nat},decide (0≤G6 x l k)=decide (x∈l)
 | [],k=>by simp[G6]
 |y::r,k=>by
  unfold G6;by_cases e:x=y
  ·rw[if_pos e];simp[e]
  ·rw[if_neg e,An0];simp[e]
theorem Apx(l:List Az)(x:Az):Fn Tryz.prog Ez [.v (.list (l.map I.str)),.v (.str x)] (Is (.v (ti (G6 x l 0))) [.no,.no]):=by
 refine Et ?_ (by simp)
 have hl1:(l.map I.str).length=l.length:=Bh _;obtain⟨C4,Ajz⟩:∃R,G6 x l 0=R:=⟨_,rfl⟩;rw[Ajz];repeat'((conv=>whnf);first|(with_reducible refine Ac ?_ ?_);focus (and_intros<;>(with_reducible rfl))|with_reducible intro Cq|(try dsimp only);rw[hl1])
 all_goals(try(conv=>whnf))
 have A1r:l.length≤9223372036854775807:=by simpa[maxLen]using Cq
 refine Afm.by (X:=Nat) (fun j=>[(8,.v (ti (j:Int)))]) (fun j=>j≤l.length∧G6 x (l.drop j) j=C4) (fun j=>l.length - j) 0 (by kernel_rfl) ⟨Cr _,Ajz⟩ ?_
 rintro j ⟨hj,hR⟩
 (try dsimp only at hj hR ⊢)
 by_cases hjl:j<l.length
 case neg=>
  have h3:¬decide ((j:Int)<(l.length:Int))=true:=by simp;omega
  rw[Db (by omega)]at hR
  have hR:(-1:Int)=C4:=hR;subst hR;repeat'((conv=>whnf);((with_reducible refine Aw (by(with_reducible exact Ak (by assumption))) fun hb=>?_);(try rw[hb]);(try simp only[Aa]at hb)))
  all_goals(try(conv=>whnf))
  (apply Dj<;>kernel_rfl)
 have hw:=zwj (j:=j) (by omega)
 obtain⟨y,hy⟩:∃x,l[j]?=some x:=⟨_,Ae hjl⟩;have h3:¬decide ((j:Int)<(l.length:Int))=false:=by simp;omega
 have hdr:l.drop j=y::l.drop (j+1):=by rw[Cc hjl];rw[Ae hjl]at hy;cases hy;rfl
 rw[hdr]at hR;unfold G6 at hR;by_cases e:x=y
 ·have g1:¬decide (x=y)=false:=by simpa using e
  rw[if_pos e]at hR;subst hR;repeat'((conv=>whnf);first|(with_reducible refine Ax (by exact Ai (by assumption)) fun hb=>?_);(try rw[hb]);(try simp only[Aa]at hb);try subst hb|(with_reducible refine Ac ?_ ?_);focus (and_intros<;>first|omega|kernel_rfl)|(try dsimp only);rw[B6 hy])
  all_goals(try(conv=>whnf))
  (apply Dj<;>kernel_rfl)
 ·have g1:¬decide (x=y)=true:=by simpa using e
  rw[if_neg e]at hR;repeat'((conv=>whnf);first|(with_reducible first|refine Ax (by exact Ai (by assumption)) fun hb=>?_|refine Aw (by exact Ak (by assumption)) fun hb=>?_);(try rw[hb]);try simp only[Aa]at hb|(with_reducible refine Ac ?_ ?_);focus (and_intros<;>first|omega|kernel_rfl)|(try dsimp only);rw[B6 hy]|skip;rw[hw])
  all_goals(try(conv=>whnf))
  refine Round.by (j+1) ?_ ⟨by omega,hR⟩ (by omega)
  try dsimp only
  show norm _ _=Cx _ _
  kernel_rfl
theorem F0(l:List Az)(x:Az):Fn Tryz.prog D5 [.v (.list (l.map I.str)),.v (.str x)] (Is (.v (.bool (decide (x∈l)))) [.no,.no]):=by
 refine Dy ?_ (by simp)
 have hi:=Apx l x;rw[←An0 (k:=0)];generalize G6 x l 0=R at*;repeat'((conv=>whnf);first|(with_reducible refine Ac ?_ ?_);focus (and_intros<;>first|intro _ hh;cases hh;done|simp;done|decide)|(with_reducible refine Ct.mk ?_);refine⟨_,hi,?_⟩;rintro _ _ ⟨rfl,rfl⟩)
 all_goals(try(conv=>whnf))
 (apply Dj<;>kernel_rfl)
abbrev Rn.sv(r:Rn):SV:=.tup [.i (.bool r.yes),.i (.list (r.outs.map Ou.Bx)),.i (.list (r.chs.map Ef.Bx)),.i (ti r.e)]
theorem Cv(l:List Ou)(o:Ou):l.map Ou.Bx++[o.Bx]=(l++[o]).map Ou.Bx:=by simp
theorem Aon(l:List Ef)(o:Ef):l.map Ef.Bx++[o.Bx]=(l++[o]).map Ef.Bx:=by simp
theorem Arw(s:Cn)(n:Az)(ifs:List Cm)(th el:List Act)(hnd:(s.sp.map (·.1)).Nodup)(hsl:s.sp.length≤1000)(hf:s.fi n=none):
 Fn Tryz.prog F4 [sP s,.v (.str n),.v (.list (ifs.map Cm.Bx)),.v (.list (th.map Act.Bx)),.v (.list (el.map Act.Bx))] (Is (⟨false,[],[],16⟩:Rn).sv [sP s,.no,.no,.no,.no]):=by
 refine Ajw ?_ (by simp)
 have hsp:=Fs s hnd hsl;have hct:=F0 s.names n;rw[decide_eq_false (fun c=>by rw[Agp,hf]at c;cases c)]at hct
 generalize s.names=NM at*;repeat'((conv=>whnf);first|((with_reducible refine A5 (fun hb=>?_) fun hb=>?_)<;>first|exact absurd hb (by decide)|(try rw[hb]);try simp only[Aa]at hb)|(with_reducible refine Ac ?_ ?_);focus (and_intros<;>first|kernel_rfl|intro _ hh;cases hh;done|simp;done|decide)|(with_reducible refine Ct.mk ?_);(first|refine⟨_,hsp,?_⟩|refine⟨_,hct,?_⟩);rintro _ _ ⟨rfl,rfl⟩)
 all_goals(try(conv=>whnf))
 (apply Dj<;>kernel_rfl)
theorem Ar7(s:Cn)(n:Az)(ifs:List Cm)(th el:List Act)(hnd:(s.sp.map (·.1)).Nodup)(hsl:s.sp.length≤1000)(hf:(s.fi n).isSome=true)(hl:ifs.length+th.length+el.length≤1000)(hr:Cu ifs th el=false):
 Fn Tryz.prog F4 [sP s,.v (.str n),.v (.list (ifs.map Cm.Bx)),.v (.list (th.map Act.Bx)),.v (.list (el.map Act.Bx))] (Is (⟨false,[],[],1⟩:Rn).sv [sP s,.no,.no,.no,.no]):=by
 refine Ajw ?_ (by simp)
 have hsp:=Fs s hnd hsl;have hct:=F0 s.names n;have hrt:=Aga ifs th el hl;rw[hr]at hrt;rw[decide_eq_true (Agp.2 hf)]at hct;generalize s.names=NM at*;repeat'((conv=>whnf);first|((with_reducible refine A5 (fun hb=>?_) fun hb=>?_)<;>first|exact absurd hb (by decide)|(try rw[hb]);try simp only[Aa]at hb)|(with_reducible refine Ac ?_ ?_);focus (and_intros<;>first|kernel_rfl|intro _ hh;cases hh;done|simp;done|decide)|(with_reducible refine Ct.mk ?_);(first|refine⟨_,hsp,?_⟩|refine⟨_,hct,?_⟩|refine⟨_,hrt,?_⟩);rintro _ _ ⟨rfl,rfl⟩)
 all_goals(try(conv=>whnf))
 (apply Dj<;>kernel_rfl)
theorem Arv{m:Nat}{s:Cn}(hI:Akb m s)(hm:m≤80000)(hC:Atm s)(n:Az)(ifs:List Cm)(th el:List Act)(hsl:s.sp.length≤1000)(hf:(s.fi n).isSome=true)(hl:ifs.length+th.length+el.length≤1000)(hr:Cu ifs th el=true)
 (YES:Bool) (hY:s.Aqu n ifs=YES) (L:List Act) (hL:(if YES=true then th else el)=L) (C4:List Ou × List Ef × Int) (Ajz:s.Auc n L [] []=C4) (RUN:Rn) (A78:(if C4.2.2=0 then(⟨YES,C4.1,C4.2.1,0⟩:Rn)else⟨false,[],[],C4.2.2⟩)=RUN):
 Fn Tryz.prog F4 [sP s,.v (.str n),.v (.list (ifs.map Cm.Bx)),.v (.list (th.map Act.Bx)),.v (.list (el.map Act.Bx))] (Is RUN.sv [sP s,.no,.no,.no,.no]):=by
 refine Ajw ?_ (by simp)
 obtain⟨i0,hi0⟩:=Asz.1 hf;have hn:=hI.name hi0;obtain⟨hr1,hr2,hr3⟩:=Akt hr;have hsp:=Fs s hI.nd hsl;have hct:=F0 s.names n;have hrt:=Aga ifs th el hl;have hho:=Apz hI hm n (by omega) ifs (by omega) fun c hc=>by have:=(hr2 c hc).1;omega
 rw[hr]at hrt;rw[hY]at hho;rw[decide_eq_true (Agp.2 hf)]at hct;have hLl:L.length≤8:=by rw[←hL];split<;>omega
 have Bs5:∀d∈L,d.ok:=fun d hd=>by
  rw[←hL]at hd;split at hd
  ·exact hr3 d (Aau _ hd)
  ·exact hr3 d (Ac6 _ hd)
 have hLm:(L.map Act.Bx).length=L.length:=Bh _;have hkl:∀x:Sp,(s.Avs n x).length≤80000:=fun x=>by
  unfold Cn.Avs Cn.inX;rw[Bh];exact Kq (List.length_filter_le _ _) (by have:=(Am7 hI hC n).len;have:=hI.lb.len;omega)
 generalize hNM:s.names=NM at*;cases YES with
 |true=>
  have hL:th=L:=by simpa using hL
  subst hL;repeat'((conv=>whnf);first|(with_reducible refine Ax (by first|assumption|rfl) fun hb=>?_);(try rw[hb]);try simp only[Aa]at hb|((with_reducible refine A5 (fun hb=>?_) fun hb=>?_)<;>first|exact absurd hb (by decide)|(try rw[hb]);try simp only[Aa]at hb)|(with_reducible refine Ac ?_ ?_);focus (and_intros<;>first|with_reducible rfl|kernel_rfl|intro _ hh;cases hh;done|simp;done|decide)|with_reducible intro Cq|(with_reducible refine Ct.mk ?_);(first|refine⟨_,hsp,?_⟩|refine⟨_,hct,?_⟩|refine⟨_,hrt,?_⟩|refine⟨_,hho,?_⟩);rintro _ _ ⟨rfl,rfl⟩|(try dsimp only);rw[hLm])
  all_goals(try(conv=>whnf))
  refine Afm.by (X:=Nat × List Ou × List Ef) (fun y=>[(48,.v (ti (y.1:Int))),(16,.vec Anr 3 (y.2.1.map Ou.Bx)),(17,.vec E1 3 (y.2.2.map Ef.Bx))]) (fun y=>y.1≤th.length∧y.2.1.length≤y.1∧y.2.2.length≤y.1*80001∧s.Auc n (th.drop y.1) y.2.1 y.2.2=C4) (fun y=>th.length - y.1) (0,[],[]) (by kernel_rfl) ⟨Cr _,Bz _,by simp,Ajz⟩ ?_
  rintro⟨j,O,C⟩ ⟨hj,hOl,hCl,hR⟩
  (try dsimp only at hj hOl hCl hR ⊢)
  have hw:=zwj (j:=j) (by omega)
  have Bnc:(O.map Ou.Bx).length≤8:=by rw[Bh];omega
  have By0:(C.map Ef.Bx).length≤1000000:=by rw[Bh];omega
  by_cases hjl:j<th.length
  case neg=>
   have h3:¬decide ((j:Int)<(th.length:Int))=true:=by simp;omega
   rw[Db (by omega)]at hR
   have hR:(O,C,0)=C4:=hR;subst hR;rw[if_pos rfl]at A78;subst A78;repeat'((conv=>whnf);first|(with_reducible refine Aw (by exact Ak (by assumption)) fun hb=>?_);(try rw[hb]);try simp only[Aa]at hb|(with_reducible refine Ac ?_ ?_);focus (and_intros<;>first|omega|with_reducible rfl|simp;done))
   all_goals(try(conv=>whnf))
   (apply Dj<;>kernel_rfl)
  have hms:th.length - (j+1)<th.length - j:=Nat.sub_lt_sub_left hjl (Ej j);have hO1:∀o:Ou,(O++[o]).length≤j+1:=fun o=>by rw[Hq];exact Nat.add_le_add_right hOl 1
  have hC1:C.length≤(j+1)*80001:=Kq hCl (Jh _ (Nat.le_succ j));have Beh:j+1≤th.length:=hjl;obtain⟨d,hd⟩:∃x,th[j]?=some x:=⟨_,Ae hjl⟩;have h3:¬decide ((j:Int)<(th.length:Int))=false:=by simp;omega
  have hdr:th.drop j=d::th.drop (j+1):=by rw[Cc hjl];rw[Ae hjl]at hd;cases hd;rfl
  have hdo:=Bs5 d (Cb hd);rw[hdr]at hR;unfold Cn.Auc at hR;obtain⟨dk,dx,Awk,dv,dr,dm⟩:=d;unfold Act.ok at hdo;dsimp only at hdo;have Bza:=hkl dx;by_cases k1:dk=1
  ·subst k1;rw[if_pos rfl]at hdo;have hrg:=Aff hI hm n (by omega) dx dr (if dm=0 then 16 else dm)
   unfold Cn.A0c Cn.A0d Cn.Ayo Ako at hR;dsimp only at hR;simp only[if_true,show ¬(1:Int)=2 by decide,show ¬(1:Int)=3 by decide,if_false,R2]at hR
   generalize s.An4 n dx dr (if dm=0 then 16 else dm)=Z at*
   obtain⟨P,mo,er⟩:=Z;dsimp only at hR hrg;obtain⟨xf,xt⟩:=dx;by_cases m0:dm=0
   ·subst m0;rw[if_pos rfl]at hrg;by_cases e0:er=0
    ·subst e0;rw[if_pos rfl]at hR;repeat'((conv=>whnf);first|(with_reducible refine Ax (by first|assumption|exact Ai (by assumption)) fun hb=>?_);(try rw[hb]);try simp only[Aa]at hb|((with_reducible refine A5 (fun hb=>?_) fun hb=>?_)<;>first|exact absurd hb (by decide)|(try rw[hb]);(try simp only[Aa]at hb);(try(with_reducible exact absurd trivial hb)))|(with_reducible refine Ac ?_ ?_);focus (and_intros<;>first|omega|with_reducible rfl|kernel_rfl|intro _ hh;cases hh;done|exact Ah (by rfl)|simp only[An];omega|simp;done|decide)|(try dsimp only);rw[B6 hd]|(with_reducible refine Ct.mk ?_);refine⟨_,hrg,?_⟩;rintro _ _ ⟨rfl,rfl⟩|(try dsimp only);rw[hw])
     all_goals(try(conv=>whnf))
     refine Round.by (j+1,O++[⟨P,mo,0⟩],C) ?_ ⟨Beh,hO1 _,hC1,hR⟩ hms;try dsimp only
     rw[←Cv];show norm _ _=Cx _ _
     kernel_rfl
    ·rw[if_neg e0]at hR;subst hR;rw[if_neg e0]at A78;subst A78;have g0:¬(!decide (er=0))=false:=by simpa using e0
     repeat'((conv=>whnf);first|(with_reducible refine Ax (by first|assumption|exact Ai (by assumption)) fun hb=>?_);(try rw[hb]);try simp only[Aa]at hb|(with_reducible refine A5 (fun hb=>?_) fun hb=>?_)<;>(((try rw[hb]);(try simp only[Aa]at hb);(try(with_reducible exact absurd trivial hb))))|(with_reducible refine Ac ?_ ?_);focus (and_intros<;>first|omega|kernel_rfl|intro _ hh;cases hh;done|simp;done|decide)|(try dsimp only);rw[B6 hd]|(with_reducible refine Ct.mk ?_);refine⟨_,hrg,?_⟩;rintro _ _ ⟨rfl,rfl⟩)
     all_goals(try(conv=>whnf))
     (apply Dj<;>kernel_rfl)
   ·rw[if_neg m0]at hrg;have gm:¬decide (dm=0)=true:=by simpa using m0
    by_cases e0:er=0
    ·subst e0;rw[if_pos rfl]at hR;repeat'((conv=>whnf);first|(with_reducible first|refine Ax (by first|assumption|exact Ai (by assumption)) fun hb=>?_|refine Aw (by exact Ak (by assumption)) fun hb=>?_);(try rw[hb]);try simp only[Aa]at hb|((with_reducible refine A5 (fun hb=>?_) fun hb=>?_)<;>first|exact absurd hb (by decide)|(try rw[hb]);(try simp only[Aa]at hb);(try(with_reducible exact absurd trivial hb)))|(with_reducible refine Ac ?_ ?_);focus (and_intros<;>first|omega|with_reducible rfl|kernel_rfl|intro _ hh;cases hh;done|exact Ah (by rfl)|simp only[An];omega|simp;done|decide)|(try dsimp only);rw[B6 hd]|(with_reducible refine Ct.mk ?_);refine⟨_,hrg,?_⟩;rintro _ _ ⟨rfl,rfl⟩|(try dsimp only);rw[hw])
     all_goals(try(conv=>whnf))
     refine Round.by (j+1,O++[⟨P,mo,0⟩],C) ?_ ⟨Beh,hO1 _,hC1,hR⟩ hms;try dsimp only
     rw[←Cv];show norm _ _=Cx _ _
     kernel_rfl
    ·rw[if_neg e0]at hR;subst hR;rw[if_neg e0]at A78;subst A78;have g0:¬(!decide (er=0))=false:=by simpa using e0
     repeat'((conv=>whnf);first|(with_reducible first|refine Ax (by first|assumption|exact Ai (by assumption)) fun hb=>?_|refine Aw (by exact Ak (by assumption)) fun hb=>?_);(try rw[hb]);try simp only[Aa]at hb|(with_reducible refine A5 (fun hb=>?_) fun hb=>?_)<;>(((try rw[hb]);(try simp only[Aa]at hb);(try(with_reducible exact absurd trivial hb))))|(with_reducible refine Ac ?_ ?_);focus (and_intros<;>first|omega|kernel_rfl|intro _ hh;cases hh;done|simp;done|decide)|(try dsimp only);rw[B6 hd]|(with_reducible refine Ct.mk ?_);refine⟨_,hrg,?_⟩;rintro _ _ ⟨rfl,rfl⟩)
     all_goals(try(conv=>whnf))
     (apply Dj<;>kernel_rfl)
  rw[if_neg k1]at hdo;have g1:¬decide (dk=1)=true:=by simpa using k1
  by_cases k2:dk=2
  ·subst k2;unfold Cn.A0c Cn.A0d Cn.Ayo at hR;dsimp only at hR;simp only[show ¬(2:Int)=1 by decide,if_true,show ¬(2:Int)=3 by decide,if_false]at hR
   obtain⟨xf,xt⟩:=dx;repeat'((conv=>whnf);first|(with_reducible first|refine Ax (by first|assumption|exact Ai (by assumption)) fun hb=>?_|refine Aw (by exact Ak (by assumption)) fun hb=>?_);(try rw[hb]);try simp only[Aa]at hb|(with_reducible refine A5 (fun hb=>?_) fun hb=>?_)<;>(((try rw[hb]);(try simp only[Aa]at hb);(try(with_reducible exact absurd trivial hb))))|(with_reducible refine Ac ?_ ?_);focus (and_intros<;>first|omega|with_reducible rfl|kernel_rfl|exact Ah (by rfl)|simp only[An];omega|simp;done)|(try dsimp only);(first|rw[B6 hd]|rw[hw]))
   all_goals(try(conv=>whnf))
   refine Round.by (j+1,O++[⟨[],false,0⟩],C++[⟨Awk,dv,false⟩]) ?_ ⟨Beh,hO1 _,by simp;omega,hR⟩ hms
   try dsimp only
   rw[←Cv, ←Aon];show norm _ _=Cx _ _
   kernel_rfl
  rw[if_neg k2]at hdo;obtain⟨k3,hxr⟩:=hdo;subst k3;have hkk:=Anc hI hm hC n (by omega) hf dx hxr
  unfold Cn.A0c Cn.A0d Cn.Ayo at hR;dsimp only at hR;simp only[show ¬(3:Int)=1 by decide,if_true,show ¬(3:Int)=2 by decide,if_false]at hR
  generalize s.Avs n dx=KX at*;obtain⟨xf,xt⟩:=dx;have hKm:(KX.map I.str).length=KX.length:=Bh _;repeat'((conv=>whnf);first|(with_reducible first|refine Ax (by first|assumption|exact Ai (by assumption)) fun hb=>?_|refine Aw (by first|exact Ak (by assumption)|refine decide_eq_false ?_;assumption) fun hb=>?_);(try rw[hb]);try simp only[Aa]at hb|(with_reducible refine A5 (fun hb=>?_) fun hb=>?_)<;>(((try rw[hb]);(try simp only[Aa]at hb);(try(with_reducible exact absurd trivial hb))))|(with_reducible refine Ac ?_ ?_);focus (and_intros<;>first|omega|with_reducible rfl|kernel_rfl|intro _ hh;cases hh;done|simp;done|decide)|with_reducible intro Cq|(try dsimp only);rw[B6 hd]|(with_reducible refine Ct.mk ?_);refine⟨_,hkk,?_⟩;rintro _ _ ⟨rfl,rfl⟩|(try dsimp only);rw[hKm])
  all_goals(try(conv=>whnf))
  refine Afm.by (X:=Nat) (fun i=>[(97,.v (ti (i:Int))),(17,.vec E1 3 ((C++(KX.take i).map fun k=>(⟨k,[],true⟩:Ef)).map Ef.Bx)),(20,.box (T.one (F.i (.agg [.list [],.bool false,ti (i:Int)]))))]) (fun i=>i≤KX.length) (fun i=>KX.length - i) 0 (by simp only[List.take_zero,Kc,R2];kernel_rfl) (Cr _) ?_
  rintro i hi
  (try dsimp only at hi ⊢)
  have hwi:=zwj (j:=i) (by omega)
  have By1:((C++(KX.take i).map fun k=>(⟨k,[],true⟩:Ef)).map Ef.Bx).length≤1000000:=by simp;omega
  by_cases hil:i<KX.length
  ·obtain⟨k,hk⟩:∃x,KX[i]?=some x:=⟨_,Ae hil⟩;have h5:¬decide ((i:Int)<(KX.length:Int))=false:=by simp;omega
   have hnx:(C++(KX.take (i+1)).map fun k=>(⟨k,[],true⟩:Ef)).map Ef.Bx=(C++(KX.take i).map fun k=>(⟨k,[],true⟩:Ef)).map Ef.Bx++[.agg [.str k,.str [],.bool true]]:=by rw[Amx,hk];simp[Ef.Bx]
   repeat'((conv=>whnf);first|(with_reducible refine Ax (by first|assumption|exact Ai (by assumption)) fun hb=>?_);(try rw[hb]);try simp only[Aa]at hb|(with_reducible refine Ac ?_ ?_);focus (and_intros<;>first|omega|with_reducible rfl|kernel_rfl|exact Ah (by rfl)|simp only[An];omega|simp;done)|(try dsimp only);rw[B6 hk]|skip;rw[hwi])
   all_goals(try(conv=>whnf))
   refine Round.by (i+1) ?_ (by omega) (by omega)
   try dsimp only
   rw[hnx];show norm _ _=Cx _ _
   kernel_rfl
  have h5:¬decide ((i:Int)<(KX.length:Int))=true:=by simp;omega
  obtain rfl:i=KX.length:=by omega
  rw[List.take_length];repeat'((conv=>whnf);first|(with_reducible refine Aw (by exact Ak (by assumption)) fun hb=>?_);(try rw[hb]);try simp only[Aa]at hb|(with_reducible refine Ac ?_ ?_);focus (and_intros<;>first|omega|with_reducible rfl|kernel_rfl|exact Ah (by rfl)|simp only[An];omega|simp;done)|skip;rw[hw])
  all_goals(try(conv=>whnf))
  refine Round.by (j+1,O++[⟨[],false,(KX.length:Int)⟩],C++KX.map fun k=>(⟨k,[],true⟩:Ef)) ?_ ⟨Beh,hO1 _,by simp;omega,hR⟩ hms
  try dsimp only
  rw[←Cv];show norm _ _=Cx _ _
  kernel_rfl
 |false=>
  have hL:el=L:=by simpa using hL
  subst hL;repeat'((conv=>whnf);first|(with_reducible refine Aw (by first|assumption|rfl) fun hb=>?_);(try rw[hb]);try simp only[Aa]at hb|((with_reducible refine A5 (fun hb=>?_) fun hb=>?_)<;>first|exact absurd hb (by decide)|(try rw[hb]);try simp only[Aa]at hb)|(with_reducible refine Ac ?_ ?_);focus (and_intros<;>first|with_reducible rfl|kernel_rfl|intro _ hh;cases hh;done|simp;done|decide)|with_reducible intro Cq|(with_reducible refine Ct.mk ?_);(first|refine⟨_,hsp,?_⟩|refine⟨_,hct,?_⟩|refine⟨_,hrt,?_⟩|refine⟨_,hho,?_⟩);rintro _ _ ⟨rfl,rfl⟩|(try dsimp only);rw[hLm])
  all_goals(try(conv=>whnf))
  refine Afm.by (X:=Nat × List Ou × List Ef) (fun y=>[(48,.v (ti (y.1:Int))),(16,.vec Anr 3 (y.2.1.map Ou.Bx)),(17,.vec E1 3 (y.2.2.map Ef.Bx))]) (fun y=>y.1≤el.length∧y.2.1.length≤y.1∧y.2.2.length≤y.1*80001∧s.Auc n (el.drop y.1) y.2.1 y.2.2=C4) (fun y=>el.length - y.1) (0,[],[]) (by kernel_rfl) ⟨Cr _,Bz _,by simp,Ajz⟩ ?_
  rintro⟨j,O,C⟩ ⟨hj,hOl,hCl,hR⟩
  (try dsimp only at hj hOl hCl hR ⊢)
  have hw:=zwj (j:=j) (by omega)
  have Bnc:(O.map Ou.Bx).length≤8:=by rw[Bh];omega
  have By0:(C.map Ef.Bx).length≤1000000:=by rw[Bh];omega
  by_cases hjl:j<el.length
  case neg=>
   have h3:¬decide ((j:Int)<(el.length:Int))=true:=by simp;omega
   rw[Db (by omega)]at hR
   have hR:(O,C,0)=C4:=hR;subst hR;rw[if_pos rfl]at A78;subst A78;repeat'((conv=>whnf);first|(with_reducible refine Aw (by first|assumption|exact Ak (by assumption)) fun hb=>?_);(try rw[hb]);try simp only[Aa]at hb|(with_reducible refine Ac ?_ ?_);focus (and_intros<;>first|omega|with_reducible rfl|simp;done))
   all_goals(try(conv=>whnf))
   (apply Dj<;>kernel_rfl)
  have hms:el.length - (j+1)<el.length - j:=Nat.sub_lt_sub_left hjl (Ej j);have hO1:∀o:Ou,(O++[o]).length≤j+1:=fun o=>by rw[Hq];exact Nat.add_le_add_right hOl 1
  have hC1:C.length≤(j+1)*80001:=Kq hCl (Jh _ (Nat.le_succ j));have Beh:j+1≤el.length:=hjl;obtain⟨d,hd⟩:∃x,el[j]?=some x:=⟨_,Ae hjl⟩;have h3:¬decide ((j:Int)<(el.length:Int))=false:=by simp;omega
  have hdr:el.drop j=d::el.drop (j+1):=by rw[Cc hjl];rw[Ae hjl]at hd;cases hd;rfl
  have hdo:=Bs5 d (Cb hd);rw[hdr]at hR;unfold Cn.Auc at hR;obtain⟨dk,dx,Awk,dv,dr,dm⟩:=d;unfold Act.ok at hdo;dsimp only at hdo;have Bza:=hkl dx;by_cases k1:dk=1
  ·subst k1;rw[if_pos rfl]at hdo;have hrg:=Aff hI hm n (by omega) dx dr (if dm=0 then 16 else dm)
   unfold Cn.A0c Cn.A0d Cn.Ayo Ako at hR;dsimp only at hR;simp only[if_true,show ¬(1:Int)=2 by decide,show ¬(1:Int)=3 by decide,if_false,R2]at hR
   generalize s.An4 n dx dr (if dm=0 then 16 else dm)=Z at*
   obtain⟨P,mo,er⟩:=Z;dsimp only at hR hrg;obtain⟨xf,xt⟩:=dx;by_cases m0:dm=0
   ·subst m0;rw[if_pos rfl]at hrg;by_cases e0:er=0
    ·subst e0;rw[if_pos rfl]at hR;repeat'((conv=>whnf);first|(with_reducible refine Ax (by first|assumption|exact Ai (by assumption)) fun hb=>?_);(try rw[hb]);try simp only[Aa]at hb|((with_reducible refine A5 (fun hb=>?_) fun hb=>?_)<;>first|exact absurd hb (by decide)|(try rw[hb]);(try simp only[Aa]at hb);(try(with_reducible exact absurd trivial hb)))|(with_reducible refine Ac ?_ ?_);focus (and_intros<;>first|omega|with_reducible rfl|kernel_rfl|intro _ hh;cases hh;done|exact Ah (by rfl)|simp only[An];omega|simp;done|decide)|(try dsimp only);rw[B6 hd]|(with_reducible refine Ct.mk ?_);refine⟨_,hrg,?_⟩;rintro _ _ ⟨rfl,rfl⟩|(try dsimp only);rw[hw])
     all_goals(try(conv=>whnf))
     refine Round.by (j+1,O++[⟨P,mo,0⟩],C) ?_ ⟨Beh,hO1 _,hC1,hR⟩ hms;try dsimp only
     rw[←Cv];show norm _ _=Cx _ _
     kernel_rfl
    ·rw[if_neg e0]at hR;subst hR;rw[if_neg e0]at A78;subst A78;have g0:¬(!decide (er=0))=false:=by simpa using e0
     repeat'((conv=>whnf);first|(with_reducible refine Ax (by first|assumption|exact Ai (by assumption)) fun hb=>?_);(try rw[hb]);try simp only[Aa]at hb|(with_reducible refine A5 (fun hb=>?_) fun hb=>?_)<;>(((try rw[hb]);(try simp only[Aa]at hb);(try(with_reducible exact absurd trivial hb))))|(with_reducible refine Ac ?_ ?_);focus (and_intros<;>first|omega|kernel_rfl|intro _ hh;cases hh;done|simp;done|decide)|(try dsimp only);rw[B6 hd]|(with_reducible refine Ct.mk ?_);refine⟨_,hrg,?_⟩;rintro _ _ ⟨rfl,rfl⟩)
     all_goals(try(conv=>whnf))
     (apply Dj<;>kernel_rfl)
   ·rw[if_neg m0]at hrg;have gm:¬decide (dm=0)=true:=by simpa using m0
    by_cases e0:er=0
    ·subst e0;rw[if_pos rfl]at hR;repeat'((conv=>whnf);first|(with_reducible first|refine Ax (by first|assumption|exact Ai (by assumption)) fun hb=>?_|refine Aw (by first|assumption|exact Ak (by assumption)) fun hb=>?_);(try rw[hb]);try simp only[Aa]at hb|((with_reducible refine A5 (fun hb=>?_) fun hb=>?_)<;>first|exact absurd hb (by decide)|(try rw[hb]);(try simp only[Aa]at hb);(try(with_reducible exact absurd trivial hb)))|(with_reducible refine Ac ?_ ?_);focus (and_intros<;>first|omega|with_reducible rfl|kernel_rfl|intro _ hh;cases hh;done|exact Ah (by rfl)|simp only[An];omega|simp;done|decide)|(try dsimp only);rw[B6 hd]|(with_reducible refine Ct.mk ?_);refine⟨_,hrg,?_⟩;rintro _ _ ⟨rfl,rfl⟩|(try dsimp only);rw[hw])
     all_goals(try(conv=>whnf))
     refine Round.by (j+1,O++[⟨P,mo,0⟩],C) ?_ ⟨Beh,hO1 _,hC1,hR⟩ hms;try dsimp only
     rw[←Cv];show norm _ _=Cx _ _
     kernel_rfl
    ·rw[if_neg e0]at hR;subst hR;rw[if_neg e0]at A78;subst A78;have g0:¬(!decide (er=0))=false:=by simpa using e0
     repeat'((conv=>whnf);first|(with_reducible first|refine Ax (by first|assumption|exact Ai (by assumption)) fun hb=>?_|refine Aw (by first|assumption|exact Ak (by assumption)) fun hb=>?_);(try rw[hb]);try simp only[Aa]at hb|(with_reducible refine A5 (fun hb=>?_) fun hb=>?_)<;>(((try rw[hb]);(try simp only[Aa]at hb);(try(with_reducible exact absurd trivial hb))))|(with_reducible refine Ac ?_ ?_);focus (and_intros<;>first|omega|kernel_rfl|intro _ hh;cases hh;done|simp;done|decide)|(try dsimp only);rw[B6 hd]|(with_reducible refine Ct.mk ?_);refine⟨_,hrg,?_⟩;rintro _ _ ⟨rfl,rfl⟩)
     all_goals(try(conv=>whnf))
     (apply Dj<;>kernel_rfl)
  rw[if_neg k1]at hdo;have g1:¬decide (dk=1)=true:=by simpa using k1
  by_cases k2:dk=2
  ·subst k2;unfold Cn.A0c Cn.A0d Cn.Ayo at hR;dsimp only at hR;simp only[show ¬(2:Int)=1 by decide,if_true,show ¬(2:Int)=3 by decide,if_false]at hR
   obtain⟨xf,xt⟩:=dx;repeat'((conv=>whnf);first|(with_reducible first|refine Ax (by first|assumption|exact Ai (by assumption)) fun hb=>?_|refine Aw (by first|assumption|exact Ak (by assumption)) fun hb=>?_);(try rw[hb]);try simp only[Aa]at hb|(with_reducible refine A5 (fun hb=>?_) fun hb=>?_)<;>(((try rw[hb]);(try simp only[Aa]at hb);(try(with_reducible exact absurd trivial hb))))|(with_reducible refine Ac ?_ ?_);focus (and_intros<;>first|omega|with_reducible rfl|kernel_rfl|exact Ah (by rfl)|simp only[An];omega|simp;done)|(try dsimp only);(first|rw[B6 hd]|rw[hw]))
   all_goals(try(conv=>whnf))
   refine Round.by (j+1,O++[⟨[],false,0⟩],C++[⟨Awk,dv,false⟩]) ?_ ⟨Beh,hO1 _,by simp;omega,hR⟩ hms
   try dsimp only
   rw[←Cv, ←Aon];show norm _ _=Cx _ _
   kernel_rfl
  rw[if_neg k2]at hdo;obtain⟨k3,hxr⟩:=hdo;subst k3;have hkk:=Anc hI hm hC n (by omega) hf dx hxr
  unfold Cn.A0c Cn.A0d Cn.Ayo at hR;dsimp only at hR;simp only[show ¬(3:Int)=1 by decide,if_true,show ¬(3:Int)=2 by decide,if_false]at hR
  generalize s.Avs n dx=KX at*;obtain⟨xf,xt⟩:=dx;have hKm:(KX.map I.str).length=KX.length:=Bh _;repeat'((conv=>whnf);first|(with_reducible first|refine Ax (by first|assumption|exact Ai (by assumption)) fun hb=>?_|refine Aw (by first|assumption|exact Ak (by assumption)|refine decide_eq_false ?_;assumption) fun hb=>?_);(try rw[hb]);try simp only[Aa]at hb|(with_reducible refine A5 (fun hb=>?_) fun hb=>?_)<;>(((try rw[hb]);(try simp only[Aa]at hb);(try(with_reducible exact absurd trivial hb))))|(with_reducible refine Ac ?_ ?_);focus (and_intros<;>first|omega|with_reducible rfl|kernel_rfl|intro _ hh;cases hh;done|simp;done|decide)|with_reducible intro Cq|(try dsimp only);rw[B6 hd]|(with_reducible refine Ct.mk ?_);refine⟨_,hkk,?_⟩;rintro _ _ ⟨rfl,rfl⟩|(try dsimp only);rw[hKm])
  all_goals(try(conv=>whnf))
  refine Afm.by (X:=Nat) (fun i=>[(97,.v (ti (i:Int))),(17,.vec E1 3 ((C++(KX.take i).map fun k=>(⟨k,[],true⟩:Ef)).map Ef.Bx)),(20,.box (T.one (F.i (.agg [.list [],.bool false,ti (i:Int)]))))]) (fun i=>i≤KX.length) (fun i=>KX.length - i) 0 (by simp only[List.take_zero,Kc,R2];kernel_rfl) (Cr _) ?_
  rintro i hi
  (try dsimp only at hi ⊢)
  have hwi:=zwj (j:=i) (by omega)
  have By1:((C++(KX.take i).map fun k=>(⟨k,[],true⟩:Ef)).map Ef.Bx).length≤1000000:=by simp;omega
  by_cases hil:i<KX.length
  ·obtain⟨k,hk⟩:∃x,KX[i]?=some x:=⟨_,Ae hil⟩;have h5:¬decide ((i:Int)<(KX.length:Int))=false:=by simp;omega
   have hnx:(C++(KX.take (i+1)).map fun k=>(⟨k,[],true⟩:Ef)).map Ef.Bx=(C++(KX.take i).map fun k=>(⟨k,[],true⟩:Ef)).map Ef.Bx++[.agg [.str k,.str [],.bool true]]:=by rw[Amx,hk];simp[Ef.Bx]
   repeat'((conv=>whnf);first|(with_reducible refine Ax (by first|assumption|exact Ai (by assumption)) fun hb=>?_);(try rw[hb]);try simp only[Aa]at hb|(with_reducible refine Ac ?_ ?_);focus (and_intros<;>first|omega|with_reducible rfl|kernel_rfl|exact Ah (by rfl)|simp only[An];omega|simp;done)|(try dsimp only);rw[B6 hk]|skip;rw[hwi])
   all_goals(try(conv=>whnf))
   refine Round.by (i+1) ?_ (by omega) (by omega)
   try dsimp only
   rw[hnx];show norm _ _=Cx _ _
   kernel_rfl
  have h5:¬decide ((i:Int)<(KX.length:Int))=true:=by simp;omega
  obtain rfl:i=KX.length:=by omega
  rw[List.take_length];repeat'((conv=>whnf);first|(with_reducible refine Aw (by first|assumption|exact Ak (by assumption)) fun hb=>?_);(try rw[hb]);try simp only[Aa]at hb|(with_reducible refine Ac ?_ ?_);focus (and_intros<;>first|omega|with_reducible rfl|kernel_rfl|exact Ah (by rfl)|simp only[An];omega|simp;done)|skip;rw[hw])
  all_goals(try(conv=>whnf))
  refine Round.by (j+1,O++[⟨[],false,(KX.length:Int)⟩],C++KX.map fun k=>(⟨k,[],true⟩:Ef)) ?_ ⟨Beh,hO1 _,by simp;omega,hR⟩ hms
  try dsimp only
  rw[←Cv];show norm _ _=Cx _ _
  kernel_rfl

open Go.Proofs
theorem inv1:Akb 0 aw1:=by
 have h1:=Ajr.open (nm:=D9 [116]) [116] Aha;rw[Ai9]at h1;exact h1

open Go.Proofs
abbrev tQ:Az:=[116]

open Go.Proofs
theorem Bk1{m:Nat}{s:Cn}(h:Akb m s)(hm:m≤80000)(h8:s.sp.length≤8):Fn Tryz.prog Ayb [sP s] (Is (.v (.list (s.ref.map Spc.Bx))) [sP s]):=by
 have hsp:=Fs s h.nd (by omega)
 have hin:∀n∈s.names,n.length≤1000∧(s.fi n).isSome=true:=fun n hn=>by
  have hf:=Agp.1 hn;refine⟨?_,hf⟩;obtain⟨i,hi⟩:=Asz.1 hf;have:=h.name hi;omega
 have hd:=Bhb ofC s (h.bd (by omega)) s.names hin (by unfold Cn.names;rw[Ajd,Bh];omega) hsp
 rw[show s.names.map s.A1a=s.ref from List.map_congr_left fun n hn=>by
  unfold Cn.A1a Cn.Ann;obtain⟨i,hi⟩:=Asz.1 (hin n hn).2;rw[Bg8 (h.name hi) h.wi.1 fun y hy=>(h.wi.2 y hy).1]]at hd
 exact hd
theorem Bkq{m:Nat}{s:Cn}(h:Akb m s)(hm:m≤80000)(h8:s.sp.length≤8)(hc:Atm s):Bg2 s.ref:=by
 have hlr:=A8j s;refine⟨by omega,fun p hp=>?_⟩
 obtain⟨n,_,rfl⟩:=X4.1 hp;have hk:=(Bdm h (by omega) hc n).2
 exact⟨Kq hk.1 (by omega),fun x hx=>Kq (hk.2 x hx) (by omega)⟩
structure Ayk(j:Nat)(s:Cn):Prop where
 inv:Akb (101*j) s
 c:Atm s
 v:Axi s
 nm:s.sp.map (·.1)=[tQ]
theorem Ayk.len{j:Nat}{s:Cn}(h:Ayk j s):s.sp.length=1:=by
 have:=congrArg List.length h.nm;simpa using this
theorem Ayk.write{j:Nat}{s:Cn}(h:Ayk j s){cs:List Ef}(hcs:cs.length≤100):Ayk (j+1) (s.Acg tQ cs).1:=by
 refine⟨(h.inv.write tQ cs).mono (by omega),h.c.write h.inv tQ cs,h.v.write h.inv tQ cs,?_⟩
 rw[←h.nm];unfold Cn.Acg;split
 ·rfl
 ·rename_i i hi;split
  ·rfl
  ·exact Agj hi
theorem Ayk.t{j:Nat}{s:Cn}(h:Ayk j s):∃i,s.fi tQ=some i:=by
 have:s.fi tQ=(aw1).fi tQ:=Ajf (s:=aw1) (s':=s) (by rw[h.nm];rfl) tQ
 exact⟨0,this⟩
theorem Ayk.u{j:Nat}{s:Cn}(h:Ayk j s):s.fi [117]=none:=Ajf (s:=aw1) (s':=s) (by rw[h.nm];rfl) [117]
theorem Ayk.ref{j:Nat}{s:Cn}(h:Ayk j s):s.ref=[s.Ann tQ]:=by
 unfold Cn.ref Cn.names;rw[h.nm];simp[Dc]
theorem Aqs:Ayk 0 aw1:=by
 have hc:Atm ⟨[],[]⟩:=⟨fun n=>⟨rfl,rfl⟩,by intro h hh;cases hh⟩
 have hv:Axi ⟨[],[]⟩:=fun n=>rfl
 have h1:=hc.open (D9 tQ) tQ;have h2:=hv.open (D9 tQ) tQ;rw[Ai9]at h1 h2;exact⟨inv1,h1,h2,rfl⟩
theorem Baf:Fn Tryz.prog As3 [rT [],.v (.str [116])] (Is (.v (ti 0)) [rT aw1.ref,.no]):=by
 have h:=Bqp Ajr (by simp) [116]
 rw[Ai9]at h;rw[show(Cn.mk [] []).ref=[]by unfold Cn.ref Cn.names;simp[Dc]]at h
 exact h

structure Txn where
 ifs:List Cm
 th:List Act
 el:List Act
def Txn.Bx(t:Txn):I:=.agg [.list (t.ifs.map Cm.Bx),.list (t.th.map Act.Bx),.list (t.el.map Act.Bx)]
def Cm.big(c:Cm):Prop:=1000<c.key.length∨1000<c.val.length
instance(c:Cm):Decidable c.big:=by unfold Cm.big;infer_instance
def Act.big(d:Act):Prop:=1000<d.key.length∨1000<d.val.length∨1000<d.x.f.length∨1000<d.x.t.length
instance(d:Act):Decidable d.big:=by unfold Act.big;infer_instance
def Ajk:List Cm→Bool
 | []=>false
 |c::r=>if c.big then true else Ajk r
def A6:List Act→Bool
 | []=>false
 |d::r=>if d.big then true else A6 r
def Txn.Axo(t:Txn):Bool:=if 60<t.ifs.length+t.th.length+t.el.length then true else if Ajk t.ifs=true then true else if A6 t.th=true then true else A6 t.el
theorem Aoo:∀{l:List Cm},Ajk l=false→∀c∈l,¬c.big
 | [],_,c,h=>by cases h
 |d::r,h,c,hc=>by
  unfold Ajk at h;split at h
  ·cases h
  ·rcases Bg.1 hc with rfl|hc
   ·assumption
   ·exact Aoo h c hc
theorem Akc:∀{l:List Act},A6 l=false→∀c∈l,¬c.big
 | [],_,c,h=>by cases h
 |d::r,h,c,hc=>by
  unfold A6 at h;split at h
  ·cases h
  ·rcases Bg.1 hc with rfl|hc
   ·assumption
   ·exact Akc h c hc
theorem Txn.Bhz{t:Txn}(h:t.Axo=false):t.ifs.length+t.th.length+t.el.length≤60∧(∀c∈t.ifs,¬c.big)∧∀d∈t.th++t.el,¬d.big:=by
 unfold Txn.Axo at h;split at h
 ·cases h
 ·split at h
  ·cases h
  ·split at h
   ·cases h
   ·rename_i h1 h2 h3;refine⟨by omega,Aoo (by simpa using h2),fun d hd=>?_⟩
    rcases Bv.1 hd with hd|hd
    ·exact Akc (by simpa using h3) d hd
    ·exact Akc h d hd
def Awq:List (List Ef)→Cn→Cn × Bool
 | [],s=>(s,true)
 |l::r,s=>if 100<l.length then(s,false)else if cGo l=true then(s,false)else Awq r (s.Acg tQ l).1
def Az0(w:List (List Ef))(fl:Int):Cn × Bool:=if 40<w.length then(aw1,false)else if(Awq w aw1).2=true then(((Awq w aw1).1.Anu tQ fl).1,true)else((Awq w aw1).1,false)
structure A0b(j:Nat)(s:Cn):Prop extends Ayk j s where
 k1:K1 s
theorem A0b.write{j:Nat}{s:Cn}(h:A0b j s){cs:List Ef}(hcs:cs.length≤100):A0b (j+1) (s.Acg tQ cs).1:=⟨h.toAyk.write hcs,h.k1.write h.inv tQ cs⟩
theorem A0b.comp{j:Nat}{s:Cn}(h:A0b j s)(hj:j≤700)(fl:Int):A0b j (s.Anu tQ fl).1:=by
 refine⟨⟨h.inv.comp (by omega) tQ fl,h.c.comp h.inv tQ fl,h.v.comp tQ fl,?_⟩,h.k1.comp tQ fl⟩
 rw[←h.nm];unfold Cn.Anu;split
 ·rfl
 ·rename_i i hi;split
  ·exact Agj hi
  ·rfl
theorem Bd1:A0b 0 aw1:=⟨Aqs,by intro h hh;cases hh⟩
theorem A6t:∀{w:List (List Ef)} {j:Nat} {s:Cn},A0b j s→∃k,k≤j+w.length∧A0b k (Awq w s).1
 | [],j,s,h=>⟨j,by simp,h⟩
 |l::r,j,s,h=>by
  unfold Awq;split
  ·exact⟨j,by omega,h⟩
  ·split
   ·exact⟨j,by omega,h⟩
   ·obtain⟨k,hk,hi⟩:=A6t (w:=r) (h.write (cs:=l) (by omega))
    exact⟨k,by rw[Ho];omega,hi⟩
theorem Bfu(w:List (List Ef))(fl:Int):∃k,k≤40∧A0b k (Az0 w fl).1:=by
 unfold Az0;split
 ·exact⟨0,by omega,Bd1⟩
 ·obtain⟨k,hk,hi⟩:=A6t (w:=w) Bd1;split
  ·exact⟨k,by omega,hi.comp (by omega) fl⟩
  ·exact⟨k,by omega,hi⟩

open Go.Proofs
theorem Aky{m:Nat}{s:Cn}(hI:Akb m s)(hm:m≤80000)(hC:Atm s)(n:Az)(ifs:List Cm)(th el:List Act)(hsl:s.sp.length≤1000)(hl:ifs.length+th.length+el.length≤1000):
 Fn Tryz.prog F4 [sP s,.v (.str n),.v (.list (ifs.map Cm.Bx)),.v (.list (th.map Act.Bx)),.v (.list (el.map Act.Bx))] (Is (s.runM n ifs th el).sv [sP s,.no,.no,.no,.no]):=by
 cases hf:s.fi n with
 |none=>
  rw[show s.runM n ifs th el=⟨false,[],[],16⟩by unfold Cn.runM;rw[hf];rfl]
  exact Arw s n ifs th el hI.nd hsl hf
 |some i=>
  have hfs:(s.fi n).isSome=true:=by rw[hf];rfl
  cases hr:Cu ifs th el with
  |false=>
   rw[show s.runM n ifs th el=⟨false,[],[],1⟩by unfold Cn.runM;rw[hf,hr];rfl]
   exact Ar7 s n ifs th el hI.nd hsl hfs hl hr
  |true=>
   refine Arv hI hm hC n ifs th el hsl hfs hl hr _ rfl _ rfl _ rfl _ ?_;unfold Cn.runM;rw[hf,hr];simp
def aw6:Cn:=⟨[([116],⟨1,0,2,1,1⟩)],[⟨[1,116,97],[⟨1,1,[49],false⟩]⟩]⟩
theorem Aq6:aw1.Acg [116] [⟨[97],[49],false⟩]=(aw6,1,0):=by
 have h1:aw1.fi [116]=some 0:=by rfl
 have h2:K6 [⟨[97],[49],false⟩] []=some [⟨[97],[49],false⟩]:=by rfl
 have h3:Dc (([⟨[97],[49],false⟩]:List Ef).map Ef.key)=[[97]]:=by simp[Dc]
 unfold Cn.Acg;simp only[h1,h2,h3];rfl
theorem Biy:Akb 2 aw6∧Atm aw6:=by
 have h1:=inv1.write [116] [⟨[97],[49],false⟩];have h2:=Atm.write inv1 Aqs.c [116] [⟨[97],[49],false⟩];rw[Aq6]at h1 h2;exact⟨h1,h2⟩
def awI:List Cm:=[⟨[97],1,0,[49]⟩]
def awT:List Act:=[⟨2,⟨[],[]⟩,[98],[50],0,0⟩,⟨3,⟨[],[]⟩,[],[],0,0⟩]
theorem Ar9:aw6.runM [116] awI awT []=⟨true,[⟨[],false,0⟩,⟨[],false,1⟩],[⟨[98],[50],false⟩,⟨[97],[],true⟩],0⟩:=by
 have hk:=An5 Biy.1 (n:=[116]) (k:=[97]) (i:=0) (by rfl) (by decide)
 have hl:Q1 aw6.l (B7 [116] [97])=⟨1,1,[49],false⟩:=by rfl
 rw[hl]at hk;have hv:Lh [116] (aw6.Zp [116]).rev aw6.l=[([97],⟨1,1,[49],false⟩)]:=by rfl
 have hx:aw6.Avs [116] ⟨[],[]⟩=[[97]]:=by
  unfold Cn.Avs Cn.inX;rw[hv];rfl
 have hh:aw6.Aqu [116] awI=true:=by
  unfold awI Cn.Aqu Cn.Be4;dsimp only;rw[hk];rfl
 unfold Cn.runM;rw[if_neg (by simp[show aw6.fi [116]=some 0 from rfl]),if_neg (by decide),hh,if_pos rfl]
 unfold awT;simp[Cn.Auc,Cn.A0c,Cn.A0d,Cn.Ayo,hx]
theorem Ase:Fn Tryz.prog Da [sP aw1,.v (.str [116]),.v (.list [(Ef.mk [97] [49] false).Bx])] (Is (.tup [.i (ti 1),.i (ti 0)]) [sP aw6,.no,.no]):=by
 have hw:=Air inv1 (by omega) [116] [⟨[97],[49],false⟩] (by decide) (by decide)
 rw[Aq6]at hw;exact hw
theorem Asd:Fn Tryz.prog F4 [sP aw6,.v (.str [116]),.v (.list [.agg [.str [97],ti 1,ti 0,.str [49]]]),.v (.list [.agg [ti 2,.agg [.str [],.str []],.str [98],.str [50],ti 0,ti 0],.agg [ti 3,.agg [.str [],.str []],.str [],.str [],ti 0,ti 0]]),.v (.list [])]
 (Is (.tup [.i (.bool true),.i (.list [.agg [.list [],.bool false,ti 0],.agg [.list [],.bool false,ti 1]]),.i (.list [.agg [.str [98],.str [50],.bool false],.agg [.str [97],.str [],.bool true]]),.i (ti 0)]) [sP aw6,.no,.no,.no,.no]):=by
 have h:=Aky Biy.1 (by omega) Biy.2 [116] awI awT [] (by decide) (by decide)
 rw[Ar9]at h;exact h
theorem B0:Fn Tryz.prog Kb [] (Is (.v (.bool true)) []):=by
 refine Hv ?_ (by simp)
 repeat'((conv=>whnf);((with_reducible refine Ac ?_ ?_);focus (and_intros<;>decide)))
 all_goals(try(conv=>whnf))
 generalize hKK:F7 Tryz.prog _ _=KK;as_aux_lemma=>
  repeat'((conv=>whnf);first|(with_reducible refine Ac ?_ ?_);focus (and_intros<;>first|omega|intro _ hh;cases hh;done)|(with_reducible refine Ct.mk ?_);refine⟨_,Adg,?_⟩;rintro _ _ ⟨rfl,rfl⟩)
  all_goals(try(conv=>whnf))
  rw[←hKK];clear hKK;as_aux_lemma=>
   repeat'((conv=>whnf);((with_reducible refine Ac ?_ ?_);focus (and_intros<;>first|kernel_rfl|(simp;done)|decide)))
   all_goals(try(conv=>whnf))
   generalize hKK:F7 Tryz.prog _ _=KK;as_aux_lemma=>
    repeat'((conv=>whnf);first|(with_reducible refine Ac ?_ ?_);focus (and_intros<;>first|intro _ hh;cases hh;done|simp;done)|(with_reducible refine Ct.mk ?_);refine⟨_,Ae1,?_⟩;rintro _ _ ⟨rfl,rfl⟩)
    all_goals(try(conv=>whnf))
    rw[←hKK];clear hKK;as_aux_lemma=>
     repeat'((conv=>whnf);((with_reducible refine Ac ?_ ?_);focus (and_intros<;>first|kernel_rfl|exact Ah (by rfl)|(simp;done)|decide)))
     all_goals(try(conv=>whnf))
     generalize hKK:F7 Tryz.prog _ _=KK;as_aux_lemma=>
      repeat'((conv=>whnf);first|(with_reducible refine Ac ?_ ?_);focus (and_intros<;>first|intro _ hh;cases hh;done|simp;done)|(with_reducible refine Ct.mk ?_);refine⟨_,Ase,?_⟩;rintro _ _ ⟨rfl,rfl⟩)
      all_goals(try(conv=>whnf))
      rw[←hKK];clear hKK;as_aux_lemma=>
       repeat'((conv=>whnf);((with_reducible refine Ac ?_ ?_);focus (and_intros<;>first|kernel_rfl|exact Ah (by rfl)|(simp;done)|decide)))
       all_goals(try(conv=>whnf))
       generalize hKK:F7 Tryz.prog _ _=KK;as_aux_lemma=>
        repeat'((conv=>whnf);first|(with_reducible refine Ac ?_ ?_);focus (and_intros<;>first|omega|intro _ hh;cases hh;done|simp;done)|(with_reducible refine Ct.mk ?_);refine⟨_,Asd,?_⟩;rintro _ _ ⟨rfl,rfl⟩)
        all_goals(try(conv=>whnf))
        rw[←hKK];clear hKK;as_aux_lemma=>
         repeat'((conv=>whnf);first|(with_reducible refine Ax (by first|refine decide_eq_true ?_;omega|rfl) fun hb=>?_);(try rw[hb]);try simp only[Aa]at hb|((with_reducible refine A5 (fun hb=>?_) fun hb=>?_)<;>first|exact absurd hb (by decide)|(try rw[hb]);try simp only[Aa]at hb)|(with_reducible refine Ac ?_ ?_);focus (and_intros<;>first|omega|with_reducible rfl|kernel_rfl)|with_reducible intro Cq)
         all_goals(try(conv=>whnf))
         (apply Dj<;>kernel_rfl)
end Go.Ab
