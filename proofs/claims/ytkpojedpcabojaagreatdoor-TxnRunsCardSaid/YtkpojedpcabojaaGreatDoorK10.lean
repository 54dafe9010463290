/- Lemmas -/
import Derived.Test.YtkpojedpcabojaaGreatDoorK8
set_option linter.unusedVariables false
set_option linter.unusedSimpArgs false
set_option maxRecDepth 100000
set_option maxHeartbeats 40000000
namespace Go.Ab
open Go.Proofs
theorem Bku(R:List Spc)(n:Az)(ifs:List Cm)(th el:List Act)(hl:R.length≤100000)(hf:Aqo n R 0= -1):
 Fn Tryz.prog Asf [rT R,.v (.str n),.v (.list (ifs.map Cm.Bx)),.v (.list (th.map Act.Bx)),.v (.list (el.map Act.Bx))] (Is (⟨false,[],[],16⟩:Rn).sv [rT R,.no,.no,.no,.no]):=by
 refine At7 ?_ (by simp)
 have hfi:=Auo R n hl;rw[hf]at hfi;repeat'((conv=>whnf);first|(with_reducible refine Ax (by first|refine decide_eq_true ?_;omega|rfl) fun hb=>?_);(try rw[hb]);try simp only[Aa]at hb|(with_reducible refine Ac ?_ ?_);focus (and_intros<;>first|kernel_rfl|intro _ hh;cases hh;done|simp;done|decide)|(with_reducible refine Ct.mk ?_);refine⟨_,hfi,?_⟩;rintro _ _ ⟨rfl,rfl⟩)
 all_goals(try(conv=>whnf))
 (apply Dj<;>kernel_rfl)
theorem Bmi(R:List Spc)(n:Az)(ifs:List Cm)(th el:List Act)(hl:R.length≤100000)(i:Nat)(hf:Aqo n R 0=(i:Int))(hle:ifs.length+th.length+el.length≤1000)(hr:Cu ifs th el=false):
 Fn Tryz.prog Asf [rT R,.v (.str n),.v (.list (ifs.map Cm.Bx)),.v (.list (th.map Act.Bx)),.v (.list (el.map Act.Bx))] (Is (⟨false,[],[],1⟩:Rn).sv [rT R,.no,.no,.no,.no]):=by
 refine At7 ?_ (by simp)
 have hfi:=Auo R n hl;rw[hf]at hfi;have hrt:=A5x ifs th el hle;rw[hr]at hrt;repeat'((conv=>whnf);first|(with_reducible refine Aw (by first|assumption|refine decide_eq_false ?_;omega) fun hb=>?_);(try rw[hb]);try simp only[Aa]at hb|((with_reducible refine A5 (fun hb=>?_) fun hb=>?_)<;>first|exact absurd hb (by decide)|(try rw[hb]);try simp only[Aa]at hb)|(with_reducible refine Ac ?_ ?_);focus (and_intros<;>first|kernel_rfl|intro _ hh;cases hh;done|simp;done|decide)|(with_reducible refine Ct.mk ?_);(first|refine⟨_,hfi,?_⟩|refine⟨_,hrt,?_⟩);rintro _ _ ⟨rfl,rfl⟩)
 all_goals(try(conv=>whnf))
 (apply Dj<;>kernel_rfl)
theorem Bkt{m:Nat}{s:Cn}(hI:Akb m s)(hm:m≤80000)(hC:Atm s)(n:Az)(ifs:List Cm)(th el:List Act)(h8:s.sp.length≤8)(hf:(s.fi n).isSome=true)(hl:ifs.length+th.length+el.length≤1000)(hr:Cu ifs th el=true)
 (YES:Bool) (hY:s.Aqu n ifs=YES) (L:List Act) (hL:(if YES=true then th else el)=L) (C4:List Ou × List Ef × Int) (Ajz:s.Auc n L [] []=C4) (RUN:Rn) (A78:(if C4.2.2=0 then(⟨YES,C4.1,C4.2.1,0⟩:Rn)else⟨false,[],[],C4.2.2⟩)=RUN):
 Fn Tryz.prog Asf [rT s.ref,.v (.str n),.v (.list (ifs.map Cm.Bx)),.v (.list (th.map Act.Bx)),.v (.list (el.map Act.Bx))] (Is RUN.sv [rT s.ref,.no,.no,.no,.no]):=by
 refine At7 ?_ (by simp)
 obtain⟨i0,hi0⟩:=Asz.1 hf;have hn:=hI.name hi0;obtain⟨hr1,hr2,hr3⟩:=Akt hr;have hl2:=A8j s;obtain⟨i,hfg,he,_⟩:=A2q (s:=s) (n:=n) hf;have hfi:=Auo s.ref n (by omega)
 rw[hfg]at hfi;have hrt:=A5x ifs th el hl;have hho:=A2g hI hm h8 hC n ifs (by omega) fun c hc=>by have:=(hr2 c hc).1;omega
 rw[hr]at hrt;rw[hY]at hho;have Bmf:=fun x rev most=>Br4 hI hm h8 hC n x rev most
 have hkb:=(Bdm hI hm hC n).2;have Bmb:=fun x=>A82 (s.Ann n) x (s.Ann n).rev (Kq hkb.1 (by omega)) fun y hy=>Kq (hkb.2 y hy) (by omega)
 have hLl:L.length≤8:=by rw[←hL];split<;>omega
 have Bs5:∀d∈L,d.ok:=fun d hd=>by
  rw[←hL]at hd;split at hd
  ·exact hr3 d (Aau _ hd)
  ·exact hr3 d (Ac6 _ hd)
 have hLm:(L.map Act.Bx).length=L.length:=Bh _;have hkl:∀x:Sp,(s.Avs n x).length≤80000:=fun x=>by
  unfold Cn.Avs Cn.inX;rw[Bh];exact Kq (List.length_filter_le _ _) (by have:=(Am7 hI hC n).len;have:=hI.lb.len;omega)
 have Bmc:=fun x=>Bau hI n x
 have hRl:s.ref.length≤8:=by omega
 have hil:=(A7.1 he).1;have hlm:((s.ref.map Spc.Bx).map D.it).length=s.ref.length:=by simp
 clear hkb hl2 hi0;generalize s.ref=R at*;generalize s.Ann n=p at*;have hYY:YES=true∨YES=false:=by cases YES<;>simp
 rcases hYY with rfl|rfl
 all_goals simp only[if_true,Ado,if_false]at hL
 all_goals replace hL:=hL.symm
 all_goals subst hL
 all_goals(
  repeat'((conv=>whnf);first|(with_reducible refine Aw (by first|assumption|refine decide_eq_false ?_;omega|rfl) fun hb=>?_);(try rw[hb]);try simp only[Aa]at hb|((with_reducible refine A5 (fun hb=>?_) fun hb=>?_)<;>first|exact absurd hb (by decide)|(try rw[hb]);try simp only[Aa]at hb)|(with_reducible refine Ac ?_ ?_);focus (and_intros<;>first|omega|kernel_rfl|intro _ hh;cases hh;done|simp;done|decide)|(with_reducible refine Ct.mk ?_);(first|refine⟨_,hfi,?_⟩|refine⟨_,hrt,?_⟩|refine⟨_,hho,?_⟩);rintro _ _ ⟨rfl,rfl⟩)
  all_goals(try(conv=>whnf)))
 all_goals
  refine Afm.by (X:=Nat × List Ou × List Ef) (fun y=>[(19,.v (ti (y.1:Int))),(17,.vec Anr 3 (y.2.1.map Ou.Bx)),(18,.vec E1 3 (y.2.2.map Ef.Bx))]) (fun y=>y.1≤L.length∧y.2.1.length≤y.1∧y.2.2.length≤y.1*80001∧s.Auc n (L.drop y.1) y.2.1 y.2.2=C4) (fun y=>L.length - y.1) (0,[],[]) (by kernel_rfl) ⟨Cr _,Bz _,by simp,Ajz⟩ ?_
  rintro⟨j,O,C⟩ ⟨hj,hOl,hCl,hR⟩
  (try dsimp only at hj hOl hCl hR ⊢)
  have hw:=zwj (j:=j) (by omega)
  have Bnc:(O.map Ou.Bx).length≤8:=by rw[Bh];omega
  have By0:(C.map Ef.Bx).length≤1000000:=by rw[Bh];omega
  by_cases hjl:j<L.length
  case neg=>
   have h3:¬decide ((j:Int)<(L.length:Int))=true:=by simp;omega
   rw[Db (by omega)]at hR
   have hR:(O,C,0)=C4:=hR;subst hR;rw[if_pos rfl]at A78;subst A78;repeat'((conv=>whnf);first|(with_reducible refine Aw (by first|assumption|exact Ak (by assumption)|refine decide_eq_false ?_;omega) fun hb=>?_);(try rw[hb]);try simp only[Aa]at hb|(with_reducible refine Ac ?_ ?_);focus (and_intros<;>first|omega|with_reducible rfl|simp;done)|with_reducible intro Cq|(try dsimp only);rw[hLm])
   all_goals(try(conv=>whnf))
   (apply Dj<;>kernel_rfl)
  have hms:L.length - (j+1)<L.length - j:=Nat.sub_lt_sub_left hjl (Ej j);have hO1:∀o:Ou,(O++[o]).length≤j+1:=fun o=>by rw[Hq];exact Nat.add_le_add_right hOl 1
  have hC1:C.length≤(j+1)*80001:=Kq hCl (Jh _ (Nat.le_succ j));have Beh:j+1≤L.length:=hjl;obtain⟨d,hd⟩:∃x,L[j]?=some x:=⟨_,Ae hjl⟩;have h3:¬decide ((j:Int)<(L.length:Int))=false:=by simp;omega
  have hdr:L.drop j=d::L.drop (j+1):=by rw[Cc hjl];rw[Ae hjl]at hd;cases hd;rfl
  have hdo:=Bs5 d (Cb hd);rw[hdr]at hR;unfold Cn.Auc at hR;obtain⟨dk,dx,Awk,dv,dr,dm⟩:=d;unfold Act.ok at hdo;dsimp only at hdo;have Bza:=hkl dx;by_cases k1:dk=1
  ·subst k1;rw[if_pos rfl]at hdo;have hrg:=Bmf dx dr (if dm=0 then 16 else dm)
   unfold Cn.A0c Cn.A0d Cn.Ayo Ako at hR;dsimp only at hR;simp only[if_true,show ¬(1:Int)=2 by decide,show ¬(1:Int)=3 by decide,if_false,R2]at hR
   clear Bmf Bmb Bmc;generalize s.An4 n dx dr (if dm=0 then 16 else dm)=Z at*
   obtain⟨P,mo,er⟩:=Z;dsimp only at hR hrg;obtain⟨xf,xt⟩:=dx;by_cases e0:er=0
   ·subst e0;rw[if_pos rfl]at hR;by_cases m0:dm=0
    all_goals first|(subst m0;rw[if_pos rfl]at hrg)|(rw[if_neg m0]at hrg;have gm:¬decide (dm=0)=true:=by simpa using m0)
    all_goals
     repeat'((conv=>whnf);first|(with_reducible first|refine Ax (by first|assumption|refine decide_eq_true ?_;omega) fun hb=>?_|refine Aw (by first|assumption|exact Ak (by assumption)) fun hb=>?_);(try rw[hb]);try simp only[Aa]at hb|((with_reducible refine A5 (fun hb=>?_) fun hb=>?_)<;>first|exact absurd hb (by decide)|exfalso;((simp only[An]at hb<;>omega))|(try rw[hb]);(try simp only[Aa]at hb);(try(with_reducible exact absurd trivial hb)))|(with_reducible refine Ac ?_ ?_);focus (and_intros<;>first|omega|with_reducible rfl|kernel_rfl|intro _ hh;cases hh;done|exact Ah (by rfl)|simp only[An];omega|simp;done|decide)|with_reducible intro Cq|(try dsimp only);(first|rw[B6 hd]|rw[hLm])|(with_reducible refine Ct.mk ?_);refine⟨_,hrg,?_⟩;rintro _ _ ⟨rfl,rfl⟩|(try dsimp only);rw[hw])
     all_goals(try(conv=>whnf))
     refine Round.by (j+1,O++[⟨P,mo,0⟩],C) ?_ ⟨Beh,hO1 _,hC1,hR⟩ hms;try dsimp only
     rw[←Cv];show norm _ _=Cx _ _
     kernel_rfl
   ·rw[if_neg e0]at hR;subst hR;rw[if_neg e0]at A78;subst A78;have g0:¬(!decide (er=0))=false:=by simpa using e0
    by_cases m0:dm=0
    all_goals first|(subst m0;rw[if_pos rfl]at hrg)|(rw[if_neg m0]at hrg;have gm:¬decide (dm=0)=true:=by simpa using m0)
    all_goals
     repeat'((conv=>whnf);first|(with_reducible first|refine Ax (by first|assumption|exact Ai (by assumption)|refine decide_eq_true ?_;omega) fun hb=>?_|refine Aw (by first|assumption|exact Ak (by assumption)) fun hb=>?_);(try rw[hb]);try simp only[Aa]at hb|(with_reducible refine A5 (fun hb=>?_) fun hb=>?_)<;>(((try rw[hb]);(try simp only[Aa]at hb);(try(with_reducible exact absurd trivial hb))))|(with_reducible refine Ac ?_ ?_);focus (and_intros<;>first|omega|with_reducible rfl|kernel_rfl|intro _ hh;cases hh;done|simp;done|decide)|with_reducible intro Cq|(try dsimp only);(first|rw[B6 hd]|rw[hLm])|(with_reducible refine Ct.mk ?_);refine⟨_,hrg,?_⟩;rintro _ _ ⟨rfl,rfl⟩)
     all_goals(try(conv=>whnf))
     (apply Dj<;>kernel_rfl)
  rw[if_neg k1]at hdo;have g1:¬decide (dk=1)=true:=by simpa using k1
  by_cases k2:dk=2
  ·subst k2;unfold Cn.A0c Cn.A0d Cn.Ayo at hR;dsimp only at hR;simp only[show ¬(2:Int)=1 by decide,if_true,show ¬(2:Int)=3 by decide,if_false]at hR
   obtain⟨xf,xt⟩:=dx;repeat'((conv=>whnf);first|(with_reducible first|refine Ax (by first|assumption|refine decide_eq_true ?_;omega) fun hb=>?_|refine Aw (by first|assumption|exact Ak (by assumption)) fun hb=>?_);(try rw[hb]);try simp only[Aa]at hb|((with_reducible refine A5 (fun hb=>?_) fun hb=>?_)<;>first|exfalso;((simp only[An]at hb<;>omega))|(try rw[hb]);(try simp only[Aa]at hb);(try(with_reducible exact absurd trivial hb)))|(with_reducible refine Ac ?_ ?_);focus (and_intros<;>first|omega|with_reducible rfl|kernel_rfl|exact Ah (by rfl)|simp only[An];omega|simp;done)|with_reducible intro Cq|(try dsimp only);(first|rw[B6 hd]|rw[hLm])|skip;rw[hw])
   all_goals(try(conv=>whnf))
   refine Round.by (j+1,O++[⟨[],false,0⟩],C++[⟨Awk,dv,false⟩]) ?_ ⟨Beh,hO1 _,by simp;omega,hR⟩ hms
   try dsimp only
   rw[←Cv, ←Aon];show norm _ _=Cx _ _
   kernel_rfl
  rw[if_neg k2]at hdo;obtain⟨k3,hxr⟩:=hdo;subst k3;have hal:=Bmb dx;rw[Bmc]at hal;have hkk:=Bmg (s:=s) n dx;have hkn:=Bfs (s:=s) n dx;unfold Cn.A0c Cn.A0d Cn.Ayo at hR;dsimp only at hR;simp only[show ¬(3:Int)=1 by decide,if_true,show ¬(3:Int)=2 by decide,if_false]at hR
  rw[←hkk, ←hkn]at hR;rw[←hkn]at Bza;clear hkk hkn Bmf Bmb Bmc hkl;generalize (s.inX n dx).map Ayx=KX at*;obtain⟨xf,xt⟩:=dx;have hKm:(KX.map Pr.Bx).length=KX.length:=Bh _;obtain⟨pn,prv,pfl,pk⟩:=p;dsimp only at hal;repeat'((conv=>whnf);first|(with_reducible first|refine Ax (by first|assumption|refine decide_eq_true ?_;omega) fun hb=>?_|refine Aw (by first|assumption|exact Ak (by assumption)|refine decide_eq_false ?_;assumption) fun hb=>?_);(try rw[hb]);try simp only[Aa]at hb|(with_reducible refine A5 (fun hb=>?_) fun hb=>?_)<;>(((try rw[hb]);(try simp only[Aa]at hb);(try(with_reducible exact absurd trivial hb))))|(with_reducible refine Ac ?_ ?_);focus (and_intros<;>first|omega|with_reducible rfl|kernel_rfl|intro _ hh;cases hh;done|simp;done|decide)|with_reducible intro Cq|(with_reducible refine Ai2.mkV ?_ ?_ ?_ fun Cq=>?_);(iterate 3 focus (as_aux_lemma=>kernel_rfl));try simp only[zRL]at Cq|(try dsimp only);(first|rw[B6 hd]|rw[hLm])|(with_reducible refine Aq3.mk ?_);refine⟨_,_,hal,?_⟩|(with_reducible apply A3);(focus rfl);(focus (simp only[D.at,D.put,D.Xw,D.Fh,Mg,Jo,D.Bx,Js,Ad,Af,he,hlm]<;>exact rfl));(try(focus exact rfl)))
  all_goals(try(conv=>whnf))
  refine Afm.by (X:=Nat) (fun i=>[(27,.v (ti (i:Int))),(18,.vec E1 3 ((C++(KX.take i).map fun k=>(⟨k.key,[],true⟩:Ef)).map Ef.Bx))]) (fun i=>i≤KX.length) (fun i=>KX.length - i) 0 (by simp only[List.take_zero,Kc,R2];kernel_rfl) (Cr _) ?_
  rintro i hi
  (try dsimp only at hi ⊢)
  have hwi:=zwj (j:=i) (by omega)
  have By1:((C++(KX.take i).map fun k=>(⟨k.key,[],true⟩:Ef)).map Ef.Bx).length≤1000000:=by simp;omega
  by_cases hil:i<KX.length
  ·obtain⟨k,hk⟩:∃x,KX[i]?=some x:=⟨_,Ae hil⟩;have h5:¬decide ((i:Int)<(KX.length:Int))=false:=by simp;omega
   have hnx:(C++(KX.take (i+1)).map fun k=>(⟨k.key,[],true⟩:Ef)).map Ef.Bx=(C++(KX.take i).map fun k=>(⟨k.key,[],true⟩:Ef)).map Ef.Bx++[.agg [.str k.key,.str [],.bool true]]:=by rw[Amx,hk];simp[Ef.Bx]
   obtain⟨kk,kv,km,kr⟩:=k;dsimp only at hnx;repeat'((conv=>whnf);first|(with_reducible refine Ax (by first|assumption|refine decide_eq_true ?_;omega) fun hb=>?_);(try rw[hb]);try simp only[Aa]at hb|(with_reducible refine Ac ?_ ?_);focus (and_intros<;>first|omega|with_reducible rfl|kernel_rfl|exact Ah (by rfl)|simp only[An];omega|simp;done)|with_reducible intro Cq|(try dsimp only);(first|rw[B6 hk]|rw[hKm])|skip;rw[hwi])
   all_goals(try(conv=>whnf))
   refine Round.by (i+1) ?_ (by omega) (by omega)
   try dsimp only
   rw[hnx];show norm _ _=Cx _ _
   kernel_rfl
  have h5:¬decide ((i:Int)<(KX.length:Int))=true:=by simp;omega
  obtain rfl:i=KX.length:=by omega
  rw[List.take_length];repeat'((conv=>whnf);first|(with_reducible refine Aw (by first|assumption|exact Ak (by assumption)|refine decide_eq_false ?_;omega) fun hb=>?_);(try rw[hb]);try simp only[Aa]at hb|(with_reducible refine Ac ?_ ?_);focus (and_intros<;>first|omega|with_reducible rfl|kernel_rfl|exact Ah (by rfl)|simp only[An];omega|simp;done)|with_reducible intro Cq|skip;rw[hKm]|skip;rw[hw])
  all_goals(try(conv=>whnf))
  refine Round.by (j+1,O++[⟨[],false,(KX.length:Int)⟩],C++KX.map fun k=>(⟨k.key,[],true⟩:Ef)) ?_ ⟨Beh,hO1 _,by simp;omega,hR⟩ hms
  try dsimp only
  rw[←Cv];show norm _ _=Cx _ _
  kernel_rfl
theorem Bkv{m:Nat}{s:Cn}(hI:Akb m s)(hm:m≤80000)(hC:Atm s)(n:Az)(ifs:List Cm)(th el:List Act)(h8:s.sp.length≤8)(hl:ifs.length+th.length+el.length≤1000):
 Fn Tryz.prog Asf [rT s.ref,.v (.str n),.v (.list (ifs.map Cm.Bx)),.v (.list (th.map Act.Bx)),.v (.list (el.map Act.Bx))] (Is (s.runM n ifs th el).sv [rT s.ref,.no,.no,.no,.no]):=by
 have hl2:=A8j s;cases hf:s.fi n with
 |none=>
  rw[show s.runM n ifs th el=⟨false,[],[],16⟩by unfold Cn.runM;rw[hf];rfl]
  exact Bku s.ref n ifs th el (by omega) (Bb7 hf)
 |some i=>
  have hfs:(s.fi n).isSome=true:=by rw[hf];rfl
  cases hr:Cu ifs th el with
  |false=>
   rw[show s.runM n ifs th el=⟨false,[],[],1⟩by unfold Cn.runM;rw[hf,hr];rfl]
   obtain⟨i,h1,_,_⟩:=A2q (s:=s) (n:=n) hfs;exact Bmi s.ref n ifs th el (by omega) i h1 hl hr
  |true=>
   refine Bkt hI hm hC n ifs th el h8 hfs hl hr _ rfl _ rfl _ rfl _ ?_;unfold Cn.runM;rw[hf,hr];simp

open Go.Proofs
def A04:Stm:=(sO [gA 4 (.c .Aw9),gA 5 (.c .Aw9),gA 6 cF] (sO [gC 13 23 [],O1 (.A0g 14 [(.vec 52 4 [])] []),O1 (.A6b 15 14),O1 (.Aru 7 13),O1 (.Aru 8 15)] (sO [gM 16 7,gC 17 24 [(true,16),nL (cS [116])]] (sO [gM 18 8,gC 19 26 [(true,18),nL (cS [116])]] (.seq (sO [gM 20 0,gN 21 20,gB 22 .gtr 21 (cI 40)] (cR 22 [O1 (.Aru 23 7),O1 (.Aru 24 8),O1 (.Aru 4 23),O1 (.Aru 5 24),gA 6 cF])) (.seq (sO [gM 25 0,gN 26 25,gM 27 (cI 0)] (.block 0 (.loop (kr [4,5,6,10,12,20] 28 34) (sO [gB 28 .lss 27 26] (.seq (.cond 28 .skip (.exit 0)) (.seq (.block 1 (sO [gI 29 1 25 27,gL 30 29,gA 10 30] (.seq (sO [gM 31 10,gN 32 31,gB 33 .gtr 32 (cI 100)] (cR 33 [O1 (.Aru 34 7),O1 (.Aru 35 8),O1 (.Aru 4 34),O1 (.Aru 5 35),gA 6 cF])) (.seq (sO [gM 36 10,gN 37 36,gM 38 (cI 0)] (.block 2 (.loop [4,5,6,12,20,31,39,40,41,42,43,44,45,46,47,48,49,50,51,52,53,54,56,59] (sO [gB 39 .lss 38 37] (.seq (.cond 39 .skip (.exit 2)) (.seq (.block 3 (sO [gI 40 3 36 38,gU 41 3 40,O1 (.alloc 12 (.one (.i (.agg [(.str []),(.str []),(.bool false)])))),gS 3 12 41] (sO [gF 42 12 0,gL 43 42,O1 (.len 44 true 43),gB 45 .gtr 44 (cI 1000),gM 46 45,qf 46 (iG 47 12 1 1),qf 46 (iL 48 47),qf 46 (.len 49 true 48),qf 46 (iB 50 .gtr 49 (cI 1000)),gP 51 46 cT 50] (cR 51 [O1 (.Aru 52 7),O1 (.Aru 53 8),O1 (.Aru 4 52),O1 (.Aru 5 53),gA 6 cF])))) (.ops [gB 54 .add 38 (cI 1),gM 38 54]))))))) (sO [gM 55 7,gM 56 10,gC 57 25 [(true,55),nL (cS [116]),nL 56]] (.ops [gM 58 8,gM 59 10,gC 60 27 [(true,58),nL (cS [116]),nL 59]])))))) (.ops [gB 61 .add 27 (cI 1),gM 27 61]))))))) (sO [gM 62 7,gM 63 1,gC 64 28 [(true,62),nL (cS [116]),nL 63]] (sO [gM 65 8,gM 66 1,gC 67 29 [(true,65),nL (cS [116]),nL 66]] (sO [O1 (.Aru 68 7),O1 (.Aru 69 8),O1 (.Aru 4 68),O1 (.Aru 5 69),gA 6 cT] .ret)))))))))
theorem Av7:OFD 6 70 A04 [.t 4,.t 5,.t 6]:=oFD Tryz.func6 rfl Tryz.ntmps6
def Ay4:Stm:=(sO [O1 (.box 5 2),gA 6 cF] (.seq (sO [gC 22 5 [],gT 23 22] (cR 23 [gA 6 cF])) (sO [gM 25 0,gM 26 1,gC 27 6 [nL 25,nL 26],gA 24 27,gE 28 24 0,gE 29 24 1,gE 30 24 2,O1 (.Aru 7 28),O1 (.Aru 8 29),gA 9 30] (.seq (sO [gM 31 9,gT 32 31,gM 33 32,qf 33 (iU 34 3 5),.call (some (33,false)) (some 35) 7 [nL 34],gP 36 33 cT 35] (cR 36 [gA 6 cT])) (sO [gM 38 7,gF 39 5 0,gL 40 39,gF 41 5 1,gL 42 41,gF 43 5 2,gL 44 43,gC 45 8 [(true,38),nL (cS [116]),nL 40,nL 42,nL 44],gA 37 45,gE 46 37 0,gE 47 37 1,gE 48 37 2,gE 49 37 3,gA 10 46,gA 11 47,gA 12 48,gA 13 49] (sO [gM 51 8,gF 52 5 0,gL 53 52,gF 54 5 1,gL 55 54,gF 56 5 2,gL 57 56,gC 58 9 [(true,51),nL (cS [116]),nL 53,nL 55,nL 57],gA 50 58,gE 59 50 0,gE 60 50 1,gE 61 50 2,gE 62 50 3,gA 14 59,gA 15 60,gA 16 61,gA 17 62] (.seq (sO [gM 63 10,gM 64 14,O1 (.eqs 65 true .bool 63 64),gM 66 65,qf 66 (iM 67 13),qf 66 (iM 68 17),qf 66 (iB 69 .neq 67 68),gP 70 66 cT 69,gM 71 70,qf 71 (iM 72 11),qf 71 (iM 73 15),.call (some (71,false)) (some 74) 10 [nL 72,nL 73],qf 71 (iT 75 74),gP 76 71 cT 75,gM 77 76,qf 77 (iM 78 12),qf 77 (iM 79 16),.call (some (77,false)) (some 80) 11 [nL 78,nL 79],qf 77 (iT 81 80),gP 82 77 cT 81] (cR 82 [gA 6 cF])) (sO [gM 84 7,gF 85 5 0,gL 86 85,gF 87 5 1,gL 88 87,gF 89 5 2,gL 90 89,gC 91 8 [(true,84),nL (cS [117]),nL 86,nL 88,nL 90],gA 83 91,gE 92 83 0,gE 93 83 1,gE 94 83 2,gE 95 83 3,gA 18 92,gA 19 93,gA 20 94,gA 21 95] (.seq (.drw [0,1,3,7,7,23,63,7,7,263,1023,2047,4095,8191,16383,16383,49151,131071,16383,16383,540671,2097151,4194303,8388607,16777215,33554431,67108863,33554431,167772159,436207615,973078527,2147483647,4294967295,8589934591] [gM 96 21,gB 97 .eql 96 (cI 16),gM 98 97,qt 98 (iM 99 7),qt 98 (iG 100 5 0 0),qt 98 (iL 101 100),.call (some (98,true)) (some 102) 12 [(true,99),nL (cS [116]),nL 101],qt 98 (iM 103 8),qt 98 (iG 104 5 0 0),qt 98 (iL 105 104),.call (some (98,true)) (some 106) 13 [(true,103),nL (cS [116]),nL 105],qt 98 (.eqs 107 false .bool 102 106),gP 108 98 107 cF,gM 109 108,qt 109 (iM 110 7),qt 109 (iG 111 5 0 0),qt 109 (iL 112 111),.call (some (109,true)) (some 113) 12 [(true,110),nL (cS [117]),nL 112],qt 109 (iM 114 8),qt 109 (iG 115 5 0 0),qt 109 (iL 116 115),.call (some (109,true)) (some 117) 13 [(true,114),nL (cS [117]),nL 116],qt 109 (.eqs 118 false .bool 113 117),gP 119 109 118 cF,gM 120 119,qt 120 (iM 121 7),.call (some (120,true)) (some 122) 15 [(true,121)],qt 120 (iM 123 8),qt 120 (.Ami 124 123),qt 120 (iG 125 124 0 0),qt 120 (iL 126 125),.call (some (120,true)) (some 127) 14 [nL 122,nL 126],gP 128 120 127 cF,gA 6 128]) .ret)))))))))
theorem Aut:OF 3 129 Ay4 [.t 6]:=oF Tryz.func3 rfl Tryz.ntmps3

open Go.Proofs
abbrev Axm(x:Cn × Bool):SV:=.Ati [.ptr x.1.toD,.ptr (.st [.vec 52 4 ((x.1.ref.map Spc.Bx).map D.it)]),.it (.bool x.2)]
theorem Bd2(w:List (List Ef))(fl:Int)(h:40<w.length):
 Fn Tryz.prog Auw [.v (.list (w.map fun l=>I.list (l.map Ef.Bx))),.v (ti fl)] (Is (Axm (aw1,false)) [.no,.no]):=by
 refine Av7 ?_ (by simp)
 have hwl:(w.map fun l=>I.list (l.map Ef.Bx)).length=w.length:=Bh _
 have g40:¬decide ((40:Int)<(w.length:Int))=false:=by simp;omega
 have hR:aw1.ref=[aw1.Ann tQ]:=Aqs.ref;have hoR:=Baf;rw[hR]at hoR;unfold Axm;dsimp only;rw[hR];repeat'((conv=>whnf);((with_reducible refine Ac ?_ ?_);focus (and_intros<;>decide)))
 all_goals(try(conv=>whnf))
 generalize hKK:F7 Tryz.prog _ _=KK;as_aux_lemma=>
  repeat'((conv=>whnf);first|(with_reducible refine Ac ?_ ?_);focus (and_intros<;>((intro _ hh;cases hh;done)))|(with_reducible refine Ct.mk ?_);refine⟨_,Adg,?_⟩;rintro _ _ ⟨rfl,rfl⟩)
  all_goals(try(conv=>whnf))
  rw[←hKK];clear hKK;as_aux_lemma=>
   repeat'((conv=>whnf);((with_reducible refine Ac ?_ ?_);focus (and_intros<;>first|kernel_rfl|(simp;done)|decide)))
   all_goals(try(conv=>whnf))
   generalize hKK:F7 Tryz.prog _ _=KK;as_aux_lemma=>
    repeat'((conv=>whnf);first|(with_reducible refine Ac ?_ ?_);focus (and_intros<;>first|intro _ hh;cases hh;done|simp;done)|(with_reducible refine Ct.mk ?_);refine⟨_,Ae1,?_⟩;rintro _ _ ⟨rfl,rfl⟩)
    all_goals(try(conv=>whnf))
    rw[←hKK];clear hKK;as_aux_lemma=>
     repeat'((conv=>whnf);((with_reducible refine Ac ?_ ?_);focus (and_intros<;>first|kernel_rfl|(simp;done)|decide)))
     all_goals(try(conv=>whnf))
     generalize hKK:F7 Tryz.prog _ _=KK;as_aux_lemma=>
      repeat'((conv=>whnf);first|(with_reducible refine Ac ?_ ?_);focus (and_intros<;>first|intro _ hh;cases hh;done|simp;done)|(with_reducible refine Ct.mk ?_);refine⟨_,hoR,?_⟩;rintro _ _ ⟨rfl,rfl⟩)
      all_goals(try(conv=>whnf))
      rw[←hKK];clear hKK;as_aux_lemma=>
       repeat'((conv=>whnf);first|(with_reducible refine Ax (by first|exact Ai (by assumption)|refine decide_eq_true ?_;omega) fun hb=>?_);(try rw[hb]);try simp only[Aa]at hb|(with_reducible refine Ac ?_ ?_);focus (and_intros<;>(with_reducible rfl))|with_reducible intro Cq|skip;rw[hwl])
       all_goals(try(conv=>whnf))
       (apply Dj<;>kernel_rfl)
theorem Bfv(w:List (List Ef))(fl:Int)(h:w.length≤40)(C4:Cn × Bool)(Ajz:Awq w aw1=C4)(OUT:Cn × Bool)(A4m:(if C4.2=true then((C4.1.Anu tQ fl).1,true)else(C4.1,false))=OUT):
 Fn Tryz.prog Auw [.v (.list (w.map fun l=>I.list (l.map Ef.Bx))),.v (ti fl)] (Is (Axm OUT) [.no,.no]):=by
 refine Av7 ?_ (by simp)
 have hwl:(w.map fun l=>I.list (l.map Ef.Bx)).length=w.length:=Bh _
 have g40:¬decide ((40:Int)<(w.length:Int))=true:=by simp;omega
 repeat'((conv=>whnf);((with_reducible refine Ac ?_ ?_);focus (and_intros<;>decide)))
 all_goals(try(conv=>whnf))
 generalize hKK:F7 Tryz.prog _ _=KK;as_aux_lemma=>
  repeat'((conv=>whnf);first|(with_reducible refine Ac ?_ ?_);focus (and_intros<;>((intro _ hh;cases hh;done)))|(with_reducible refine Ct.mk ?_);refine⟨_,Adg,?_⟩;rintro _ _ ⟨rfl,rfl⟩)
  all_goals(try(conv=>whnf))
  rw[←hKK];clear hKK;as_aux_lemma=>
   repeat'((conv=>whnf);((with_reducible refine Ac ?_ ?_);focus (and_intros<;>first|kernel_rfl|(simp;done)|decide)))
   all_goals(try(conv=>whnf))
   generalize hKK:F7 Tryz.prog _ _=KK;as_aux_lemma=>
    repeat'((conv=>whnf);first|(with_reducible refine Ac ?_ ?_);focus (and_intros<;>first|intro _ hh;cases hh;done|simp;done)|(with_reducible refine Ct.mk ?_);refine⟨_,Ae1,?_⟩;rintro _ _ ⟨rfl,rfl⟩)
    all_goals(try(conv=>whnf))
    rw[←hKK];clear hKK;as_aux_lemma=>
     repeat'((conv=>whnf);((with_reducible refine Ac ?_ ?_);focus (and_intros<;>first|kernel_rfl|(simp;done)|decide)))
     all_goals(try(conv=>whnf))
     generalize hKK:F7 Tryz.prog _ _=KK;as_aux_lemma=>
      repeat'((conv=>whnf);first|(with_reducible refine Ac ?_ ?_);focus (and_intros<;>first|intro _ hh;cases hh;done|simp;done)|(with_reducible refine Ct.mk ?_);refine⟨_,Baf,?_⟩;rintro _ _ ⟨rfl,rfl⟩)
      all_goals(try(conv=>whnf))
      rw[←hKK];clear hKK;as_aux_lemma=>
       repeat'((conv=>whnf);first|(with_reducible refine Aw (by first|exact Ak (by assumption)|refine decide_eq_false ?_;omega) fun hb=>?_);(try rw[hb]);try simp only[Aa]at hb|(with_reducible refine Ac ?_ ?_);focus (and_intros<;>(with_reducible rfl))|with_reducible intro Cq|(try dsimp only);rw[hwl])
       all_goals(try(conv=>whnf))
       refine Afm.by (X:=Nat × Cn) (fun y=>[(27,.v (ti (y.1:Int))),(7,sP y.2),(8,rT y.2.ref)]) (fun y=>y.1≤w.length∧A0b y.1 y.2∧Awq (w.drop y.1) y.2=C4) (fun y=>w.length - y.1) (0,aw1) (by kernel_rfl) ⟨Cr _,Bd1,Ajz⟩ ?_
       clear Ajz;rintro⟨j,s⟩ ⟨hj,hI,hR⟩
       (try dsimp only at hj hI hR ⊢)
       have hw:=zwj (j:=j) (by omega)
       have h8:=hI.len;by_cases hjl:j<w.length
       case neg=>
        have h3:¬decide ((j:Int)<(w.length:Int))=true:=by simp;omega
        rw[Db (by omega)]at hR
        have hR:(s,true)=C4:=hR;subst hR;rw[if_pos rfl]at A4m;subst A4m;have hc1:=Bfi hI.inv (by omega) tQ fl
        have hc2:=Bqo hI.inv (by omega) (by omega) hI.c tQ fl
        unfold Axm;dsimp only at hc1 hc2 ⊢;generalize s.Anu tQ fl=Z at*;obtain⟨s',e⟩:=Z;dsimp only at hc1 hc2 ⊢;generalize s.ref=R at*;generalize s'.ref=R' at*;repeat'((conv=>whnf);first|(with_reducible refine Aw (by exact Ak (by assumption)) fun hb=>?_);(try rw[hb]);try simp only[Aa]at hb|(with_reducible refine Ac ?_ ?_);focus (and_intros<;>first|kernel_rfl|intro _ hh;cases hh;done|simp;done|decide)|(with_reducible refine Ct.mk ?_);refine⟨_,hc1,?_⟩;rintro _ _ ⟨rfl,rfl⟩)
        all_goals(try(conv=>whnf))
        generalize hKK:F7 Tryz.prog _ _=KK;as_aux_lemma=>
         repeat'((conv=>whnf);first|(with_reducible refine Ac ?_ ?_);focus (and_intros<;>first|intro _ hh;cases hh;done|simp;done)|(with_reducible refine Ct.mk ?_);refine⟨_,hc2,?_⟩;rintro _ _ ⟨rfl,rfl⟩)
         all_goals(try(conv=>whnf))
         rw[←hKK];clear hKK;as_aux_lemma=>
          (skip)
          all_goals(try(conv=>whnf))
          (apply Dj<;>kernel_rfl)
       obtain⟨l,hl⟩:∃x,w[j]?=some x:=⟨_,Ae hjl⟩;have h3:¬decide ((j:Int)<(w.length:Int))=false:=by simp;omega
       have hdr:w.drop j=l::w.drop (j+1):=by rw[Cc hjl];rw[Ae hjl]at hl;cases hl;rfl
       rw[hdr]at hR;unfold Awq at hR;have hcl:(l.map Ef.Bx).length=l.length:=Bh _;by_cases hd:100<l.length
       ·rw[if_pos hd]at hR;subst hR;have A4m:(s,false)=OUT:=by rw[←A4m];rfl
        subst A4m;have Bsz:¬decide ((100:Int)<(l.length:Int))=false:=by simp;omega
        unfold Axm;dsimp only;generalize s.ref=R at*;repeat'((conv=>whnf);first|(with_reducible refine Ax (by first|exact Ai (by assumption)|refine decide_eq_true ?_;omega) fun hb=>?_);(try rw[hb]);try simp only[Aa]at hb|(with_reducible refine Ac ?_ ?_);focus (and_intros<;>first|omega|with_reducible rfl|kernel_rfl)|with_reducible intro Cq|(try dsimp only);rw[B6 hl]|skip;rw[hcl])
        all_goals(try(conv=>whnf))
        (apply Dj<;>kernel_rfl)
       rw[if_neg hd]at hR;have Bsz:¬decide ((100:Int)<(l.length:Int))=true:=by simp;omega
       have hwt:=Air hI.inv (by omega) tQ l (by decide) (by omega)
       have hwr:=Bqq hI.inv (by omega) (by omega) hI.c tQ l (by omega)
       have hI2:=hI.write (cs:=l) (by omega)
       generalize hZ:s.Acg tQ l=Z at*;obtain⟨s',r1,r2⟩:=Z;dsimp only at hwt hwr hI2 hR;generalize hNX:Awq (w.drop (j+1)) s'=NX at hR;generalize hSR:s.ref=R at*;repeat'((conv=>whnf);first|(with_reducible first|refine Ax (by exact Ai (by assumption)) fun hb=>?_|refine Aw (by first|exact Ak (by assumption)|refine decide_eq_false ?_;omega) fun hb=>?_);(try rw[hb]);try simp only[Aa]at hb|(with_reducible refine Ac ?_ ?_);focus (and_intros<;>first|omega|with_reducible rfl|kernel_rfl)|with_reducible intro Cq|(try dsimp only);(first|rw[B6 hl]|rw[hcl]))
       all_goals(try(conv=>whnf))
       refine Afm.by (X:=Nat) (fun q=>[(38,.v (ti (q:Int)))]) (fun q=>q≤l.length∧(if cGo (l.drop q)=true then(s,false)else NX)=C4) (fun q=>l.length - q) 0 (by kernel_rfl) ⟨Cr _,hR⟩ ?_
       clear hR;rintro q ⟨hq,hQ⟩
       (try dsimp only at hq hQ ⊢)
       have hw2:=zwj (j:=q) (by omega)
       by_cases hql:q<l.length
       case neg=>
        have h6:¬decide ((q:Int)<(l.length:Int))=true:=by simp;omega
        rw[Db (by omega)]at hQ
        have hQ:NX=C4:=hQ;repeat'((conv=>whnf);first|(with_reducible refine Aw (by exact Ak (by assumption)) fun hb=>?_);(try rw[hb]);try simp only[Aa]at hb|(with_reducible refine Ac ?_ ?_);focus (and_intros<;>first|kernel_rfl|simp;done|decide))
        all_goals(try(conv=>whnf))
        generalize hKK:F7 Tryz.prog _ _=KK;as_aux_lemma=>
         repeat'((conv=>whnf);first|(with_reducible refine Ac ?_ ?_);focus (and_intros<;>first|intro _ hh;cases hh;done|simp;done)|(with_reducible refine Ct.mk ?_);refine⟨_,hwt,?_⟩;rintro _ _ ⟨rfl,rfl⟩)
         all_goals(try(conv=>whnf))
         rw[←hKK];clear hKK;as_aux_lemma=>
          repeat'((conv=>whnf);((with_reducible refine Ac ?_ ?_);focus (and_intros<;>first|kernel_rfl|(simp;done)|decide)))
          all_goals(try(conv=>whnf))
          generalize hKK:F7 Tryz.prog _ _=KK;as_aux_lemma=>
           repeat'((conv=>whnf);first|(with_reducible refine Ac ?_ ?_);focus (and_intros<;>first|intro _ hh;cases hh;done|simp;done)|(with_reducible refine Ct.mk ?_);refine⟨_,hwr,?_⟩;rintro _ _ ⟨rfl,rfl⟩)
           all_goals(try(conv=>whnf))
           rw[←hKK];clear hKK;as_aux_lemma=>
            repeat'((conv=>whnf);(skip;rw[hw]))
            all_goals(try(conv=>whnf))
            refine Round.by (j+1,s') ?_ ⟨by omega,hI2,hNX.trans hQ⟩ (by dsimp only;omega)
            try dsimp only
            show norm _ _=Cx _ _
            kernel_rfl
       obtain⟨c,hc⟩:∃x,l[q]?=some x:=⟨_,Ae hql⟩;have h6:¬decide ((q:Int)<(l.length:Int))=false:=by simp;omega
       have hdq:l.drop q=c::l.drop (q+1):=by rw[Cc hql];rw[Ae hql]at hc;cases hc;rfl
       rw[hdq]at hQ;unfold cGo at hQ;obtain⟨ck,cv,cg⟩:=c;by_cases hb:(Ef.mk ck cv cg).big
       ·rw[if_pos hb]at hQ;have hQ:(s,false)=C4:=hQ;subst hQ;have A4m:(s,false)=OUT:=by rw[←A4m];rfl
        subst A4m;unfold Ef.big at hb
        (try dsimp only at hb)
        unfold Axm;dsimp only;rw[hSR];repeat'((conv=>whnf);first|(with_reducible first|refine Ax (by first|exact Ai (by assumption)|rfl) fun hb=>?_|refine Aw (by first|exact Ak (by assumption)|rfl) fun hb=>?_);(try rw[hb]);try simp only[Aa]at hb|((with_reducible refine A5 (fun hb=>?_) fun hb=>?_)<;>first|exfalso;((simp only[An]at hb<;>omega))|(try rw[hb]);try simp only[Aa]at hb)|(with_reducible refine Ac ?_ ?_);focus (and_intros<;>first|omega|with_reducible rfl|kernel_rfl|simp;done)|with_reducible intro Cq|(try dsimp only);rw[B6 hc])
        all_goals(try(conv=>whnf))
        all_goals first
         |(exfalso;omega)
         |(apply Dj<;>kernel_rfl)
       ·rw[if_neg hb]at hQ;unfold Ef.big at hb
        (try dsimp only at hb)
        repeat'((conv=>whnf);first|(with_reducible first|refine Ax (by exact Ai (by assumption)) fun hb=>?_|refine Aw (by first|exact Ak (by assumption)|rfl) fun hb=>?_);(try rw[hb]);try simp only[Aa]at hb|((with_reducible refine A5 (fun hb=>?_) fun hb=>?_)<;>first|exfalso;((simp only[An]at hb<;>omega))|(try rw[hb]);try simp only[Aa]at hb)|(with_reducible refine Ac ?_ ?_);focus (and_intros<;>first|omega|with_reducible rfl|kernel_rfl|simp;done)|with_reducible intro Cq|(try dsimp only);(first|rw[B6 hc]|rw[hw2]))
        all_goals(try(conv=>whnf))
        refine Round.by (q+1) ?_ ⟨by omega,hQ⟩ (by omega)
        try dsimp only
        show norm _ _=Cx _ _
        kernel_rfl
theorem A9i(w:List (List Ef))(fl:Int):
 Fn Tryz.prog Auw [.v (.list (w.map fun l=>I.list (l.map Ef.Bx))),.v (ti fl)] (Is (Axm (Az0 w fl)) [.no,.no]):=by
 unfold Az0;by_cases h:40<w.length
 ·rw[if_pos h];exact Bd2 w fl h
 ·rw[if_neg h];exact Bfv w fl (by omega) _ rfl _ rfl
end Go.Ab
