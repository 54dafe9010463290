/- Lemmas -/
import Derived.Test.YtkpojedpcabojaaDoorWC
import Derived.Test.YtkpojedpcabojaaDoorW9
set_option linter.unusedVariables false
set_option linter.unusedSimpArgs false
set_option maxRecDepth 100000
set_option maxHeartbeats 40000000
namespace Go.Ab
open Go.Proofs
abbrev C2:FuncId:=A7
theorem Fc(s:Sto)(n:Az)(rev:Int)(hf:s.fi n=none):
 Fn Tryd.prog C2 [sP s,.v (.str n),.v (ti rev)] (Is (.v (ti 16)) [sP s,.no,.no]):=by
 refine Ap ?_ (by simp)
 obtain⟨h1,h2⟩:=Sto.fi_none hf;repeat'((conv=>whnf);first|((with_reducible refine Ax (by(with_reducible rfl)) (fun hb=>?_));(try rw[hb]);(try simp only[Aa]at hb))|((with_reducible refine Aw (by(with_reducible rfl)) (fun hb=>?_));(try rw[hb]);(try simp only[Aa]at hb))|((with_reducible refine And.intro (fun hb=>?_) (fun hb=>?_))<;>first|(exact absurd hb (by decide))|((try rw[hb]);(try simp only[Aa]at hb)))|((with_reducible refine Exists.intro ?_ ?_);focus (and_intros<;>first|omega|(with_reducible rfl)|kernel_rfl|(simp;done)))|((refine Au ?_))|(((with_reducible apply A9));(focus (simp only[D.at,D.put,D.kid,D.setKid,mkSt,Jo,D.toI,toIs,Ad,Af,h1,Sto.toD]<;>exact rfl))))
 all_goals(try(conv=>whnf))
 (apply dKq<;>kernel_rfl)
def Sto.compE(s:Sto)(n:Az)(rev:Int):Int:=if rev<0 then 1 else if(s.tal n).rev<rev then 13 else if rev<(s.tal n).floor then 14 else 0
theorem Fk(s:Sto)(n:Az)(rev:Int)(i:Nat)(hf:s.fi n=some i)(he:s.compE n rev≠0):
 Fn Tryd.prog C2 [sP s,.v (.str n),.v (ti rev)] (Is (.v (ti (s.compE n rev))) [sP s,.no,.no]):=by
 refine Ap ?_ (by simp)
 obtain⟨h1,h2,h3⟩:=Sto.fi_some hf;unfold Sto.compE at he ⊢;by_cases g1:rev<0
 ·rw[if_pos g1];repeat'((conv=>whnf);first|((with_reducible refine Ax (by first|((with_reducible refine decide_eq_true ?_);(with_reducible assumption))|(with_reducible rfl)) (fun hb=>?_));(try rw[hb]);(try simp only[Aa]at hb))|((with_reducible refine And.intro (fun hb=>?_) (fun hb=>?_))<;>first|(exact absurd hb (by decide))|((try rw[hb]);(try simp only[Aa]at hb)))|((with_reducible refine Exists.intro ?_ ?_);focus (and_intros<;>first|omega|(with_reducible rfl)|kernel_rfl|(simp;done)))|((with_reducible refine And.intro ?_ ?_);focus (decide))|((refine Au ?_))|(((with_reducible apply A9));(focus (simp only[D.at,D.put,D.kid,D.setKid,mkSt,Jo,D.toI,toIs,Ad,Af,h1,h3,Sto.toD,Tal.toI]<;>exact rfl))))
  all_goals(try(conv=>whnf))
  (apply dKq<;>kernel_rfl)
 rw[if_neg g1]at he ⊢;by_cases g2:(s.tal n).rev<rev
 ·rw[if_pos g2];repeat'((conv=>whnf);first|((with_reducible refine Ax (by first|((with_reducible refine decide_eq_true ?_);(with_reducible assumption))|(with_reducible rfl)) (fun hb=>?_));(try rw[hb]);(try simp only[Aa]at hb))|((with_reducible refine Aw (by first|((with_reducible refine decide_eq_false ?_);(with_reducible assumption))|(with_reducible rfl)) (fun hb=>?_));(try rw[hb]);(try simp only[Aa]at hb))|((with_reducible refine And.intro (fun hb=>?_) (fun hb=>?_))<;>first|(exact absurd hb (by decide))|((try rw[hb]);(try simp only[Aa]at hb)))|((with_reducible refine Exists.intro ?_ ?_);focus (and_intros<;>first|omega|(with_reducible rfl)|kernel_rfl|(simp;done)))|((with_reducible refine And.intro ?_ ?_);focus (decide))|((refine Au ?_))|(((with_reducible apply A9));(focus (simp only[D.at,D.put,D.kid,D.setKid,mkSt,Jo,D.toI,toIs,Ad,Af,h1,h3,Sto.toD,Tal.toI]<;>exact rfl)))|(((with_reducible apply A3));(focus rfl);(focus (simp only[D.at,D.put,D.kid,D.setKid,mkSt,Jo,D.toI,toIs,Ad,Af,h1,h3,Sto.toD,Tal.toI]<;>exact rfl));(try(focus exact rfl))))
  all_goals(try(conv=>whnf))
  (apply dKq<;>kernel_rfl)
 rw[if_neg g2]at he ⊢;by_cases g3:rev<(s.tal n).floor
 ·rw[if_pos g3];repeat'((conv=>whnf);first|((with_reducible refine Ax (by first|((with_reducible refine decide_eq_true ?_);(with_reducible assumption))|(with_reducible rfl)) (fun hb=>?_));(try rw[hb]);(try simp only[Aa]at hb))|((with_reducible refine Aw (by first|((with_reducible refine decide_eq_false ?_);(with_reducible assumption))|(with_reducible rfl)) (fun hb=>?_));(try rw[hb]);(try simp only[Aa]at hb))|((with_reducible refine And.intro (fun hb=>?_) (fun hb=>?_))<;>first|(exact absurd hb (by decide))|((try rw[hb]);(try simp only[Aa]at hb)))|((with_reducible refine Exists.intro ?_ ?_);focus (and_intros<;>first|omega|(with_reducible rfl)|kernel_rfl|(simp;done)))|((with_reducible refine And.intro ?_ ?_);focus (decide))|((refine Au ?_))|(((with_reducible apply A9));(focus (simp only[D.at,D.put,D.kid,D.setKid,mkSt,Jo,D.toI,toIs,Ad,Af,h1,h3,Sto.toD,Tal.toI]<;>exact rfl)))|(((with_reducible apply A3));(focus rfl);(focus (simp only[D.at,D.put,D.kid,D.setKid,mkSt,Jo,D.toI,toIs,Ad,Af,h1,h3,Sto.toD,Tal.toI]<;>exact rfl));(try(focus exact rfl))))
  all_goals(try(conv=>whnf))
  (apply dKq<;>kernel_rfl)
 ·rw[if_neg g3]at he;exact absurd rfl he
theorem Ae(l:List Ver)(K:Nat):strips ((l.map Ver.toI).drop K)=(l.map Ver.toI).drop K:=by
 rw[←List.map_drop];generalize l.drop K=l;induction l with
 |nil=>rfl
 |cons x l ih=>simp only[List.map_cons,strips,ih];rfl
theorem D6(s:Sto)(n:Az)(rev:Int)(i:Nat)(hf:s.fi n=some i)(hL:LBd 80000 s.l)(hr:0≤rev∧rev≤(s.tal n).rev∧(s.tal n).floor≤rev∧rev≤1000000000000)(Z:CSt)(hZ:Mz n rev s.l ⟨[],0⟩=Z):
 Fn Tryd.prog C2 [sP s,.v (.str n),.v (ti rev)] (Is (.v (ti 0)) [sP ⟨s.sp.set i (n,{s.tal n with floor:=rev,vers:=Z.c}),Z.l⟩,.no,.no]):=by
 refine Ap ?_ (by simp)
 obtain⟨h1,h2,h3⟩:=Sto.fi_some hf;obtain⟨hr1,hr2,hr3,hr4⟩:=hr;repeat'((conv=>whnf);first|((with_reducible refine Ax (by(with_reducible rfl)) (fun hb=>?_));(try rw[hb]);(try simp only[Aa]at hb))|((with_reducible refine Aw (by first|((with_reducible refine decide_eq_false ?_);omega)|(with_reducible rfl)) (fun hb=>?_));(try rw[hb]);(try simp only[Aa]at hb))|((with_reducible refine And.intro (fun hb=>?_) (fun hb=>?_))<;>first|(exact absurd hb (by decide))|((try rw[hb]);(try simp only[Aa]at hb)))|((with_reducible refine Exists.intro ?_ ?_);focus (and_intros<;>first|omega|(with_reducible rfl)|kernel_rfl|(simp;done)))|(with_reducible intro hfact)|((with_reducible refine And.intro ?_ ?_);focus (decide))|((refine Au ?_))|(((with_reducible apply A9));(focus (simp only[D.at,D.put,D.kid,D.setKid,mkSt,Jo,D.toI,toIs,Ad,Af,h1,h3,Sto.toD,Tal.toI]<;>exact rfl)))|(((with_reducible apply A3));(focus rfl);(focus (simp only[D.at,D.put,D.kid,D.setKid,mkSt,Jo,D.toI,toIs,Ad,Af,h1,h3,Sto.toD,Tal.toI]<;>exact rfl));(try(focus exact rfl))))
 all_goals(try(conv=>whnf))
 generalize htt:s.tal n=t at*;have hlm:(s.l.map Hld.toD).length=s.l.length:=List.length_map _;have hlen:=hL.len;obtain⟨VS0,hVS0⟩:∃V,V=s.sp.map fun x=>D.ptr (.it x.2.toI):=⟨_,rfl⟩
 obtain⟨KS0,hKS0⟩:∃V,V=s.sp.map fun x=>I.str x.1:=⟨_,rfl⟩
 have hi:i<VS0.length:=by rw[hVS0];exact(List.getElem?_eq_some_iff.1 h2).1
 refine LoopWq.by (X:=Nat × List Hld × Int × List D × List D) (fun y=>[(55,.v (ti (y.1:Int))),(9,.own [] (.vec 138 2 (y.2.1.map Hld.toD))),(132,.own [] (.ptr (stD KS0 y.2.2.2.1 y.2.2.2.2)))])
  (fun y=>y.1≤s.l.length∧y.2.2.2.1=VS0.set i (.ptr (.it (Tal.mk t.rev rev t.bytes t.keys y.2.2.1).toI))∧(y.2.2.2.2.length=s.l.length∧∀q,y.1≤q→y.2.2.2.2[q]?=(s.l.map Hld.toD)[q]?)∧(0≤y.2.2.1∧y.2.2.1≤100000*y.1)∧y.2.1.length≤y.1∧Mz n rev (s.l.drop y.1) ⟨y.2.1,y.2.2.1⟩=Z)
  (fun y=>s.l.length - y.1) (0,[],0,(s.sp.map fun x=>D.ptr (.it x.2.toI)).set i (.ptr (.it (Tal.mk t.rev rev t.bytes t.keys 0).toI)),s.l.map Hld.toD) (by rw[hKS0];kernel_rfl)
  ⟨Nat.zero_le _,by rw[hVS0],⟨hlm,fun _ _=>rfl⟩,⟨by simp,by simp⟩,by simp,hZ⟩ ?_
 rintro⟨j,rest,c,VS,Ld⟩ ⟨hj,e1,⟨e2,e3⟩,hc,hrl,hR⟩;dsimp only at hj e1 e2 e3 hc hrl hR ⊢;have hw:IntKind.i64.wrap ((j:Int)+1)=((j+1:Nat):Int):=Dk (n:=100000) (by omega) (by simp only[maxLen];omega)
 have hVi:VS[i]?=some (.ptr (.it (Tal.mk t.rev rev t.bytes t.keys c).toI)):=by rw[e1,List.getElem?_set_self hi]
 by_cases hjl:j<s.l.length
 case neg=>
  have hlt:¬decide ((j:Int)<(s.l.length:Int))=true:=by simp;omega
  have hlt2:¬decide ((j:Int)<((s.l.map Hld.toD).length:Int))=true:=by simp;omega
  rw[List.drop_eq_nil_of_le (by omega)]at hR
  have hR:⟨rest,c⟩=Z:=hR;subst hR;have hfin:sP ⟨s.sp.set i (n,{t with floor:=rev,vers:=c}),rest⟩= .own [] (.ptr (stD KS0 VS (rest.map Hld.toD))):=by
   simp only[sP,Sto.toD,List.map_set];rw[←hVS0, ←hKS0,e1];rw[List.set_getElem?_self' (l:=KS0) (by rw[hKS0,List.getElem?_map,h3];rfl)]
  rw[hfin];repeat'((conv=>whnf);first|((with_reducible refine Aw (by(with_reducible exact Bool.of_not_eq_true (by assumption))) (fun hb=>?_));(try rw[hb]);(try simp only[Aa]at hb))|((with_reducible refine Exists.intro ?_ ?_);focus (and_intros<;>first|kernel_rfl|(simp;done))))
  all_goals(try(conv=>whnf))
  (apply dKq<;>kernel_rfl)
 obtain⟨h,he⟩:∃h,s.l[j]?=some h:=⟨_,List.getElem?_eq_getElem hjl⟩;have hlt:¬decide ((j:Int)<(s.l.length:Int))=false:=by simp;omega
 have hlt2:¬decide ((j:Int)<((s.l.map Hld.toD).length:Int))=false:=by simp;omega
 obtain⟨hb1,hb2,hb3,hb4⟩:=hL.held h (List.mem_of_getElem? he);have hat:Ld[j]?=some h.toD:=by rw[e3 j (Nat.le_refl _),List.getElem?_map,he];rfl
 have hwho:=L2 h.at_ hb1;have hdr:s.l.drop j=h::s.l.drop (j+1):=by rw[List.drop_eq_getElem_cons hjl];rw[List.getElem?_eq_getElem hjl]at he;cases he;rfl
 rw[hdr]at hR;simp only[Mz]at hR;have hsk:(Ld.set j (.it (.agg [.und,.und]))).length=s.l.length∧∀q,j+1≤q→(Ld.set j (.it (.agg [.und,.und])))[q]?=(s.l.map Hld.toD)[q]?:=
  ⟨by rw[List.length_set,e2],fun q hq=>by rw[List.getElem?_set_ne (by omega)];exact e3 q (by omega)⟩
 unfold Uy at hR;dsimp only at hR;generalize hwk:C1 h.at_=wk at hwho hR;obtain⟨w,kk,z⟩:=wk;dsimp only at hwho hR;have hlLd:Ld.length=s.l.length:=e2;by_cases hwn:w=n
 case neg=>
  rw[if_neg hwn]at hR;have hnb2:¬decide (w=n)=true:=by simpa using hwn
  repeat'((conv=>whnf);first|((with_reducible refine Ax (by(with_reducible exact Bool.of_not_eq_false (by assumption))) (fun hb=>?_));(try rw[hb]);(try simp only[Aa]at hb))|((with_reducible refine Aw (by(with_reducible exact Bool.of_not_eq_true (by assumption))) (fun hb=>?_));(try rw[hb]);(try simp only[Aa]at hb))|((with_reducible refine Exists.intro ?_ ?_);focus (and_intros<;>first|omega|(with_reducible rfl)|kernel_rfl|(intro _ hh;cases hh;done)|exact Ag rfl|(simp only[LENS];omega)|(simp;done)|decide))|((with_reducible refine CallWp.mk ?_);refine⟨_,hwho,?_⟩;rintro _ _ ⟨rfl,rfl⟩)|((try dsimp only);rw[hw])|(((with_reducible apply A9));(focus (simp only[D.at,D.put,D.kid,D.setKid,mkSt,Jo,D.toI,toIs,Ad,Af,hat,Hld.toD,Mv,D.husk,hVi]<;>exact rfl)))|(((with_reducible apply A3));(focus rfl);(focus (simp only[D.at,D.put,D.kid,D.setKid,mkSt,Jo,D.toI,toIs,Ad,Af,hat,Hld.toD,Mv,D.husk,hVi]<;>exact rfl));(try(focus exact rfl))))
  all_goals(try(conv=>whnf))
  refine Round.by (j+1,rest++[h],c,VS,Ld.set j (.it (.agg [.und,.und]))) ?_ ⟨by omega,e1,hsk,⟨by dsimp only;omega,by dsimp only;omega⟩,by simp;omega,hR⟩ (by dsimp only;omega)
  try dsimp only
  rw[List.map_append,List.map_cons,List.map_nil];show norm _ _=upd _ _
  kernel_rfl
 subst hwn;rw[if_pos rfl]at hR;have hnb2:¬decide (w=w)=false:=by simp
 obtain⟨a,vs0⟩:=h;dsimp only at hb1 hb2 hb3 hb4 hat hwho hR hwk;have hat:Ld[j]?=some (.st [.it (.str a),.vec Bb 4 ((vs0.map Ver.toI).map D.it)]):=hat;obtain⟨KA,hKA⟩:∃K,K=Eo rev vs0:=⟨_,rfl⟩;have hKl:KA<vs0.length:=by rw[hKA];exact Ve rev vs0 hb2
 repeat'((conv=>whnf);first|((with_reducible refine Ax (by(with_reducible exact Bool.of_not_eq_false (by assumption))) (fun hb=>?_));(try rw[hb]);(try simp only[Aa]at hb))|((with_reducible refine Exists.intro ?_ ?_);focus (and_intros<;>first|omega|(with_reducible rfl)|kernel_rfl|(intro _ hh;cases hh;done)|(simp;done)|decide))|((with_reducible refine CallWp.mk ?_);refine⟨_,hwho,?_⟩;rintro _ _ ⟨rfl,rfl⟩)|(((with_reducible apply A9));(focus (simp only[D.at,D.put,D.kid,D.setKid,mkSt,Jo,D.toI,toIs,Ad,Af,hat,Hld.toD,Mv,D.husk,hVi]<;>exact rfl)))|(((with_reducible apply A3));(focus rfl);(focus (simp only[D.at,D.put,D.kid,D.setKid,mkSt,Jo,D.toI,toIs,Ad,Af,hat,Hld.toD,Mv,D.husk,hVi]<;>exact rfl));(try(focus exact rfl))))
 all_goals(try(conv=>whnf))
 refine LoopWq.by (X:=Nat) (fun k=>[(15,.v (ti (k:Int)))]) (fun k=>k<vs0.length∧Eo rev (vs0.drop k)+k=KA) (fun k=>vs0.length - k) 0 (by kernel_rfl) ⟨by omega,hKA.symm⟩ ?_
 rintro k ⟨hk,hka⟩;dsimp only at hk hka ⊢;have hvl:(vs0.map Ver.toI).length=vs0.length:=List.length_map _;have hvl2:((vs0.map Ver.toI).map D.it).length=vs0.length:=by simp
 have hwk1:IntKind.i64.wrap ((k:Int)+1)=((k+1:Nat):Int):=Dk (n:=100000) (by omega) (by simp only[maxLen];omega)
 rw[F9 hk]at hka;by_cases hk1:k+1<vs0.length
 ·obtain⟨v1,hv1⟩:∃v,vs0[k+1]?=some v:=⟨_,List.getElem?_eq_getElem hk1⟩;rw[hv1]at hka;dsimp only at hka;have hlt3:¬decide (((k+1:Nat):Int)<(vs0.length:Int))=false:=by simp;omega
  have hlt5:¬decide (IntKind.i64.wrap ((k:Int)+1)<(vs0.length:Int))=false:=by rw[hwk1];exact hlt3
  have hlt6:¬decide (IntKind.i64.wrap ((k:Int)+1)<(((vs0.map Ver.toI).map D.it).length:Int))=false:=by rw[hvl2];exact hlt5
  by_cases hv2:v1.rev≤rev
  ·rw[if_pos hv2]at hka;have hka2:Eo rev (vs0.drop (k+1))+(k+1)=KA:=by omega
   repeat'((conv=>whnf);first|((with_reducible refine Ax (by first|(with_reducible exact Bool.of_not_eq_false (by assumption))|((with_reducible refine decide_eq_true ?_);(with_reducible assumption))|(with_reducible rfl)) (fun hb=>?_));(try rw[hb]);(try simp only[Aa]at hb))|((with_reducible refine Exists.intro ?_ ?_);focus (and_intros<;>first|omega|(with_reducible rfl)|kernel_rfl|(simp;done)))|(with_reducible intro hfact)|(((with_reducible apply A3));(focus rfl);(focus (simp only[D.at,D.put,D.kid,D.setKid,mkSt,Jo,D.toI,toIs,Ad,Af,hv1,Ver.toI,hwk1,hvl2]<;>exact rfl));(try(focus exact rfl))))
   all_goals(try(conv=>whnf))
   refine Round.by (k+1) ?_ ⟨hk1,hka2⟩ (by omega)
   try dsimp only
   rw[hwk1];show norm _ _=upd _ _
   kernel_rfl
  ·rw[if_neg hv2]at hka;obtain rfl:k=KA:=by omega
   clear hka;obtain⟨va,hva⟩:∃v,vs0[k]?=some v:=⟨_,List.getElem?_eq_getElem hk⟩;have hKN:Lm rev vs0=if va.gone=true∧va.rev≤rev then k+1 else k:=by unfold Lm;rw[←hKA,hva]
   rw[hKN]at hR;obtain⟨vr,vm,vv,vg⟩:=va;dsimp only at hR;have hsz:∀K,∀u∈(vs0.map Ver.toI).drop K,u.size=4:=fun K u hu=>by obtain⟨v,_,rfl⟩:=List.mem_map.1 (List.mem_of_mem_drop hu);rfl
   have hcl:∀K,_:=fun K=>Cf ((vs0.map Ver.toI).drop K) (hsz K) (by simp;omega)
   clear hKN hdr hsz;by_cases hgr:vg=true∧vr≤rev
   case neg=>
    rw[if_neg hgr,if_neg (by omega)]at hR
    have hcl:=hcl k;have hz:¬decide (((strips ((vs0.map Ver.toI).drop (k))).length:Int)=0)=true:=by rw[Ae];simp;omega
    have hz2:¬decide ((((vs0.map Ver.toI).drop (k)).length:Int)=0)=true:=by simp;omega
    have hz3:¬decide (((strips (strips ((vs0.map Ver.toI).drop (k)))).length:Int)=0)=true:=by rw[Ae];exact hz
    have hz4:¬decide ((((strips ((vs0.map Ver.toI).drop (k))).map D.it).length:Int)=0)=true:=by rw[List.length_map];exact hz
    have hz5:¬decide ((((strips (strips ((vs0.map Ver.toI).drop (k)))).map D.it).length:Int)=0)=true:=by rw[List.length_map];exact hz3
    cases vg with
    |false=>
     repeat'((conv=>whnf);first|((with_reducible refine Ax (by first|(with_reducible exact Bool.of_not_eq_false (by assumption))|(with_reducible rfl)) (fun hb=>?_));(try rw[hb]);(try simp only[Aa]at hb))|((with_reducible refine Aw (by first|(with_reducible exact Bool.of_not_eq_true (by assumption))|((with_reducible refine decide_eq_false ?_);(with_reducible assumption))|(with_reducible rfl)) (fun hb=>?_));(try rw[hb]);(try simp only[Aa]at hb))|((with_reducible refine Exists.intro ?_ ?_);focus (and_intros<;>first|omega|(with_reducible rfl)|kernel_rfl|exact Ag rfl|(simp only[LENS];omega)|(simp;done)))|(with_reducible intro hfact)|((with_reducible refine Drawn.mkV ?_ ?_ ?_ (fun hfact=>?_));(focus kernel_rfl);(focus kernel_rfl);(focus kernel_rfl);(try simp only[dRS]at hfact))|((with_reducible refine CallWp.mk ?_);refine⟨_,hcl,?_⟩;rintro _ _ ⟨rfl,rfl⟩)|((first|with_reducible apply A9|with_reducible apply Ba);(focus (simp only[D.at,D.put,D.kid,D.setKid,mkSt,Jo,D.toI,toIs,Ad,Af,hwk1,hv1,hva,Ver.toI,hvl2,Kp,hVi,Tal.toI]<;>exact rfl)))|(((with_reducible apply A3));(focus rfl);(focus (simp only[D.at,D.put,D.kid,D.setKid,mkSt,Jo,D.toI,toIs,Ad,Af,hwk1,hv1,hva,Ver.toI,hvl2,Kp,hVi,Tal.toI]<;>exact rfl));(try(focus exact rfl))))
     all_goals(try(conv=>whnf))
     have hcw:IntKind.i64.wrap (c+(((vs0.map Ver.toI).drop (k)).length:Int))=c+(vs0.length - (k):Nat):=by rw[List.length_drop,List.length_map,Bf (by omega)]
     refine Round.by (j+1,rest++[⟨a,vs0.drop (k)⟩],c+(vs0.length - (k):Nat),VS.set i (.ptr (.it (Tal.mk t.rev rev t.bytes t.keys (IntKind.i64.wrap (c+(((vs0.map Ver.toI).drop (k)).length:Int)))).toI)),Ld.set j (.it (.agg [.und,.und]))) ?_ ⟨by omega,by rw[e1,List.set_set,hcw],hsk,⟨by dsimp only;omega,by dsimp only;omega⟩,by simp;omega,hR⟩ (by dsimp only;omega)
     try dsimp only
     rw[List.map_append,List.map_cons,List.map_nil,show Hld.toD ⟨a,vs0.drop (k)⟩= .st [.it (.str a),.vec Bb 4 (((vs0.map Ver.toI).drop (k)).map D.it)]from by simp[Hld.toD,List.map_drop]]
     simp only[Ae,hw,hwk1];show norm _ _=upd _ _
     kernel_rfl
    |true=>
     have hvr:¬vr≤rev:=fun h=>hgr ⟨rfl,h⟩
     repeat'((conv=>whnf);first|((with_reducible refine Ax (by first|(with_reducible exact Bool.of_not_eq_false (by assumption))|(with_reducible rfl)) (fun hb=>?_));(try rw[hb]);(try simp only[Aa]at hb))|((with_reducible refine Aw (by first|(with_reducible exact Bool.of_not_eq_true (by assumption))|((with_reducible refine decide_eq_false ?_);(with_reducible assumption))) (fun hb=>?_));(try rw[hb]);(try simp only[Aa]at hb))|((with_reducible refine Exists.intro ?_ ?_);focus (and_intros<;>first|omega|(with_reducible rfl)|kernel_rfl|exact Ag rfl|(simp only[LENS];omega)|(simp;done)))|(with_reducible intro hfact)|((with_reducible refine Drawn.mkV ?_ ?_ ?_ (fun hfact=>?_));(focus kernel_rfl);(focus kernel_rfl);(focus kernel_rfl);(try simp only[dRS]at hfact))|((with_reducible refine CallWp.mk ?_);refine⟨_,hcl,?_⟩;rintro _ _ ⟨rfl,rfl⟩)|((first|with_reducible apply A9|with_reducible apply Ba);(focus (simp only[D.at,D.put,D.kid,D.setKid,mkSt,Jo,D.toI,toIs,Ad,Af,hwk1,hv1,hva,Ver.toI,hvl2,Kp,hVi,Tal.toI]<;>exact rfl)))|(((with_reducible apply A3));(focus rfl);(focus (simp only[D.at,D.put,D.kid,D.setKid,mkSt,Jo,D.toI,toIs,Ad,Af,hwk1,hv1,hva,Ver.toI,hvl2,Kp,hVi,Tal.toI]<;>exact rfl));(try(focus exact rfl))))
     all_goals(try(conv=>whnf))
     have hcw:IntKind.i64.wrap (c+(((vs0.map Ver.toI).drop (k)).length:Int))=c+(vs0.length - (k):Nat):=by rw[List.length_drop,List.length_map,Bf (by omega)]
     refine Round.by (j+1,rest++[⟨a,vs0.drop (k)⟩],c+(vs0.length - (k):Nat),VS.set i (.ptr (.it (Tal.mk t.rev rev t.bytes t.keys (IntKind.i64.wrap (c+(((vs0.map Ver.toI).drop (k)).length:Int)))).toI)),Ld.set j (.it (.agg [.und,.und]))) ?_ ⟨by omega,by rw[e1,List.set_set,hcw],hsk,⟨by dsimp only;omega,by dsimp only;omega⟩,by simp;omega,hR⟩ (by dsimp only;omega)
     try dsimp only
     rw[List.map_append,List.map_cons,List.map_nil,show Hld.toD ⟨a,vs0.drop (k)⟩= .st [.it (.str a),.vec Bb 4 (((vs0.map Ver.toI).drop (k)).map D.it)]from by simp[Hld.toD,List.map_drop]]
     simp only[Ae,hw,hwk1];show norm _ _=upd _ _
     kernel_rfl
   obtain⟨rfl,hvr⟩:=hgr;have hKK:(if true=true∧vr≤rev then k+1 else k)=k+1:=if_pos ⟨rfl,hvr⟩
   rw[hKK]at hR;have hcl:=hcl (k+1);have hke:¬vs0.length≤k+1:=by omega
   rw[if_neg hke]at hR;have hz:¬decide (((strips ((vs0.map Ver.toI).drop (k+1))).length:Int)=0)=true:=by rw[Ae];simp;omega
   have hz2:¬decide ((((vs0.map Ver.toI).drop (k+1)).length:Int)=0)=true:=by simp;omega
   have hz3:¬decide (((strips (strips ((vs0.map Ver.toI).drop (k+1)))).length:Int)=0)=true:=by rw[Ae];exact hz
   have hz4:¬decide ((((strips ((vs0.map Ver.toI).drop (k+1))).map D.it).length:Int)=0)=true:=by rw[List.length_map];exact hz
   have hz5:¬decide ((((strips (strips ((vs0.map Ver.toI).drop (k+1)))).map D.it).length:Int)=0)=true:=by rw[List.length_map];exact hz3
   repeat'((conv=>whnf);first|((with_reducible refine Ax (by first|(with_reducible exact Bool.of_not_eq_false (by assumption))|((with_reducible refine decide_eq_true ?_);(with_reducible assumption))|(with_reducible rfl)) (fun hb=>?_));(try rw[hb]);(try simp only[Aa]at hb))|((with_reducible refine Aw (by first|(with_reducible exact Bool.of_not_eq_true (by assumption))|((with_reducible refine decide_eq_false ?_);(with_reducible assumption))) (fun hb=>?_));(try rw[hb]);(try simp only[Aa]at hb))|((with_reducible refine Exists.intro ?_ ?_);focus (and_intros<;>first|omega|(with_reducible rfl)|kernel_rfl|exact Ag rfl|(simp only[LENS];omega)|(simp;done)))|(with_reducible intro hfact)|((with_reducible refine Drawn.mkV ?_ ?_ ?_ (fun hfact=>?_));(focus kernel_rfl);(focus kernel_rfl);(focus kernel_rfl);(try simp only[dRS]at hfact))|((with_reducible refine CallWp.mk ?_);refine⟨_,hcl,?_⟩;rintro _ _ ⟨rfl,rfl⟩)|((first|with_reducible apply A9|with_reducible apply Ba);(focus (simp only[D.at,D.put,D.kid,D.setKid,mkSt,Jo,D.toI,toIs,Ad,Af,hwk1,hv1,hva,Ver.toI,hvl2,Kp,hVi,Tal.toI]<;>exact rfl)))|(((with_reducible apply A3));(focus rfl);(focus (simp only[D.at,D.put,D.kid,D.setKid,mkSt,Jo,D.toI,toIs,Ad,Af,hwk1,hv1,hva,Ver.toI,hvl2,Kp,hVi,Tal.toI]<;>exact rfl));(try(focus exact rfl))))
   all_goals(try(conv=>whnf))
   have hcw:IntKind.i64.wrap (c+(((vs0.map Ver.toI).drop (k+1)).length:Int))=c+(vs0.length - (k+1):Nat):=by rw[List.length_drop,List.length_map,Bf (by omega)]
   refine Round.by (j+1,rest++[⟨a,vs0.drop (k+1)⟩],c+(vs0.length - (k+1):Nat),VS.set i (.ptr (.it (Tal.mk t.rev rev t.bytes t.keys (IntKind.i64.wrap (c+(((vs0.map Ver.toI).drop (k+1)).length:Int)))).toI)),Ld.set j (.it (.agg [.und,.und]))) ?_ ⟨by omega,by rw[e1,List.set_set,hcw],hsk,⟨by dsimp only;omega,by dsimp only;omega⟩,by simp;omega,hR⟩ (by dsimp only;omega)
   try dsimp only
   rw[List.map_append,List.map_cons,List.map_nil,show Hld.toD ⟨a,vs0.drop (k+1)⟩= .st [.it (.str a),.vec Bb 4 (((vs0.map Ver.toI).drop (k+1)).map D.it)]from by simp[Hld.toD,List.map_drop]]
   simp only[Ae,hw,hwk1];show norm _ _=upd _ _
   kernel_rfl
 ·have hlt3:¬decide (((k+1:Nat):Int)<(vs0.length:Int))=true:=by simp;omega
  have hlt5:¬decide (IntKind.i64.wrap ((k:Int)+1)<(vs0.length:Int))=true:=by rw[hwk1];exact hlt3
  have hlt6:¬decide (IntKind.i64.wrap ((k:Int)+1)<(((vs0.map Ver.toI).map D.it).length:Int))=true:=by rw[hvl2];exact hlt5
  rw[List.getElem?_eq_none (by omega)]at hka
  have hka:0+k=KA:=hka;obtain rfl:k=KA:=by omega
  have hv1:vs0[k+1]?=none:=List.getElem?_eq_none (by omega)
  obtain⟨va,hva⟩:∃v,vs0[k]?=some v:=⟨_,List.getElem?_eq_getElem hk⟩;have hKN:Lm rev vs0=if va.gone=true∧va.rev≤rev then k+1 else k:=by unfold Lm;rw[←hKA,hva]
  rw[hKN]at hR;obtain⟨vr,vm,vv,vg⟩:=va;dsimp only at hR;have hsz:∀K,∀u∈(vs0.map Ver.toI).drop K,u.size=4:=fun K u hu=>by obtain⟨v,_,rfl⟩:=List.mem_map.1 (List.mem_of_mem_drop hu);rfl
  have hcl:∀K,_:=fun K=>Cf ((vs0.map Ver.toI).drop K) (hsz K) (by simp;omega)
  clear hKN hdr hsz;by_cases hgr:vg=true∧vr≤rev
  case neg=>
   rw[if_neg hgr,if_neg (by omega)]at hR
   have hcl:=hcl k;have hz:¬decide (((strips ((vs0.map Ver.toI).drop (k))).length:Int)=0)=true:=by rw[Ae];simp;omega
   have hz2:¬decide ((((vs0.map Ver.toI).drop (k)).length:Int)=0)=true:=by simp;omega
   have hz3:¬decide (((strips (strips ((vs0.map Ver.toI).drop (k)))).length:Int)=0)=true:=by rw[Ae];exact hz
   have hz4:¬decide ((((strips ((vs0.map Ver.toI).drop (k))).map D.it).length:Int)=0)=true:=by rw[List.length_map];exact hz
   have hz5:¬decide ((((strips (strips ((vs0.map Ver.toI).drop (k)))).map D.it).length:Int)=0)=true:=by rw[List.length_map];exact hz3
   cases vg with
   |false=>
    repeat'((conv=>whnf);first|((with_reducible refine Aw (by first|(with_reducible exact Bool.of_not_eq_true (by assumption))|(with_reducible rfl)) (fun hb=>?_));(try rw[hb]);(try simp only[Aa]at hb))|((with_reducible refine Exists.intro ?_ ?_);focus (and_intros<;>first|omega|(with_reducible rfl)|kernel_rfl|exact Ag rfl|(simp only[LENS];omega)|(simp;done)))|(with_reducible intro hfact)|((with_reducible refine Drawn.mkV ?_ ?_ ?_ (fun hfact=>?_));(focus kernel_rfl);(focus kernel_rfl);(focus kernel_rfl);(try simp only[dRS]at hfact))|((with_reducible refine CallWp.mk ?_);refine⟨_,hcl,?_⟩;rintro _ _ ⟨rfl,rfl⟩)|((first|with_reducible apply A9|with_reducible apply Ba);(focus (simp only[D.at,D.put,D.kid,D.setKid,mkSt,Jo,D.toI,toIs,Ad,Af,hwk1,hv1,hva,Ver.toI,hvl2,Kp,hVi,Tal.toI]<;>exact rfl)))|(((with_reducible apply A3));(focus rfl);(focus (simp only[D.at,D.put,D.kid,D.setKid,mkSt,Jo,D.toI,toIs,Ad,Af,hwk1,hv1,hva,Ver.toI,hvl2,Kp,hVi,Tal.toI]<;>exact rfl));(try(focus exact rfl))))
    all_goals(try(conv=>whnf))
    have hcw:IntKind.i64.wrap (c+(((vs0.map Ver.toI).drop (k)).length:Int))=c+(vs0.length - (k):Nat):=by rw[List.length_drop,List.length_map,Bf (by omega)]
    refine Round.by (j+1,rest++[⟨a,vs0.drop (k)⟩],c+(vs0.length - (k):Nat),VS.set i (.ptr (.it (Tal.mk t.rev rev t.bytes t.keys (IntKind.i64.wrap (c+(((vs0.map Ver.toI).drop (k)).length:Int)))).toI)),Ld.set j (.it (.agg [.und,.und]))) ?_ ⟨by omega,by rw[e1,List.set_set,hcw],hsk,⟨by dsimp only;omega,by dsimp only;omega⟩,by simp;omega,hR⟩ (by dsimp only;omega)
    try dsimp only
    rw[List.map_append,List.map_cons,List.map_nil,show Hld.toD ⟨a,vs0.drop (k)⟩= .st [.it (.str a),.vec Bb 4 (((vs0.map Ver.toI).drop (k)).map D.it)]from by simp[Hld.toD,List.map_drop]]
    simp only[Ae,hw,hwk1];show norm _ _=upd _ _
    kernel_rfl
   |true=>
    have hvr:¬vr≤rev:=fun h=>hgr ⟨rfl,h⟩
    repeat'((conv=>whnf);first|((with_reducible refine Ax (by first|(with_reducible exact Bool.of_not_eq_false (by assumption))|(with_reducible rfl)) (fun hb=>?_));(try rw[hb]);(try simp only[Aa]at hb))|((with_reducible refine Aw (by first|(with_reducible exact Bool.of_not_eq_true (by assumption))|((with_reducible refine decide_eq_false ?_);(with_reducible assumption))|(with_reducible rfl)) (fun hb=>?_));(try rw[hb]);(try simp only[Aa]at hb))|((with_reducible refine Exists.intro ?_ ?_);focus (and_intros<;>first|omega|(with_reducible rfl)|kernel_rfl|exact Ag rfl|(simp only[LENS];omega)|(simp;done)))|(with_reducible intro hfact)|((with_reducible refine Drawn.mkV ?_ ?_ ?_ (fun hfact=>?_));(focus kernel_rfl);(focus kernel_rfl);(focus kernel_rfl);(try simp only[dRS]at hfact))|((with_reducible refine CallWp.mk ?_);refine⟨_,hcl,?_⟩;rintro _ _ ⟨rfl,rfl⟩)|((first|with_reducible apply A9|with_reducible apply Ba);(focus (simp only[D.at,D.put,D.kid,D.setKid,mkSt,Jo,D.toI,toIs,Ad,Af,hwk1,hv1,hva,Ver.toI,hvl2,Kp,hVi,Tal.toI]<;>exact rfl)))|(((with_reducible apply A3));(focus rfl);(focus (simp only[D.at,D.put,D.kid,D.setKid,mkSt,Jo,D.toI,toIs,Ad,Af,hwk1,hv1,hva,Ver.toI,hvl2,Kp,hVi,Tal.toI]<;>exact rfl));(try(focus exact rfl))))
    all_goals(try(conv=>whnf))
    have hcw:IntKind.i64.wrap (c+(((vs0.map Ver.toI).drop (k)).length:Int))=c+(vs0.length - (k):Nat):=by rw[List.length_drop,List.length_map,Bf (by omega)]
    refine Round.by (j+1,rest++[⟨a,vs0.drop (k)⟩],c+(vs0.length - (k):Nat),VS.set i (.ptr (.it (Tal.mk t.rev rev t.bytes t.keys (IntKind.i64.wrap (c+(((vs0.map Ver.toI).drop (k)).length:Int)))).toI)),Ld.set j (.it (.agg [.und,.und]))) ?_ ⟨by omega,by rw[e1,List.set_set,hcw],hsk,⟨by dsimp only;omega,by dsimp only;omega⟩,by simp;omega,hR⟩ (by dsimp only;omega)
    try dsimp only
    rw[List.map_append,List.map_cons,List.map_nil,show Hld.toD ⟨a,vs0.drop (k)⟩= .st [.it (.str a),.vec Bb 4 (((vs0.map Ver.toI).drop (k)).map D.it)]from by simp[Hld.toD,List.map_drop]]
    simp only[Ae,hw,hwk1];show norm _ _=upd _ _
    kernel_rfl
  obtain⟨rfl,hvr⟩:=hgr;have hKK:(if true=true∧vr≤rev then k+1 else k)=k+1:=if_pos ⟨rfl,hvr⟩
  rw[hKK]at hR;have hcl:=hcl (k+1);have hke:vs0.length≤k+1:=by omega
  rw[if_pos hke]at hR;have hz:¬decide (((strips ((vs0.map Ver.toI).drop (k+1))).length:Int)=0)=false:=by rw[Ae];simp;omega
  have hz2:¬decide ((((vs0.map Ver.toI).drop (k+1)).length:Int)=0)=false:=by simp;omega
  have hz3:¬decide (((strips (strips ((vs0.map Ver.toI).drop (k+1)))).length:Int)=0)=false:=by rw[Ae];exact hz
  have hz4:¬decide ((((strips ((vs0.map Ver.toI).drop (k+1))).map D.it).length:Int)=0)=false:=by rw[List.length_map];exact hz
  have hz5:¬decide ((((strips (strips ((vs0.map Ver.toI).drop (k+1)))).map D.it).length:Int)=0)=false:=by rw[List.length_map];exact hz3
  repeat'((conv=>whnf);first|((with_reducible refine Ax (by first|(with_reducible exact Bool.of_not_eq_false (by assumption))|((with_reducible refine decide_eq_true ?_);(with_reducible assumption))|(with_reducible rfl)) (fun hb=>?_));(try rw[hb]);(try simp only[Aa]at hb))|((with_reducible refine Aw (by first|(with_reducible exact Bool.of_not_eq_true (by assumption))|(with_reducible rfl)) (fun hb=>?_));(try rw[hb]);(try simp only[Aa]at hb))|((with_reducible refine Exists.intro ?_ ?_);focus (and_intros<;>first|omega|(with_reducible rfl)|kernel_rfl|(simp;done)))|(with_reducible intro hfact)|((with_reducible refine Drawn.mkV ?_ ?_ ?_ (fun hfact=>?_));(focus kernel_rfl);(focus kernel_rfl);(focus kernel_rfl);(try simp only[dRS]at hfact))|((with_reducible refine CallWp.mk ?_);refine⟨_,hcl,?_⟩;rintro _ _ ⟨rfl,rfl⟩)|((first|with_reducible apply A9|with_reducible apply Ba);(focus (simp only[D.at,D.put,D.kid,D.setKid,mkSt,Jo,D.toI,toIs,Ad,Af,hwk1,hv1,hva,Ver.toI,hvl2,Kp,hVi,Tal.toI]<;>exact rfl)))|(((with_reducible apply A3));(focus rfl);(focus (simp only[D.at,D.put,D.kid,D.setKid,mkSt,Jo,D.toI,toIs,Ad,Af,hwk1,hv1,hva,Ver.toI,hvl2,Kp,hVi,Tal.toI]<;>exact rfl));(try(focus exact rfl))))
  all_goals(try(conv=>whnf))
  have hcw:IntKind.i64.wrap (c+(((vs0.map Ver.toI).drop (k+1)).length:Int))=c:=by rw[List.length_drop,List.length_map,Bf (by omega)];omega
  refine Round.by (j+1,rest,c,VS.set i (.ptr (.it (Tal.mk t.rev rev t.bytes t.keys (IntKind.i64.wrap (c+(((vs0.map Ver.toI).drop (k+1)).length:Int)))).toI)),Ld.set j (.it (.agg [.und,.und]))) ?_ ⟨by omega,by rw[e1,List.set_set,hcw],hsk,⟨by dsimp only;omega,by dsimp only;omega⟩,by dsimp only;omega,hR⟩ (by dsimp only;omega)
  try dsimp only
  simp only[Ae,hw,hwk1];show norm _ _=upd _ _
  kernel_rfl

theorem Ag8{lt:Nat→Bool}(hm:∀a b,a≤b→lt b=true→lt a=true):∀f i j,i≤j→j - i≤f→
 (∀q,i≤q→q<bsGo lt f i j→lt q=true)∧(∀q,bsGo lt f i j≤q→q<j→lt q=false)
 |0,i,j,h1,h2=>by
  unfold bsGo;exact⟨fun q a b=>by omega,fun q a b=>by omega⟩
 |f+1,i,j,h1,h2=>by
  unfold bsGo;by_cases hij:i<j
  ·rw[if_pos hij];by_cases hl:lt ((i+j) / 2)=true
   ·rw[if_pos hl];obtain⟨a,b⟩:=Ag8 hm f ((i+j) / 2+1) j (by omega) (by omega)
    refine⟨fun q c d=>?_,b⟩
    by_cases hq:(i+j) / 2+1≤q
    ·exact a q hq d
    ·exact hm q _ (by omega) hl
   ·rw[if_neg hl];obtain⟨a,b⟩:=Ag8 hm f i ((i+j) / 2) (by omega) (by omega)
    refine⟨a,fun q c d=>?_⟩
    by_cases hq:q<(i+j) / 2
    ·exact b q c hq
    ·cases hlq:lt q with
     |false=>rfl
     |true=>exact absurd (hm _ q (by omega) hlq) hl
  ·rw[if_neg hij];exact⟨fun q a b=>by omega,fun q a b=>by omega⟩
theorem Aho{α:Type}{lt:α→Bool}{l:List α}(hs:l.Pairwise fun x y=>lt y=true→lt x=true):
 (∀x∈l.take (Km lt l),lt x=true)∧(∀x∈l.drop (Km lt l),lt x=false):=by
 have hm:∀a b:Nat,a≤b→(l[b]?).any lt=true→(l[a]?).any lt=true:=by
  intro a b hab hb;cases hlb:l[b]? with
  |none=>rw[hlb]at hb;cases hb
  |some y=>
   rw[hlb]at hb;obtain⟨hbl,e⟩:=List.getElem?_eq_some_iff.1 hlb;rcases Nat.lt_or_eq_of_le hab with h|h
   ·have:=List.pairwise_iff_getElem.1 hs a b (by omega) hbl h
    rw[List.getElem?_eq_getElem (by omega)]
    exact this (by rw[e];exact hb)
   ·subst h;rw[hlb];exact hb
 obtain⟨h1,h2⟩:=Ag8 hm l.length 0 l.length (Nat.zero_le _) (by omega)
 constructor
 ·intro x hx;obtain⟨i,hi,rfl⟩:=List.mem_iff_getElem.1 hx;rw[List.length_take]at hi;have:=h1 i (Nat.zero_le _) (show i<Km lt l by omega)
  rw[List.getElem?_eq_getElem (by omega)]at this
  rw[List.getElem_take];exact this
 ·intro x hx;obtain⟨i,hi,rfl⟩:=List.mem_iff_getElem.1 hx;rw[List.length_drop]at hi;have:=h2 (Km lt l+i) (show Km lt l≤_ by omega) (by omega)
  rw[List.getElem?_eq_getElem (by omega)]at this
  rw[List.getElem_drop];exact this
abbrev VSo(vs:List Ver):Prop:=vs.Pairwise fun a b=>a.rev<b.rev
theorem VSo.drop{vs:List Ver}(h:VSo vs)(k:Nat):VSo (vs.drop k):=List.Pairwise.sublist (List.drop_sublist k vs) h
def gV(n:Az)(rev:Int)(h:Hld):Option (Az × Ver):=if(C1 h.at_).1=n∧(D1 h.vs rev).2=true then some ((C1 h.at_).2.1,(D1 h.vs rev).1)else none
def Lh(n:Az)(rev:Int)(l:List Hld):List (Az × Ver):=l.filterMap (gV n rev)
abbrev LSo(l:List Hld):Prop:=(l.map Hld.at_).Pairwise (· < ·)
theorem Ahi:∀{p a k:Az},¬a<p→a<p++k→p<+:a
 | [],a,k,_,_=>List.nil_prefix
 |c::p,[],k,h,_=>absurd (List.nil_lt_cons c p) h
 |c::p,x::a,k,h1,h2=>by
  simp only[List.cons_append]at h2;rw[List.cons_lt_cons_iff]at h1 h2;have hxc:x=c:=by
   rcases h2 with h2|h2
   ·exact absurd (.inl h2) h1
   ·exact h2.1
  subst hxc;rw[List.cons_prefix_cons];refine⟨rfl,Ahi (k:=k) (fun h=>h1 (.inr ⟨rfl,h⟩)) ?_⟩
  rcases h2 with h2|h2
  ·exact absurd h2 (UInt8.lt_irrefl _)
  ·exact h2.2
def Lies(a:Az):Prop:=∃n k,a=B7 n k∧n.length<256
theorem Lies.whose{a:Az}(h:Lies a):a=B7 (C1 a).1 (C1 a).2.1∧(C1 a).1.length<256:=by
 obtain⟨n,k,rfl,hn⟩:=h;rw[Mt hn];exact⟨rfl,hn⟩
theorem Ahd(n k:Az):B7 n k=B7 n []++k:=by simp[B7]
theorem Aio{l:List Hld}{n:Az}{rev:Int}(hn:n.length<256)(hl:LSo l)(hv:∀h∈l,Lies h.at_):
 Lh n rev (l.take (Km (Kh (B7 n [])) l))=[]∧(l.drop (Km (Kh (B7 n [])) l)).Pairwise fun a b=>(C1 b.at_).1=n→(C1 a.at_).1=n:=by
 rw[LSo,List.pairwise_map]at hl;obtain⟨h1,h2⟩:=Aho (lt:=Kh (B7 n [])) (l:=l) (hl.imp fun {a b} hab hb=>by simp only[Kh,decide_eq_true_eq]at*;exact List.lt_trans hab hb)
 constructor
 ·unfold Lh;rw[List.filterMap_eq_nil_iff];intro a ha;unfold gV;rw[if_neg];rintro⟨e,_⟩;have h3:=(hv a (List.mem_of_mem_take ha)).whose.1;have h4:=h1 a ha;simp only[Kh,decide_eq_true_eq]at h4;rw[e]at h3;rw[h3,Ahd]at h4;exact absurd h4 (List.not_lt.2 (by
   have:=List.prefix_append (B7 n []) (C1 a.at_).2.1;exact List.IsPrefix.le this))
 ·refine(List.Pairwise.sublist (List.drop_sublist _ _) hl).imp_of_mem fun {a b} ha hb hab e=>?_
  have h3:=(hv b (List.mem_of_mem_drop hb)).whose.1;rw[e,Ahd]at h3;have h4:=h2 a ha;simp only[Kh,decide_eq_false_iff_not]at h4;rw[h3]at hab;obtain⟨k,hk⟩:=Ahi h4 hab;rw[←hk, ←Ahd,Mt hn]
theorem Aiw{β:Type}{g:Hld→Option β}{l:List Hld}{a:Az}{v:Ver}(h0:g ⟨a,[v]⟩=none)(h1:∀h∈l,h.at_=a→g ⟨h.at_,h.vs++[v]⟩=g h):(putA l a v).filterMap g=l.filterMap g:=by
 unfold putA putL;split
 ·rename_i hf;obtain⟨e,h2,h3⟩:=Afp hf;rw[Zv h2];have hi:=(List.getElem?_eq_some_iff.1 h2).1;generalize Km (Kh a) l=p at*;have h4:=h1 e (List.mem_of_getElem? h2) (by simpa[eqH]using h3)
  rw[List.set_eq_take_append_cons_drop,if_pos hi]
  conv=>rhs;rw[←List.take_append_drop p l,List.drop_eq_getElem_cons hi]
  rw[List.filterMap_append,List.filterMap_append,List.filterMap_cons,List.filterMap_cons];rw[List.getElem?_eq_getElem hi]at h2;simp only[Option.some.injEq]at h2;rw[h2,h4]
 ·rw[List.filterMap_append,List.filterMap_cons,h0];dsimp only;rw[←List.filterMap_append,List.take_append_drop]

open Go.Proofs
def Sto.openM(s:Sto)(nm:Bool)(n:Az):Sto × Int:=
 if nm=false then(s,5)else if(s.fi n).isSome=true then(s,15)else if 8≤s.sp.length then(s,17)else({s with sp:=s.sp++[(n,tal0)]},0)
theorem Aa2(s:Sto)(n:Az)(nm:Bool)(hnm:Fn Tryd.prog Mr [.v (.str n)] (Is (.v (.bool nm)) [.no])):
 Fn Tryd.prog Ec [sP s,.v (.str n)] (Is (.v (ti (s.openM nm n).2)) [sP (s.openM nm n).1,.no]):=by
 refine Fz ?_ (by simp)
 have hkl:(s.sp.map fun x=>I.str x.1).length=s.sp.length:=List.length_map _
 cases nm with
 |false=>
  have hM:s.openM false n=(s,5):=by simp[Sto.openM]
  rw[hM];cases hf:s.fi n with
  |none=>
   obtain⟨h1,h2⟩:=Sto.fi_none hf;repeat'((conv=>whnf);first|((with_reducible refine Ax (by(with_reducible rfl)) (fun hb=>?_));(try rw[hb]);(try simp only[Aa]at hb))|((with_reducible refine Aw (by(with_reducible rfl)) (fun hb=>?_));(try rw[hb]);(try simp only[Aa]at hb))|((with_reducible refine And.intro (fun hb=>?_) (fun hb=>?_))<;>first|(exact absurd hb (by decide))|((try rw[hb]);(try simp only[Aa]at hb)))|((with_reducible refine Exists.intro ?_ ?_);focus (and_intros<;>first|omega|(with_reducible rfl)|kernel_rfl|(intro _ hh;cases hh;done)|(simp;done)|decide))|((refine Au ?_))|((with_reducible refine CallWp.mk ?_);refine⟨_,hnm,?_⟩;rintro _ _ ⟨rfl,rfl⟩)|(((with_reducible apply A9));(focus (simp only[D.at,D.put,D.kid,D.setKid,mkSt,Jo,D.toI,toIs,Ad,Af,h1,Sto.toD]<;>exact rfl))))
   all_goals(try(conv=>whnf))
   (apply dKq<;>kernel_rfl)
  |some i=>
   obtain⟨h1,h2,h3⟩:=Sto.fi_some hf;repeat'((conv=>whnf);first|((with_reducible refine Ax (by(with_reducible rfl)) (fun hb=>?_));(try rw[hb]);(try simp only[Aa]at hb))|((with_reducible refine Aw (by(with_reducible rfl)) (fun hb=>?_));(try rw[hb]);(try simp only[Aa]at hb))|((with_reducible refine And.intro (fun hb=>?_) (fun hb=>?_))<;>first|(exact absurd hb (by decide))|((try rw[hb]);(try simp only[Aa]at hb)))|((with_reducible refine Exists.intro ?_ ?_);focus (and_intros<;>first|omega|(with_reducible rfl)|kernel_rfl|(intro _ hh;cases hh;done)|(simp;done)|decide))|((with_reducible refine And.intro ?_ ?_);focus (decide))|((refine Au ?_))|((with_reducible refine CallWp.mk ?_);refine⟨_,hnm,?_⟩;rintro _ _ ⟨rfl,rfl⟩)|(((with_reducible apply A9));(focus (simp only[D.at,D.put,D.kid,D.setKid,mkSt,Jo,D.toI,toIs,Ad,Af,h1,h3,Sto.toD,Tal.toI]<;>exact rfl))))
   all_goals(try(conv=>whnf))
   (apply dKq<;>kernel_rfl)
 |true=>
  cases hf:s.fi n with
  |some i=>
   have hM:s.openM true n=(s,15):=by simp[Sto.openM,hf]
   rw[hM];obtain⟨h1,h2,h3⟩:=Sto.fi_some hf;repeat'((conv=>whnf);first|((with_reducible refine Ax (by(with_reducible rfl)) (fun hb=>?_));(try rw[hb]);(try simp only[Aa]at hb))|((with_reducible refine Aw (by(with_reducible rfl)) (fun hb=>?_));(try rw[hb]);(try simp only[Aa]at hb))|((with_reducible refine And.intro (fun hb=>?_) (fun hb=>?_))<;>first|(exact absurd hb (by decide))|((try rw[hb]);(try simp only[Aa]at hb)))|((with_reducible refine Exists.intro ?_ ?_);focus (and_intros<;>first|omega|(with_reducible rfl)|kernel_rfl|(intro _ hh;cases hh;done)|(simp;done)|decide))|((with_reducible refine And.intro ?_ ?_);focus (decide))|((refine Au ?_))|((with_reducible refine CallWp.mk ?_);refine⟨_,hnm,?_⟩;rintro _ _ ⟨rfl,rfl⟩)|(((with_reducible apply A9));(focus (simp only[D.at,D.put,D.kid,D.setKid,mkSt,Jo,D.toI,toIs,Ad,Af,h1,h3,Sto.toD,Tal.toI]<;>exact rfl))))
   all_goals(try(conv=>whnf))
   (apply dKq<;>kernel_rfl)
  |none=>
   obtain⟨h1,h2⟩:=Sto.fi_none hf;by_cases hl:8≤s.sp.length
   ·have hM:s.openM true n=(s,17):=by simp[Sto.openM,hf,hl]
    have hb8:¬decide ((8:Int)≤(s.sp.length:Int))=false:=by simp;omega
    rw[hM];repeat'((conv=>whnf);first|((with_reducible refine Ax (by first|(with_reducible exact Bool.of_not_eq_false (by assumption))|((with_reducible refine decide_eq_true ?_);omega)|(with_reducible rfl)) (fun hb=>?_));(try rw[hb]);(try simp only[Aa]at hb))|((with_reducible refine Aw (by(with_reducible rfl)) (fun hb=>?_));(try rw[hb]);(try simp only[Aa]at hb))|((with_reducible refine And.intro (fun hb=>?_) (fun hb=>?_))<;>first|(exact absurd hb (by decide))|((try rw[hb]);(try simp only[Aa]at hb)))|((with_reducible refine Exists.intro ?_ ?_);focus (and_intros<;>first|omega|(with_reducible rfl)|kernel_rfl|(intro _ hh;cases hh;done)|(simp;done)|decide))|((refine Au ?_))|((with_reducible refine CallWp.mk ?_);refine⟨_,hnm,?_⟩;rintro _ _ ⟨rfl,rfl⟩)|(((with_reducible apply A9));(focus (simp only[D.at,D.put,D.kid,D.setKid,mkSt,Jo,D.toI,toIs,Ad,Af,h1,hkl,Sto.toD]<;>exact rfl))))
    all_goals(try(conv=>whnf))
    (apply dKq<;>kernel_rfl)
   ·have hM:s.openM true n=({s with sp:=s.sp++[(n,tal0)]},0):=by simp[Sto.openM,hf,hl]
    have hb8:¬decide ((8:Int)≤(s.sp.length:Int))=true:=by simp;omega
    have hfin:sP {s with sp:=s.sp++[(n,tal0)]}= .own [] (.ptr (.st [.map ((s.sp.map fun x=>.str x.1)++[.str n]) ((s.sp.map fun x=>.ptr (.it x.2.toI))++[.ptr (.it tal0.toI)]),.vec Dr 2 (s.l.map Hld.toD)])):=by
     simp only[sP,Sto.toD,List.map_append,List.map_cons,List.map_nil]
    rw[hM];repeat'((conv=>whnf);first|((with_reducible refine Ax (by(with_reducible rfl)) (fun hb=>?_));(try rw[hb]);(try simp only[Aa]at hb))|((with_reducible refine Aw (by first|(with_reducible exact Bool.of_not_eq_true (by assumption))|((with_reducible refine decide_eq_false ?_);omega)|(with_reducible rfl)) (fun hb=>?_));(try rw[hb]);(try simp only[Aa]at hb))|((with_reducible refine And.intro (fun hb=>?_) (fun hb=>?_))<;>first|(exact absurd hb (by decide))|((try rw[hb]);(try simp only[Aa]at hb)))|((with_reducible refine Exists.intro ?_ ?_);focus (and_intros<;>first|omega|(with_reducible rfl)|kernel_rfl|(intro _ hh;cases hh;done)|(simp;done)|decide))|((refine Au ?_))|((with_reducible refine CallWp.mk ?_);refine⟨_,hnm,?_⟩;rintro _ _ ⟨rfl,rfl⟩)|(((with_reducible apply A9));(focus (simp only[D.at,D.put,D.kid,D.setKid,mkSt,Jo,D.toI,toIs,Ad,Af,h1,hkl,Sto.toD,Lt]<;>exact rfl))))
    all_goals(try(conv=>whnf))
    refine Done.mk ⟨by kernel_rfl,?_⟩ (by kernel_rfl)
    rw[show sP (({s with sp:=s.sp++[(n,tal0)]},0):Sto × Int).1=_ from hfin]
    kernel_rfl
end Go.Ab
