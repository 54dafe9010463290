/- Lemmas -/
import Derived.Test.YtkpojedpcabojaaGreatDoorWC
import Derived.Test.YtkpojedpcabojaaGreatDoorW9
set_option linter.unusedVariables false
set_option linter.unusedSimpArgs false
set_option maxRecDepth 100000
set_option maxHeartbeats 40000000
namespace Go.Ab
open Go.Proofs
abbrev A4e:FuncId:=Axb
theorem Bai(s:Cn)(n:Az)(rev:Int)(hf:s.fi n=none):
 Fn Tryz.prog A4e [sP s,.v (.str n),.v (ti rev)] (Is (.v (ti 16)) [sP s,.no,.no]):=by
 refine Aun ?_ (by simp)
 obtain⟨h1,h2⟩:=Cn.Ayr hf;repeat'((conv=>whnf);first|(with_reducible first|refine Ax (by rfl) fun hb=>?_|refine Aw (by rfl) fun hb=>?_);(try rw[hb]);try simp only[Aa]at hb|((with_reducible refine A5 (fun hb=>?_) fun hb=>?_)<;>first|exact absurd hb (by decide)|(try rw[hb]);try simp only[Aa]at hb)|(with_reducible refine Ac ?_ ?_);focus (and_intros<;>first|omega|with_reducible rfl|kernel_rfl|simp;done)|refine Au ?_|(with_reducible apply A9);(focus (simp only[D.at,D.put,D.Xw,D.Fh,Mg,Jo,D.Bx,Js,Ad,Af,h1,Cn.toD]<;>exact rfl)))
 all_goals(try(conv=>whnf))
 (apply Dj<;>kernel_rfl)
def Cn.Aw1(s:Cn)(n:Az)(rev:Int):Int:=if rev<0 then 1 else if(s.Zp n).rev<rev then 13 else if rev<(s.Zp n).floor then 14 else 0
theorem Bcr(s:Cn)(n:Az)(rev:Int)(i:Nat)(hf:s.fi n=some i)(he:s.Aw1 n rev≠0):
 Fn Tryz.prog A4e [sP s,.v (.str n),.v (ti rev)] (Is (.v (ti (s.Aw1 n rev))) [sP s,.no,.no]):=by
 refine Aun ?_ (by simp)
 obtain⟨h1,h2,h3⟩:=Cn.Ari hf;unfold Cn.Aw1 at he ⊢;by_cases g1:rev<0
 ·rw[if_pos g1];repeat'((conv=>whnf);first|(with_reducible refine Ax (by first|refine decide_eq_true ?_;assumption|rfl) fun hb=>?_);(try rw[hb]);try simp only[Aa]at hb|((with_reducible refine A5 (fun hb=>?_) fun hb=>?_)<;>first|exact absurd hb (by decide)|(try rw[hb]);try simp only[Aa]at hb)|(with_reducible refine Ac ?_ ?_);focus (and_intros<;>first|omega|with_reducible rfl|kernel_rfl|simp;done)|(with_reducible refine A5 ?_ ?_);focus (decide)|refine Au ?_|(with_reducible apply A9);(focus (simp only[D.at,D.put,D.Xw,D.Fh,Mg,Jo,D.Bx,Js,Ad,Af,h1,h3,Cn.toD,Tal.Bx]<;>exact rfl)))
  all_goals(try(conv=>whnf))
  (apply Dj<;>kernel_rfl)
 rw[if_neg g1]at he ⊢;by_cases g2:(s.Zp n).rev<rev
 ·rw[if_pos g2];repeat'((conv=>whnf);first|(with_reducible first|refine Ax (by first|refine decide_eq_true ?_;assumption|rfl) fun hb=>?_|refine Aw (by first|refine decide_eq_false ?_;assumption|rfl) fun hb=>?_);(try rw[hb]);try simp only[Aa]at hb|((with_reducible refine A5 (fun hb=>?_) fun hb=>?_)<;>first|exact absurd hb (by decide)|(try rw[hb]);try simp only[Aa]at hb)|(with_reducible refine Ac ?_ ?_);focus (and_intros<;>first|omega|with_reducible rfl|kernel_rfl|simp;done)|(with_reducible refine A5 ?_ ?_);focus (decide)|refine Au ?_|(with_reducible apply A9);(focus (simp only[D.at,D.put,D.Xw,D.Fh,Mg,Jo,D.Bx,Js,Ad,Af,h1,h3,Cn.toD,Tal.Bx]<;>exact rfl))|(with_reducible apply A3);(focus rfl);(focus (simp only[D.at,D.put,D.Xw,D.Fh,Mg,Jo,D.Bx,Js,Ad,Af,h1,h3,Cn.toD,Tal.Bx]<;>exact rfl));(try(focus exact rfl)))
  all_goals(try(conv=>whnf))
  (apply Dj<;>kernel_rfl)
 rw[if_neg g2]at he ⊢;by_cases g3:rev<(s.Zp n).floor
 ·rw[if_pos g3];repeat'((conv=>whnf);first|(with_reducible first|refine Ax (by first|refine decide_eq_true ?_;assumption|rfl) fun hb=>?_|refine Aw (by first|refine decide_eq_false ?_;assumption|rfl) fun hb=>?_);(try rw[hb]);try simp only[Aa]at hb|((with_reducible refine A5 (fun hb=>?_) fun hb=>?_)<;>first|exact absurd hb (by decide)|(try rw[hb]);try simp only[Aa]at hb)|(with_reducible refine Ac ?_ ?_);focus (and_intros<;>first|omega|with_reducible rfl|kernel_rfl|simp;done)|(with_reducible refine A5 ?_ ?_);focus (decide)|refine Au ?_|(with_reducible apply A9);(focus (simp only[D.at,D.put,D.Xw,D.Fh,Mg,Jo,D.Bx,Js,Ad,Af,h1,h3,Cn.toD,Tal.Bx]<;>exact rfl))|(with_reducible apply A3);(focus rfl);(focus (simp only[D.at,D.put,D.Xw,D.Fh,Mg,Jo,D.Bx,Js,Ad,Af,h1,h3,Cn.toD,Tal.Bx]<;>exact rfl));(try(focus exact rfl)))
  all_goals(try(conv=>whnf))
  (apply Dj<;>kernel_rfl)
 ·rw[if_neg g3]at he;exact absurd rfl he
theorem Apr(l:List Fk)(K:Nat):Akg ((l.map Fk.Bx).drop K)=(l.map Fk.Bx).drop K:=by
 rw[←List.map_drop];generalize l.drop K=l;induction l with
 |nil=>rfl
 |cons x l ih=>simp only[Cy,Akg,ih];rfl
theorem Bah(s:Cn)(n:Az)(rev:Int)(i:Nat)(hf:s.fi n=some i)(hL:LBd 80000 s.l)(hr:0≤rev∧rev≤(s.Zp n).rev∧(s.Zp n).floor≤rev∧rev≤1000000000000)(Z:CSt)(hZ:Mz n rev s.l ⟨[],0⟩=Z):
 Fn Tryz.prog A4e [sP s,.v (.str n),.v (ti rev)] (Is (.v (ti 0)) [sP ⟨s.sp.set i (n,{s.Zp n with floor:=rev,Aq7:=Z.c}),Z.l⟩,.no,.no]):=by
 refine Aun ?_ (by simp)
 obtain⟨h1,h2,h3⟩:=Cn.Ari hf;obtain⟨hr1,hr2,hr3,hr4⟩:=hr;repeat'((conv=>whnf);first|(with_reducible first|refine Ax (by rfl) fun hb=>?_|refine Aw (by first|refine decide_eq_false ?_;omega|rfl) fun hb=>?_);(try rw[hb]);try simp only[Aa]at hb|((with_reducible refine A5 (fun hb=>?_) fun hb=>?_)<;>first|exact absurd hb (by decide)|(try rw[hb]);try simp only[Aa]at hb)|(with_reducible refine Ac ?_ ?_);focus (and_intros<;>first|omega|with_reducible rfl|kernel_rfl|simp;done)|with_reducible intro Cq|(with_reducible refine A5 ?_ ?_);focus (decide)|refine Au ?_|(with_reducible apply A9);(focus (simp only[D.at,D.put,D.Xw,D.Fh,Mg,Jo,D.Bx,Js,Ad,Af,h1,h3,Cn.toD,Tal.Bx]<;>exact rfl))|(with_reducible apply A3);(focus rfl);(focus (simp only[D.at,D.put,D.Xw,D.Fh,Mg,Jo,D.Bx,Js,Ad,Af,h1,h3,Cn.toD,Tal.Bx]<;>exact rfl));(try(focus exact rfl)))
 all_goals(try(conv=>whnf))
 generalize htt:s.Zp n=t at*;have hlm:(s.l.map Zk.toD).length=s.l.length:=Bh _;have hlen:=hL.len;obtain⟨VS0,A6e⟩:∃V,V=s.sp.map fun x=>D.ptr (.it x.2.Bx):=⟨_,rfl⟩
 obtain⟨KS0,A6d⟩:∃V,V=s.sp.map fun x=>I.str x.1:=⟨_,rfl⟩
 have hi:i<VS0.length:=by rw[A6e];exact(A7.1 h2).1
 refine Afm.by (X:=Nat × List Zk × Int × List D × List D) (fun y=>[(55,.v (ti (y.1:Int))),(9,.own [] (.vec 116 2 (y.2.1.map Zk.toD))),(132,.own [] (.ptr (stD KS0 y.2.2.2.1 y.2.2.2.2)))])
  (fun y=>y.1≤s.l.length∧y.2.2.2.1=VS0.set i (.ptr (.it (Tal.mk t.rev rev t.bytes t.keys y.2.2.1).Bx))∧(y.2.2.2.2.length=s.l.length∧∀q,y.1≤q→y.2.2.2.2[q]?=(s.l.map Zk.toD)[q]?)∧(0≤y.2.2.1∧y.2.2.1≤100000*y.1)∧y.2.1.length≤y.1∧Mz n rev (s.l.drop y.1) ⟨y.2.1,y.2.2.1⟩=Z)
  (fun y=>s.l.length - y.1) (0,[],0,(s.sp.map fun x=>D.ptr (.it x.2.Bx)).set i (.ptr (.it (Tal.mk t.rev rev t.bytes t.keys 0).Bx)),s.l.map Zk.toD) (by rw[A6d];kernel_rfl)
  ⟨Cr _,by rw[A6e],⟨hlm,fun _ _=>rfl⟩,⟨by simp,by simp⟩,by simp,hZ⟩ ?_
 rintro⟨j,rest,c,VS,Ld⟩ ⟨hj,e1,⟨e2,e3⟩,hc,hrl,hR⟩;dsimp only at hj e1 e2 e3 hc hrl hR ⊢;have hw:IntKind.i64.wrap ((j:Int)+1)=((j+1:Nat):Int):=Dk (n:=100000) (by omega) (by simp only[maxLen];omega)
 have hVi:VS[i]?=some (.ptr (.it (Tal.mk t.rev rev t.bytes t.keys c).Bx)):=by rw[e1,Aiq hi]
 by_cases hjl:j<s.l.length
 case neg=>
  have Ze:¬decide ((j:Int)<(s.l.length:Int))=true:=by simp;omega
  have Bem:¬decide ((j:Int)<((s.l.map Zk.toD).length:Int))=true:=by simp;omega
  rw[Db (by omega)]at hR
  have hR:⟨rest,c⟩=Z:=hR;subst hR;have Au1:sP ⟨s.sp.set i (n,{t with floor:=rev,Aq7:=c}),rest⟩= .own [] (.ptr (stD KS0 VS (rest.map Zk.toD))):=by
   simp only[sP,Cn.toD,Amd];rw[←A6e, ←A6d,e1];rw[List.set_getElem?_self' (l:=KS0) (by rw[A6d,Ev,h3];rfl)]
  rw[Au1];repeat'((conv=>whnf);first|(with_reducible refine Aw (by exact Ak (by assumption)) fun hb=>?_);(try rw[hb]);try simp only[Aa]at hb|(with_reducible refine Ac ?_ ?_);focus (and_intros<;>first|kernel_rfl|simp;done))
  all_goals(try(conv=>whnf))
  (apply Dj<;>kernel_rfl)
 obtain⟨h,he⟩:∃h,s.l[j]?=some h:=⟨_,Ae hjl⟩;have Ze:¬decide ((j:Int)<(s.l.length:Int))=false:=by simp;omega
 have Bem:¬decide ((j:Int)<((s.l.map Zk.toD).length:Int))=false:=by simp;omega
 obtain⟨hb1,hb2,hb3,hb4⟩:=hL.held h (Cb he);have C3:Ld[j]?=some h.toD:=by rw[e3 j (Bz _),Ev,he];rfl
 have Aum:=L2 h.at_ hb1;have hdr:s.l.drop j=h::s.l.drop (j+1):=by rw[Cc hjl];rw[Ae hjl]at he;cases he;rfl
 rw[hdr]at hR;simp only[Mz]at hR;have hsk:(Ld.set j (.it (.agg [.und,.und]))).length=s.l.length∧∀q,j+1≤q→(Ld.set j (.it (.agg [.und,.und])))[q]?=(s.l.map Zk.toD)[q]?:=
  ⟨by rw[List.length_set,e2],fun q hq=>by rw[B3 (by omega)];exact e3 q (by omega)⟩
 unfold Uy at hR;dsimp only at hR;generalize hwk:C1 h.at_=wk at Aum hR;obtain⟨w,kk,z⟩:=wk;dsimp only at Aum hR;have Bzb:Ld.length=s.l.length:=e2;by_cases hwn:w=n
 case neg=>
  rw[if_neg hwn]at hR;have Bbf:¬decide (w=n)=true:=by simpa using hwn
  repeat'((conv=>whnf);first|(with_reducible first|refine Ax (by exact Ai (by assumption)) fun hb=>?_|refine Aw (by exact Ak (by assumption)) fun hb=>?_);(try rw[hb]);try simp only[Aa]at hb|(with_reducible refine Ac ?_ ?_);focus (and_intros<;>first|omega|with_reducible rfl|kernel_rfl|intro _ hh;cases hh;done|exact Ag rfl|simp only[An];omega|simp;done|decide)|(with_reducible refine Ct.mk ?_);refine⟨_,Aum,?_⟩;rintro _ _ ⟨rfl,rfl⟩|(try dsimp only);rw[hw]|(with_reducible apply A9);(focus (simp only[D.at,D.put,D.Xw,D.Fh,Mg,Jo,D.Bx,Js,Ad,Af,C3,Zk.toD,Mv,D.Awn,hVi]<;>exact rfl))|(with_reducible apply A3);(focus rfl);(focus (simp only[D.at,D.put,D.Xw,D.Fh,Mg,Jo,D.Bx,Js,Ad,Af,C3,Zk.toD,Mv,D.Awn,hVi]<;>exact rfl));(try(focus exact rfl)))
  all_goals(try(conv=>whnf))
  refine Round.by (j+1,rest++[h],c,VS,Ld.set j (.it (.agg [.und,.und]))) ?_ ⟨by omega,e1,hsk,⟨by dsimp only;omega,by dsimp only;omega⟩,by simp;omega,hR⟩ (by dsimp only;omega)
  try dsimp only
  rw[F5,Cy,Kc];show norm _ _=Cx _ _
  kernel_rfl
 subst hwn;rw[if_pos rfl]at hR;have Bbf:¬decide (w=w)=false:=by simp
 obtain⟨a,vs0⟩:=h;dsimp only at hb1 hb2 hb3 hb4 C3 Aum hR hwk;have C3:Ld[j]?=some (.st [.it (.str a),.vec Bb 4 ((vs0.map Fk.Bx).map D.it)]):=C3;obtain⟨KA,hKA⟩:∃K,K=Eo rev vs0:=⟨_,rfl⟩;have hKl:KA<vs0.length:=by rw[hKA];exact Ve rev vs0 hb2
 repeat'((conv=>whnf);first|(with_reducible refine Ax (by exact Ai (by assumption)) fun hb=>?_);(try rw[hb]);try simp only[Aa]at hb|(with_reducible refine Ac ?_ ?_);focus (and_intros<;>first|omega|with_reducible rfl|kernel_rfl|intro _ hh;cases hh;done|simp;done|decide)|(with_reducible refine Ct.mk ?_);refine⟨_,Aum,?_⟩;rintro _ _ ⟨rfl,rfl⟩|(with_reducible apply A9);(focus (simp only[D.at,D.put,D.Xw,D.Fh,Mg,Jo,D.Bx,Js,Ad,Af,C3,Zk.toD,Mv,D.Awn,hVi]<;>exact rfl))|(with_reducible apply A3);(focus rfl);(focus (simp only[D.at,D.put,D.Xw,D.Fh,Mg,Jo,D.Bx,Js,Ad,Af,C3,Zk.toD,Mv,D.Awn,hVi]<;>exact rfl));(try(focus exact rfl)))
 all_goals(try(conv=>whnf))
 refine Afm.by (X:=Nat) (fun k=>[(15,.v (ti (k:Int)))]) (fun k=>k<vs0.length∧Eo rev (vs0.drop k)+k=KA) (fun k=>vs0.length - k) 0 (by kernel_rfl) ⟨by omega,hKA.symm⟩ ?_
 rintro k ⟨hk,hka⟩;dsimp only at hk hka ⊢;have hvl:(vs0.map Fk.Bx).length=vs0.length:=Bh _;have Awo:((vs0.map Fk.Bx).map D.it).length=vs0.length:=by simp
 have Aua:IntKind.i64.wrap ((k:Int)+1)=((k+1:Nat):Int):=Dk (n:=100000) (by omega) (by simp only[maxLen];omega)
 rw[Bey hk]at hka;by_cases hk1:k+1<vs0.length
 ·obtain⟨v1,hv1⟩:∃v,vs0[k+1]?=some v:=⟨_,Ae hk1⟩;rw[hv1]at hka;dsimp only at hka;have Bbd:¬decide (((k+1:Nat):Int)<(vs0.length:Int))=false:=by simp;omega
  have A8c:¬decide (IntKind.i64.wrap ((k:Int)+1)<(vs0.length:Int))=false:=by rw[Aua];exact Bbd
  have Bt4:¬decide (IntKind.i64.wrap ((k:Int)+1)<(((vs0.map Fk.Bx).map D.it).length:Int))=false:=by rw[Awo];exact A8c
  by_cases hv2:v1.rev≤rev
  ·rw[if_pos hv2]at hka;have Bty:Eo rev (vs0.drop (k+1))+(k+1)=KA:=by omega
   repeat'((conv=>whnf);first|(with_reducible refine Ax (by first|exact Ai (by assumption)|refine decide_eq_true ?_;assumption|rfl) fun hb=>?_);(try rw[hb]);try simp only[Aa]at hb|(with_reducible refine Ac ?_ ?_);focus (and_intros<;>first|omega|with_reducible rfl|kernel_rfl|simp;done)|with_reducible intro Cq|(with_reducible apply A3);(focus rfl);(focus (simp only[D.at,D.put,D.Xw,D.Fh,Mg,Jo,D.Bx,Js,Ad,Af,hv1,Fk.Bx,Aua,Awo]<;>exact rfl));(try(focus exact rfl)))
   all_goals(try(conv=>whnf))
   refine Round.by (k+1) ?_ ⟨hk1,Bty⟩ (by omega)
   try dsimp only
   rw[Aua];show norm _ _=Cx _ _
   kernel_rfl
  ·rw[if_neg hv2]at hka;obtain rfl:k=KA:=by omega
   clear hka;obtain⟨va,hva⟩:∃v,vs0[k]?=some v:=⟨_,Ae hk⟩;have hKN:Lm rev vs0=if va.gone=true∧va.rev≤rev then k+1 else k:=by unfold Lm;rw[←hKA,hva]
   rw[hKN]at hR;obtain⟨vr,vm,vv,vg⟩:=va;dsimp only at hR;have Hr:∀K,∀u∈(vs0.map Fk.Bx).drop K,u.size=4:=fun K u hu=>by obtain⟨v,_,rfl⟩:=X4.1 (Agw hu);rfl
   have hcl:∀K,_:=fun K=>A36 ((vs0.map Fk.Bx).drop K) (Hr K) (by simp;omega)
   clear hKN hdr Hr;by_cases hgr:vg=true∧vr≤rev
   case neg=>
    rw[if_neg hgr,if_neg (by omega)]at hR
    have hcl:=hcl k;have hz:¬decide (((Akg ((vs0.map Fk.Bx).drop (k))).length:Int)=0)=true:=by rw[Apr];simp;omega
    have hz2:¬decide ((((vs0.map Fk.Bx).drop (k)).length:Int)=0)=true:=by simp;omega
    have hz3:¬decide (((Akg (Akg ((vs0.map Fk.Bx).drop (k)))).length:Int)=0)=true:=by rw[Apr];exact hz
    have hz4:¬decide ((((Akg ((vs0.map Fk.Bx).drop (k))).map D.it).length:Int)=0)=true:=by rw[Bh];exact hz
    have hz5:¬decide ((((Akg (Akg ((vs0.map Fk.Bx).drop (k)))).map D.it).length:Int)=0)=true:=by rw[Bh];exact hz3
    cases vg with
    |false=>
     repeat'((conv=>whnf);first|(with_reducible first|refine Ax (by first|exact Ai (by assumption)|rfl) fun hb=>?_|refine Aw (by first|exact Ak (by assumption)|refine decide_eq_false ?_;assumption|rfl) fun hb=>?_);(try rw[hb]);try simp only[Aa]at hb|(with_reducible refine Ac ?_ ?_);focus (and_intros<;>first|omega|with_reducible rfl|kernel_rfl|exact Ag rfl|simp only[An];omega|simp;done)|with_reducible intro Cq|(with_reducible refine Ai2.mkV ?_ ?_ ?_ fun Cq=>?_);(iterate 3 focus kernel_rfl);try simp only[zRL]at Cq|(with_reducible refine Ct.mk ?_);refine⟨_,hcl,?_⟩;rintro _ _ ⟨rfl,rfl⟩|(first|with_reducible apply A9|with_reducible apply Ba);(focus (simp only[D.at,D.put,D.Xw,D.Fh,Mg,Jo,D.Bx,Js,Ad,Af,Aua,hv1,hva,Fk.Bx,Awo,Kp,hVi,Tal.Bx]<;>exact rfl))|(with_reducible apply A3);(focus rfl);(focus (simp only[D.at,D.put,D.Xw,D.Fh,Mg,Jo,D.Bx,Js,Ad,Af,Aua,hv1,hva,Fk.Bx,Awo,Kp,hVi,Tal.Bx]<;>exact rfl));(try(focus exact rfl)))
     all_goals(try(conv=>whnf))
     have hcw:IntKind.i64.wrap (c+(((vs0.map Fk.Bx).drop (k)).length:Int))=c+(vs0.length - (k):Nat):=by rw[Ei,Bh,Bf (by omega)]
     refine Round.by (j+1,rest++[⟨a,vs0.drop (k)⟩],c+(vs0.length - (k):Nat),VS.set i (.ptr (.it (Tal.mk t.rev rev t.bytes t.keys (IntKind.i64.wrap (c+(((vs0.map Fk.Bx).drop (k)).length:Int)))).Bx)),Ld.set j (.it (.agg [.und,.und]))) ?_ ⟨by omega,by rw[e1,Ame,hcw],hsk,⟨by dsimp only;omega,by dsimp only;omega⟩,by simp;omega,hR⟩ (by dsimp only;omega)
     try dsimp only
     rw[F5,Cy,Kc,show Zk.toD ⟨a,vs0.drop (k)⟩= .st [.it (.str a),.vec Bb 4 (((vs0.map Fk.Bx).drop (k)).map D.it)]from by simp[Zk.toD,List.map_drop]]
     simp only[Apr,hw,Aua];show norm _ _=Cx _ _
     kernel_rfl
    |true=>
     have hvr:¬vr≤rev:=fun h=>hgr ⟨rfl,h⟩
     repeat'((conv=>whnf);first|(with_reducible first|refine Ax (by first|exact Ai (by assumption)|rfl) fun hb=>?_|refine Aw (by first|exact Ak (by assumption)|refine decide_eq_false ?_;assumption) fun hb=>?_);(try rw[hb]);try simp only[Aa]at hb|(with_reducible refine Ac ?_ ?_);focus (and_intros<;>first|omega|with_reducible rfl|kernel_rfl|exact Ag rfl|simp only[An];omega|simp;done)|with_reducible intro Cq|(with_reducible refine Ai2.mkV ?_ ?_ ?_ fun Cq=>?_);(iterate 3 focus kernel_rfl);try simp only[zRL]at Cq|(with_reducible refine Ct.mk ?_);refine⟨_,hcl,?_⟩;rintro _ _ ⟨rfl,rfl⟩|(first|with_reducible apply A9|with_reducible apply Ba);(focus (simp only[D.at,D.put,D.Xw,D.Fh,Mg,Jo,D.Bx,Js,Ad,Af,Aua,hv1,hva,Fk.Bx,Awo,Kp,hVi,Tal.Bx]<;>exact rfl))|(with_reducible apply A3);(focus rfl);(focus (simp only[D.at,D.put,D.Xw,D.Fh,Mg,Jo,D.Bx,Js,Ad,Af,Aua,hv1,hva,Fk.Bx,Awo,Kp,hVi,Tal.Bx]<;>exact rfl));(try(focus exact rfl)))
     all_goals(try(conv=>whnf))
     have hcw:IntKind.i64.wrap (c+(((vs0.map Fk.Bx).drop (k)).length:Int))=c+(vs0.length - (k):Nat):=by rw[Ei,Bh,Bf (by omega)]
     refine Round.by (j+1,rest++[⟨a,vs0.drop (k)⟩],c+(vs0.length - (k):Nat),VS.set i (.ptr (.it (Tal.mk t.rev rev t.bytes t.keys (IntKind.i64.wrap (c+(((vs0.map Fk.Bx).drop (k)).length:Int)))).Bx)),Ld.set j (.it (.agg [.und,.und]))) ?_ ⟨by omega,by rw[e1,Ame,hcw],hsk,⟨by dsimp only;omega,by dsimp only;omega⟩,by simp;omega,hR⟩ (by dsimp only;omega)
     try dsimp only
     rw[F5,Cy,Kc,show Zk.toD ⟨a,vs0.drop (k)⟩= .st [.it (.str a),.vec Bb 4 (((vs0.map Fk.Bx).drop (k)).map D.it)]from by simp[Zk.toD,List.map_drop]]
     simp only[Apr,hw,Aua];show norm _ _=Cx _ _
     kernel_rfl
   obtain⟨rfl,hvr⟩:=hgr;have hKK:(if true=true∧vr≤rev then k+1 else k)=k+1:=if_pos ⟨rfl,hvr⟩
   rw[hKK]at hR;have hcl:=hcl (k+1);have hke:¬vs0.length≤k+1:=by omega
   rw[if_neg hke]at hR;have hz:¬decide (((Akg ((vs0.map Fk.Bx).drop (k+1))).length:Int)=0)=true:=by rw[Apr];simp;omega
   have hz2:¬decide ((((vs0.map Fk.Bx).drop (k+1)).length:Int)=0)=true:=by simp;omega
   have hz3:¬decide (((Akg (Akg ((vs0.map Fk.Bx).drop (k+1)))).length:Int)=0)=true:=by rw[Apr];exact hz
   have hz4:¬decide ((((Akg ((vs0.map Fk.Bx).drop (k+1))).map D.it).length:Int)=0)=true:=by rw[Bh];exact hz
   have hz5:¬decide ((((Akg (Akg ((vs0.map Fk.Bx).drop (k+1)))).map D.it).length:Int)=0)=true:=by rw[Bh];exact hz3
   repeat'((conv=>whnf);first|(with_reducible first|refine Ax (by first|exact Ai (by assumption)|refine decide_eq_true ?_;assumption|rfl) fun hb=>?_|refine Aw (by first|exact Ak (by assumption)|refine decide_eq_false ?_;assumption) fun hb=>?_);(try rw[hb]);try simp only[Aa]at hb|(with_reducible refine Ac ?_ ?_);focus (and_intros<;>first|omega|with_reducible rfl|kernel_rfl|exact Ag rfl|simp only[An];omega|simp;done)|with_reducible intro Cq|(with_reducible refine Ai2.mkV ?_ ?_ ?_ fun Cq=>?_);(iterate 3 focus kernel_rfl);try simp only[zRL]at Cq|(with_reducible refine Ct.mk ?_);refine⟨_,hcl,?_⟩;rintro _ _ ⟨rfl,rfl⟩|(first|with_reducible apply A9|with_reducible apply Ba);(focus (simp only[D.at,D.put,D.Xw,D.Fh,Mg,Jo,D.Bx,Js,Ad,Af,Aua,hv1,hva,Fk.Bx,Awo,Kp,hVi,Tal.Bx]<;>exact rfl))|(with_reducible apply A3);(focus rfl);(focus (simp only[D.at,D.put,D.Xw,D.Fh,Mg,Jo,D.Bx,Js,Ad,Af,Aua,hv1,hva,Fk.Bx,Awo,Kp,hVi,Tal.Bx]<;>exact rfl));(try(focus exact rfl)))
   all_goals(try(conv=>whnf))
   have hcw:IntKind.i64.wrap (c+(((vs0.map Fk.Bx).drop (k+1)).length:Int))=c+(vs0.length - (k+1):Nat):=by rw[Ei,Bh,Bf (by omega)]
   refine Round.by (j+1,rest++[⟨a,vs0.drop (k+1)⟩],c+(vs0.length - (k+1):Nat),VS.set i (.ptr (.it (Tal.mk t.rev rev t.bytes t.keys (IntKind.i64.wrap (c+(((vs0.map Fk.Bx).drop (k+1)).length:Int)))).Bx)),Ld.set j (.it (.agg [.und,.und]))) ?_ ⟨by omega,by rw[e1,Ame,hcw],hsk,⟨by dsimp only;omega,by dsimp only;omega⟩,by simp;omega,hR⟩ (by dsimp only;omega)
   try dsimp only
   rw[F5,Cy,Kc,show Zk.toD ⟨a,vs0.drop (k+1)⟩= .st [.it (.str a),.vec Bb 4 (((vs0.map Fk.Bx).drop (k+1)).map D.it)]from by simp[Zk.toD,List.map_drop]]
   simp only[Apr,hw,Aua];show norm _ _=Cx _ _
   kernel_rfl
 ·have Bbd:¬decide (((k+1:Nat):Int)<(vs0.length:Int))=true:=by simp;omega
  have A8c:¬decide (IntKind.i64.wrap ((k:Int)+1)<(vs0.length:Int))=true:=by rw[Aua];exact Bbd
  have Bt4:¬decide (IntKind.i64.wrap ((k:Int)+1)<(((vs0.map Fk.Bx).map D.it).length:Int))=true:=by rw[Awo];exact A8c
  rw[Aic (by omega)]at hka
  have hka:0+k=KA:=hka;obtain rfl:k=KA:=by omega
  have hv1:vs0[k+1]?=none:=Aic (by omega)
  obtain⟨va,hva⟩:∃v,vs0[k]?=some v:=⟨_,Ae hk⟩;have hKN:Lm rev vs0=if va.gone=true∧va.rev≤rev then k+1 else k:=by unfold Lm;rw[←hKA,hva]
  rw[hKN]at hR;obtain⟨vr,vm,vv,vg⟩:=va;dsimp only at hR;have Hr:∀K,∀u∈(vs0.map Fk.Bx).drop K,u.size=4:=fun K u hu=>by obtain⟨v,_,rfl⟩:=X4.1 (Agw hu);rfl
  have hcl:∀K,_:=fun K=>A36 ((vs0.map Fk.Bx).drop K) (Hr K) (by simp;omega)
  clear hKN hdr Hr;by_cases hgr:vg=true∧vr≤rev
  case neg=>
   rw[if_neg hgr,if_neg (by omega)]at hR
   have hcl:=hcl k;have hz:¬decide (((Akg ((vs0.map Fk.Bx).drop (k))).length:Int)=0)=true:=by rw[Apr];simp;omega
   have hz2:¬decide ((((vs0.map Fk.Bx).drop (k)).length:Int)=0)=true:=by simp;omega
   have hz3:¬decide (((Akg (Akg ((vs0.map Fk.Bx).drop (k)))).length:Int)=0)=true:=by rw[Apr];exact hz
   have hz4:¬decide ((((Akg ((vs0.map Fk.Bx).drop (k))).map D.it).length:Int)=0)=true:=by rw[Bh];exact hz
   have hz5:¬decide ((((Akg (Akg ((vs0.map Fk.Bx).drop (k)))).map D.it).length:Int)=0)=true:=by rw[Bh];exact hz3
   cases vg with
   |false=>
    repeat'((conv=>whnf);first|(with_reducible refine Aw (by first|exact Ak (by assumption)|rfl) fun hb=>?_);(try rw[hb]);try simp only[Aa]at hb|(with_reducible refine Ac ?_ ?_);focus (and_intros<;>first|omega|with_reducible rfl|kernel_rfl|exact Ag rfl|simp only[An];omega|simp;done)|with_reducible intro Cq|(with_reducible refine Ai2.mkV ?_ ?_ ?_ fun Cq=>?_);(iterate 3 focus kernel_rfl);try simp only[zRL]at Cq|(with_reducible refine Ct.mk ?_);refine⟨_,hcl,?_⟩;rintro _ _ ⟨rfl,rfl⟩|(first|with_reducible apply A9|with_reducible apply Ba);(focus (simp only[D.at,D.put,D.Xw,D.Fh,Mg,Jo,D.Bx,Js,Ad,Af,Aua,hv1,hva,Fk.Bx,Awo,Kp,hVi,Tal.Bx]<;>exact rfl))|(with_reducible apply A3);(focus rfl);(focus (simp only[D.at,D.put,D.Xw,D.Fh,Mg,Jo,D.Bx,Js,Ad,Af,Aua,hv1,hva,Fk.Bx,Awo,Kp,hVi,Tal.Bx]<;>exact rfl));(try(focus exact rfl)))
    all_goals(try(conv=>whnf))
    have hcw:IntKind.i64.wrap (c+(((vs0.map Fk.Bx).drop (k)).length:Int))=c+(vs0.length - (k):Nat):=by rw[Ei,Bh,Bf (by omega)]
    refine Round.by (j+1,rest++[⟨a,vs0.drop (k)⟩],c+(vs0.length - (k):Nat),VS.set i (.ptr (.it (Tal.mk t.rev rev t.bytes t.keys (IntKind.i64.wrap (c+(((vs0.map Fk.Bx).drop (k)).length:Int)))).Bx)),Ld.set j (.it (.agg [.und,.und]))) ?_ ⟨by omega,by rw[e1,Ame,hcw],hsk,⟨by dsimp only;omega,by dsimp only;omega⟩,by simp;omega,hR⟩ (by dsimp only;omega)
    try dsimp only
    rw[F5,Cy,Kc,show Zk.toD ⟨a,vs0.drop (k)⟩= .st [.it (.str a),.vec Bb 4 (((vs0.map Fk.Bx).drop (k)).map D.it)]from by simp[Zk.toD,List.map_drop]]
    simp only[Apr,hw,Aua];show norm _ _=Cx _ _
    kernel_rfl
   |true=>
    have hvr:¬vr≤rev:=fun h=>hgr ⟨rfl,h⟩
    repeat'((conv=>whnf);first|(with_reducible first|refine Ax (by first|exact Ai (by assumption)|rfl) fun hb=>?_|refine Aw (by first|exact Ak (by assumption)|refine decide_eq_false ?_;assumption|rfl) fun hb=>?_);(try rw[hb]);try simp only[Aa]at hb|(with_reducible refine Ac ?_ ?_);focus (and_intros<;>first|omega|with_reducible rfl|kernel_rfl|exact Ag rfl|simp only[An];omega|simp;done)|with_reducible intro Cq|(with_reducible refine Ai2.mkV ?_ ?_ ?_ fun Cq=>?_);(iterate 3 focus kernel_rfl);try simp only[zRL]at Cq|(with_reducible refine Ct.mk ?_);refine⟨_,hcl,?_⟩;rintro _ _ ⟨rfl,rfl⟩|(first|with_reducible apply A9|with_reducible apply Ba);(focus (simp only[D.at,D.put,D.Xw,D.Fh,Mg,Jo,D.Bx,Js,Ad,Af,Aua,hv1,hva,Fk.Bx,Awo,Kp,hVi,Tal.Bx]<;>exact rfl))|(with_reducible apply A3);(focus rfl);(focus (simp only[D.at,D.put,D.Xw,D.Fh,Mg,Jo,D.Bx,Js,Ad,Af,Aua,hv1,hva,Fk.Bx,Awo,Kp,hVi,Tal.Bx]<;>exact rfl));(try(focus exact rfl)))
    all_goals(try(conv=>whnf))
    have hcw:IntKind.i64.wrap (c+(((vs0.map Fk.Bx).drop (k)).length:Int))=c+(vs0.length - (k):Nat):=by rw[Ei,Bh,Bf (by omega)]
    refine Round.by (j+1,rest++[⟨a,vs0.drop (k)⟩],c+(vs0.length - (k):Nat),VS.set i (.ptr (.it (Tal.mk t.rev rev t.bytes t.keys (IntKind.i64.wrap (c+(((vs0.map Fk.Bx).drop (k)).length:Int)))).Bx)),Ld.set j (.it (.agg [.und,.und]))) ?_ ⟨by omega,by rw[e1,Ame,hcw],hsk,⟨by dsimp only;omega,by dsimp only;omega⟩,by simp;omega,hR⟩ (by dsimp only;omega)
    try dsimp only
    rw[F5,Cy,Kc,show Zk.toD ⟨a,vs0.drop (k)⟩= .st [.it (.str a),.vec Bb 4 (((vs0.map Fk.Bx).drop (k)).map D.it)]from by simp[Zk.toD,List.map_drop]]
    simp only[Apr,hw,Aua];show norm _ _=Cx _ _
    kernel_rfl
  obtain⟨rfl,hvr⟩:=hgr;have hKK:(if true=true∧vr≤rev then k+1 else k)=k+1:=if_pos ⟨rfl,hvr⟩
  rw[hKK]at hR;have hcl:=hcl (k+1);have hke:vs0.length≤k+1:=by omega
  rw[if_pos hke]at hR;have hz:¬decide (((Akg ((vs0.map Fk.Bx).drop (k+1))).length:Int)=0)=false:=by rw[Apr];simp;omega
  have hz2:¬decide ((((vs0.map Fk.Bx).drop (k+1)).length:Int)=0)=false:=by simp;omega
  have hz3:¬decide (((Akg (Akg ((vs0.map Fk.Bx).drop (k+1)))).length:Int)=0)=false:=by rw[Apr];exact hz
  have hz4:¬decide ((((Akg ((vs0.map Fk.Bx).drop (k+1))).map D.it).length:Int)=0)=false:=by rw[Bh];exact hz
  have hz5:¬decide ((((Akg (Akg ((vs0.map Fk.Bx).drop (k+1)))).map D.it).length:Int)=0)=false:=by rw[Bh];exact hz3
  repeat'((conv=>whnf);first|(with_reducible first|refine Ax (by first|exact Ai (by assumption)|refine decide_eq_true ?_;assumption|rfl) fun hb=>?_|refine Aw (by first|exact Ak (by assumption)|rfl) fun hb=>?_);(try rw[hb]);try simp only[Aa]at hb|(with_reducible refine Ac ?_ ?_);focus (and_intros<;>first|omega|with_reducible rfl|kernel_rfl|simp;done)|with_reducible intro Cq|(with_reducible refine Ai2.mkV ?_ ?_ ?_ fun Cq=>?_);(iterate 3 focus kernel_rfl);try simp only[zRL]at Cq|(with_reducible refine Ct.mk ?_);refine⟨_,hcl,?_⟩;rintro _ _ ⟨rfl,rfl⟩|(first|with_reducible apply A9|with_reducible apply Ba);(focus (simp only[D.at,D.put,D.Xw,D.Fh,Mg,Jo,D.Bx,Js,Ad,Af,Aua,hv1,hva,Fk.Bx,Awo,Kp,hVi,Tal.Bx]<;>exact rfl))|(with_reducible apply A3);(focus rfl);(focus (simp only[D.at,D.put,D.Xw,D.Fh,Mg,Jo,D.Bx,Js,Ad,Af,Aua,hv1,hva,Fk.Bx,Awo,Kp,hVi,Tal.Bx]<;>exact rfl));(try(focus exact rfl)))
  all_goals(try(conv=>whnf))
  have hcw:IntKind.i64.wrap (c+(((vs0.map Fk.Bx).drop (k+1)).length:Int))=c:=by rw[Ei,Bh,Bf (by omega)];omega
  refine Round.by (j+1,rest,c,VS.set i (.ptr (.it (Tal.mk t.rev rev t.bytes t.keys (IntKind.i64.wrap (c+(((vs0.map Fk.Bx).drop (k+1)).length:Int)))).Bx)),Ld.set j (.it (.agg [.und,.und]))) ?_ ⟨by omega,by rw[e1,Ame,hcw],hsk,⟨by dsimp only;omega,by dsimp only;omega⟩,by dsimp only;omega,hR⟩ (by dsimp only;omega)
  try dsimp only
  simp only[Apr,hw,Aua];show norm _ _=Cx _ _
  kernel_rfl

theorem Ag8{lt:Nat→Bool}(hm:∀a b,a≤b→lt b=true→lt a=true):∀f i j,i≤j→j - i≤f→
 (∀q,i≤q→q<Awj lt f i j→lt q=true)∧(∀q,Awj lt f i j≤q→q<j→lt q=false)
 |0,i,j,h1,h2=>by
  unfold Awj;exact⟨fun q a b=>by omega,fun q a b=>by omega⟩
 |f+1,i,j,h1,h2=>by
  unfold Awj;by_cases hij:i<j
  ·rw[if_pos hij];by_cases hl:lt ((i+j) / 2)=true
   ·rw[if_pos hl];obtain⟨a,b⟩:=Ag8 hm f ((i+j) / 2+1) j (by omega) (by omega)
    refine⟨fun q c d=>?_,b⟩
    by_cases hq:(i+j) / 2+1≤q
    ·exact a q hq d
    ·exact hm q _ (by omega) hl
   ·rw[if_neg hl];obtain⟨a,b⟩:=Ag8 hm f i ((i+j) / 2) (by omega) (by omega)
    refine⟨a,fun q c d=>?_⟩
    by_cases hq:q<(i+j) / 2
    ·exact b q c hq
    ·cases hlq:lt q with
     |false=>rfl
     |true=>exact absurd (hm _ q (by omega) hlq) hl
  ·rw[if_neg hij];exact⟨fun q a b=>by omega,fun q a b=>by omega⟩
theorem Aho{α:Type}{lt:α→Bool}{l:List α}(hs:l.Pairwise fun x y=>lt y=true→lt x=true):
 (∀x∈l.take (Km lt l),lt x=true)∧(∀x∈l.drop (Km lt l),lt x=false):=by
 have hm:∀a b:Nat,a≤b→(l[b]?).any lt=true→(l[a]?).any lt=true:=by
  intro a b hab hb;cases hlb:l[b]? with
  |none=>rw[hlb]at hb;cases hb
  |some y=>
   rw[hlb]at hb;obtain⟨hbl,e⟩:=A7.1 hlb;rcases Nat.lt_or_eq_of_le hab with h|h
   ·have:=Ak2.1 hs a b (by omega) hbl h
    rw[Ae (by omega)]
    exact this (by rw[e];exact hb)
   ·subst h;rw[hlb];exact hb
 obtain⟨h1,h2⟩:=Ag8 hm l.length 0 l.length (Cr _) (by omega)
 constructor
 ·intro x hx;obtain⟨i,hi,rfl⟩:=Akp.1 hx;rw[Hg]at hi;have:=h1 i (Cr _) (show i<Km lt l by omega)
  rw[Ae (by omega)]at this
  rw[List.getElem_take];exact this
 ·intro x hx;obtain⟨i,hi,rfl⟩:=Akp.1 hx;rw[Ei]at hi;have:=h2 (Km lt l+i) (show Km lt l≤_ by omega) (by omega)
  rw[Ae (by omega)]at this
  rw[List.getElem_drop];exact this
abbrev VSo(vs:List Fk):Prop:=vs.Pairwise fun a b=>a.rev<b.rev
def Ar1:Option Fk→Fk × Bool
 |some v=>if v.gone=true then(A11,false)else(v,true)
 |none=>(A11,false)
theorem Aix{vs:List Fk}(h:VSo vs)(rev:Int):D1 vs rev=Ar1 (vs.filter fun v=>decide (v.rev≤rev)).getLast? :=by
 have hp:=Aho (lt:=ltV (rev+1)) (l:=vs) (h.imp fun {a b} hab hb=>by simp only[ltV,decide_eq_true_eq]at*;omega)
 have hf:vs.filter (fun v=>decide (v.rev≤rev))=vs.take (Km (ltV (rev+1)) vs):=by
  conv=>lhs;rw[←Fj (Km (ltV (rev+1)) vs) vs]
  rw[List.filter_append,List.filter_eq_self.2,List.filter_eq_nil_iff.2,R2]
  ·intro v hv;have:=hp.2 v hv;simp only[ltV,decide_eq_false_iff_not,decide_eq_true_eq]at*;omega
  ·intro v hv;have:=hp.1 v hv;simp only[ltV,decide_eq_true_eq]at*;omega
 rw[hf];unfold D1;have hle:=Hp (ltV (rev+1)) vs;generalize Km (ltV (rev+1)) vs=p at hle;cases p with
 |zero=>rfl
 |succ i=>
  obtain⟨v,hv⟩:∃v,vs[i]?=some v:=⟨_,Ae (by omega)⟩
  rw[Amx,hv];simp only[Un,hv,Option.toList,List.getLast?_append,List.getLast?_singleton,Option.some_or,Ar1]
theorem VSo.drop{vs:List Fk}(h:VSo vs)(k:Nat):VSo (vs.drop k):=List.Pairwise.sublist (List.drop_sublist k vs) h
def gV(n:Az)(rev:Int)(h:Zk):Option (Az × Fk):=if(C1 h.at_).1=n∧(D1 h.vs rev).2=true then some ((C1 h.at_).2.1,(D1 h.vs rev).1)else none
def Lh(n:Az)(rev:Int)(l:List Zk):List (Az × Fk):=l.filterMap (gV n rev)
def Ayx(x:Az × Fk):Pr:=⟨x.1,x.2.val,x.2.made,x.2.rev⟩
def Ee(x:Sp)(most:Int):List (Az × Fk)→List Pr→List Pr × Bool
 | [],out=>(out,false)
 |p::r,out=>if ¬Bw x p.1 then Ee x most r out else if(out.length:Int)=most then(out,true)else Ee x most r (out++[Ayx p])
abbrev LSo(l:List Zk):Prop:=(l.map Zk.at_).Pairwise (· < ·)
theorem Am8{n:Az}{x:Sp}{rev most:Int}:∀{d:List Zk} {out:List Pr},(d.Pairwise fun a b=>(C1 b.at_).1=n→(C1 a.at_).1=n)→Ep n x rev most d out=Ee x most (Lh n rev d) out
 | [],out,_=>rfl
 |h::r,out,hp=>by
  obtain⟨h1,h2⟩:=Gr.1 hp;have ih:=fun out=>Am8 (x:=x) (rev:=rev) (most:=most) (out:=out) h2
  unfold Ep;by_cases hn:(C1 h.at_).1=n
  ·rw[if_neg (by simpa using hn),ih,ih]
   unfold Lh;rw[Fp];by_cases hv:(D1 h.vs rev).2=true
   ·rw[show gV n rev h=some ((C1 h.at_).2.1,(D1 h.vs rev).1)by unfold gV;rw[if_pos ⟨hn,hv⟩]]
    simp only[Ee,hv,Ayx,Bool.true_eq_false,if_false]
   ·rw[show gV n rev h=none by unfold gV;rw[if_neg (fun c=>hv c.2)]]
    simp only[Bool.not_eq_true]at hv;simp only[hv,if_true,ite_self]
  ·rw[if_pos hn];have:Lh n rev (h::r)=[]:=by
    unfold Lh;rw[List.filterMap_eq_nil_iff];intro a ha;have:(C1 a.at_).1≠n:=by
     rcases Bg.1 ha with rfl|ha
     ·exact hn
     ·exact fun e=>hn (h1 a ha e)
    unfold gV;rw[if_neg (fun c=>this c.1)]
   rw[this];rfl
theorem Ahi:∀{p a k:Az},¬a<p→a<p++k→p<+:a
 | [],a,k,_,_=>List.nil_prefix
 |c::p,[],k,h,_=>absurd (List.nil_lt_cons c p) h
 |c::p,x::a,k,h1,h2=>by
  simp only[H3]at h2;rw[List.cons_lt_cons_iff]at h1 h2;have hxc:x=c:=by
   rcases h2 with h2|h2
   ·exact absurd (.inl h2) h1
   ·exact h2.1
  subst hxc;rw[List.cons_prefix_cons];refine⟨rfl,Ahi (k:=k) (fun h=>h1 (.inr ⟨rfl,h⟩)) ?_⟩
  rcases h2 with h2|h2
  ·exact absurd h2 (Asw _)
  ·exact h2.2
def Avh(a:Az):Prop:=∃n k,a=B7 n k∧n.length<256
theorem Avh.A4t{a:Az}(h:Avh a):a=B7 (C1 a).1 (C1 a).2.1∧(C1 a).1.length<256:=by
 obtain⟨n,k,rfl,hn⟩:=h;rw[Mt hn];exact⟨rfl,hn⟩
theorem Ahd(n k:Az):B7 n k=B7 n []++k:=by simp[B7]
theorem Aio{l:List Zk}{n:Az}{rev:Int}(hn:n.length<256)(hl:LSo l)(hv:∀h∈l,Avh h.at_):
 Lh n rev (l.take (Km (Kh (B7 n [])) l))=[]∧(l.drop (Km (Kh (B7 n [])) l)).Pairwise fun a b=>(C1 b.at_).1=n→(C1 a.at_).1=n:=by
 rw[LSo,List.pairwise_map]at hl;obtain⟨h1,h2⟩:=Aho (lt:=Kh (B7 n [])) (l:=l) (hl.imp fun {a b} hab hb=>by simp only[Kh,decide_eq_true_eq]at*;exact Amg hab hb)
 constructor
 ·unfold Lh;rw[List.filterMap_eq_nil_iff];intro a ha;unfold gV;rw[if_neg];rintro⟨e,_⟩;have h3:=(hv a (P2 ha)).A4t.1;have h4:=h1 a ha;simp only[Kh,decide_eq_true_eq]at h4;rw[e]at h3;rw[h3,Ahd]at h4;exact absurd h4 (List.not_lt.2 (by
   have:=List.prefix_append (B7 n []) (C1 a.at_).2.1;exact List.IsPrefix.le this))
 ·refine(List.Pairwise.sublist (List.drop_sublist _ _) hl).imp_of_mem fun {a b} ha hb hab e=>?_
  have h3:=(hv b (Agw hb)).A4t.1;rw[e,Ahd]at h3;have h4:=h2 a ha;simp only[Kh,decide_eq_false_iff_not]at h4;rw[h3]at hab;obtain⟨k,hk⟩:=Ahi h4 hab;rw[←hk, ←Ahd,Mt hn]
theorem Am9{l:List Zk}{n:Az}{x:Sp}{rev most:Int}(hn:n.length<256)(hl:LSo l)(hv:∀h∈l,Avh h.at_):
 Ep n x rev most (l.drop (Km (Kh (B7 n [])) l)) []=Ee x most (Lh n rev l) []:=by
 obtain⟨h1,h2⟩:=Aio (rev:=rev) hn hl hv;rw[Am8 h2]
 congr 1
 conv=>rhs;rw[←Fj (Km (Kh (B7 n [])) l) l]
 unfold Lh at h1 ⊢;rw[Ama,h1,H4]
theorem A9o{β:Type}{g:Zk→Option β}{l:List Zk}{a:Az}{v:Fk}(h0:g ⟨a,[v]⟩=none)(h1:∀h∈l,h.at_=a→g ⟨h.at_,h.vs++[v]⟩=g h):(Ath l a v).filterMap g=l.filterMap g:=by
 unfold Ath A1y;split
 ·rename_i hf;obtain⟨e,h2,h3⟩:=Afp hf;rw[Zv h2];have hi:=(A7.1 h2).1;generalize Km (Kh a) l=p at*;have h4:=h1 e (Cb h2) (by simpa[eqH]using h3)
  rw[List.set_eq_take_append_cons_drop,if_pos hi]
  conv=>rhs;rw[←Fj p l,Cc hi]
  rw[Ama,Ama,Fp,Fp];rw[Ae hi]at h2;simp only[A0]at h2;rw[h2,h4]
 ·rw[Ama,Fp,h0];dsimp only;rw[←Ama,Fj]

open Go.Proofs
def Cn.Aqk(s:Cn)(nm:Bool)(n:Az):Cn × Int:=
 if nm=false then(s,5)else if(s.fi n).isSome=true then(s,15)else if 8≤s.sp.length then(s,17)else({s with sp:=s.sp++[(n,Ax5)]},0)
theorem Aa2(s:Cn)(n:Az)(nm:Bool)(hnm:Fn Tryz.prog Mr [.v (.str n)] (Is (.v (.bool nm)) [.no])):
 Fn Tryz.prog Ec [sP s,.v (.str n)] (Is (.v (ti (s.Aqk nm n).2)) [sP (s.Aqk nm n).1,.no]):=by
 refine Fz ?_ (by simp)
 have hkl:(s.sp.map fun x=>I.str x.1).length=s.sp.length:=Bh _
 cases nm with
 |false=>
  have hM:s.Aqk false n=(s,5):=by simp[Cn.Aqk]
  rw[hM];cases hf:s.fi n with
  |none=>
   obtain⟨h1,h2⟩:=Cn.Ayr hf;repeat'((conv=>whnf);first|(with_reducible first|refine Ax (by rfl) fun hb=>?_|refine Aw (by rfl) fun hb=>?_);(try rw[hb]);try simp only[Aa]at hb|((with_reducible refine A5 (fun hb=>?_) fun hb=>?_)<;>first|exact absurd hb (by decide)|(try rw[hb]);try simp only[Aa]at hb)|(with_reducible refine Ac ?_ ?_);focus (and_intros<;>first|omega|with_reducible rfl|kernel_rfl|intro _ hh;cases hh;done|simp;done|decide)|refine Au ?_|(with_reducible refine Ct.mk ?_);refine⟨_,hnm,?_⟩;rintro _ _ ⟨rfl,rfl⟩|(with_reducible apply A9);(focus (simp only[D.at,D.put,D.Xw,D.Fh,Mg,Jo,D.Bx,Js,Ad,Af,h1,Cn.toD]<;>exact rfl)))
   all_goals(try(conv=>whnf))
   (apply Dj<;>kernel_rfl)
  |some i=>
   obtain⟨h1,h2,h3⟩:=Cn.Ari hf;repeat'((conv=>whnf);first|(with_reducible first|refine Ax (by rfl) fun hb=>?_|refine Aw (by rfl) fun hb=>?_);(try rw[hb]);try simp only[Aa]at hb|((with_reducible refine A5 (fun hb=>?_) fun hb=>?_)<;>first|exact absurd hb (by decide)|(try rw[hb]);try simp only[Aa]at hb)|(with_reducible refine Ac ?_ ?_);focus (and_intros<;>first|omega|with_reducible rfl|kernel_rfl|intro _ hh;cases hh;done|simp;done|decide)|(with_reducible refine A5 ?_ ?_);focus (decide)|refine Au ?_|(with_reducible refine Ct.mk ?_);refine⟨_,hnm,?_⟩;rintro _ _ ⟨rfl,rfl⟩|(with_reducible apply A9);(focus (simp only[D.at,D.put,D.Xw,D.Fh,Mg,Jo,D.Bx,Js,Ad,Af,h1,h3,Cn.toD,Tal.Bx]<;>exact rfl)))
   all_goals(try(conv=>whnf))
   (apply Dj<;>kernel_rfl)
 |true=>
  cases hf:s.fi n with
  |some i=>
   have hM:s.Aqk true n=(s,15):=by simp[Cn.Aqk,hf]
   rw[hM];obtain⟨h1,h2,h3⟩:=Cn.Ari hf;repeat'((conv=>whnf);first|(with_reducible first|refine Ax (by rfl) fun hb=>?_|refine Aw (by rfl) fun hb=>?_);(try rw[hb]);try simp only[Aa]at hb|((with_reducible refine A5 (fun hb=>?_) fun hb=>?_)<;>first|exact absurd hb (by decide)|(try rw[hb]);try simp only[Aa]at hb)|(with_reducible refine Ac ?_ ?_);focus (and_intros<;>first|omega|with_reducible rfl|kernel_rfl|intro _ hh;cases hh;done|simp;done|decide)|(with_reducible refine A5 ?_ ?_);focus (decide)|refine Au ?_|(with_reducible refine Ct.mk ?_);refine⟨_,hnm,?_⟩;rintro _ _ ⟨rfl,rfl⟩|(with_reducible apply A9);(focus (simp only[D.at,D.put,D.Xw,D.Fh,Mg,Jo,D.Bx,Js,Ad,Af,h1,h3,Cn.toD,Tal.Bx]<;>exact rfl)))
   all_goals(try(conv=>whnf))
   (apply Dj<;>kernel_rfl)
  |none=>
   obtain⟨h1,h2⟩:=Cn.Ayr hf;by_cases hl:8≤s.sp.length
   ·have hM:s.Aqk true n=(s,17):=by simp[Cn.Aqk,hf,hl]
    have hb8:¬decide ((8:Int)≤(s.sp.length:Int))=false:=by simp;omega
    rw[hM];repeat'((conv=>whnf);first|(with_reducible first|refine Ax (by first|exact Ai (by assumption)|refine decide_eq_true ?_;omega|rfl) fun hb=>?_|refine Aw (by rfl) fun hb=>?_);(try rw[hb]);try simp only[Aa]at hb|((with_reducible refine A5 (fun hb=>?_) fun hb=>?_)<;>first|exact absurd hb (by decide)|(try rw[hb]);try simp only[Aa]at hb)|(with_reducible refine Ac ?_ ?_);focus (and_intros<;>first|omega|with_reducible rfl|kernel_rfl|intro _ hh;cases hh;done|simp;done|decide)|refine Au ?_|(with_reducible refine Ct.mk ?_);refine⟨_,hnm,?_⟩;rintro _ _ ⟨rfl,rfl⟩|(with_reducible apply A9);(focus (simp only[D.at,D.put,D.Xw,D.Fh,Mg,Jo,D.Bx,Js,Ad,Af,h1,hkl,Cn.toD]<;>exact rfl)))
    all_goals(try(conv=>whnf))
    (apply Dj<;>kernel_rfl)
   ·have hM:s.Aqk true n=({s with sp:=s.sp++[(n,Ax5)]},0):=by simp[Cn.Aqk,hf,hl]
    have hb8:¬decide ((8:Int)≤(s.sp.length:Int))=true:=by simp;omega
    have Au1:sP {s with sp:=s.sp++[(n,Ax5)]}= .own [] (.ptr (.st [.map ((s.sp.map fun x=>.str x.1)++[.str n]) ((s.sp.map fun x=>.ptr (.it x.2.Bx))++[.ptr (.it Ax5.Bx)]),.vec Dr 2 (s.l.map Zk.toD)])):=by
     simp only[sP,Cn.toD,F5,Cy,Kc]
    rw[hM];repeat'((conv=>whnf);first|(with_reducible first|refine Ax (by rfl) fun hb=>?_|refine Aw (by first|exact Ak (by assumption)|refine decide_eq_false ?_;omega|rfl) fun hb=>?_);(try rw[hb]);try simp only[Aa]at hb|((with_reducible refine A5 (fun hb=>?_) fun hb=>?_)<;>first|exact absurd hb (by decide)|(try rw[hb]);try simp only[Aa]at hb)|(with_reducible refine Ac ?_ ?_);focus (and_intros<;>first|omega|with_reducible rfl|kernel_rfl|intro _ hh;cases hh;done|simp;done|decide)|refine Au ?_|(with_reducible refine Ct.mk ?_);refine⟨_,hnm,?_⟩;rintro _ _ ⟨rfl,rfl⟩|(with_reducible apply A9);(focus (simp only[D.at,D.put,D.Xw,D.Fh,Mg,Jo,D.Bx,Js,Ad,Af,h1,hkl,Cn.toD,Lt]<;>exact rfl)))
    all_goals(try(conv=>whnf))
    refine Am1.mk ⟨by kernel_rfl,?_⟩ (by kernel_rfl)
    rw[show sP (({s with sp:=s.sp++[(n,Ax5)]},0):Cn × Int).1=_ from Au1]
    kernel_rfl
end Go.Ab
