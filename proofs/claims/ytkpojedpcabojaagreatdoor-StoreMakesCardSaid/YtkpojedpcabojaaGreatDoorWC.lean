/- Lemmas -/
import Derived.Test.YtkpojedpcabojaaGreatDoorVK
set_option linter.unusedVariables false
set_option linter.unusedSimpArgs false
set_option maxRecDepth 100000
set_option maxHeartbeats 40000000
namespace Go.Ab
open Go.Proofs
abbrev Q0(F:List Ce):List I:=F.map fun c=>I.str c.key
abbrev Vj(F:List Ce):List D:=F.map fun c=>D.it c.Ap
theorem Apt{F:List Ce}{c:Ce}(h:F.findIdx? (fun x=>decide (x.key=c.key))=none):Nd c.key (Q0 F) 0=some none∧Q0 (Fp F c)=Q0 F++[.str c.key]∧Vj (Fp F c)=Vj F++[.it c.Ap]:=by
 refine⟨by rw[Tp (fun c:Ce=>c.key),h];rfl,?_,?_⟩<;>simp[Fp,h]
theorem Apu{F:List Ce}{c:Ce}{q:Nat}(h:F.findIdx? (fun x=>decide (x.key=c.key))=some q):Nd c.key (Q0 F) 0=some (some q)∧Q0 (Fp F c)=Q0 F∧Vj (Fp F c)=(Vj F).set q (.it c.Ap):=by
 refine⟨by rw[Tp (fun c:Ce=>c.key),h];rfl,?_,?_⟩
 ·obtain⟨hi,h1,h2⟩:=List.findIdx?_eq_some_iff_getElem.1 h;simp only[Fp,h,Q0];rw[Gi];have:I.str c.key=(F.map fun c=>I.str c.key)[q]'(by simpa using hi):=by simp only[List.getElem_map];exact congrArg I.str (show F[q].key=c.key by simpa using h1).symm
  rw[this,List.set_getElem_self]
 ·simp only[Fp,h,Vj];rw[Gi]
theorem Bcy(s:A6)(n:A1)(cs:List Ce)(hf:s.fi n=none):
 Fn Tryz.prog Hn [sP s,.v (.str n),.v (.list (cs.map Ce.Ap))] (Is (.F4 [.i (ti 0),.i (ti 16)]) [sP s,.no,.no]):=by
 refine Sn ?_ (by simp)
 obtain⟨h1,h2⟩:=A6.P1 hf;repeat'((conv=>whnf);first|(with_reducible first|refine Bv (by rfl) fun hb=>?_|refine Bq (by rfl) fun hb=>?_);(try rw[hb]);try simp only[Am]at hb|((with_reducible refine Ai (fun hb=>?_) fun hb=>?_)<;>first|exact absurd hb (by decide)|(try rw[hb]);try simp only[Am]at hb)|(with_reducible refine Aa ?_ ?_);focus (and_intros<;>first|omega|with_reducible rfl|kernel_rfl|simp;done)|refine Ch ?_|(with_reducible apply Ed);(focus (simp only[D.at,D.put,D.Cr,D.Bc,B7,Bw,D.Ap,B8,A4,Dq,h1,A6.Dp]<;>exact rfl)))
 all_goals(try(conv=>whnf))
 (apply D6<;>kernel_rfl)
theorem Bcx(s:A6)(n:A1)(cs:List Ce)(i:Nat)(hf:s.fi n=some i)(Kr:cs.length≤40000)(E3:Option (List Ce))(Hj:E3=none)(hF:L6 cs []=E3):
 Fn Tryz.prog Hn [sP s,.v (.str n),.v (.list (cs.map Ce.Ap))] (Is (.F4 [.i (ti 0),.i (ti 1)]) [sP s,.no,.no]):=by
 refine Sn ?_ (by simp)
 obtain⟨h1,h2,h3⟩:=A6.Jt hf;repeat'((conv=>whnf);first|(with_reducible refine Bv (by rfl) fun hb=>?_);(try rw[hb]);try simp only[Am]at hb|((with_reducible refine Ai (fun hb=>?_) fun hb=>?_)<;>first|exact absurd hb (by decide)|(try rw[hb]);try simp only[Am]at hb)|(with_reducible refine Aa ?_ ?_);focus (and_intros<;>first|omega|with_reducible rfl|kernel_rfl|simp;done)|with_reducible intro Av|(with_reducible refine Ai ?_ ?_);focus (decide)|refine Ch ?_|(with_reducible apply Ed);(focus (simp only[D.at,D.put,D.Cr,D.Bc,B7,Bw,D.Ap,B8,A4,Dq,h1,h3,A6.Dp,Ef.Ap]<;>exact rfl)))
 all_goals(try(conv=>whnf))
 refine Ep.by (X:=Nat × List Ce × List I × List D) (fun y=>[(31,.v (ti (y.1:Int))),(10,.own [] (.map y.2.2.1 y.2.2.2))]) (fun y=>y.1≤cs.length∧y.2.1.length≤y.1∧y.2.2.1=Q0 y.2.1∧y.2.2.2=Vj y.2.1∧L6 (cs.drop y.1) y.2.1=E3∧(y.2.1.map Ce.key).Nodup∧∀c∈y.2.1,c.ok) (fun y=>cs.length - y.1) (0,[],[],[]) (by kernel_rfl) ⟨A3 _,by simp,rfl,rfl,hF,by simp,by simp⟩ ?_
 rintro⟨j,F,KS,VS⟩ ⟨hj,hFl,e1,e2,hR,F5,Dj⟩;dsimp only at hj hFl e1 e2 hR F5 Dj ⊢;subst e1 e2;have Aa4:(cs.map Ce.Ap).length=cs.length:=An _;have hw:IntKind.i64.wrap ((j:Int)+1)=((j+1:Nat):Int):=Mj (n:=100000) (by omega) (by simp only[maxLen];omega)
 by_cases E6:j<cs.length
 case neg=>
  rw[Bo (by omega)]at hR
  rw[←hR]at Hj;cases Hj
 obtain⟨c,he⟩:∃c,cs[j]?=some c:=⟨_,Ac E6⟩;have Di:¬decide ((j:Int)<(cs.length:Int))=false:=by simp;omega
 have Awc:¬decide ((j:Int)<((cs.map Ce.Ap).length:Int))=false:=by simp;omega
 have K9:cs.drop j=c::cs.drop (j+1):=by rw[A7 E6];rw[Ac E6]at he;cases he;rfl
 rw[K9]at hR;simp only[L6]at hR;have Hk:=Ajk c.key;have L2:=Adb c.val;by_cases hc:c.ok
 ·skip
  have Qk:∀x∈Fp F c,x.ok:=fun x hx=>by
   rcases Ah5 hx with h|h
   ·exact Dj x h
   ·subst h;exact hc
  have hfl:=Ah4 F c;rw[if_pos hc]at hR;have Biv:=Ab6 (c:=c) F5;obtain⟨Uo,W5⟩:=hc;rw[decide_eq_true Uo]at Hk;have Aa6:∀KS' VS',KS'=Q0 (Fp F c)→VS'=Vj (Fp F c)→j+1≤cs.length∧(Fp F c).length≤j+1∧KS'=Q0 (Fp F c)∧VS'=Vj (Fp F c)∧L6 (cs.drop (j+1)) (Fp F c)=E3∧((Fp F c).map Ce.key).Nodup∧∀c'∈Fp F c,c'.ok:=
   fun KS' VS' e1 e2=>⟨by omega,by omega,e1,e2,hR,Biv,Qk⟩
  clear hR K9;cases hq:F.findIdx? (fun x=>decide (x.key=c.key))with
  |none=>
   obtain⟨g1,g2,g3⟩:=Apt hq;obtain⟨ck,cv,cg⟩:=c;cases cg with
   |true=>
    repeat'((conv=>whnf);first|(with_reducible first|refine Bv (by exact Ae (by assumption)) fun hb=>?_|refine Bq (by rfl) fun hb=>?_);(try rw[hb]);try simp only[Am]at hb|((with_reducible refine Ai (fun hb=>?_) fun hb=>?_)<;>first|exact absurd hb (by decide)|(try rw[hb]);try simp only[Am]at hb)|(with_reducible refine Aa ?_ ?_);focus (and_intros<;>first|omega|kernel_rfl|intro _ hh;cases hh;done|simp;done|decide)|(try dsimp only);rw[Be he]|(with_reducible refine A5.mk ?_);refine⟨_,Hk,?_⟩;rintro _ _ ⟨rfl,rfl⟩|(try dsimp only);rw[hw]|(with_reducible apply Ed);(focus (simp only[D.at,D.put,D.Cr,D.Bc,B7,Bw,D.Ap,B8,A4,Dq,g1,Jh]<;>exact rfl)))
    all_goals(try(conv=>whnf))
    refine Round.by (j+1,Fp F ⟨ck,cv,true⟩,Q0 F++[.str ck],Vj F++[.it (Ce.mk ck cv true).Ap]) ?_ (Aa6 _ _ g2.symm g3.symm) (by dsimp only;omega)
    try dsimp only
    show norm _ _=Dy _ _
    kernel_rfl
   |false=>
    rw[decide_eq_true (by simpa using W5)]at L2
    repeat'((conv=>whnf);first|(with_reducible first|refine Bv (by first|exact Ae (by assumption)|rfl) fun hb=>?_|refine Bq (by rfl) fun hb=>?_);(try rw[hb]);try simp only[Am]at hb|((with_reducible refine Ai (fun hb=>?_) fun hb=>?_)<;>first|exact absurd hb (by decide)|(try rw[hb]);try simp only[Am]at hb)|(with_reducible refine Aa ?_ ?_);focus (and_intros<;>first|omega|kernel_rfl|intro _ hh;cases hh;done|simp;done|decide)|(try dsimp only);rw[Be he]|(with_reducible refine A5.mk ?_);(first|refine⟨_,Hk,?_⟩|refine⟨_,L2,?_⟩);rintro _ _ ⟨rfl,rfl⟩|(try dsimp only);rw[hw]|(with_reducible apply Ed);(focus (simp only[D.at,D.put,D.Cr,D.Bc,B7,Bw,D.Ap,B8,A4,Dq,g1,Jh]<;>exact rfl)))
    all_goals(try(conv=>whnf))
    refine Round.by (j+1,Fp F ⟨ck,cv,false⟩,Q0 F++[.str ck],Vj F++[.it (Ce.mk ck cv false).Ap]) ?_ (Aa6 _ _ g2.symm g3.symm) (by dsimp only;omega)
    try dsimp only
    show norm _ _=Dy _ _
    kernel_rfl
  |some q=>
   obtain⟨g1,g2,g3⟩:=Apu hq;obtain⟨ck,cv,cg⟩:=c;cases cg with
   |true=>
    repeat'((conv=>whnf);first|(with_reducible first|refine Bv (by exact Ae (by assumption)) fun hb=>?_|refine Bq (by rfl) fun hb=>?_);(try rw[hb]);try simp only[Am]at hb|((with_reducible refine Ai (fun hb=>?_) fun hb=>?_)<;>first|exact absurd hb (by decide)|(try rw[hb]);try simp only[Am]at hb)|(with_reducible refine Aa ?_ ?_);focus (and_intros<;>first|omega|kernel_rfl|intro _ hh;cases hh;done|simp;done|decide)|(try dsimp only);rw[Be he]|(with_reducible refine A5.mk ?_);refine⟨_,Hk,?_⟩;rintro _ _ ⟨rfl,rfl⟩|(try dsimp only);rw[hw]|(with_reducible apply Ed);(focus (simp only[D.at,D.put,D.Cr,D.Bc,B7,Bw,D.Ap,B8,A4,Dq,g1,Jh]<;>exact rfl)))
    all_goals(try(conv=>whnf))
    refine Round.by (j+1,Fp F ⟨ck,cv,true⟩,Q0 F,(Vj F).set q (.it (Ce.mk ck cv true).Ap)) ?_ (Aa6 _ _ g2.symm g3.symm) (by dsimp only;omega)
    try dsimp only
    show norm _ _=Dy _ _
    kernel_rfl
   |false=>
    rw[decide_eq_true (by simpa using W5)]at L2
    repeat'((conv=>whnf);first|(with_reducible first|refine Bv (by first|exact Ae (by assumption)|rfl) fun hb=>?_|refine Bq (by rfl) fun hb=>?_);(try rw[hb]);try simp only[Am]at hb|((with_reducible refine Ai (fun hb=>?_) fun hb=>?_)<;>first|exact absurd hb (by decide)|(try rw[hb]);try simp only[Am]at hb)|(with_reducible refine Aa ?_ ?_);focus (and_intros<;>first|omega|kernel_rfl|intro _ hh;cases hh;done|simp;done|decide)|(try dsimp only);rw[Be he]|(with_reducible refine A5.mk ?_);(first|refine⟨_,Hk,?_⟩|refine⟨_,L2,?_⟩);rintro _ _ ⟨rfl,rfl⟩|(try dsimp only);rw[hw]|(with_reducible apply Ed);(focus (simp only[D.at,D.put,D.Cr,D.Bc,B7,Bw,D.Ap,B8,A4,Dq,g1,Jh]<;>exact rfl)))
    all_goals(try(conv=>whnf))
    refine Round.by (j+1,Fp F ⟨ck,cv,false⟩,Q0 F,(Vj F).set q (.it (Ce.mk ck cv false).Ap)) ?_ (Aa6 _ _ g2.symm g3.symm) (by dsimp only;omega)
    try dsimp only
    show norm _ _=Dy _ _
    kernel_rfl
 ·obtain⟨ck,cv,cg⟩:=c;by_cases hk:1≤ck.length∧ck.length≤64
  ·rw[decide_eq_true hk]at Hk;cases cg with
   |true=>exact absurd ⟨hk,.inl rfl⟩ hc
   |false=>
    have hv:¬cv.length≤256:=fun h=>hc ⟨hk,.inr h⟩
    rw[decide_eq_false hv]at L2;repeat'((conv=>whnf);first|(with_reducible first|refine Bv (by first|exact Ae (by assumption)|rfl) fun hb=>?_|refine Bq (by rfl) fun hb=>?_);(try rw[hb]);try simp only[Am]at hb|((with_reducible refine Ai (fun hb=>?_) fun hb=>?_)<;>first|exact absurd hb (by decide)|(try rw[hb]);try simp only[Am]at hb)|(with_reducible refine Aa ?_ ?_);focus (and_intros<;>first|omega|kernel_rfl|intro _ hh;cases hh;done|simp;done|decide)|(try dsimp only);rw[Be he]|(with_reducible refine A5.mk ?_);(first|refine⟨_,Hk,?_⟩|refine⟨_,L2,?_⟩);rintro _ _ ⟨rfl,rfl⟩)
    all_goals(try(conv=>whnf))
    (apply D6<;>kernel_rfl)
  ·rw[decide_eq_false hk]at Hk;repeat'((conv=>whnf);first|(with_reducible refine Bv (by first|exact Ae (by assumption)|rfl) fun hb=>?_);(try rw[hb]);try simp only[Am]at hb|((with_reducible refine Ai (fun hb=>?_) fun hb=>?_)<;>first|exact absurd hb (by decide)|(try rw[hb]);try simp only[Am]at hb)|(with_reducible refine Aa ?_ ?_);focus (and_intros<;>first|omega|kernel_rfl|intro _ hh;cases hh;done|simp;done|decide)|(try dsimp only);rw[Be he]|(with_reducible refine A5.mk ?_);refine⟨_,Hk,?_⟩;rintro _ _ ⟨rfl,rfl⟩)
   all_goals(try(conv=>whnf))
   (apply D6<;>kernel_rfl)
theorem Bha(s:A6)(n:A1)(cs:List Ce)(i:Nat)(hf:s.fi n=some i)(Kr:cs.length≤1000)(E3:Option (List Ce))(Hj:E3=none)(hF:L6 cs []=E3):
 Fn Tryz.prog Hn [sP s,.v (.str n),.v (.list (cs.map Ce.Ap))] (Is (.F4 [.i (ti 0),.i (ti 1)]) [sP s,.no,.no]):=
 Bcx s n cs i hf (by omega) E3 Hj hF

open Go.Proofs
theorem List.set_getElem?_self'{α:Type}{l:List α}{i:Nat}{x:α}(h:l[i]?=some x):l.set i x=l:=by
 obtain⟨hi,rfl⟩:=Ak.1 h;exact List.set_getElem_self hi
theorem Sm{α:Type}{l:List α}{i:Nat}{x:α}(h:l[i]?=some x)(f:α→α):l.modify i f=l.set i (f x):=by
 apply List.ext_getElem?;intro j;rw[List.getElem?_modify,List.getElem?_set];by_cases L7:i=j
 ·subst L7;obtain⟨hi,rfl⟩:=Ak.1 h;simp[hi]
 ·simp[L7]
abbrev A9b(T:TypeId):Prop:=Aht Tryz.prog Ph J6 T
abbrev A9e(E:TypeId):Prop:=Yg Tryz.prog Uz J6 E
theorem A66{T E:TypeId}{B:Nat}(hK:A9b T)(hS:A9e E)(s:A6)(n:A1)(cs:List Ce)(i:Nat)(hf:s.fi n=some i)(hn:n.length≤1000)(Kr:cs.length≤40000)(hBc:B+cs.length≤81000)(hL:U3 B s.l)(hT:TBd B (s.De n))(Aih:0≤(s.De n).rev∧(s.De n).rev≤2000000000000)
 (FF:List Ce) (E3:Option (List Ce)) (Hj:E3=some FF) (hF:L6 cs []=E3) (Z:N0) (hZ:Ea n FF (Fz (FF.map Ce.key)) ⟨s.De n,s.l,false⟩=Z):
 Fn Tryz.prog Hn [sP s,.v (.str n),.v (.list (cs.map Ce.Ap))] (Is (.F4 [.i (ti Z.fin.rev),.i (ti 0)]) [sP ⟨s.sp.set i (n,Z.fin),Z.l⟩,.no,.no]):=by
 refine Sn ?_ (by simp)
 obtain⟨h1,h2,h3⟩:=A6.Jt hf;repeat'((conv=>whnf);first|(with_reducible refine Bv (by rfl) fun hb=>?_);(try rw[hb]);try simp only[Am]at hb|((with_reducible refine Ai (fun hb=>?_) fun hb=>?_)<;>first|exact absurd hb (by decide)|(try rw[hb]);try simp only[Am]at hb)|(with_reducible refine Aa ?_ ?_);focus (and_intros<;>first|omega|with_reducible rfl|kernel_rfl|simp;done)|with_reducible intro Av|(with_reducible refine Ai ?_ ?_);focus (decide)|refine Ch ?_|(with_reducible apply Ed);(focus (simp only[D.at,D.put,D.Cr,D.Bc,B7,Bw,D.Ap,B8,A4,Dq,h1,h3,A6.Dp,Ef.Ap]<;>exact rfl)))
 all_goals(try(conv=>whnf))
 refine Ep.by (X:=Nat × List Ce × List I × List D) (fun y=>[(31,.v (ti (y.1:Int))),(10,.own [] (.map y.2.2.1 y.2.2.2))]) (fun y=>y.1≤cs.length∧y.2.1.length≤y.1∧y.2.2.1=Q0 y.2.1∧y.2.2.2=Vj y.2.1∧L6 (cs.drop y.1) y.2.1=E3∧(y.2.1.map Ce.key).Nodup∧∀c∈y.2.1,c.ok) (fun y=>cs.length - y.1) (0,[],[],[]) (by kernel_rfl) ⟨A3 _,by simp,rfl,rfl,hF,by simp,by simp⟩ ?_
 rintro⟨j,F,KS,VS⟩ ⟨hj,hFl,e1,e2,hR,F5,Dj⟩;dsimp only at hj hFl e1 e2 hR F5 Dj ⊢;subst e1 e2;have Aa4:(cs.map Ce.Ap).length=cs.length:=An _;have hw:IntKind.i64.wrap ((j:Int)+1)=((j+1:Nat):Int):=Mj (n:=100000) (by omega) (by simp only[maxLen];omega)
 by_cases E6:j<cs.length
 ·skip
  obtain⟨c,he⟩:∃c,cs[j]?=some c:=⟨_,Ac E6⟩;have Di:¬decide ((j:Int)<(cs.length:Int))=false:=by simp;omega
  have Awc:¬decide ((j:Int)<((cs.map Ce.Ap).length:Int))=false:=by simp;omega
  have K9:cs.drop j=c::cs.drop (j+1):=by rw[A7 E6];rw[Ac E6]at he;cases he;rfl
  rw[K9]at hR;simp only[L6]at hR;have Hk:=Ajk c.key;have L2:=Adb c.val;by_cases hc:c.ok
  case neg=>
   rw[if_neg hc]at hR;rw[←hR]at Hj;cases Hj
  have Qk:∀x∈Fp F c,x.ok:=fun x hx=>by
   rcases Ah5 hx with h|h
   ·exact Dj x h
   ·subst h;exact hc
  have hfl:=Ah4 F c;rw[if_pos hc]at hR;have Biv:=Ab6 (c:=c) F5;obtain⟨Uo,W5⟩:=hc;rw[decide_eq_true Uo]at Hk;have Aa6:∀KS' VS',KS'=Q0 (Fp F c)→VS'=Vj (Fp F c)→j+1≤cs.length∧(Fp F c).length≤j+1∧KS'=Q0 (Fp F c)∧VS'=Vj (Fp F c)∧L6 (cs.drop (j+1)) (Fp F c)=E3∧((Fp F c).map Ce.key).Nodup∧∀c'∈Fp F c,c'.ok:=
   fun KS' VS' e1 e2=>⟨by omega,by omega,e1,e2,hR,Biv,Qk⟩
  clear hR K9;cases hq:F.findIdx? (fun x=>decide (x.key=c.key))with
  |none=>
   obtain⟨g1,g2,g3⟩:=Apt hq;obtain⟨ck,cv,cg⟩:=c;cases cg with
   |true=>
    repeat'((conv=>whnf);first|(with_reducible first|refine Bv (by exact Ae (by assumption)) fun hb=>?_|refine Bq (by rfl) fun hb=>?_);(try rw[hb]);try simp only[Am]at hb|((with_reducible refine Ai (fun hb=>?_) fun hb=>?_)<;>first|exact absurd hb (by decide)|(try rw[hb]);try simp only[Am]at hb)|(with_reducible refine Aa ?_ ?_);focus (and_intros<;>first|omega|kernel_rfl|intro _ hh;cases hh;done|simp;done|decide)|(try dsimp only);rw[Be he]|(with_reducible refine A5.mk ?_);refine⟨_,Hk,?_⟩;rintro _ _ ⟨rfl,rfl⟩|(try dsimp only);rw[hw]|(with_reducible apply Ed);(focus (simp only[D.at,D.put,D.Cr,D.Bc,B7,Bw,D.Ap,B8,A4,Dq,g1,Jh]<;>exact rfl)))
    all_goals(try(conv=>whnf))
    refine Round.by (j+1,Fp F ⟨ck,cv,true⟩,Q0 F++[.str ck],Vj F++[.it (Ce.mk ck cv true).Ap]) ?_ (Aa6 _ _ g2.symm g3.symm) (by dsimp only;omega)
    try dsimp only
    show norm _ _=Dy _ _
    kernel_rfl
   |false=>
    rw[decide_eq_true (by simpa using W5)]at L2
    repeat'((conv=>whnf);first|(with_reducible first|refine Bv (by first|exact Ae (by assumption)|rfl) fun hb=>?_|refine Bq (by rfl) fun hb=>?_);(try rw[hb]);try simp only[Am]at hb|((with_reducible refine Ai (fun hb=>?_) fun hb=>?_)<;>first|exact absurd hb (by decide)|(try rw[hb]);try simp only[Am]at hb)|(with_reducible refine Aa ?_ ?_);focus (and_intros<;>first|omega|kernel_rfl|intro _ hh;cases hh;done|simp;done|decide)|(try dsimp only);rw[Be he]|(with_reducible refine A5.mk ?_);(first|refine⟨_,Hk,?_⟩|refine⟨_,L2,?_⟩);rintro _ _ ⟨rfl,rfl⟩|(try dsimp only);rw[hw]|(with_reducible apply Ed);(focus (simp only[D.at,D.put,D.Cr,D.Bc,B7,Bw,D.Ap,B8,A4,Dq,g1,Jh]<;>exact rfl)))
    all_goals(try(conv=>whnf))
    refine Round.by (j+1,Fp F ⟨ck,cv,false⟩,Q0 F++[.str ck],Vj F++[.it (Ce.mk ck cv false).Ap]) ?_ (Aa6 _ _ g2.symm g3.symm) (by dsimp only;omega)
    try dsimp only
    show norm _ _=Dy _ _
    kernel_rfl
  |some q=>
   obtain⟨g1,g2,g3⟩:=Apu hq;obtain⟨ck,cv,cg⟩:=c;cases cg with
   |true=>
    repeat'((conv=>whnf);first|(with_reducible first|refine Bv (by exact Ae (by assumption)) fun hb=>?_|refine Bq (by rfl) fun hb=>?_);(try rw[hb]);try simp only[Am]at hb|((with_reducible refine Ai (fun hb=>?_) fun hb=>?_)<;>first|exact absurd hb (by decide)|(try rw[hb]);try simp only[Am]at hb)|(with_reducible refine Aa ?_ ?_);focus (and_intros<;>first|omega|kernel_rfl|intro _ hh;cases hh;done|simp;done|decide)|(try dsimp only);rw[Be he]|(with_reducible refine A5.mk ?_);refine⟨_,Hk,?_⟩;rintro _ _ ⟨rfl,rfl⟩|(try dsimp only);rw[hw]|(with_reducible apply Ed);(focus (simp only[D.at,D.put,D.Cr,D.Bc,B7,Bw,D.Ap,B8,A4,Dq,g1,Jh]<;>exact rfl)))
    all_goals(try(conv=>whnf))
    refine Round.by (j+1,Fp F ⟨ck,cv,true⟩,Q0 F,(Vj F).set q (.it (Ce.mk ck cv true).Ap)) ?_ (Aa6 _ _ g2.symm g3.symm) (by dsimp only;omega)
    try dsimp only
    show norm _ _=Dy _ _
    kernel_rfl
   |false=>
    rw[decide_eq_true (by simpa using W5)]at L2
    repeat'((conv=>whnf);first|(with_reducible first|refine Bv (by first|exact Ae (by assumption)|rfl) fun hb=>?_|refine Bq (by rfl) fun hb=>?_);(try rw[hb]);try simp only[Am]at hb|((with_reducible refine Ai (fun hb=>?_) fun hb=>?_)<;>first|exact absurd hb (by decide)|(try rw[hb]);try simp only[Am]at hb)|(with_reducible refine Aa ?_ ?_);focus (and_intros<;>first|omega|kernel_rfl|intro _ hh;cases hh;done|simp;done|decide)|(try dsimp only);rw[Be he]|(with_reducible refine A5.mk ?_);(first|refine⟨_,Hk,?_⟩|refine⟨_,L2,?_⟩);rintro _ _ ⟨rfl,rfl⟩|(try dsimp only);rw[hw]|(with_reducible apply Ed);(focus (simp only[D.at,D.put,D.Cr,D.Bc,B7,Bw,D.Ap,B8,A4,Dq,g1,Jh]<;>exact rfl)))
    all_goals(try(conv=>whnf))
    refine Round.by (j+1,Fp F ⟨ck,cv,false⟩,Q0 F,(Vj F).set q (.it (Ce.mk ck cv false).Ap)) ?_ (Aa6 _ _ g2.symm g3.symm) (by dsimp only;omega)
    try dsimp only
    show norm _ _=Dy _ _
    kernel_rfl
 have Di:¬decide ((j:Int)<(cs.length:Int))=true:=by simp;omega
 have Awc:¬decide ((j:Int)<((cs.map Ce.Ap).length:Int))=true:=by simp;omega
 rw[Bo (by omega)]at hR
 have hR:some F=E3:=hR;rw[←hR]at Hj;cases Hj;clear hR;have Bir:∀x∈Q0 FF,∃s,x=I.str s:=fun x hx=>by obtain⟨c,_,rfl⟩:=Cs.1 hx;exact⟨_,rfl⟩
 have Bis:(Q0 FF).length≤1000000:=by simp only[Q0,An];omega
 have Bit:((Q0 FF).map Aam).Nodup:=by simp only[Q0,List.map_map];exact F5
 have hSI:Xr (Q0 FF)=(Fz (FF.map Ce.key)).map I.str:=by rw[←Ayu];simp only[Q0,List.map_map];rfl
 repeat'((conv=>whnf);first|(with_reducible refine Bq (by exact Ag (by assumption)) fun hb=>?_);(try rw[hb]);try simp only[Am]at hb|(with_reducible refine Aa ?_ ?_);focus (and_intros<;>first|exact Bir|exact Bis|exact Bit|omega|with_reducible rfl|kernel_rfl|simp;done)|with_reducible intro Av|refine A21 hK ?_|refine At3 hS ?_)
 all_goals(try(conv=>whnf))
 rw[hSI];have hKm:∀k∈Fz (FF.map Ce.key),k∈FF.map Ce.key:=fun k hk=>(Hy ..).mem_iff.1 hk
 have hKl:(Fz (FF.map Ce.key)).length≤cs.length:=by unfold Fz;rw[List.length_mergeSort,An];omega
 generalize Fz (FF.map Ce.key)=KK at hZ hKm hKl ⊢;obtain⟨VS0,Aq8⟩:∃V,V=s.sp.map fun x=>D.ptr (.it x.2.Ap):=⟨_,rfl⟩
 obtain⟨KS0,Aq7⟩:∃V,V=s.sp.map fun x=>I.str x.1:=⟨_,rfl⟩
 have hi:i<VS0.length:=by rw[Aq8];exact(Ak.1 h2).1
 refine Ep.by (X:=Nat × Bool × Ef × List D × List C0 × List D) (fun y=>[(59,.v (ti (y.1:Int))),(13,.v (.bool y.2.1)),(179,.own [] (.ptr (stD KS0 y.2.2.2.1 y.2.2.2.2.2)))])
  (fun y=>y.1≤KK.length∧y.2.2.2.1=VS0.set i (.ptr (.it y.2.2.1.Ap))∧y.2.2.2.2.2=y.2.2.2.2.1.map C0.Dp∧U3 (B+y.1) y.2.2.2.2.1∧TBd (B+y.1) y.2.2.1∧(y.2.2.1.rev=(s.De n).rev∧y.2.2.1.floor=(s.De n).floor)∧Ea n FF (KK.drop y.1) ⟨y.2.2.1,y.2.2.2.2.1,y.2.1⟩=Z)
  (fun y=>KK.length - y.1) (0,false,s.De n,s.sp.map (fun x=>D.ptr (.it x.2.Ap)),s.l,s.l.map C0.Dp) (by rw[Aq7];kernel_rfl)
  ⟨A3 _,(by show s.sp.map (fun x=>D.ptr (.it x.2.Ap))=_;rw[←Aq8]at h2 ⊢;exact(List.set_getElem?_self' h2).symm),rfl,hL,hT,⟨rfl,rfl⟩,hZ⟩ ?_
 rintro⟨k,wr,t,VS,L,Ld⟩ ⟨hk,e1,e2,hLB,hTB,hrf,hR⟩;dsimp only at hk e1 e2 hLB hTB hrf hR ⊢;have Sb:IntKind.i64.wrap ((k:Int)+1)=((k+1:Nat):Int):=Mj (n:=100000) (by omega) (by simp only[maxLen];omega)
 have Mw:VS[i]?=some (.ptr (.it t.Ap)):=by rw[e1,E7 hi]
 have B11:(KK.map I.str).length=KK.length:=An _;have Hr:IntKind.i64.wrap (t.rev+1)=t.rev+1:=Cd (by omega)
 by_cases L8:k<KK.length
 case neg=>
  have A2h:¬decide ((k:Int)<((KK.map I.str).length:Int))=true:=by simp;omega
  have Bw7:¬decide ((k:Int)<(KK.length:Int))=true:=by simp;omega
  rw[Bo (by omega)]at hR
  have hR:⟨t,L,wr⟩=Z:=hR;subst hR;have Mx:∀f:Ef,sP ⟨s.sp.set i (n,f),L⟩= .own [] (.ptr (stD KS0 (VS.set i (.ptr (.it f.Ap))) Ld)):=fun f=>by
   simp only[sP,A6.Dp,Gi];rw[←Aq8, ←Aq7,e1,Gj,e2];rw[List.set_getElem?_self' (l:=KS0) (by rw[Aq7,B2,h3];rfl)]
  cases wr with
  |false=>
   have Rv:sP ⟨s.sp.set i (n,(N0.mk t L false).fin),L⟩= .own [] (.ptr (stD KS0 VS Ld)):=by
    rw[show(N0.mk t L false).fin=t from rfl,Mx,List.set_getElem?_self' Mw]
   rw[Rv];repeat'((conv=>whnf);first|(with_reducible refine Bq (by first|exact Ag (by assumption)|rfl) fun hb=>?_);(try rw[hb]);try simp only[Am]at hb|(with_reducible refine Aa ?_ ?_);focus (and_intros<;>first|kernel_rfl|simp;done)|(with_reducible apply Dh);(focus rfl);(focus (simp only[D.at,D.put,D.Cr,D.Bc,B7,Bw,D.Ap,B8,A4,Dq,Mw,Ef.Ap]<;>exact rfl));(try(focus exact rfl)))
   all_goals(try(conv=>whnf))
   (apply D6<;>kernel_rfl)
  |true=>
   have Rv:sP ⟨s.sp.set i (n,(N0.mk t L true).fin),L⟩= .own [] (.ptr (stD KS0 (VS.set i (.ptr (.it (Ef.mk (t.rev+1) t.floor t.bytes t.keys t.Jk).Ap))) Ld)):=Mx _;rw[Rv];repeat'((conv=>whnf);first|(with_reducible first|refine Bv (by rfl) fun hb=>?_|refine Bq (by exact Ag (by assumption)) fun hb=>?_);(try rw[hb]);try simp only[Am]at hb|(with_reducible refine Aa ?_ ?_);focus (and_intros<;>first|kernel_rfl|simp;done)|(try dsimp only);rw[Hr]|(with_reducible apply Ed);(focus (simp only[D.at,D.put,D.Cr,D.Bc,B7,Bw,D.Ap,B8,A4,Dq,Mw,Ef.Ap]<;>exact rfl))|(with_reducible apply Dh);(focus rfl);(focus (simp only[D.at,D.put,D.Cr,D.Bc,B7,Bw,D.Ap,B8,A4,Dq,Mw,Ef.Ap]<;>exact rfl));(try(focus exact rfl)))
   all_goals(try(conv=>whnf))
   (apply D6<;>kernel_rfl)
 obtain⟨kk,he⟩:∃kk,KK[k]?=some kk:=⟨_,Ac L8⟩;have A2h:¬decide ((k:Int)<((KK.map I.str).length:Int))=false:=by simp;omega
 have Bw7:¬decide ((k:Int)<(KK.length:Int))=false:=by simp;omega
 have K9:KK.drop k=kk::KK.drop (k+1):=by rw[A7 L8];rw[Ac L8]at he;cases he;rfl
 rw[K9]at hR;simp only[Ea]at hR;obtain⟨q,hq,hq2,hq3⟩:=Aq6 (hKm kk (Aw he));have A15:=Dj (H5 FF kk) (Aw hq2);have hqk:Nd kk (Q0 FF) 0=some (some q):=by rw[Tp (fun c:Ce=>c.key),hq];rfl
 have Vd:kk.length≤64:=by rw[←hq3];exact A15.1.2
 have Xb:=Xs n kk (by omega) (by omega)
 have N1:=Abd L (Cp n kk) (by have:=hLB.len;omega)
 have hI:=Atm L;rw[←e2]at hI;obtain⟨Bp3,Bp4,Bwd,Bwe⟩:=Aou (k:=kk) (c:=H5 FF kk) (x:=⟨t,L,wr⟩) hLB hTB hn Vd A15.2;generalize H5 FF kk=c at*;obtain⟨ck,cv,cg⟩:=c;dsimp only at hq3;subst hq3;have hvF:(Vj FF)[q]?=some (.it (Ce.mk ck cv cg).Ap):=by simp only[Vj,B2,hq2,Bx]
 generalize Ga:Dv n ck ⟨ck,cv,cg⟩ ⟨t,L,wr⟩=S at*;have N3:∀Ld' VS',VS'=VS0.set i (.ptr (.it S.t.Ap))→Ld'=S.l.map C0.Dp→k+1≤KK.length∧VS'=VS0.set i (.ptr (.it S.t.Ap))∧Ld'=S.l.map C0.Dp∧U3 (B+(k+1)) S.l∧TBd (B+(k+1)) S.t∧(S.t.rev=(s.De n).rev∧S.t.floor=(s.De n).floor)∧Ea n FF (KK.drop (k+1)) ⟨S.t,S.l,S.w⟩=Z:=
  fun Ld' VS' g1 g2=>⟨by omega,g1,g2,Bp3,Bp4,⟨Bwd.trans hrf.1,Bwe.trans hrf.2⟩,hR⟩
 clear hR Bp3 Bp4 K9;unfold Dv at Ga;obtain⟨a,ha⟩:∃a,a=Cp n ck:=⟨_,rfl⟩;rw[←ha]at Ga Xb N1;have hlen:=hLB.len;cases hpf:U6 (Fe a) (Su a) L with
 |false=>
  rw[hpf]at N1;have hla:Ni L a=Fx:=A6.Ait (s:=⟨[],L⟩) hpf;simp only[hla]at Ga;cases cg with
  |true=>
   simp only[Fx,and_self,if_true]at Ga;subst Ga;generalize hp:Gm (Fe a) L=p at*;repeat'((conv=>whnf);first|(with_reducible first|refine Bv (by first|exact Ae (by assumption)|rfl) fun hb=>?_|refine Bq (by first|assumption|rfl) fun hb=>?_);(try rw[hb]);try simp only[Am]at hb|(with_reducible refine Aa ?_ ?_);focus (and_intros<;>first|omega|with_reducible rfl|kernel_rfl|intro _ hh;cases hh;done|simp;done|decide)|(with_reducible refine Dw.Gx ?_ ?_ ?_ fun Av=>?_);(iterate 3 focus kernel_rfl);try simp only[zRL]at Av|(try dsimp only);rw[Be he]|(with_reducible refine Fv.mk ?_);refine⟨_,_,Xb,?_⟩|refine Lc ?_ (by decide)|refine Hc ?_ (by decide)|(with_reducible refine A5.mk ?_);refine⟨_,N1,?_⟩;rintro _ _ ⟨rfl,rfl⟩|(try dsimp only);rw[Sb]|(first|with_reducible apply Ed|with_reducible apply L1);(focus (simp only[D.at,D.put,D.Cr,D.Bc,B7,Bw,D.Ap,B8,A4,Dq,hqk,hvF,Mw,hI,Ce.Ap,Ef.Ap]<;>exact rfl)))
   all_goals(try(conv=>whnf))
   refine Round.by (k+1,wr,t,VS,L,Ld) ?_ (N3 _ _ e1 e2) (by dsimp only;omega)
   try dsimp only
   show norm _ _=Dy _ _
   kernel_rfl
  |false=>
   have hcv:cv.length≤256:=by rcases A15.2 with h|h;cases h;exact h
   have Bwm:ck.length≤64:=Vd;obtain⟨hT1,hT2,hT3⟩:=hTB;simp only[Fx,D0,false_and,if_false,if_true]at Ga;have hfa:Pf L a ⟨t.rev+1,t.rev+1,cv,false⟩=L.take (Gm (Fe a) L)++⟨a,[⟨t.rev+1,t.rev+1,cv,false⟩]⟩::L.drop (Gm (Fe a) L):=by
    unfold Pf Afx;rw[hpf];simp
   rw[hfa]at Ga;have Bxb:=Wx (Fe a) L;have Bqo:=A6x Ld (⟨a,[]⟩:C0).Dp (Gm (Fe a) L) (by rw[e2,An];exact Bxb) (by rw[e2,An];omega)
   have Bv7:Ld.length=L.length:=by rw[e2,An]
   generalize hp:Gm (Fe a) L=p at*;have Dd:=Br2 (L:=Ld) (p:=p) (by omega) (⟨a,[]⟩:C0).Dp
   have hll:(Ld.take p++(⟨a,[]⟩:C0).Dp::Ld.drop p).length=Ld.length+1:=by simp;omega
   have Fq:∀y,(Ld.take p++(⟨a,[]⟩:C0).Dp::Ld.drop p).set p y=Ld.take p++y::Ld.drop p:=fun y=>Boe (by omega) _ y
   generalize Ld.take p++(⟨a,[]⟩:C0).Dp::Ld.drop p=L' at Bqo Dd hll Fq;have Tt:IntKind.i64.wrap (t.keys+1)=t.keys+1:=Cd (by omega)
   have Jx:IntKind.i64.wrap ((ck.length:Int)+(cv.length:Int))=(ck.length:Int)+(cv.length:Int):=Cd (by omega)
   have Ku:IntKind.i64.wrap (t.bytes+((ck.length:Int)+(cv.length:Int)))=t.bytes+((ck.length:Int)+(cv.length:Int)):=Cd (by omega)
   have Mi:IntKind.i64.wrap (t.Jk+1)=t.Jk+1:=Cd (by omega)
   repeat'((conv=>whnf);first|(with_reducible first|refine Bv (by first|exact Ae (by assumption)|rfl) fun hb=>?_|refine Bq (by first|assumption|rfl) fun hb=>?_);(try rw[hb]);try simp only[Am]at hb|((with_reducible refine Ai (fun hb=>?_) fun hb=>?_)<;>first|exact absurd hb (by decide)|(try rw[hb]);try simp only[Am]at hb)|(with_reducible refine Aa ?_ ?_);focus (and_intros<;>first|omega|with_reducible rfl|kernel_rfl|intro _ hh;cases hh;done|exact F0 (by rfl)|exact Jm rfl|simp only[Eu];omega|simp;done|decide)|(with_reducible refine Dw.Gx ?_ ?_ ?_ fun Av=>?_);(iterate 3 focus kernel_rfl);try simp only[zRL]at Av|(try dsimp only);rw[Be he]|(with_reducible refine Fv.mk ?_);refine⟨_,_,Xb,?_⟩|refine Lc ?_ (by decide)|refine Hc ?_ (by decide)|refine Qz ?_ (by decide)|(with_reducible refine A5.mk ?_);(first|refine⟨_,N1,?_⟩|refine⟨_,Bqo,?_⟩);rintro _ _ ⟨rfl,rfl⟩|(try dsimp only);(first|rw[Sb]|rw[Hr]|rw[Tt]|rw[Jx]|rw[Ku]|rw[Mi])|(first|with_reducible apply Ed|with_reducible apply L1);(focus (simp only[D.at,D.put,D.Cr,D.Bc,B7,Bw,D.Ap,B8,A4,Dq,hqk,hvF,Mw,hI,Dd,hll,Ce.Ap,Ef.Ap]<;>exact rfl))|(with_reducible apply Dh);(focus rfl);(focus (simp only[D.at,D.put,D.Cr,D.Bc,B7,Bw,D.Ap,B8,A4,Dq,hqk,hvF,Mw,hI,Dd,hll,Ce.Ap,Ef.Ap]<;>exact rfl));(try(focus exact rfl)))
   all_goals(try(conv=>whnf))
   subst Ga;refine Round.by (k+1,true,(Ef.mk t.rev t.floor (t.bytes+((ck.length:Int)+(cv.length:Int))) (t.keys+1) (t.Jk+1)),VS.set i (.ptr (.it (Ef.mk t.rev t.floor (t.bytes+((ck.length:Int)+(cv.length:Int))) (t.keys+1) (t.Jk+1):Ef).Ap)),L.take p++⟨a,[⟨t.rev+1,t.rev+1,cv,false⟩]⟩::L.drop p,L'.set p (.st [.it (.str a),.vec Ft 4 [.it (Bt.mk (t.rev+1) (t.rev+1) cv false).Ap]])) ?_ (N3 _ _ (by rw[e1,Gj]) (by rw[Fq,e2];simp[C0.Dp,List.map_take,List.map_drop])) (by dsimp only;omega)
   try dsimp only
   show norm _ _=Dy _ _
   kernel_rfl
 |true=>
  rw[hpf]at N1;obtain⟨e,v,g1,g2,g3,g4,g5⟩:=A6.Bji (s:=⟨[],L⟩) (fun h hh=>⟨(hLB.held h hh).2.1,by have:=(hLB.held h hh).2.2.1;omega⟩) hpf
  change L[Gm (Fe a) L]?=some e at g1;change Ni L a=v at g3;rw[g3]at Ga;have Tw:v.val.length≤1000:=(hLB.held e (Aw g1)).2.2.2 v (Aw g2);have Bxo:=(hLB.held e (Aw g1)).2.2.1;have hfa:∀v',Pf L a v'=L.set (Gm (Fe a) L) ⟨e.at_,e.vs++[v']⟩:=fun v'=>by
   unfold Pf Afx;rw[hpf,if_pos rfl];exact Sm g1 _
  simp only[hfa]at Ga;have Bv7:Ld.length=L.length:=by rw[e2,An]
  have Ju:Gm (Fe a) L<L.length:=(Ak.1 g1).1;clear hfa g3;generalize hp:Gm (Fe a) L=p at*;obtain⟨b,Ev⟩:=e;dsimp only at g2 g4 g5 Ga Bxo;have Dd:Ld[p]?=some (.st [.it (.str b),.vec Ft 4 ((Ev.map Bt.Ap).map D.it)]):=by rw[e2,B2,g1];rfl
  have Fq:∀v',Ld.set p (.st [.it (.str b),.vec Ft 4 ((Ev.map Bt.Ap).map D.it++[.it (Bt.Ap v')])])=(L.set p ⟨b,Ev++[v']⟩).map C0.Dp:=fun v'=>by rw[e2,Gi];simp[C0.Dp]
  have hlv:(Ev.map Bt.Ap)[(Ev.map Bt.Ap).length - 1]?=some v.Ap:=by rw[An,B2,g2];rfl
  have Qy:(Ev.map Bt.Ap).length≤90000:=by rw[An];omega
  have hv0:0<(Ev.map Bt.Ap).length:=by rw[An];omega
  generalize Ev.map Bt.Ap=vs at Dd Fq hlv Qy hv0;have hwl:IntKind.i64.wrap ((vs.length:Int) - 1)=((vs.length - 1:Nat):Int):=by rw[Cd (by omega)];omega
  obtain⟨vr,vm,vv,vg⟩:=v;dsimp only at Tw Ga;obtain⟨hT1,hT2,hT3⟩:=hTB;have Mi:IntKind.i64.wrap (t.Jk+1)=t.Jk+1:=Cd (by omega)
  have Bwm:ck.length≤64:=Vd;cases vg with
  |true=>
   cases cg with
   |true=>
    simp only[and_self,if_true]at Ga;subst Ga;repeat'((conv=>whnf);first|(with_reducible refine Bv (by first|assumption|exact Ae (by assumption)|rfl) fun hb=>?_);(try rw[hb]);try simp only[Am]at hb|(with_reducible refine Aa ?_ ?_);focus (and_intros<;>first|omega|with_reducible rfl|kernel_rfl|intro _ hh;cases hh;done|simp only[Eu];omega|simp;done|decide)|with_reducible intro Av|(with_reducible refine Dw.Gx ?_ ?_ ?_ fun Av=>?_);(iterate 3 focus kernel_rfl);try simp only[zRL]at Av|(try dsimp only);rw[Be he]|(with_reducible refine Fv.mk ?_);refine⟨_,_,Xb,?_⟩|refine Lc ?_ (by decide)|refine Hc ?_ (by decide)|(with_reducible refine A5.mk ?_);refine⟨_,N1,?_⟩;rintro _ _ ⟨rfl,rfl⟩|(try dsimp only);rw[Sb]|(first|with_reducible apply Ed|with_reducible apply L1);(focus (simp only[D.at,D.put,D.Cr,D.Bc,B7,Bw,D.Ap,B8,A4,Dq,hqk,hvF,Mw,hI,Dd,hlv,hwl,Ce.Ap,Ef.Ap]<;>exact rfl))|(first|with_reducible apply Dh|with_reducible apply Aox);(focus rfl);(focus (simp only[D.at,D.put,D.Cr,D.Bc,B7,Bw,D.Ap,B8,A4,Dq,hqk,hvF,Mw,hI,Dd,hlv,hwl,Ce.Ap,Ef.Ap]<;>exact rfl));(try(focus exact rfl)))
    all_goals(try(conv=>whnf))
    refine Round.by (k+1,wr,t,VS,L,Ld) ?_ (N3 _ _ e1 e2) (by dsimp only;omega)
    try dsimp only
    show norm _ _=Dy _ _
    kernel_rfl
   |false=>
    have hcv:cv.length≤256:=by rcases A15.2 with h|h;cases h;exact h
    simp only[D0,false_and,if_false,if_true]at Ga;subst Ga;have Tt:IntKind.i64.wrap (t.keys+1)=t.keys+1:=Cd (by omega)
    have Jx:IntKind.i64.wrap ((ck.length:Int)+(cv.length:Int))=(ck.length:Int)+(cv.length:Int):=Cd (by omega)
    have Ku:IntKind.i64.wrap (t.bytes+((ck.length:Int)+(cv.length:Int)))=t.bytes+((ck.length:Int)+(cv.length:Int)):=Cd (by omega)
    repeat'((conv=>whnf);first|(with_reducible first|refine Bv (by first|assumption|exact Ae (by assumption)|rfl) fun hb=>?_|refine Bq (by first|exact Ag (by assumption)|rfl) fun hb=>?_);(try rw[hb]);try simp only[Am]at hb|((with_reducible refine Ai (fun hb=>?_) fun hb=>?_)<;>first|exact absurd hb (by decide)|(try rw[hb]);try simp only[Am]at hb)|(with_reducible refine Aa ?_ ?_);focus (and_intros<;>first|omega|with_reducible rfl|kernel_rfl|intro _ hh;cases hh;done|exact F0 (by rfl)|exact Jm rfl|simp only[Eu];omega|simp;done|decide)|with_reducible intro Av|(with_reducible refine Dw.Gx ?_ ?_ ?_ fun Av=>?_);(iterate 3 focus kernel_rfl);try simp only[zRL]at Av|(try dsimp only);rw[Be he]|(with_reducible refine Fv.mk ?_);refine⟨_,_,Xb,?_⟩|refine Lc ?_ (by decide)|refine Hc ?_ (by decide)|refine Qz ?_ (by decide)|(with_reducible refine A5.mk ?_);refine⟨_,N1,?_⟩;rintro _ _ ⟨rfl,rfl⟩|(try dsimp only);(first|rw[Sb]|rw[Hr]|rw[Tt]|rw[Jx]|rw[Ku]|rw[Mi])|(first|with_reducible apply Ed|with_reducible apply L1);(focus (simp only[D.at,D.put,D.Cr,D.Bc,B7,Bw,D.Ap,B8,A4,Dq,hqk,hvF,Mw,hI,Dd,hlv,hwl,Ce.Ap,Ef.Ap]<;>exact rfl))|(first|with_reducible apply Dh|with_reducible apply Aox);(focus rfl);(focus (simp only[D.at,D.put,D.Cr,D.Bc,B7,Bw,D.Ap,B8,A4,Dq,hqk,hvF,Mw,hI,Dd,hlv,hwl,Ce.Ap,Ef.Ap]<;>exact rfl));(try(focus exact rfl)))
    all_goals(try(conv=>whnf))
    refine Round.by (k+1,true,(Ef.mk t.rev t.floor (t.bytes+((ck.length:Int)+(cv.length:Int))) (t.keys+1) (t.Jk+1)),VS.set i (.ptr (.it (Ef.mk t.rev t.floor (t.bytes+((ck.length:Int)+(cv.length:Int))) (t.keys+1) (t.Jk+1):Ef).Ap)),L.set p ⟨b,Ev++[Bt.mk (t.rev+1) (t.rev+1) cv false]⟩,Ld.set p (.st [.it (.str b),.vec Ft 4 (vs.map D.it++[.it (Bt.mk (t.rev+1) (t.rev+1) cv false).Ap])])) ?_ (N3 _ _ (by rw[e1,Gj]) (Fq _)) (by dsimp only;omega)
    try dsimp only
    show norm _ _=Dy _ _
    kernel_rfl
  |false=>
   cases cg with
   |true=>
    simp only[D0,and_false,if_false,if_true]at Ga;subst Ga;have Tt:IntKind.i64.wrap (t.keys - 1)=t.keys - 1:=Cd (by omega)
    have Jx:IntKind.i64.wrap ((ck.length:Int)+(vv.length:Int))=(ck.length:Int)+(vv.length:Int):=Cd (by omega)
    have Ku:IntKind.i64.wrap (t.bytes - ((ck.length:Int)+(vv.length:Int)))=t.bytes - ((ck.length:Int)+(vv.length:Int)):=Cd (by omega)
    repeat'((conv=>whnf);first|(with_reducible first|refine Bv (by first|assumption|exact Ae (by assumption)|rfl) fun hb=>?_|refine Bq (by first|exact Ag (by assumption)|rfl) fun hb=>?_);(try rw[hb]);try simp only[Am]at hb|((with_reducible refine Ai (fun hb=>?_) fun hb=>?_)<;>first|exact absurd hb (by decide)|(try rw[hb]);try simp only[Am]at hb)|(with_reducible refine Aa ?_ ?_);focus (and_intros<;>first|omega|with_reducible rfl|kernel_rfl|intro _ hh;cases hh;done|exact F0 (by rfl)|exact Jm rfl|simp only[Eu];omega|simp;done|decide)|with_reducible intro Av|(with_reducible refine Dw.Gx ?_ ?_ ?_ fun Av=>?_);(iterate 3 focus kernel_rfl);try simp only[zRL]at Av|(try dsimp only);rw[Be he]|(with_reducible refine Fv.mk ?_);refine⟨_,_,Xb,?_⟩|refine Lc ?_ (by decide)|refine Hc ?_ (by decide)|refine Qz ?_ (by decide)|(with_reducible refine A5.mk ?_);refine⟨_,N1,?_⟩;rintro _ _ ⟨rfl,rfl⟩|(try dsimp only);(first|rw[Sb]|rw[Hr]|rw[Tt]|rw[Jx]|rw[Ku]|rw[Mi])|(first|with_reducible apply Ed|with_reducible apply L1);(focus (simp only[D.at,D.put,D.Cr,D.Bc,B7,Bw,D.Ap,B8,A4,Dq,hqk,hvF,Mw,hI,Dd,hlv,hwl,Ce.Ap,Ef.Ap]<;>exact rfl))|(first|with_reducible apply Dh|with_reducible apply Aox);(focus rfl);(focus (simp only[D.at,D.put,D.Cr,D.Bc,B7,Bw,D.Ap,B8,A4,Dq,hqk,hvF,Mw,hI,Dd,hlv,hwl,Ce.Ap,Ef.Ap]<;>exact rfl));(try(focus exact rfl)))
    all_goals(try(conv=>whnf))
    refine Round.by (k+1,true,(Ef.mk t.rev t.floor (t.bytes - ((ck.length:Int)+(vv.length:Int))) (t.keys - 1) (t.Jk+1)),VS.set i (.ptr (.it (Ef.mk t.rev t.floor (t.bytes - ((ck.length:Int)+(vv.length:Int))) (t.keys - 1) (t.Jk+1):Ef).Ap)),L.set p ⟨b,Ev++[Bt.mk (t.rev+1) 0 [] true]⟩,Ld.set p (.st [.it (.str b),.vec Ft 4 (vs.map D.it++[.it (Bt.mk (t.rev+1) 0 [] true).Ap])])) ?_ (N3 _ _ (by rw[e1,Gj]) (Fq _)) (by dsimp only;omega)
    try dsimp only
    show norm _ _=Dy _ _
    kernel_rfl
   |false=>
    have hcv:cv.length≤256:=by rcases A15.2 with h|h;cases h;exact h
    simp only[D0,false_and,if_false]at Ga;subst Ga;have Jx:IntKind.i64.wrap ((cv.length:Int) - (vv.length:Int))=(cv.length:Int) - (vv.length:Int):=Cd (by omega)
    have Ku:IntKind.i64.wrap (t.bytes+((cv.length:Int) - (vv.length:Int)))=t.bytes+((cv.length:Int) - (vv.length:Int)):=Cd (by omega)
    repeat'((conv=>whnf);first|(with_reducible first|refine Bv (by first|assumption|exact Ae (by assumption)|rfl) fun hb=>?_|refine Bq (by first|exact Ag (by assumption)|rfl) fun hb=>?_);(try rw[hb]);try simp only[Am]at hb|((with_reducible refine Ai (fun hb=>?_) fun hb=>?_)<;>first|exact absurd hb (by decide)|(try rw[hb]);try simp only[Am]at hb)|(with_reducible refine Aa ?_ ?_);focus (and_intros<;>first|omega|with_reducible rfl|kernel_rfl|intro _ hh;cases hh;done|exact F0 (by rfl)|exact Jm rfl|simp only[Eu];omega|simp;done|decide)|with_reducible intro Av|(with_reducible refine Dw.Gx ?_ ?_ ?_ fun Av=>?_);(iterate 3 focus kernel_rfl);try simp only[zRL]at Av|(try dsimp only);rw[Be he]|(with_reducible refine Fv.mk ?_);refine⟨_,_,Xb,?_⟩|refine Lc ?_ (by decide)|refine Hc ?_ (by decide)|refine Qz ?_ (by decide)|(with_reducible refine A5.mk ?_);refine⟨_,N1,?_⟩;rintro _ _ ⟨rfl,rfl⟩|(try dsimp only);(first|rw[Sb]|rw[Hr]|rw[Jx]|rw[Ku]|rw[Mi])|(first|with_reducible apply Ed|with_reducible apply L1);(focus (simp only[D.at,D.put,D.Cr,D.Bc,B7,Bw,D.Ap,B8,A4,Dq,hqk,hvF,Mw,hI,Dd,hlv,hwl,Ce.Ap,Ef.Ap]<;>exact rfl))|(first|with_reducible apply Dh|with_reducible apply Aox);(focus rfl);(focus (simp only[D.at,D.put,D.Cr,D.Bc,B7,Bw,D.Ap,B8,A4,Dq,hqk,hvF,Mw,hI,Dd,hlv,hwl,Ce.Ap,Ef.Ap]<;>exact rfl));(try(focus exact rfl)))
    all_goals(try(conv=>whnf))
    refine Round.by (k+1,true,(Ef.mk t.rev t.floor (t.bytes+((cv.length:Int) - (vv.length:Int))) t.keys (t.Jk+1)),VS.set i (.ptr (.it (Ef.mk t.rev t.floor (t.bytes+((cv.length:Int) - (vv.length:Int))) t.keys (t.Jk+1):Ef).Ap)),L.set p ⟨b,Ev++[Bt.mk (t.rev+1) vm cv false]⟩,Ld.set p (.st [.it (.str b),.vec Ft 4 (vs.map D.it++[.it (Bt.mk (t.rev+1) vm cv false).Ap])])) ?_ (N3 _ _ (by rw[e1,Gj]) (Fq _)) (by dsimp only;omega)
    try dsimp only
    show norm _ _=Dy _ _
    kernel_rfl
theorem Ajy{T E:TypeId}(hK:A9b T)(hS:A9e E)(s:A6)(n:A1)(cs:List Ce)(i:Nat)(hf:s.fi n=some i)(hn:n.length≤1000)(Kr:cs.length≤1000)(hL:U3 80000 s.l)(hT:TBd 80000 (s.De n))(Aih:0≤(s.De n).rev∧(s.De n).rev≤2000000000000)
 (FF:List Ce) (E3:Option (List Ce)) (Hj:E3=some FF) (hF:L6 cs []=E3) (Z:N0) (hZ:Ea n FF (Fz (FF.map Ce.key)) ⟨s.De n,s.l,false⟩=Z):
 Fn Tryz.prog Hn [sP s,.v (.str n),.v (.list (cs.map Ce.Ap))] (Is (.F4 [.i (ti Z.fin.rev),.i (ti 0)]) [sP ⟨s.sp.set i (n,Z.fin),Z.l⟩,.no,.no]):=
 A66 hK hS s n cs i hf hn (by omega) (by omega) hL hT Aih FF E3 Hj hF Z hZ
end Go.Ab
