/- Lemmas -/
import Derived.Test.YtkpojedpcabojaaGreatDoorVK
set_option linter.unusedVariables false
set_option linter.unusedSimpArgs false
set_option maxRecDepth 100000
set_option maxHeartbeats 40000000
namespace Go.Ab
open Go.Proofs
abbrev ksF(F:List Ef):List I:=F.map fun c=>I.str c.key
abbrev vsF(F:List Ef):List D:=F.map fun c=>D.it c.Bx
theorem Xf{F:List Ef}{c:Ef}(h:F.findIdx? (fun x=>decide (x.key=c.key))=none):Lo c.key (ksF F) 0=some none∧ksF (Bm F c)=ksF F++[.str c.key]∧vsF (Bm F c)=vsF F++[.it c.Bx]:=by
 refine⟨by rw[E5 (fun c:Ef=>c.key),h];rfl,?_,?_⟩<;>simp[Bm,h]
theorem Xg{F:List Ef}{c:Ef}{q:Nat}(h:F.findIdx? (fun x=>decide (x.key=c.key))=some q):Lo c.key (ksF F) 0=some (some q)∧ksF (Bm F c)=ksF F∧vsF (Bm F c)=(vsF F).set q (.it c.Bx):=by
 refine⟨by rw[E5 (fun c:Ef=>c.key),h];rfl,?_,?_⟩
 ·obtain⟨hi,h1,h2⟩:=List.findIdx?_eq_some_iff_getElem.1 h;simp only[Bm,h,ksF];rw[Amd];have:I.str c.key=(F.map fun c=>I.str c.key)[q]'(by simpa using hi):=by simp only[List.getElem_map];exact congrArg I.str (show F[q].key=c.key by simpa using h1).symm
  rw[this,List.set_getElem_self]
 ·simp only[Bm,h,vsF];rw[Amd]
theorem Ai8(s:Cn)(n:Az)(cs:List Ef)(hf:s.fi n=none):
 Fn Tryz.prog Da [sP s,.v (.str n),.v (.list (cs.map Ef.Bx))] (Is (.tup [.i (ti 0),.i (ti 16)]) [sP s,.no,.no]):=by
 refine Fo ?_ (by simp)
 obtain⟨h1,h2⟩:=Cn.Ayr hf;repeat'((conv=>whnf);first|(with_reducible first|refine Ax (by rfl) fun hb=>?_|refine Aw (by rfl) fun hb=>?_);(try rw[hb]);try simp only[Aa]at hb|((with_reducible refine A5 (fun hb=>?_) fun hb=>?_)<;>first|exact absurd hb (by decide)|(try rw[hb]);try simp only[Aa]at hb)|(with_reducible refine Ac ?_ ?_);focus (and_intros<;>first|omega|with_reducible rfl|kernel_rfl|simp;done)|refine Au ?_|(with_reducible apply A9);(focus (simp only[D.at,D.put,D.Xw,D.Fh,Mg,Jo,D.Bx,Js,Ad,Af,h1,Cn.toD]<;>exact rfl)))
 all_goals(try(conv=>whnf))
 (apply Dj<;>kernel_rfl)
theorem Ae8(s:Cn)(n:Az)(cs:List Ef)(i:Nat)(hf:s.fi n=some i)(hcs:cs.length≤40000)(C4:Option (List Ef))(Ajz:C4=none)(hF:K6 cs []=C4):
 Fn Tryz.prog Da [sP s,.v (.str n),.v (.list (cs.map Ef.Bx))] (Is (.tup [.i (ti 0),.i (ti 1)]) [sP s,.no,.no]):=by
 refine Fo ?_ (by simp)
 obtain⟨h1,h2,h3⟩:=Cn.Ari hf;repeat'((conv=>whnf);first|(with_reducible refine Ax (by rfl) fun hb=>?_);(try rw[hb]);try simp only[Aa]at hb|((with_reducible refine A5 (fun hb=>?_) fun hb=>?_)<;>first|exact absurd hb (by decide)|(try rw[hb]);try simp only[Aa]at hb)|(with_reducible refine Ac ?_ ?_);focus (and_intros<;>first|omega|with_reducible rfl|kernel_rfl|simp;done)|with_reducible intro Cq|(with_reducible refine A5 ?_ ?_);focus (decide)|refine Au ?_|(with_reducible apply A9);(focus (simp only[D.at,D.put,D.Xw,D.Fh,Mg,Jo,D.Bx,Js,Ad,Af,h1,h3,Cn.toD,Tal.Bx]<;>exact rfl)))
 all_goals(try(conv=>whnf))
 refine Afm.by (X:=Nat × List Ef × List I × List D) (fun y=>[(31,.v (ti (y.1:Int))),(10,.own [] (.map y.2.2.1 y.2.2.2))]) (fun y=>y.1≤cs.length∧y.2.1.length≤y.1∧y.2.2.1=ksF y.2.1∧y.2.2.2=vsF y.2.1∧K6 (cs.drop y.1) y.2.1=C4∧(y.2.1.map Ef.key).Nodup∧∀c∈y.2.1,c.ok) (fun y=>cs.length - y.1) (0,[],[],[]) (by kernel_rfl) ⟨Cr _,by simp,rfl,rfl,hF,by simp,by simp⟩ ?_
 rintro⟨j,F,KS,VS⟩ ⟨hj,hFl,e1,e2,hR,hnd,H2⟩;dsimp only at hj hFl e1 e2 hR hnd H2 ⊢;subst e1 e2;have Az2:(cs.map Ef.Bx).length=cs.length:=Bh _;have hw:IntKind.i64.wrap ((j:Int)+1)=((j+1:Nat):Int):=Dk (n:=100000) (by omega) (by simp only[maxLen];omega)
 by_cases hjl:j<cs.length
 case neg=>
  rw[Db (by omega)]at hR
  rw[←hR]at Ajz;cases Ajz
 obtain⟨c,he⟩:∃c,cs[j]?=some c:=⟨_,Ae hjl⟩;have Ze:¬decide ((j:Int)<(cs.length:Int))=false:=by simp;omega
 have Bem:¬decide ((j:Int)<((cs.map Ef.Bx).length:Int))=false:=by simp;omega
 have hdr:cs.drop j=c::cs.drop (j+1):=by rw[Cc hjl];rw[Ae hjl]at he;cases he;rfl
 rw[hdr]at hR;simp only[K6]at hR;have Atw:=Aaz c.key;have Art:=Wx c.val;by_cases hc:c.ok
 ·skip
  have At8:∀x∈Bm F c,x.ok:=fun x hx=>by
   rcases Zn hx with h|h
   ·exact H2 x h
   ·subst h;exact hc
  have hfl:=Zm F c;rw[if_pos hc]at hR;have Bii:=U5 (c:=c) hnd;obtain⟨hc1,hc2⟩:=hc;rw[decide_eq_true hc1]at Atw;have Az4:∀KS' VS',KS'=ksF (Bm F c)→VS'=vsF (Bm F c)→j+1≤cs.length∧(Bm F c).length≤j+1∧KS'=ksF (Bm F c)∧VS'=vsF (Bm F c)∧K6 (cs.drop (j+1)) (Bm F c)=C4∧((Bm F c).map Ef.key).Nodup∧∀c'∈Bm F c,c'.ok:=
   fun KS' VS' e1 e2=>⟨by omega,by omega,e1,e2,hR,Bii,At8⟩
  clear hR hdr;cases hq:F.findIdx? (fun x=>decide (x.key=c.key))with
  |none=>
   obtain⟨g1,g2,g3⟩:=Xf hq;obtain⟨ck,cv,cg⟩:=c;cases cg with
   |true=>
    repeat'((conv=>whnf);first|(with_reducible first|refine Ax (by exact Ai (by assumption)) fun hb=>?_|refine Aw (by rfl) fun hb=>?_);(try rw[hb]);try simp only[Aa]at hb|((with_reducible refine A5 (fun hb=>?_) fun hb=>?_)<;>first|exact absurd hb (by decide)|(try rw[hb]);try simp only[Aa]at hb)|(with_reducible refine Ac ?_ ?_);focus (and_intros<;>first|omega|kernel_rfl|intro _ hh;cases hh;done|simp;done|decide)|(try dsimp only);rw[B6 he]|(with_reducible refine Ct.mk ?_);refine⟨_,Atw,?_⟩;rintro _ _ ⟨rfl,rfl⟩|(try dsimp only);rw[hw]|(with_reducible apply A9);(focus (simp only[D.at,D.put,D.Xw,D.Fh,Mg,Jo,D.Bx,Js,Ad,Af,g1,Lt]<;>exact rfl)))
    all_goals(try(conv=>whnf))
    refine Round.by (j+1,Bm F ⟨ck,cv,true⟩,ksF F++[.str ck],vsF F++[.it (Ef.mk ck cv true).Bx]) ?_ (Az4 _ _ g2.symm g3.symm) (by dsimp only;omega)
    try dsimp only
    show norm _ _=Cx _ _
    kernel_rfl
   |false=>
    rw[decide_eq_true (by simpa using hc2)]at Art
    repeat'((conv=>whnf);first|(with_reducible first|refine Ax (by first|exact Ai (by assumption)|rfl) fun hb=>?_|refine Aw (by rfl) fun hb=>?_);(try rw[hb]);try simp only[Aa]at hb|((with_reducible refine A5 (fun hb=>?_) fun hb=>?_)<;>first|exact absurd hb (by decide)|(try rw[hb]);try simp only[Aa]at hb)|(with_reducible refine Ac ?_ ?_);focus (and_intros<;>first|omega|kernel_rfl|intro _ hh;cases hh;done|simp;done|decide)|(try dsimp only);rw[B6 he]|(with_reducible refine Ct.mk ?_);(first|refine⟨_,Atw,?_⟩|refine⟨_,Art,?_⟩);rintro _ _ ⟨rfl,rfl⟩|(try dsimp only);rw[hw]|(with_reducible apply A9);(focus (simp only[D.at,D.put,D.Xw,D.Fh,Mg,Jo,D.Bx,Js,Ad,Af,g1,Lt]<;>exact rfl)))
    all_goals(try(conv=>whnf))
    refine Round.by (j+1,Bm F ⟨ck,cv,false⟩,ksF F++[.str ck],vsF F++[.it (Ef.mk ck cv false).Bx]) ?_ (Az4 _ _ g2.symm g3.symm) (by dsimp only;omega)
    try dsimp only
    show norm _ _=Cx _ _
    kernel_rfl
  |some q=>
   obtain⟨g1,g2,g3⟩:=Xg hq;obtain⟨ck,cv,cg⟩:=c;cases cg with
   |true=>
    repeat'((conv=>whnf);first|(with_reducible first|refine Ax (by exact Ai (by assumption)) fun hb=>?_|refine Aw (by rfl) fun hb=>?_);(try rw[hb]);try simp only[Aa]at hb|((with_reducible refine A5 (fun hb=>?_) fun hb=>?_)<;>first|exact absurd hb (by decide)|(try rw[hb]);try simp only[Aa]at hb)|(with_reducible refine Ac ?_ ?_);focus (and_intros<;>first|omega|kernel_rfl|intro _ hh;cases hh;done|simp;done|decide)|(try dsimp only);rw[B6 he]|(with_reducible refine Ct.mk ?_);refine⟨_,Atw,?_⟩;rintro _ _ ⟨rfl,rfl⟩|(try dsimp only);rw[hw]|(with_reducible apply A9);(focus (simp only[D.at,D.put,D.Xw,D.Fh,Mg,Jo,D.Bx,Js,Ad,Af,g1,Lt]<;>exact rfl)))
    all_goals(try(conv=>whnf))
    refine Round.by (j+1,Bm F ⟨ck,cv,true⟩,ksF F,(vsF F).set q (.it (Ef.mk ck cv true).Bx)) ?_ (Az4 _ _ g2.symm g3.symm) (by dsimp only;omega)
    try dsimp only
    show norm _ _=Cx _ _
    kernel_rfl
   |false=>
    rw[decide_eq_true (by simpa using hc2)]at Art
    repeat'((conv=>whnf);first|(with_reducible first|refine Ax (by first|exact Ai (by assumption)|rfl) fun hb=>?_|refine Aw (by rfl) fun hb=>?_);(try rw[hb]);try simp only[Aa]at hb|((with_reducible refine A5 (fun hb=>?_) fun hb=>?_)<;>first|exact absurd hb (by decide)|(try rw[hb]);try simp only[Aa]at hb)|(with_reducible refine Ac ?_ ?_);focus (and_intros<;>first|omega|kernel_rfl|intro _ hh;cases hh;done|simp;done|decide)|(try dsimp only);rw[B6 he]|(with_reducible refine Ct.mk ?_);(first|refine⟨_,Atw,?_⟩|refine⟨_,Art,?_⟩);rintro _ _ ⟨rfl,rfl⟩|(try dsimp only);rw[hw]|(with_reducible apply A9);(focus (simp only[D.at,D.put,D.Xw,D.Fh,Mg,Jo,D.Bx,Js,Ad,Af,g1,Lt]<;>exact rfl)))
    all_goals(try(conv=>whnf))
    refine Round.by (j+1,Bm F ⟨ck,cv,false⟩,ksF F,(vsF F).set q (.it (Ef.mk ck cv false).Bx)) ?_ (Az4 _ _ g2.symm g3.symm) (by dsimp only;omega)
    try dsimp only
    show norm _ _=Cx _ _
    kernel_rfl
 ·obtain⟨ck,cv,cg⟩:=c;by_cases hk:1≤ck.length∧ck.length≤64
  ·rw[decide_eq_true hk]at Atw;cases cg with
   |true=>exact absurd ⟨hk,.inl rfl⟩ hc
   |false=>
    have hv:¬cv.length≤256:=fun h=>hc ⟨hk,.inr h⟩
    rw[decide_eq_false hv]at Art;repeat'((conv=>whnf);first|(with_reducible first|refine Ax (by first|exact Ai (by assumption)|rfl) fun hb=>?_|refine Aw (by rfl) fun hb=>?_);(try rw[hb]);try simp only[Aa]at hb|((with_reducible refine A5 (fun hb=>?_) fun hb=>?_)<;>first|exact absurd hb (by decide)|(try rw[hb]);try simp only[Aa]at hb)|(with_reducible refine Ac ?_ ?_);focus (and_intros<;>first|omega|kernel_rfl|intro _ hh;cases hh;done|simp;done|decide)|(try dsimp only);rw[B6 he]|(with_reducible refine Ct.mk ?_);(first|refine⟨_,Atw,?_⟩|refine⟨_,Art,?_⟩);rintro _ _ ⟨rfl,rfl⟩)
    all_goals(try(conv=>whnf))
    (apply Dj<;>kernel_rfl)
  ·rw[decide_eq_false hk]at Atw;repeat'((conv=>whnf);first|(with_reducible refine Ax (by first|exact Ai (by assumption)|rfl) fun hb=>?_);(try rw[hb]);try simp only[Aa]at hb|((with_reducible refine A5 (fun hb=>?_) fun hb=>?_)<;>first|exact absurd hb (by decide)|(try rw[hb]);try simp only[Aa]at hb)|(with_reducible refine Ac ?_ ?_);focus (and_intros<;>first|omega|kernel_rfl|intro _ hh;cases hh;done|simp;done|decide)|(try dsimp only);rw[B6 he]|(with_reducible refine Ct.mk ?_);refine⟨_,Atw,?_⟩;rintro _ _ ⟨rfl,rfl⟩)
   all_goals(try(conv=>whnf))
   (apply Dj<;>kernel_rfl)
theorem Aji(s:Cn)(n:Az)(cs:List Ef)(i:Nat)(hf:s.fi n=some i)(hcs:cs.length≤1000)(C4:Option (List Ef))(Ajz:C4=none)(hF:K6 cs []=C4):
 Fn Tryz.prog Da [sP s,.v (.str n),.v (.list (cs.map Ef.Bx))] (Is (.tup [.i (ti 0),.i (ti 1)]) [sP s,.no,.no]):=
 Ae8 s n cs i hf (by omega) C4 Ajz hF

open Go.Proofs
theorem List.set_getElem?_self'{α:Type}{l:List α}{i:Nat}{x:α}(h:l[i]?=some x):l.set i x=l:=by
 obtain⟨hi,rfl⟩:=A7.1 h;exact List.set_getElem_self hi
theorem Zv{α:Type}{l:List α}{i:Nat}{x:α}(h:l[i]?=some x)(f:α→α):l.modify i f=l.set i (f x):=by
 apply List.ext_getElem?;intro j;rw[List.getElem?_modify,List.getElem?_set];by_cases hij:i=j
 ·subst hij;obtain⟨hi,rfl⟩:=A7.1 h;simp[hi]
 ·simp[hij]
abbrev Aek(T:TypeId):Prop:=A2z Tryz.prog Cz Bq T
abbrev Aem(E:TypeId):Prop:=Aym Tryz.prog Ju Bq E
theorem Aa9{T E:TypeId}{B:Nat}(hK:Aek T)(hS:Aem E)(s:Cn)(n:Az)(cs:List Ef)(i:Nat)(hf:s.fi n=some i)(hn:n.length≤1000)(hcs:cs.length≤40000)(hBc:B+cs.length≤81000)(hL:LBd B s.l)(hT:TBd B (s.Zp n))(A26:0≤(s.Zp n).rev∧(s.Zp n).rev≤1000000000000)
 (FF:List Ef) (C4:Option (List Ef)) (Ajz:C4=some FF) (hF:K6 cs []=C4) (Z:WSt) (hZ:Ge n FF (Dc (FF.map Ef.key)) ⟨s.Zp n,s.l,false⟩=Z):
 Fn Tryz.prog Da [sP s,.v (.str n),.v (.list (cs.map Ef.Bx))] (Is (.tup [.i (ti Z.fin.rev),.i (ti 0)]) [sP ⟨s.sp.set i (n,Z.fin),Z.l⟩,.no,.no]):=by
 refine Fo ?_ (by simp)
 obtain⟨h1,h2,h3⟩:=Cn.Ari hf;repeat'((conv=>whnf);first|(with_reducible refine Ax (by rfl) fun hb=>?_);(try rw[hb]);try simp only[Aa]at hb|((with_reducible refine A5 (fun hb=>?_) fun hb=>?_)<;>first|exact absurd hb (by decide)|(try rw[hb]);try simp only[Aa]at hb)|(with_reducible refine Ac ?_ ?_);focus (and_intros<;>first|omega|with_reducible rfl|kernel_rfl|simp;done)|with_reducible intro Cq|(with_reducible refine A5 ?_ ?_);focus (decide)|refine Au ?_|(with_reducible apply A9);(focus (simp only[D.at,D.put,D.Xw,D.Fh,Mg,Jo,D.Bx,Js,Ad,Af,h1,h3,Cn.toD,Tal.Bx]<;>exact rfl)))
 all_goals(try(conv=>whnf))
 refine Afm.by (X:=Nat × List Ef × List I × List D) (fun y=>[(31,.v (ti (y.1:Int))),(10,.own [] (.map y.2.2.1 y.2.2.2))]) (fun y=>y.1≤cs.length∧y.2.1.length≤y.1∧y.2.2.1=ksF y.2.1∧y.2.2.2=vsF y.2.1∧K6 (cs.drop y.1) y.2.1=C4∧(y.2.1.map Ef.key).Nodup∧∀c∈y.2.1,c.ok) (fun y=>cs.length - y.1) (0,[],[],[]) (by kernel_rfl) ⟨Cr _,by simp,rfl,rfl,hF,by simp,by simp⟩ ?_
 rintro⟨j,F,KS,VS⟩ ⟨hj,hFl,e1,e2,hR,hnd,H2⟩;dsimp only at hj hFl e1 e2 hR hnd H2 ⊢;subst e1 e2;have Az2:(cs.map Ef.Bx).length=cs.length:=Bh _;have hw:IntKind.i64.wrap ((j:Int)+1)=((j+1:Nat):Int):=Dk (n:=100000) (by omega) (by simp only[maxLen];omega)
 by_cases hjl:j<cs.length
 ·skip
  obtain⟨c,he⟩:∃c,cs[j]?=some c:=⟨_,Ae hjl⟩;have Ze:¬decide ((j:Int)<(cs.length:Int))=false:=by simp;omega
  have Bem:¬decide ((j:Int)<((cs.map Ef.Bx).length:Int))=false:=by simp;omega
  have hdr:cs.drop j=c::cs.drop (j+1):=by rw[Cc hjl];rw[Ae hjl]at he;cases he;rfl
  rw[hdr]at hR;simp only[K6]at hR;have Atw:=Aaz c.key;have Art:=Wx c.val;by_cases hc:c.ok
  case neg=>
   rw[if_neg hc]at hR;rw[←hR]at Ajz;cases Ajz
  have At8:∀x∈Bm F c,x.ok:=fun x hx=>by
   rcases Zn hx with h|h
   ·exact H2 x h
   ·subst h;exact hc
  have hfl:=Zm F c;rw[if_pos hc]at hR;have Bii:=U5 (c:=c) hnd;obtain⟨hc1,hc2⟩:=hc;rw[decide_eq_true hc1]at Atw;have Az4:∀KS' VS',KS'=ksF (Bm F c)→VS'=vsF (Bm F c)→j+1≤cs.length∧(Bm F c).length≤j+1∧KS'=ksF (Bm F c)∧VS'=vsF (Bm F c)∧K6 (cs.drop (j+1)) (Bm F c)=C4∧((Bm F c).map Ef.key).Nodup∧∀c'∈Bm F c,c'.ok:=
   fun KS' VS' e1 e2=>⟨by omega,by omega,e1,e2,hR,Bii,At8⟩
  clear hR hdr;cases hq:F.findIdx? (fun x=>decide (x.key=c.key))with
  |none=>
   obtain⟨g1,g2,g3⟩:=Xf hq;obtain⟨ck,cv,cg⟩:=c;cases cg with
   |true=>
    repeat'((conv=>whnf);first|(with_reducible first|refine Ax (by exact Ai (by assumption)) fun hb=>?_|refine Aw (by rfl) fun hb=>?_);(try rw[hb]);try simp only[Aa]at hb|((with_reducible refine A5 (fun hb=>?_) fun hb=>?_)<;>first|exact absurd hb (by decide)|(try rw[hb]);try simp only[Aa]at hb)|(with_reducible refine Ac ?_ ?_);focus (and_intros<;>first|omega|kernel_rfl|intro _ hh;cases hh;done|simp;done|decide)|(try dsimp only);rw[B6 he]|(with_reducible refine Ct.mk ?_);refine⟨_,Atw,?_⟩;rintro _ _ ⟨rfl,rfl⟩|(try dsimp only);rw[hw]|(with_reducible apply A9);(focus (simp only[D.at,D.put,D.Xw,D.Fh,Mg,Jo,D.Bx,Js,Ad,Af,g1,Lt]<;>exact rfl)))
    all_goals(try(conv=>whnf))
    refine Round.by (j+1,Bm F ⟨ck,cv,true⟩,ksF F++[.str ck],vsF F++[.it (Ef.mk ck cv true).Bx]) ?_ (Az4 _ _ g2.symm g3.symm) (by dsimp only;omega)
    try dsimp only
    show norm _ _=Cx _ _
    kernel_rfl
   |false=>
    rw[decide_eq_true (by simpa using hc2)]at Art
    repeat'((conv=>whnf);first|(with_reducible first|refine Ax (by first|exact Ai (by assumption)|rfl) fun hb=>?_|refine Aw (by rfl) fun hb=>?_);(try rw[hb]);try simp only[Aa]at hb|((with_reducible refine A5 (fun hb=>?_) fun hb=>?_)<;>first|exact absurd hb (by decide)|(try rw[hb]);try simp only[Aa]at hb)|(with_reducible refine Ac ?_ ?_);focus (and_intros<;>first|omega|kernel_rfl|intro _ hh;cases hh;done|simp;done|decide)|(try dsimp only);rw[B6 he]|(with_reducible refine Ct.mk ?_);(first|refine⟨_,Atw,?_⟩|refine⟨_,Art,?_⟩);rintro _ _ ⟨rfl,rfl⟩|(try dsimp only);rw[hw]|(with_reducible apply A9);(focus (simp only[D.at,D.put,D.Xw,D.Fh,Mg,Jo,D.Bx,Js,Ad,Af,g1,Lt]<;>exact rfl)))
    all_goals(try(conv=>whnf))
    refine Round.by (j+1,Bm F ⟨ck,cv,false⟩,ksF F++[.str ck],vsF F++[.it (Ef.mk ck cv false).Bx]) ?_ (Az4 _ _ g2.symm g3.symm) (by dsimp only;omega)
    try dsimp only
    show norm _ _=Cx _ _
    kernel_rfl
  |some q=>
   obtain⟨g1,g2,g3⟩:=Xg hq;obtain⟨ck,cv,cg⟩:=c;cases cg with
   |true=>
    repeat'((conv=>whnf);first|(with_reducible first|refine Ax (by exact Ai (by assumption)) fun hb=>?_|refine Aw (by rfl) fun hb=>?_);(try rw[hb]);try simp only[Aa]at hb|((with_reducible refine A5 (fun hb=>?_) fun hb=>?_)<;>first|exact absurd hb (by decide)|(try rw[hb]);try simp only[Aa]at hb)|(with_reducible refine Ac ?_ ?_);focus (and_intros<;>first|omega|kernel_rfl|intro _ hh;cases hh;done|simp;done|decide)|(try dsimp only);rw[B6 he]|(with_reducible refine Ct.mk ?_);refine⟨_,Atw,?_⟩;rintro _ _ ⟨rfl,rfl⟩|(try dsimp only);rw[hw]|(with_reducible apply A9);(focus (simp only[D.at,D.put,D.Xw,D.Fh,Mg,Jo,D.Bx,Js,Ad,Af,g1,Lt]<;>exact rfl)))
    all_goals(try(conv=>whnf))
    refine Round.by (j+1,Bm F ⟨ck,cv,true⟩,ksF F,(vsF F).set q (.it (Ef.mk ck cv true).Bx)) ?_ (Az4 _ _ g2.symm g3.symm) (by dsimp only;omega)
    try dsimp only
    show norm _ _=Cx _ _
    kernel_rfl
   |false=>
    rw[decide_eq_true (by simpa using hc2)]at Art
    repeat'((conv=>whnf);first|(with_reducible first|refine Ax (by first|exact Ai (by assumption)|rfl) fun hb=>?_|refine Aw (by rfl) fun hb=>?_);(try rw[hb]);try simp only[Aa]at hb|((with_reducible refine A5 (fun hb=>?_) fun hb=>?_)<;>first|exact absurd hb (by decide)|(try rw[hb]);try simp only[Aa]at hb)|(with_reducible refine Ac ?_ ?_);focus (and_intros<;>first|omega|kernel_rfl|intro _ hh;cases hh;done|simp;done|decide)|(try dsimp only);rw[B6 he]|(with_reducible refine Ct.mk ?_);(first|refine⟨_,Atw,?_⟩|refine⟨_,Art,?_⟩);rintro _ _ ⟨rfl,rfl⟩|(try dsimp only);rw[hw]|(with_reducible apply A9);(focus (simp only[D.at,D.put,D.Xw,D.Fh,Mg,Jo,D.Bx,Js,Ad,Af,g1,Lt]<;>exact rfl)))
    all_goals(try(conv=>whnf))
    refine Round.by (j+1,Bm F ⟨ck,cv,false⟩,ksF F,(vsF F).set q (.it (Ef.mk ck cv false).Bx)) ?_ (Az4 _ _ g2.symm g3.symm) (by dsimp only;omega)
    try dsimp only
    show norm _ _=Cx _ _
    kernel_rfl
 have Ze:¬decide ((j:Int)<(cs.length:Int))=true:=by simp;omega
 have Bem:¬decide ((j:Int)<((cs.map Ef.Bx).length:Int))=true:=by simp;omega
 rw[Db (by omega)]at hR
 have hR:some F=C4:=hR;rw[←hR]at Ajz;cases Ajz;clear hR;have Bid:∀x∈ksF FF,∃s,x=I.str s:=fun x hx=>by obtain⟨c,_,rfl⟩:=X4.1 hx;exact⟨_,rfl⟩
 have Bie:(ksF FF).length≤1000000:=by simp only[ksF,Bh];omega
 have Bif:((ksF FF).map Azp).Nodup:=by simp only[ksF,List.map_map];exact hnd
 have hSI:Gq (ksF FF)=(Dc (FF.map Ef.key)).map I.str:=by rw[←Acr];simp only[ksF,List.map_map];rfl
 repeat'((conv=>whnf);first|(with_reducible refine Aw (by exact Ak (by assumption)) fun hb=>?_);(try rw[hb]);try simp only[Aa]at hb|(with_reducible refine Ac ?_ ?_);focus (and_intros<;>first|exact Bid|exact Bie|exact Bif|omega|with_reducible rfl|kernel_rfl|simp;done)|with_reducible intro Cq|refine Ad0 hK ?_|refine Zo hS ?_)
 all_goals(try(conv=>whnf))
 rw[hSI];have hKm:∀k∈Dc (FF.map Ef.key),k∈FF.map Ef.key:=fun k hk=>(Aor ..).mem_iff.1 hk
 have hKl:(Dc (FF.map Ef.key)).length≤cs.length:=by unfold Dc;rw[List.length_mergeSort,Bh];omega
 generalize Dc (FF.map Ef.key)=KK at hZ hKm hKl ⊢;obtain⟨VS0,A6e⟩:∃V,V=s.sp.map fun x=>D.ptr (.it x.2.Bx):=⟨_,rfl⟩
 obtain⟨KS0,A6d⟩:∃V,V=s.sp.map fun x=>I.str x.1:=⟨_,rfl⟩
 have hi:i<VS0.length:=by rw[A6e];exact(A7.1 h2).1
 refine Afm.by (X:=Nat × Bool × Tal × List D × List Zk × List D) (fun y=>[(59,.v (ti (y.1:Int))),(13,.v (.bool y.2.1)),(179,.own [] (.ptr (stD KS0 y.2.2.2.1 y.2.2.2.2.2)))])
  (fun y=>y.1≤KK.length∧y.2.2.2.1=VS0.set i (.ptr (.it y.2.2.1.Bx))∧y.2.2.2.2.2=y.2.2.2.2.1.map Zk.toD∧LBd (B+y.1) y.2.2.2.2.1∧TBd (B+y.1) y.2.2.1∧(y.2.2.1.rev=(s.Zp n).rev∧y.2.2.1.floor=(s.Zp n).floor)∧Ge n FF (KK.drop y.1) ⟨y.2.2.1,y.2.2.2.2.1,y.2.1⟩=Z)
  (fun y=>KK.length - y.1) (0,false,s.Zp n,s.sp.map (fun x=>D.ptr (.it x.2.Bx)),s.l,s.l.map Zk.toD) (by rw[A6d];kernel_rfl)
  ⟨Cr _,(by show s.sp.map (fun x=>D.ptr (.it x.2.Bx))=_;rw[←A6e]at h2 ⊢;exact(List.set_getElem?_self' h2).symm),rfl,hL,hT,⟨rfl,rfl⟩,hZ⟩ ?_
 rintro⟨k,wr,t,VS,L,Ld⟩ ⟨hk,e1,e2,hLB,hTB,hrf,hR⟩;dsimp only at hk e1 e2 hLB hTB hrf hR ⊢;have hw2:IntKind.i64.wrap ((k:Int)+1)=((k+1:Nat):Int):=Dk (n:=100000) (by omega) (by simp only[maxLen];omega)
 have hVi:VS[i]?=some (.ptr (.it t.Bx)):=by rw[e1,Aiq hi]
 have By4:(KK.map I.str).length=KK.length:=Bh _;have hr1:IntKind.i64.wrap (t.rev+1)=t.rev+1:=Bf (by omega)
 by_cases hkl:k<KK.length
 case neg=>
  have Bbd:¬decide ((k:Int)<((KK.map I.str).length:Int))=true:=by simp;omega
  have Bt3:¬decide ((k:Int)<(KK.length:Int))=true:=by simp;omega
  rw[Db (by omega)]at hR
  have hR:⟨t,L,wr⟩=Z:=hR;subst hR;have hsp:∀f:Tal,sP ⟨s.sp.set i (n,f),L⟩= .own [] (.ptr (stD KS0 (VS.set i (.ptr (.it f.Bx))) Ld)):=fun f=>by
   simp only[sP,Cn.toD,Amd];rw[←A6e, ←A6d,e1,Ame,e2];rw[List.set_getElem?_self' (l:=KS0) (by rw[A6d,Ev,h3];rfl)]
  cases wr with
  |false=>
   have Au1:sP ⟨s.sp.set i (n,(WSt.mk t L false).fin),L⟩= .own [] (.ptr (stD KS0 VS Ld)):=by
    rw[show(WSt.mk t L false).fin=t from rfl,hsp,List.set_getElem?_self' hVi]
   rw[Au1];repeat'((conv=>whnf);first|(with_reducible refine Aw (by first|exact Ak (by assumption)|rfl) fun hb=>?_);(try rw[hb]);try simp only[Aa]at hb|(with_reducible refine Ac ?_ ?_);focus (and_intros<;>first|kernel_rfl|simp;done)|(with_reducible apply A3);(focus rfl);(focus (simp only[D.at,D.put,D.Xw,D.Fh,Mg,Jo,D.Bx,Js,Ad,Af,hVi,Tal.Bx]<;>exact rfl));(try(focus exact rfl)))
   all_goals(try(conv=>whnf))
   (apply Dj<;>kernel_rfl)
  |true=>
   have Au1:sP ⟨s.sp.set i (n,(WSt.mk t L true).fin),L⟩= .own [] (.ptr (stD KS0 (VS.set i (.ptr (.it (Tal.mk (t.rev+1) t.floor t.bytes t.keys t.Aq7).Bx))) Ld)):=hsp _;rw[Au1];repeat'((conv=>whnf);first|(with_reducible first|refine Ax (by rfl) fun hb=>?_|refine Aw (by exact Ak (by assumption)) fun hb=>?_);(try rw[hb]);try simp only[Aa]at hb|(with_reducible refine Ac ?_ ?_);focus (and_intros<;>first|kernel_rfl|simp;done)|(try dsimp only);rw[hr1]|(with_reducible apply A9);(focus (simp only[D.at,D.put,D.Xw,D.Fh,Mg,Jo,D.Bx,Js,Ad,Af,hVi,Tal.Bx]<;>exact rfl))|(with_reducible apply A3);(focus rfl);(focus (simp only[D.at,D.put,D.Xw,D.Fh,Mg,Jo,D.Bx,Js,Ad,Af,hVi,Tal.Bx]<;>exact rfl));(try(focus exact rfl)))
   all_goals(try(conv=>whnf))
   (apply Dj<;>kernel_rfl)
 obtain⟨kk,he⟩:∃kk,KK[k]?=some kk:=⟨_,Ae hkl⟩;have Bbd:¬decide ((k:Int)<((KK.map I.str).length:Int))=false:=by simp;omega
 have Bt3:¬decide ((k:Int)<(KK.length:Int))=false:=by simp;omega
 have hdr:KK.drop k=kk::KK.drop (k+1):=by rw[Cc hkl];rw[Ae hkl]at he;cases he;rfl
 rw[hdr]at hR;simp only[Ge]at hR;obtain⟨q,hq,hq2,hq3⟩:=Adz (hKm kk (Cb he));have Ba5:=H2 (Anv FF kk) (Cb hq2);have hqk:Lo kk (ksF FF) 0=some (some q):=by rw[E5 (fun c:Ef=>c.key),hq];rfl
 have hkk:kk.length≤64:=by rw[←hq3];exact Ba5.1.2
 have hwh:=L1 n kk (by omega) (by omega)
 have hbs:=L0 L (B7 n kk) (by have:=hLB.len;omega)
 have hI:=U8 L;rw[←e2]at hI;obtain⟨Bno,Bnp,Bs9,Bta⟩:=W4 (k:=kk) (c:=Anv FF kk) (x:=⟨t,L,wr⟩) hLB hTB hn hkk Ba5.2;generalize Anv FF kk=c at*;obtain⟨ck,cv,cg⟩:=c;dsimp only at hq3;subst hq3;have hvF:(vsF FF)[q]?=some (.it (Ef.mk ck cv cg).Bx):=by simp only[vsF,Ev,hq2,Fq]
 generalize hst:Dw n ck ⟨ck,cv,cg⟩ ⟨t,L,wr⟩=S at*;have Atc:∀Ld' VS',VS'=VS0.set i (.ptr (.it S.t.Bx))→Ld'=S.l.map Zk.toD→k+1≤KK.length∧VS'=VS0.set i (.ptr (.it S.t.Bx))∧Ld'=S.l.map Zk.toD∧LBd (B+(k+1)) S.l∧TBd (B+(k+1)) S.t∧(S.t.rev=(s.Zp n).rev∧S.t.floor=(s.Zp n).floor)∧Ge n FF (KK.drop (k+1)) ⟨S.t,S.l,S.w⟩=Z:=
  fun Ld' VS' g1 g2=>⟨by omega,g1,g2,Bno,Bnp,⟨Bs9.trans hrf.1,Bta.trans hrf.2⟩,hR⟩
 clear hR Bno Bnp hdr;unfold Dw at hst;obtain⟨a,ha⟩:∃a,a=B7 n ck:=⟨_,rfl⟩;rw[←ha]at hst hwh hbs;have hlen:=hLB.len;cases hpf:bsF (Kh a) (eqH a) L with
 |false=>
  rw[hpf]at hbs;have hla:Q1 L a=Akw:=Cn.A3a (s:=⟨[],L⟩) hpf;simp only[hla]at hst;cases cg with
  |true=>
   simp only[Akw,and_self,if_true]at hst;subst hst;generalize hp:Km (Kh a) L=p at*;repeat'((conv=>whnf);first|(with_reducible first|refine Ax (by first|exact Ai (by assumption)|rfl) fun hb=>?_|refine Aw (by first|assumption|rfl) fun hb=>?_);(try rw[hb]);try simp only[Aa]at hb|(with_reducible refine Ac ?_ ?_);focus (and_intros<;>first|omega|with_reducible rfl|kernel_rfl|intro _ hh;cases hh;done|simp;done|decide)|(with_reducible refine Ai2.mkV ?_ ?_ ?_ fun Cq=>?_);(iterate 3 focus kernel_rfl);try simp only[zRL]at Cq|(try dsimp only);rw[B6 he]|(with_reducible refine Aq3.mk ?_);refine⟨_,_,hwh,?_⟩|refine B5 ?_ (by decide)|refine Bj ?_ (by decide)|(with_reducible refine Ct.mk ?_);refine⟨_,hbs,?_⟩;rintro _ _ ⟨rfl,rfl⟩|(try dsimp only);rw[hw2]|(first|with_reducible apply A9|with_reducible apply Ba);(focus (simp only[D.at,D.put,D.Xw,D.Fh,Mg,Jo,D.Bx,Js,Ad,Af,hqk,hvF,hVi,hI,Ef.Bx,Tal.Bx]<;>exact rfl)))
   all_goals(try(conv=>whnf))
   refine Round.by (k+1,wr,t,VS,L,Ld) ?_ (Atc _ _ e1 e2) (by dsimp only;omega)
   try dsimp only
   show norm _ _=Cx _ _
   kernel_rfl
  |false=>
   have hcv:cv.length≤256:=by rcases Ba5.2 with h|h;cases h;exact h
   have Bth:ck.length≤64:=hkk;obtain⟨hT1,hT2,hT3⟩:=hTB;simp only[Akw,Ado,false_and,if_false,if_true]at hst;have hfa:Ath L a ⟨t.rev+1,t.rev+1,cv,false⟩=L.take (Km (Kh a) L)++⟨a,[⟨t.rev+1,t.rev+1,cv,false⟩]⟩::L.drop (Km (Kh a) L):=by
    unfold Ath A1y;rw[hpf];simp
   rw[hfa]at hst;have Bt9:=Hp (Kh a) L;have Bn3:=X7 Ld (⟨a,[]⟩:Zk).toD (Km (Kh a) L) (by rw[e2,Bh];exact Bt9) (by rw[e2,Bh];omega)
   have Bs4:Ld.length=L.length:=by rw[e2,Bh]
   generalize hp:Km (Kh a) L=p at*;have C3:=Afr (L:=Ld) (p:=p) (by omega) (⟨a,[]⟩:Zk).toD
   have hll:(Ld.take p++(⟨a,[]⟩:Zk).toD::Ld.drop p).length=Ld.length+1:=by simp;omega
   have Akv:∀y,(Ld.take p++(⟨a,[]⟩:Zk).toD::Ld.drop p).set p y=Ld.take p++y::Ld.drop p:=fun y=>Afb (by omega) _ y
   generalize Ld.take p++(⟨a,[]⟩:Zk).toD::Ld.drop p=L' at Bn3 C3 hll Akv;have hk1:IntKind.i64.wrap (t.keys+1)=t.keys+1:=Bf (by omega)
   have hb1:IntKind.i64.wrap ((ck.length:Int)+(cv.length:Int))=(ck.length:Int)+(cv.length:Int):=Bf (by omega)
   have hb2:IntKind.i64.wrap (t.bytes+((ck.length:Int)+(cv.length:Int)))=t.bytes+((ck.length:Int)+(cv.length:Int)):=Bf (by omega)
   have hv1:IntKind.i64.wrap (t.Aq7+1)=t.Aq7+1:=Bf (by omega)
   repeat'((conv=>whnf);first|(with_reducible first|refine Ax (by first|exact Ai (by assumption)|rfl) fun hb=>?_|refine Aw (by first|assumption|rfl) fun hb=>?_);(try rw[hb]);try simp only[Aa]at hb|((with_reducible refine A5 (fun hb=>?_) fun hb=>?_)<;>first|exact absurd hb (by decide)|(try rw[hb]);try simp only[Aa]at hb)|(with_reducible refine Ac ?_ ?_);focus (and_intros<;>first|omega|with_reducible rfl|kernel_rfl|intro _ hh;cases hh;done|exact Ah (by rfl)|exact Ag rfl|simp only[An];omega|simp;done|decide)|(with_reducible refine Ai2.mkV ?_ ?_ ?_ fun Cq=>?_);(iterate 3 focus kernel_rfl);try simp only[zRL]at Cq|(try dsimp only);rw[B6 he]|(with_reducible refine Aq3.mk ?_);refine⟨_,_,hwh,?_⟩|refine B5 ?_ (by decide)|refine Bj ?_ (by decide)|refine Cw ?_ (by decide)|(with_reducible refine Ct.mk ?_);(first|refine⟨_,hbs,?_⟩|refine⟨_,Bn3,?_⟩);rintro _ _ ⟨rfl,rfl⟩|(try dsimp only);(first|rw[hw2]|rw[hr1]|rw[hk1]|rw[hb1]|rw[hb2]|rw[hv1])|(first|with_reducible apply A9|with_reducible apply Ba);(focus (simp only[D.at,D.put,D.Xw,D.Fh,Mg,Jo,D.Bx,Js,Ad,Af,hqk,hvF,hVi,hI,C3,hll,Ef.Bx,Tal.Bx]<;>exact rfl))|(with_reducible apply A3);(focus rfl);(focus (simp only[D.at,D.put,D.Xw,D.Fh,Mg,Jo,D.Bx,Js,Ad,Af,hqk,hvF,hVi,hI,C3,hll,Ef.Bx,Tal.Bx]<;>exact rfl));(try(focus exact rfl)))
   all_goals(try(conv=>whnf))
   subst hst;refine Round.by (k+1,true,(Tal.mk t.rev t.floor (t.bytes+((ck.length:Int)+(cv.length:Int))) (t.keys+1) (t.Aq7+1)),VS.set i (.ptr (.it (Tal.mk t.rev t.floor (t.bytes+((ck.length:Int)+(cv.length:Int))) (t.keys+1) (t.Aq7+1):Tal).Bx)),L.take p++⟨a,[⟨t.rev+1,t.rev+1,cv,false⟩]⟩::L.drop p,L'.set p (.st [.it (.str a),.vec Bb 4 [.it (Fk.mk (t.rev+1) (t.rev+1) cv false).Bx]])) ?_ (Atc _ _ (by rw[e1,Ame]) (by rw[Akv,e2];simp[Zk.toD,List.map_take,List.map_drop])) (by dsimp only;omega)
   try dsimp only
   show norm _ _=Cx _ _
   kernel_rfl
 |true=>
  rw[hpf]at hbs;obtain⟨e,v,g1,g2,g3,g4,g5⟩:=Cn.Bi1 (s:=⟨[],L⟩) (fun h hh=>⟨(hLB.held h hh).2.1,by have:=(hLB.held h hh).2.2.1;omega⟩) hpf
  change L[Km (Kh a) L]?=some e at g1;change Q1 L a=v at g3;rw[g3]at hst;have hvv:v.val.length≤1000:=(hLB.held e (Cb g1)).2.2.2 v (Cb g2);have Bun:=(hLB.held e (Cb g1)).2.2.1;have hfa:∀v',Ath L a v'=L.set (Km (Kh a) L) ⟨e.at_,e.vs++[v']⟩:=fun v'=>by
   unfold Ath A1y;rw[hpf,if_pos rfl];exact Zv g1 _
  simp only[hfa]at hst;have Bs4:Ld.length=L.length:=by rw[e2,Bh]
  have hpl:Km (Kh a) L<L.length:=(A7.1 g1).1;clear hfa g3;generalize hp:Km (Kh a) L=p at*;obtain⟨b,vs0⟩:=e;dsimp only at g2 g4 g5 hst Bun;have C3:Ld[p]?=some (.st [.it (.str b),.vec Bb 4 ((vs0.map Fk.Bx).map D.it)]):=by rw[e2,Ev,g1];rfl
  have Akv:∀v',Ld.set p (.st [.it (.str b),.vec Bb 4 ((vs0.map Fk.Bx).map D.it++[.it (Fk.Bx v')])])=(L.set p ⟨b,vs0++[v']⟩).map Zk.toD:=fun v'=>by rw[e2,Amd];simp[Zk.toD]
  have hlv:(vs0.map Fk.Bx)[(vs0.map Fk.Bx).length - 1]?=some v.Bx:=by rw[Bh,Ev,g2];rfl
  have hvl:(vs0.map Fk.Bx).length≤90000:=by rw[Bh];omega
  have hv0:0<(vs0.map Fk.Bx).length:=by rw[Bh];omega
  generalize vs0.map Fk.Bx=vs at C3 Akv hlv hvl hv0;have hwl:IntKind.i64.wrap ((vs.length:Int) - 1)=((vs.length - 1:Nat):Int):=by rw[Bf (by omega)];omega
  obtain⟨vr,vm,vv,vg⟩:=v;dsimp only at hvv hst;obtain⟨hT1,hT2,hT3⟩:=hTB;have hv1:IntKind.i64.wrap (t.Aq7+1)=t.Aq7+1:=Bf (by omega)
  have Bth:ck.length≤64:=hkk;cases vg with
  |true=>
   cases cg with
   |true=>
    simp only[and_self,if_true]at hst;subst hst;repeat'((conv=>whnf);first|(with_reducible refine Ax (by first|assumption|exact Ai (by assumption)|rfl) fun hb=>?_);(try rw[hb]);try simp only[Aa]at hb|(with_reducible refine Ac ?_ ?_);focus (and_intros<;>first|omega|with_reducible rfl|kernel_rfl|intro _ hh;cases hh;done|simp only[An];omega|simp;done|decide)|with_reducible intro Cq|(with_reducible refine Ai2.mkV ?_ ?_ ?_ fun Cq=>?_);(iterate 3 focus kernel_rfl);try simp only[zRL]at Cq|(try dsimp only);rw[B6 he]|(with_reducible refine Aq3.mk ?_);refine⟨_,_,hwh,?_⟩|refine B5 ?_ (by decide)|refine Bj ?_ (by decide)|(with_reducible refine Ct.mk ?_);refine⟨_,hbs,?_⟩;rintro _ _ ⟨rfl,rfl⟩|(try dsimp only);rw[hw2]|(first|with_reducible apply A9|with_reducible apply Ba);(focus (simp only[D.at,D.put,D.Xw,D.Fh,Mg,Jo,D.Bx,Js,Ad,Af,hqk,hvF,hVi,hI,C3,hlv,hwl,Ef.Bx,Tal.Bx]<;>exact rfl))|(first|with_reducible apply A3|with_reducible apply A2);(focus rfl);(focus (simp only[D.at,D.put,D.Xw,D.Fh,Mg,Jo,D.Bx,Js,Ad,Af,hqk,hvF,hVi,hI,C3,hlv,hwl,Ef.Bx,Tal.Bx]<;>exact rfl));(try(focus exact rfl)))
    all_goals(try(conv=>whnf))
    refine Round.by (k+1,wr,t,VS,L,Ld) ?_ (Atc _ _ e1 e2) (by dsimp only;omega)
    try dsimp only
    show norm _ _=Cx _ _
    kernel_rfl
   |false=>
    have hcv:cv.length≤256:=by rcases Ba5.2 with h|h;cases h;exact h
    simp only[Ado,false_and,if_false,if_true]at hst;subst hst;have hk1:IntKind.i64.wrap (t.keys+1)=t.keys+1:=Bf (by omega)
    have hb1:IntKind.i64.wrap ((ck.length:Int)+(cv.length:Int))=(ck.length:Int)+(cv.length:Int):=Bf (by omega)
    have hb2:IntKind.i64.wrap (t.bytes+((ck.length:Int)+(cv.length:Int)))=t.bytes+((ck.length:Int)+(cv.length:Int)):=Bf (by omega)
    repeat'((conv=>whnf);first|(with_reducible first|refine Ax (by first|assumption|exact Ai (by assumption)|rfl) fun hb=>?_|refine Aw (by first|exact Ak (by assumption)|rfl) fun hb=>?_);(try rw[hb]);try simp only[Aa]at hb|((with_reducible refine A5 (fun hb=>?_) fun hb=>?_)<;>first|exact absurd hb (by decide)|(try rw[hb]);try simp only[Aa]at hb)|(with_reducible refine Ac ?_ ?_);focus (and_intros<;>first|omega|with_reducible rfl|kernel_rfl|intro _ hh;cases hh;done|exact Ah (by rfl)|exact Ag rfl|simp only[An];omega|simp;done|decide)|with_reducible intro Cq|(with_reducible refine Ai2.mkV ?_ ?_ ?_ fun Cq=>?_);(iterate 3 focus kernel_rfl);try simp only[zRL]at Cq|(try dsimp only);rw[B6 he]|(with_reducible refine Aq3.mk ?_);refine⟨_,_,hwh,?_⟩|refine B5 ?_ (by decide)|refine Bj ?_ (by decide)|refine Cw ?_ (by decide)|(with_reducible refine Ct.mk ?_);refine⟨_,hbs,?_⟩;rintro _ _ ⟨rfl,rfl⟩|(try dsimp only);(first|rw[hw2]|rw[hr1]|rw[hk1]|rw[hb1]|rw[hb2]|rw[hv1])|(first|with_reducible apply A9|with_reducible apply Ba);(focus (simp only[D.at,D.put,D.Xw,D.Fh,Mg,Jo,D.Bx,Js,Ad,Af,hqk,hvF,hVi,hI,C3,hlv,hwl,Ef.Bx,Tal.Bx]<;>exact rfl))|(first|with_reducible apply A3|with_reducible apply A2);(focus rfl);(focus (simp only[D.at,D.put,D.Xw,D.Fh,Mg,Jo,D.Bx,Js,Ad,Af,hqk,hvF,hVi,hI,C3,hlv,hwl,Ef.Bx,Tal.Bx]<;>exact rfl));(try(focus exact rfl)))
    all_goals(try(conv=>whnf))
    refine Round.by (k+1,true,(Tal.mk t.rev t.floor (t.bytes+((ck.length:Int)+(cv.length:Int))) (t.keys+1) (t.Aq7+1)),VS.set i (.ptr (.it (Tal.mk t.rev t.floor (t.bytes+((ck.length:Int)+(cv.length:Int))) (t.keys+1) (t.Aq7+1):Tal).Bx)),L.set p ⟨b,vs0++[Fk.mk (t.rev+1) (t.rev+1) cv false]⟩,Ld.set p (.st [.it (.str b),.vec Bb 4 (vs.map D.it++[.it (Fk.mk (t.rev+1) (t.rev+1) cv false).Bx])])) ?_ (Atc _ _ (by rw[e1,Ame]) (Akv _)) (by dsimp only;omega)
    try dsimp only
    show norm _ _=Cx _ _
    kernel_rfl
  |false=>
   cases cg with
   |true=>
    simp only[Ado,and_false,if_false,if_true]at hst;subst hst;have hk1:IntKind.i64.wrap (t.keys - 1)=t.keys - 1:=Bf (by omega)
    have hb1:IntKind.i64.wrap ((ck.length:Int)+(vv.length:Int))=(ck.length:Int)+(vv.length:Int):=Bf (by omega)
    have hb2:IntKind.i64.wrap (t.bytes - ((ck.length:Int)+(vv.length:Int)))=t.bytes - ((ck.length:Int)+(vv.length:Int)):=Bf (by omega)
    repeat'((conv=>whnf);first|(with_reducible first|refine Ax (by first|assumption|exact Ai (by assumption)|rfl) fun hb=>?_|refine Aw (by first|exact Ak (by assumption)|rfl) fun hb=>?_);(try rw[hb]);try simp only[Aa]at hb|((with_reducible refine A5 (fun hb=>?_) fun hb=>?_)<;>first|exact absurd hb (by decide)|(try rw[hb]);try simp only[Aa]at hb)|(with_reducible refine Ac ?_ ?_);focus (and_intros<;>first|omega|with_reducible rfl|kernel_rfl|intro _ hh;cases hh;done|exact Ah (by rfl)|exact Ag rfl|simp only[An];omega|simp;done|decide)|with_reducible intro Cq|(with_reducible refine Ai2.mkV ?_ ?_ ?_ fun Cq=>?_);(iterate 3 focus kernel_rfl);try simp only[zRL]at Cq|(try dsimp only);rw[B6 he]|(with_reducible refine Aq3.mk ?_);refine⟨_,_,hwh,?_⟩|refine B5 ?_ (by decide)|refine Bj ?_ (by decide)|refine Cw ?_ (by decide)|(with_reducible refine Ct.mk ?_);refine⟨_,hbs,?_⟩;rintro _ _ ⟨rfl,rfl⟩|(try dsimp only);(first|rw[hw2]|rw[hr1]|rw[hk1]|rw[hb1]|rw[hb2]|rw[hv1])|(first|with_reducible apply A9|with_reducible apply Ba);(focus (simp only[D.at,D.put,D.Xw,D.Fh,Mg,Jo,D.Bx,Js,Ad,Af,hqk,hvF,hVi,hI,C3,hlv,hwl,Ef.Bx,Tal.Bx]<;>exact rfl))|(first|with_reducible apply A3|with_reducible apply A2);(focus rfl);(focus (simp only[D.at,D.put,D.Xw,D.Fh,Mg,Jo,D.Bx,Js,Ad,Af,hqk,hvF,hVi,hI,C3,hlv,hwl,Ef.Bx,Tal.Bx]<;>exact rfl));(try(focus exact rfl)))
    all_goals(try(conv=>whnf))
    refine Round.by (k+1,true,(Tal.mk t.rev t.floor (t.bytes - ((ck.length:Int)+(vv.length:Int))) (t.keys - 1) (t.Aq7+1)),VS.set i (.ptr (.it (Tal.mk t.rev t.floor (t.bytes - ((ck.length:Int)+(vv.length:Int))) (t.keys - 1) (t.Aq7+1):Tal).Bx)),L.set p ⟨b,vs0++[Fk.mk (t.rev+1) 0 [] true]⟩,Ld.set p (.st [.it (.str b),.vec Bb 4 (vs.map D.it++[.it (Fk.mk (t.rev+1) 0 [] true).Bx])])) ?_ (Atc _ _ (by rw[e1,Ame]) (Akv _)) (by dsimp only;omega)
    try dsimp only
    show norm _ _=Cx _ _
    kernel_rfl
   |false=>
    have hcv:cv.length≤256:=by rcases Ba5.2 with h|h;cases h;exact h
    simp only[Ado,false_and,if_false]at hst;subst hst;have hb1:IntKind.i64.wrap ((cv.length:Int) - (vv.length:Int))=(cv.length:Int) - (vv.length:Int):=Bf (by omega)
    have hb2:IntKind.i64.wrap (t.bytes+((cv.length:Int) - (vv.length:Int)))=t.bytes+((cv.length:Int) - (vv.length:Int)):=Bf (by omega)
    repeat'((conv=>whnf);first|(with_reducible first|refine Ax (by first|assumption|exact Ai (by assumption)|rfl) fun hb=>?_|refine Aw (by first|exact Ak (by assumption)|rfl) fun hb=>?_);(try rw[hb]);try simp only[Aa]at hb|((with_reducible refine A5 (fun hb=>?_) fun hb=>?_)<;>first|exact absurd hb (by decide)|(try rw[hb]);try simp only[Aa]at hb)|(with_reducible refine Ac ?_ ?_);focus (and_intros<;>first|omega|with_reducible rfl|kernel_rfl|intro _ hh;cases hh;done|exact Ah (by rfl)|exact Ag rfl|simp only[An];omega|simp;done|decide)|with_reducible intro Cq|(with_reducible refine Ai2.mkV ?_ ?_ ?_ fun Cq=>?_);(iterate 3 focus kernel_rfl);try simp only[zRL]at Cq|(try dsimp only);rw[B6 he]|(with_reducible refine Aq3.mk ?_);refine⟨_,_,hwh,?_⟩|refine B5 ?_ (by decide)|refine Bj ?_ (by decide)|refine Cw ?_ (by decide)|(with_reducible refine Ct.mk ?_);refine⟨_,hbs,?_⟩;rintro _ _ ⟨rfl,rfl⟩|(try dsimp only);(first|rw[hw2]|rw[hr1]|rw[hb1]|rw[hb2]|rw[hv1])|(first|with_reducible apply A9|with_reducible apply Ba);(focus (simp only[D.at,D.put,D.Xw,D.Fh,Mg,Jo,D.Bx,Js,Ad,Af,hqk,hvF,hVi,hI,C3,hlv,hwl,Ef.Bx,Tal.Bx]<;>exact rfl))|(first|with_reducible apply A3|with_reducible apply A2);(focus rfl);(focus (simp only[D.at,D.put,D.Xw,D.Fh,Mg,Jo,D.Bx,Js,Ad,Af,hqk,hvF,hVi,hI,C3,hlv,hwl,Ef.Bx,Tal.Bx]<;>exact rfl));(try(focus exact rfl)))
    all_goals(try(conv=>whnf))
    refine Round.by (k+1,true,(Tal.mk t.rev t.floor (t.bytes+((cv.length:Int) - (vv.length:Int))) t.keys (t.Aq7+1)),VS.set i (.ptr (.it (Tal.mk t.rev t.floor (t.bytes+((cv.length:Int) - (vv.length:Int))) t.keys (t.Aq7+1):Tal).Bx)),L.set p ⟨b,vs0++[Fk.mk (t.rev+1) vm cv false]⟩,Ld.set p (.st [.it (.str b),.vec Bb 4 (vs.map D.it++[.it (Fk.mk (t.rev+1) vm cv false).Bx])])) ?_ (Atc _ _ (by rw[e1,Ame]) (Akv _)) (by dsimp only;omega)
    try dsimp only
    show norm _ _=Cx _ _
    kernel_rfl
theorem R4{T E:TypeId}(hK:Aek T)(hS:Aem E)(s:Cn)(n:Az)(cs:List Ef)(i:Nat)(hf:s.fi n=some i)(hn:n.length≤1000)(hcs:cs.length≤1000)(hL:LBd 80000 s.l)(hT:TBd 80000 (s.Zp n))(A26:0≤(s.Zp n).rev∧(s.Zp n).rev≤1000000000000)
 (FF:List Ef) (C4:Option (List Ef)) (Ajz:C4=some FF) (hF:K6 cs []=C4) (Z:WSt) (hZ:Ge n FF (Dc (FF.map Ef.key)) ⟨s.Zp n,s.l,false⟩=Z):
 Fn Tryz.prog Da [sP s,.v (.str n),.v (.list (cs.map Ef.Bx))] (Is (.tup [.i (ti Z.fin.rev),.i (ti 0)]) [sP ⟨s.sp.set i (n,Z.fin),Z.l⟩,.no,.no]):=
 Aa9 hK hS s n cs i hf hn (by omega) (by omega) hL hT A26 FF C4 Ajz hF Z hZ
end Go.Ab
