/- Lemmas -/
import Derived.Test.YtkpojedpcabojaaDoorVK
set_option linter.unusedVariables false
set_option linter.unusedSimpArgs false
set_option maxRecDepth 100000
set_option maxHeartbeats 40000000
namespace Go.Ab
open Go.Proofs
abbrev ksF(F:List Chg):List I:=F.map fun c=>I.str c.key
abbrev vsF(F:List Chg):List D:=F.map fun c=>D.it c.toI
theorem Xf{F:List Chg}{c:Chg}(h:F.findIdx? (fun x=>decide (x.key=c.key))=none):Lo c.key (ksF F) 0=some none∧ksF (Bm F c)=ksF F++[.str c.key]∧vsF (Bm F c)=vsF F++[.it c.toI]:=by
 refine⟨by rw[E5 (fun c:Chg=>c.key),h];rfl,?_,?_⟩<;>simp[Bm,h]
theorem Xg{F:List Chg}{c:Chg}{q:Nat}(h:F.findIdx? (fun x=>decide (x.key=c.key))=some q):Lo c.key (ksF F) 0=some (some q)∧ksF (Bm F c)=ksF F∧vsF (Bm F c)=(vsF F).set q (.it c.toI):=by
 refine⟨by rw[E5 (fun c:Chg=>c.key),h];rfl,?_,?_⟩
 ·obtain⟨hi,h1,h2⟩:=List.findIdx?_eq_some_iff_getElem.1 h;simp only[Bm,h,ksF];rw[List.map_set];have:I.str c.key=(F.map fun c=>I.str c.key)[q]'(by simpa using hi):=by simp only[List.getElem_map];exact congrArg I.str (show F[q].key=c.key by simpa using h1).symm
  rw[this,List.set_getElem_self]
 ·simp only[Bm,h,vsF];rw[List.map_set]
theorem Ai8(s:Sto)(n:Az)(cs:List Chg)(hf:s.fi n=none):
 Fn Tryd.prog Da [sP s,.v (.str n),.v (.list (cs.map Chg.toI))] (Is (.tup [.i (ti 0),.i (ti 16)]) [sP s,.no,.no]):=by
 refine Fo ?_ (by simp)
 obtain⟨h1,h2⟩:=Sto.fi_none hf;repeat'((conv=>whnf);first|((with_reducible refine Ax (by(with_reducible rfl)) (fun hb=>?_));(try rw[hb]);(try simp only[Aa]at hb))|((with_reducible refine Aw (by(with_reducible rfl)) (fun hb=>?_));(try rw[hb]);(try simp only[Aa]at hb))|((with_reducible refine And.intro (fun hb=>?_) (fun hb=>?_))<;>first|(exact absurd hb (by decide))|((try rw[hb]);(try simp only[Aa]at hb)))|((with_reducible refine Exists.intro ?_ ?_);focus (and_intros<;>first|omega|(with_reducible rfl)|kernel_rfl|(simp;done)))|((refine Au ?_))|(((with_reducible apply A9));(focus (simp only[D.at,D.put,D.kid,D.setKid,mkSt,Jo,D.toI,toIs,Ad,Af,h1,Sto.toD]<;>exact rfl))))
 all_goals(try(conv=>whnf))
 (apply dKq<;>kernel_rfl)
theorem Ae8(s:Sto)(n:Az)(cs:List Chg)(i:Nat)(hf:s.fi n=some i)(hcs:cs.length≤40000)(RES:Option (List Chg))(hRES:RES=none)(hF:K6 cs []=RES):
 Fn Tryd.prog Da [sP s,.v (.str n),.v (.list (cs.map Chg.toI))] (Is (.tup [.i (ti 0),.i (ti 1)]) [sP s,.no,.no]):=by
 refine Fo ?_ (by simp)
 obtain⟨h1,h2,h3⟩:=Sto.fi_some hf;repeat'((conv=>whnf);first|((with_reducible refine Ax (by(with_reducible rfl)) (fun hb=>?_));(try rw[hb]);(try simp only[Aa]at hb))|((with_reducible refine And.intro (fun hb=>?_) (fun hb=>?_))<;>first|(exact absurd hb (by decide))|((try rw[hb]);(try simp only[Aa]at hb)))|((with_reducible refine Exists.intro ?_ ?_);focus (and_intros<;>first|omega|(with_reducible rfl)|kernel_rfl|(simp;done)))|(with_reducible intro hfact)|((with_reducible refine And.intro ?_ ?_);focus (decide))|((refine Au ?_))|(((with_reducible apply A9));(focus (simp only[D.at,D.put,D.kid,D.setKid,mkSt,Jo,D.toI,toIs,Ad,Af,h1,h3,Sto.toD,Tal.toI]<;>exact rfl))))
 all_goals(try(conv=>whnf))
 refine LoopWq.by (X:=Nat × List Chg × List I × List D) (fun y=>[(31,.v (ti (y.1:Int))),(10,.own [] (.map y.2.2.1 y.2.2.2))]) (fun y=>y.1≤cs.length∧y.2.1.length≤y.1∧y.2.2.1=ksF y.2.1∧y.2.2.2=vsF y.2.1∧K6 (cs.drop y.1) y.2.1=RES∧(y.2.1.map Chg.key).Nodup∧∀c∈y.2.1,c.ok) (fun y=>cs.length - y.1) (0,[],[],[]) (by kernel_rfl) ⟨Nat.zero_le _,by simp,rfl,rfl,hF,by simp,by simp⟩ ?_
 rintro⟨j,F,KS,VS⟩ ⟨hj,hFl,e1,e2,hR,hnd,hok⟩;dsimp only at hj hFl e1 e2 hR hnd hok ⊢;subst e1 e2;have hclen:(cs.map Chg.toI).length=cs.length:=List.length_map _;have hw:IntKind.i64.wrap ((j:Int)+1)=((j+1:Nat):Int):=Dk (n:=100000) (by omega) (by simp only[maxLen];omega)
 by_cases hjl:j<cs.length
 case neg=>
  rw[List.drop_eq_nil_of_le (by omega)]at hR
  rw[←hR]at hRES;cases hRES
 obtain⟨c,he⟩:∃c,cs[j]?=some c:=⟨_,List.getElem?_eq_getElem hjl⟩;have hlt:¬decide ((j:Int)<(cs.length:Int))=false:=by simp;omega
 have hlt2:¬decide ((j:Int)<((cs.map Chg.toI).length:Int))=false:=by simp;omega
 have hdr:cs.drop j=c::cs.drop (j+1):=by rw[List.drop_eq_getElem_cons hjl];rw[List.getElem?_eq_getElem hjl]at he;cases he;rfl
 rw[hdr]at hR;simp only[K6]at hR;have hkey:=Aaz c.key;have hval:=Wx c.val;by_cases hc:c.ok
 ·skip
  have hok':∀x∈Bm F c,x.ok:=fun x hx=>by
   rcases Zn hx with h|h
   ·exact hok x h
   ·subst h;exact hc
  have hfl:=Zm F c;rw[if_pos hc]at hR;have hnd':=U5 (c:=c) hnd;obtain⟨hc1,hc2⟩:=hc;rw[decide_eq_true hc1]at hkey;have hmain:∀KS' VS',KS'=ksF (Bm F c)→VS'=vsF (Bm F c)→j+1≤cs.length∧(Bm F c).length≤j+1∧KS'=ksF (Bm F c)∧VS'=vsF (Bm F c)∧K6 (cs.drop (j+1)) (Bm F c)=RES∧((Bm F c).map Chg.key).Nodup∧∀c'∈Bm F c,c'.ok:=
   fun KS' VS' e1 e2=>⟨by omega,by omega,e1,e2,hR,hnd',hok'⟩
  clear hR hdr;cases hq:F.findIdx? (fun x=>decide (x.key=c.key))with
  |none=>
   obtain⟨g1,g2,g3⟩:=Xf hq;obtain⟨ck,cv,cg⟩:=c;cases cg with
   |true=>
    repeat'((conv=>whnf);first|((with_reducible refine Ax (by(with_reducible exact Bool.of_not_eq_false (by assumption))) (fun hb=>?_));(try rw[hb]);(try simp only[Aa]at hb))|((with_reducible refine Aw (by(with_reducible rfl)) (fun hb=>?_));(try rw[hb]);(try simp only[Aa]at hb))|((with_reducible refine And.intro (fun hb=>?_) (fun hb=>?_))<;>first|(exact absurd hb (by decide))|((try rw[hb]);(try simp only[Aa]at hb)))|((with_reducible refine Exists.intro ?_ ?_);focus (and_intros<;>first|omega|kernel_rfl|(intro _ hh;cases hh;done)|(simp;done)|decide))|((try dsimp only);(rw[B6 he]))|((with_reducible refine CallWp.mk ?_);refine⟨_,hkey,?_⟩;rintro _ _ ⟨rfl,rfl⟩)|((try dsimp only);rw[hw])|(((with_reducible apply A9));(focus (simp only[D.at,D.put,D.kid,D.setKid,mkSt,Jo,D.toI,toIs,Ad,Af,g1,Lt]<;>exact rfl))))
    all_goals(try(conv=>whnf))
    refine Round.by (j+1,Bm F ⟨ck,cv,true⟩,ksF F++[.str ck],vsF F++[.it (Chg.mk ck cv true).toI]) ?_ (hmain _ _ g2.symm g3.symm) (by dsimp only;omega)
    try dsimp only
    show norm _ _=upd _ _
    kernel_rfl
   |false=>
    rw[decide_eq_true (by simpa using hc2)]at hval
    repeat'((conv=>whnf);first|((with_reducible refine Ax (by first|(with_reducible exact Bool.of_not_eq_false (by assumption))|(with_reducible rfl)) (fun hb=>?_));(try rw[hb]);(try simp only[Aa]at hb))|((with_reducible refine Aw (by(with_reducible rfl)) (fun hb=>?_));(try rw[hb]);(try simp only[Aa]at hb))|((with_reducible refine And.intro (fun hb=>?_) (fun hb=>?_))<;>first|(exact absurd hb (by decide))|((try rw[hb]);(try simp only[Aa]at hb)))|((with_reducible refine Exists.intro ?_ ?_);focus (and_intros<;>first|omega|kernel_rfl|(intro _ hh;cases hh;done)|(simp;done)|decide))|((try dsimp only);(rw[B6 he]))|((with_reducible refine CallWp.mk ?_);refine⟨_,hkey,?_⟩;rintro _ _ ⟨rfl,rfl⟩)|((with_reducible refine CallWp.mk ?_);refine⟨_,hval,?_⟩;rintro _ _ ⟨rfl,rfl⟩)|((try dsimp only);rw[hw])|(((with_reducible apply A9));(focus (simp only[D.at,D.put,D.kid,D.setKid,mkSt,Jo,D.toI,toIs,Ad,Af,g1,Lt]<;>exact rfl))))
    all_goals(try(conv=>whnf))
    refine Round.by (j+1,Bm F ⟨ck,cv,false⟩,ksF F++[.str ck],vsF F++[.it (Chg.mk ck cv false).toI]) ?_ (hmain _ _ g2.symm g3.symm) (by dsimp only;omega)
    try dsimp only
    show norm _ _=upd _ _
    kernel_rfl
  |some q=>
   obtain⟨g1,g2,g3⟩:=Xg hq;obtain⟨ck,cv,cg⟩:=c;cases cg with
   |true=>
    repeat'((conv=>whnf);first|((with_reducible refine Ax (by(with_reducible exact Bool.of_not_eq_false (by assumption))) (fun hb=>?_));(try rw[hb]);(try simp only[Aa]at hb))|((with_reducible refine Aw (by(with_reducible rfl)) (fun hb=>?_));(try rw[hb]);(try simp only[Aa]at hb))|((with_reducible refine And.intro (fun hb=>?_) (fun hb=>?_))<;>first|(exact absurd hb (by decide))|((try rw[hb]);(try simp only[Aa]at hb)))|((with_reducible refine Exists.intro ?_ ?_);focus (and_intros<;>first|omega|kernel_rfl|(intro _ hh;cases hh;done)|(simp;done)|decide))|((try dsimp only);(rw[B6 he]))|((with_reducible refine CallWp.mk ?_);refine⟨_,hkey,?_⟩;rintro _ _ ⟨rfl,rfl⟩)|((try dsimp only);rw[hw])|(((with_reducible apply A9));(focus (simp only[D.at,D.put,D.kid,D.setKid,mkSt,Jo,D.toI,toIs,Ad,Af,g1,Lt]<;>exact rfl))))
    all_goals(try(conv=>whnf))
    refine Round.by (j+1,Bm F ⟨ck,cv,true⟩,ksF F,(vsF F).set q (.it (Chg.mk ck cv true).toI)) ?_ (hmain _ _ g2.symm g3.symm) (by dsimp only;omega)
    try dsimp only
    show norm _ _=upd _ _
    kernel_rfl
   |false=>
    rw[decide_eq_true (by simpa using hc2)]at hval
    repeat'((conv=>whnf);first|((with_reducible refine Ax (by first|(with_reducible exact Bool.of_not_eq_false (by assumption))|(with_reducible rfl)) (fun hb=>?_));(try rw[hb]);(try simp only[Aa]at hb))|((with_reducible refine Aw (by(with_reducible rfl)) (fun hb=>?_));(try rw[hb]);(try simp only[Aa]at hb))|((with_reducible refine And.intro (fun hb=>?_) (fun hb=>?_))<;>first|(exact absurd hb (by decide))|((try rw[hb]);(try simp only[Aa]at hb)))|((with_reducible refine Exists.intro ?_ ?_);focus (and_intros<;>first|omega|kernel_rfl|(intro _ hh;cases hh;done)|(simp;done)|decide))|((try dsimp only);(rw[B6 he]))|((with_reducible refine CallWp.mk ?_);refine⟨_,hkey,?_⟩;rintro _ _ ⟨rfl,rfl⟩)|((with_reducible refine CallWp.mk ?_);refine⟨_,hval,?_⟩;rintro _ _ ⟨rfl,rfl⟩)|((try dsimp only);rw[hw])|(((with_reducible apply A9));(focus (simp only[D.at,D.put,D.kid,D.setKid,mkSt,Jo,D.toI,toIs,Ad,Af,g1,Lt]<;>exact rfl))))
    all_goals(try(conv=>whnf))
    refine Round.by (j+1,Bm F ⟨ck,cv,false⟩,ksF F,(vsF F).set q (.it (Chg.mk ck cv false).toI)) ?_ (hmain _ _ g2.symm g3.symm) (by dsimp only;omega)
    try dsimp only
    show norm _ _=upd _ _
    kernel_rfl
 ·obtain⟨ck,cv,cg⟩:=c;by_cases hk:1≤ck.length∧ck.length≤64
  ·rw[decide_eq_true hk]at hkey;cases cg with
   |true=>exact absurd ⟨hk,.inl rfl⟩ hc
   |false=>
    have hv:¬cv.length≤256:=fun h=>hc ⟨hk,.inr h⟩
    rw[decide_eq_false hv]at hval;repeat'((conv=>whnf);first|((with_reducible refine Ax (by first|(with_reducible exact Bool.of_not_eq_false (by assumption))|(with_reducible rfl)) (fun hb=>?_));(try rw[hb]);(try simp only[Aa]at hb))|((with_reducible refine Aw (by(with_reducible rfl)) (fun hb=>?_));(try rw[hb]);(try simp only[Aa]at hb))|((with_reducible refine And.intro (fun hb=>?_) (fun hb=>?_))<;>first|(exact absurd hb (by decide))|((try rw[hb]);(try simp only[Aa]at hb)))|((with_reducible refine Exists.intro ?_ ?_);focus (and_intros<;>first|omega|kernel_rfl|(intro _ hh;cases hh;done)|(simp;done)|decide))|((try dsimp only);(rw[B6 he]))|((with_reducible refine CallWp.mk ?_);refine⟨_,hkey,?_⟩;rintro _ _ ⟨rfl,rfl⟩)|((with_reducible refine CallWp.mk ?_);refine⟨_,hval,?_⟩;rintro _ _ ⟨rfl,rfl⟩))
    all_goals(try(conv=>whnf))
    (apply dKq<;>kernel_rfl)
  ·rw[decide_eq_false hk]at hkey;repeat'((conv=>whnf);first|((with_reducible refine Ax (by first|(with_reducible exact Bool.of_not_eq_false (by assumption))|(with_reducible rfl)) (fun hb=>?_));(try rw[hb]);(try simp only[Aa]at hb))|((with_reducible refine And.intro (fun hb=>?_) (fun hb=>?_))<;>first|(exact absurd hb (by decide))|((try rw[hb]);(try simp only[Aa]at hb)))|((with_reducible refine Exists.intro ?_ ?_);focus (and_intros<;>first|omega|kernel_rfl|(intro _ hh;cases hh;done)|(simp;done)|decide))|((try dsimp only);(rw[B6 he]))|((with_reducible refine CallWp.mk ?_);refine⟨_,hkey,?_⟩;rintro _ _ ⟨rfl,rfl⟩))
   all_goals(try(conv=>whnf))
   (apply dKq<;>kernel_rfl)
theorem Aji(s:Sto)(n:Az)(cs:List Chg)(i:Nat)(hf:s.fi n=some i)(hcs:cs.length≤1000)(RES:Option (List Chg))(hRES:RES=none)(hF:K6 cs []=RES):
 Fn Tryd.prog Da [sP s,.v (.str n),.v (.list (cs.map Chg.toI))] (Is (.tup [.i (ti 0),.i (ti 1)]) [sP s,.no,.no]):=
 Ae8 s n cs i hf (by omega) RES hRES hF

open Go.Proofs
theorem List.set_getElem?_self'{α:Type}{l:List α}{i:Nat}{x:α}(h:l[i]?=some x):l.set i x=l:=by
 obtain⟨hi,rfl⟩:=List.getElem?_eq_some_iff.1 h;exact List.set_getElem_self hi
theorem Zv{α:Type}{l:List α}{i:Nat}{x:α}(h:l[i]?=some x)(f:α→α):l.modify i f=l.set i (f x):=by
 apply List.ext_getElem?;intro j;rw[List.getElem?_modify,List.getElem?_set];by_cases hij:i=j
 ·subst hij;obtain⟨hi,rfl⟩:=List.getElem?_eq_some_iff.1 h;simp[hi]
 ·simp[hij]
abbrev Aek(T:TypeId):Prop:=KeysC Tryd.prog Cz Bq T
abbrev Aem(E:TypeId):Prop:=SortedC Tryd.prog Ju Bq E
theorem Aa9{T E:TypeId}{B:Nat}(hK:Aek T)(hS:Aem E)(s:Sto)(n:Az)(cs:List Chg)(i:Nat)(hf:s.fi n=some i)(hn:n.length≤1000)(hcs:cs.length≤40000)(hBc:B+cs.length≤81000)(hL:LBd B s.l)(hT:TBd B (s.tal n))(hrev:0≤(s.tal n).rev∧(s.tal n).rev≤1000000000000)
 (FF:List Chg) (RES:Option (List Chg)) (hRES:RES=some FF) (hF:K6 cs []=RES) (Z:WSt) (hZ:Ge n FF (Dc (FF.map Chg.key)) ⟨s.tal n,s.l,false⟩=Z):
 Fn Tryd.prog Da [sP s,.v (.str n),.v (.list (cs.map Chg.toI))] (Is (.tup [.i (ti Z.fin.rev),.i (ti 0)]) [sP ⟨s.sp.set i (n,Z.fin),Z.l⟩,.no,.no]):=by
 refine Fo ?_ (by simp)
 obtain⟨h1,h2,h3⟩:=Sto.fi_some hf;repeat'((conv=>whnf);first|((with_reducible refine Ax (by(with_reducible rfl)) (fun hb=>?_));(try rw[hb]);(try simp only[Aa]at hb))|((with_reducible refine And.intro (fun hb=>?_) (fun hb=>?_))<;>first|(exact absurd hb (by decide))|((try rw[hb]);(try simp only[Aa]at hb)))|((with_reducible refine Exists.intro ?_ ?_);focus (and_intros<;>first|omega|(with_reducible rfl)|kernel_rfl|(simp;done)))|(with_reducible intro hfact)|((with_reducible refine And.intro ?_ ?_);focus (decide))|((refine Au ?_))|(((with_reducible apply A9));(focus (simp only[D.at,D.put,D.kid,D.setKid,mkSt,Jo,D.toI,toIs,Ad,Af,h1,h3,Sto.toD,Tal.toI]<;>exact rfl))))
 all_goals(try(conv=>whnf))
 refine LoopWq.by (X:=Nat × List Chg × List I × List D) (fun y=>[(31,.v (ti (y.1:Int))),(10,.own [] (.map y.2.2.1 y.2.2.2))]) (fun y=>y.1≤cs.length∧y.2.1.length≤y.1∧y.2.2.1=ksF y.2.1∧y.2.2.2=vsF y.2.1∧K6 (cs.drop y.1) y.2.1=RES∧(y.2.1.map Chg.key).Nodup∧∀c∈y.2.1,c.ok) (fun y=>cs.length - y.1) (0,[],[],[]) (by kernel_rfl) ⟨Nat.zero_le _,by simp,rfl,rfl,hF,by simp,by simp⟩ ?_
 rintro⟨j,F,KS,VS⟩ ⟨hj,hFl,e1,e2,hR,hnd,hok⟩;dsimp only at hj hFl e1 e2 hR hnd hok ⊢;subst e1 e2;have hclen:(cs.map Chg.toI).length=cs.length:=List.length_map _;have hw:IntKind.i64.wrap ((j:Int)+1)=((j+1:Nat):Int):=Dk (n:=100000) (by omega) (by simp only[maxLen];omega)
 by_cases hjl:j<cs.length
 ·skip
  obtain⟨c,he⟩:∃c,cs[j]?=some c:=⟨_,List.getElem?_eq_getElem hjl⟩;have hlt:¬decide ((j:Int)<(cs.length:Int))=false:=by simp;omega
  have hlt2:¬decide ((j:Int)<((cs.map Chg.toI).length:Int))=false:=by simp;omega
  have hdr:cs.drop j=c::cs.drop (j+1):=by rw[List.drop_eq_getElem_cons hjl];rw[List.getElem?_eq_getElem hjl]at he;cases he;rfl
  rw[hdr]at hR;simp only[K6]at hR;have hkey:=Aaz c.key;have hval:=Wx c.val;by_cases hc:c.ok
  case neg=>
   rw[if_neg hc]at hR;rw[←hR]at hRES;cases hRES
  have hok':∀x∈Bm F c,x.ok:=fun x hx=>by
   rcases Zn hx with h|h
   ·exact hok x h
   ·subst h;exact hc
  have hfl:=Zm F c;rw[if_pos hc]at hR;have hnd':=U5 (c:=c) hnd;obtain⟨hc1,hc2⟩:=hc;rw[decide_eq_true hc1]at hkey;have hmain:∀KS' VS',KS'=ksF (Bm F c)→VS'=vsF (Bm F c)→j+1≤cs.length∧(Bm F c).length≤j+1∧KS'=ksF (Bm F c)∧VS'=vsF (Bm F c)∧K6 (cs.drop (j+1)) (Bm F c)=RES∧((Bm F c).map Chg.key).Nodup∧∀c'∈Bm F c,c'.ok:=
   fun KS' VS' e1 e2=>⟨by omega,by omega,e1,e2,hR,hnd',hok'⟩
  clear hR hdr;cases hq:F.findIdx? (fun x=>decide (x.key=c.key))with
  |none=>
   obtain⟨g1,g2,g3⟩:=Xf hq;obtain⟨ck,cv,cg⟩:=c;cases cg with
   |true=>
    repeat'((conv=>whnf);first|((with_reducible refine Ax (by(with_reducible exact Bool.of_not_eq_false (by assumption))) (fun hb=>?_));(try rw[hb]);(try simp only[Aa]at hb))|((with_reducible refine Aw (by(with_reducible rfl)) (fun hb=>?_));(try rw[hb]);(try simp only[Aa]at hb))|((with_reducible refine And.intro (fun hb=>?_) (fun hb=>?_))<;>first|(exact absurd hb (by decide))|((try rw[hb]);(try simp only[Aa]at hb)))|((with_reducible refine Exists.intro ?_ ?_);focus (and_intros<;>first|omega|kernel_rfl|(intro _ hh;cases hh;done)|(simp;done)|decide))|((try dsimp only);(rw[B6 he]))|((with_reducible refine CallWp.mk ?_);refine⟨_,hkey,?_⟩;rintro _ _ ⟨rfl,rfl⟩)|((try dsimp only);rw[hw])|(((with_reducible apply A9));(focus (simp only[D.at,D.put,D.kid,D.setKid,mkSt,Jo,D.toI,toIs,Ad,Af,g1,Lt]<;>exact rfl))))
    all_goals(try(conv=>whnf))
    refine Round.by (j+1,Bm F ⟨ck,cv,true⟩,ksF F++[.str ck],vsF F++[.it (Chg.mk ck cv true).toI]) ?_ (hmain _ _ g2.symm g3.symm) (by dsimp only;omega)
    try dsimp only
    show norm _ _=upd _ _
    kernel_rfl
   |false=>
    rw[decide_eq_true (by simpa using hc2)]at hval
    repeat'((conv=>whnf);first|((with_reducible refine Ax (by first|(with_reducible exact Bool.of_not_eq_false (by assumption))|(with_reducible rfl)) (fun hb=>?_));(try rw[hb]);(try simp only[Aa]at hb))|((with_reducible refine Aw (by(with_reducible rfl)) (fun hb=>?_));(try rw[hb]);(try simp only[Aa]at hb))|((with_reducible refine And.intro (fun hb=>?_) (fun hb=>?_))<;>first|(exact absurd hb (by decide))|((try rw[hb]);(try simp only[Aa]at hb)))|((with_reducible refine Exists.intro ?_ ?_);focus (and_intros<;>first|omega|kernel_rfl|(intro _ hh;cases hh;done)|(simp;done)|decide))|((try dsimp only);(rw[B6 he]))|((with_reducible refine CallWp.mk ?_);refine⟨_,hkey,?_⟩;rintro _ _ ⟨rfl,rfl⟩)|((with_reducible refine CallWp.mk ?_);refine⟨_,hval,?_⟩;rintro _ _ ⟨rfl,rfl⟩)|((try dsimp only);rw[hw])|(((with_reducible apply A9));(focus (simp only[D.at,D.put,D.kid,D.setKid,mkSt,Jo,D.toI,toIs,Ad,Af,g1,Lt]<;>exact rfl))))
    all_goals(try(conv=>whnf))
    refine Round.by (j+1,Bm F ⟨ck,cv,false⟩,ksF F++[.str ck],vsF F++[.it (Chg.mk ck cv false).toI]) ?_ (hmain _ _ g2.symm g3.symm) (by dsimp only;omega)
    try dsimp only
    show norm _ _=upd _ _
    kernel_rfl
  |some q=>
   obtain⟨g1,g2,g3⟩:=Xg hq;obtain⟨ck,cv,cg⟩:=c;cases cg with
   |true=>
    repeat'((conv=>whnf);first|((with_reducible refine Ax (by(with_reducible exact Bool.of_not_eq_false (by assumption))) (fun hb=>?_));(try rw[hb]);(try simp only[Aa]at hb))|((with_reducible refine Aw (by(with_reducible rfl)) (fun hb=>?_));(try rw[hb]);(try simp only[Aa]at hb))|((with_reducible refine And.intro (fun hb=>?_) (fun hb=>?_))<;>first|(exact absurd hb (by decide))|((try rw[hb]);(try simp only[Aa]at hb)))|((with_reducible refine Exists.intro ?_ ?_);focus (and_intros<;>first|omega|kernel_rfl|(intro _ hh;cases hh;done)|(simp;done)|decide))|((try dsimp only);(rw[B6 he]))|((with_reducible refine CallWp.mk ?_);refine⟨_,hkey,?_⟩;rintro _ _ ⟨rfl,rfl⟩)|((try dsimp only);rw[hw])|(((with_reducible apply A9));(focus (simp only[D.at,D.put,D.kid,D.setKid,mkSt,Jo,D.toI,toIs,Ad,Af,g1,Lt]<;>exact rfl))))
    all_goals(try(conv=>whnf))
    refine Round.by (j+1,Bm F ⟨ck,cv,true⟩,ksF F,(vsF F).set q (.it (Chg.mk ck cv true).toI)) ?_ (hmain _ _ g2.symm g3.symm) (by dsimp only;omega)
    try dsimp only
    show norm _ _=upd _ _
    kernel_rfl
   |false=>
    rw[decide_eq_true (by simpa using hc2)]at hval
    repeat'((conv=>whnf);first|((with_reducible refine Ax (by first|(with_reducible exact Bool.of_not_eq_false (by assumption))|(with_reducible rfl)) (fun hb=>?_));(try rw[hb]);(try simp only[Aa]at hb))|((with_reducible refine Aw (by(with_reducible rfl)) (fun hb=>?_));(try rw[hb]);(try simp only[Aa]at hb))|((with_reducible refine And.intro (fun hb=>?_) (fun hb=>?_))<;>first|(exact absurd hb (by decide))|((try rw[hb]);(try simp only[Aa]at hb)))|((with_reducible refine Exists.intro ?_ ?_);focus (and_intros<;>first|omega|kernel_rfl|(intro _ hh;cases hh;done)|(simp;done)|decide))|((try dsimp only);(rw[B6 he]))|((with_reducible refine CallWp.mk ?_);refine⟨_,hkey,?_⟩;rintro _ _ ⟨rfl,rfl⟩)|((with_reducible refine CallWp.mk ?_);refine⟨_,hval,?_⟩;rintro _ _ ⟨rfl,rfl⟩)|((try dsimp only);rw[hw])|(((with_reducible apply A9));(focus (simp only[D.at,D.put,D.kid,D.setKid,mkSt,Jo,D.toI,toIs,Ad,Af,g1,Lt]<;>exact rfl))))
    all_goals(try(conv=>whnf))
    refine Round.by (j+1,Bm F ⟨ck,cv,false⟩,ksF F,(vsF F).set q (.it (Chg.mk ck cv false).toI)) ?_ (hmain _ _ g2.symm g3.symm) (by dsimp only;omega)
    try dsimp only
    show norm _ _=upd _ _
    kernel_rfl
 have hlt:¬decide ((j:Int)<(cs.length:Int))=true:=by simp;omega
 have hlt2:¬decide ((j:Int)<((cs.map Chg.toI).length:Int))=true:=by simp;omega
 rw[List.drop_eq_nil_of_le (by omega)]at hR
 have hR:some F=RES:=hR;rw[←hR]at hRES;cases hRES;clear hR;have hks1:∀x∈ksF FF,∃s,x=I.str s:=fun x hx=>by obtain⟨c,_,rfl⟩:=List.mem_map.1 hx;exact⟨_,rfl⟩
 have hks2:(ksF FF).length≤1000000:=by simp only[ksF,List.length_map];omega
 have hks3:((ksF FF).map strV).Nodup:=by simp only[ksF,List.map_map];exact hnd
 have hSI:Gq (ksF FF)=(Dc (FF.map Chg.key)).map I.str:=by rw[←Acr];simp only[ksF,List.map_map];rfl
 repeat'((conv=>whnf);first|((with_reducible refine Aw (by(with_reducible exact Bool.of_not_eq_true (by assumption))) (fun hb=>?_));(try rw[hb]);(try simp only[Aa]at hb))|((with_reducible refine Exists.intro ?_ ?_);focus (and_intros<;>first|(exact hks1)|(exact hks2)|(exact hks3)|omega|(with_reducible rfl)|kernel_rfl|(simp;done)))|(with_reducible intro hfact)|((refine Ad0 hK ?_))|((refine Zo hS ?_)))
 all_goals(try(conv=>whnf))
 rw[hSI];have hKm:∀k∈Dc (FF.map Chg.key),k∈FF.map Chg.key:=fun k hk=>(List.mergeSort_perm ..).mem_iff.1 hk
 have hKl:(Dc (FF.map Chg.key)).length≤cs.length:=by unfold Dc;rw[List.length_mergeSort,List.length_map];omega
 generalize Dc (FF.map Chg.key)=KK at hZ hKm hKl ⊢;obtain⟨VS0,hVS0⟩:∃V,V=s.sp.map fun x=>D.ptr (.it x.2.toI):=⟨_,rfl⟩
 obtain⟨KS0,hKS0⟩:∃V,V=s.sp.map fun x=>I.str x.1:=⟨_,rfl⟩
 have hi:i<VS0.length:=by rw[hVS0];exact(List.getElem?_eq_some_iff.1 h2).1
 refine LoopWq.by (X:=Nat × Bool × Tal × List D × List Hld × List D) (fun y=>[(59,.v (ti (y.1:Int))),(13,.v (.bool y.2.1)),(179,.own [] (.ptr (stD KS0 y.2.2.2.1 y.2.2.2.2.2)))])
  (fun y=>y.1≤KK.length∧y.2.2.2.1=VS0.set i (.ptr (.it y.2.2.1.toI))∧y.2.2.2.2.2=y.2.2.2.2.1.map Hld.toD∧LBd (B+y.1) y.2.2.2.2.1∧TBd (B+y.1) y.2.2.1∧(y.2.2.1.rev=(s.tal n).rev∧y.2.2.1.floor=(s.tal n).floor)∧Ge n FF (KK.drop y.1) ⟨y.2.2.1,y.2.2.2.2.1,y.2.1⟩=Z)
  (fun y=>KK.length - y.1) (0,false,s.tal n,s.sp.map (fun x=>D.ptr (.it x.2.toI)),s.l,s.l.map Hld.toD) (by rw[hKS0];kernel_rfl)
  ⟨Nat.zero_le _,(by show s.sp.map (fun x=>D.ptr (.it x.2.toI))=_;rw[←hVS0]at h2 ⊢;exact(List.set_getElem?_self' h2).symm),rfl,hL,hT,⟨rfl,rfl⟩,hZ⟩ ?_
 rintro⟨k,wr,t,VS,L,Ld⟩ ⟨hk,e1,e2,hLB,hTB,hrf,hR⟩;dsimp only at hk e1 e2 hLB hTB hrf hR ⊢;have hw2:IntKind.i64.wrap ((k:Int)+1)=((k+1:Nat):Int):=Dk (n:=100000) (by omega) (by simp only[maxLen];omega)
 have hVi:VS[i]?=some (.ptr (.it t.toI)):=by rw[e1,List.getElem?_set_self hi]
 have hKKl:(KK.map I.str).length=KK.length:=List.length_map _;have hr1:IntKind.i64.wrap (t.rev+1)=t.rev+1:=Bf (by omega)
 by_cases hkl:k<KK.length
 case neg=>
  have hlt3:¬decide ((k:Int)<((KK.map I.str).length:Int))=true:=by simp;omega
  have hlt4:¬decide ((k:Int)<(KK.length:Int))=true:=by simp;omega
  rw[List.drop_eq_nil_of_le (by omega)]at hR
  have hR:⟨t,L,wr⟩=Z:=hR;subst hR;have hsp:∀f:Tal,sP ⟨s.sp.set i (n,f),L⟩= .own [] (.ptr (stD KS0 (VS.set i (.ptr (.it f.toI))) Ld)):=fun f=>by
   simp only[sP,Sto.toD,List.map_set];rw[←hVS0, ←hKS0,e1,List.set_set,e2];rw[List.set_getElem?_self' (l:=KS0) (by rw[hKS0,List.getElem?_map,h3];rfl)]
  cases wr with
  |false=>
   have hfin:sP ⟨s.sp.set i (n,(WSt.mk t L false).fin),L⟩= .own [] (.ptr (stD KS0 VS Ld)):=by
    rw[show(WSt.mk t L false).fin=t from rfl,hsp,List.set_getElem?_self' hVi]
   rw[hfin];repeat'((conv=>whnf);first|((with_reducible refine Aw (by first|(with_reducible exact Bool.of_not_eq_true (by assumption))|(with_reducible rfl)) (fun hb=>?_));(try rw[hb]);(try simp only[Aa]at hb))|((with_reducible refine Exists.intro ?_ ?_);focus (and_intros<;>first|kernel_rfl|(simp;done)))|(((with_reducible apply A3));(focus rfl);(focus (simp only[D.at,D.put,D.kid,D.setKid,mkSt,Jo,D.toI,toIs,Ad,Af,hVi,Tal.toI]<;>exact rfl));(try(focus exact rfl))))
   all_goals(try(conv=>whnf))
   (apply dKq<;>kernel_rfl)
  |true=>
   have hfin:sP ⟨s.sp.set i (n,(WSt.mk t L true).fin),L⟩= .own [] (.ptr (stD KS0 (VS.set i (.ptr (.it (Tal.mk (t.rev+1) t.floor t.bytes t.keys t.vers).toI))) Ld)):=hsp _;rw[hfin];repeat'((conv=>whnf);first|((with_reducible refine Ax (by(with_reducible rfl)) (fun hb=>?_));(try rw[hb]);(try simp only[Aa]at hb))|((with_reducible refine Aw (by(with_reducible exact Bool.of_not_eq_true (by assumption))) (fun hb=>?_));(try rw[hb]);(try simp only[Aa]at hb))|((with_reducible refine Exists.intro ?_ ?_);focus (and_intros<;>first|kernel_rfl|(simp;done)))|((try dsimp only);rw[hr1])|(((with_reducible apply A9));(focus (simp only[D.at,D.put,D.kid,D.setKid,mkSt,Jo,D.toI,toIs,Ad,Af,hVi,Tal.toI]<;>exact rfl)))|(((with_reducible apply A3));(focus rfl);(focus (simp only[D.at,D.put,D.kid,D.setKid,mkSt,Jo,D.toI,toIs,Ad,Af,hVi,Tal.toI]<;>exact rfl));(try(focus exact rfl))))
   all_goals(try(conv=>whnf))
   (apply dKq<;>kernel_rfl)
 obtain⟨kk,he⟩:∃kk,KK[k]?=some kk:=⟨_,List.getElem?_eq_getElem hkl⟩;have hlt3:¬decide ((k:Int)<((KK.map I.str).length:Int))=false:=by simp;omega
 have hlt4:¬decide ((k:Int)<(KK.length:Int))=false:=by simp;omega
 have hdr:KK.drop k=kk::KK.drop (k+1):=by rw[List.drop_eq_getElem_cons hkl];rw[List.getElem?_eq_getElem hkl]at he;cases he;rfl
 rw[hdr]at hR;simp only[Ge]at hR;obtain⟨q,hq,hq2,hq3⟩:=Adz (hKm kk (List.mem_of_getElem? he));have hcok:=hok (getF FF kk) (List.mem_of_getElem? hq2);have hqk:Lo kk (ksF FF) 0=some (some q):=by rw[E5 (fun c:Chg=>c.key),hq];rfl
 have hkk:kk.length≤64:=by rw[←hq3];exact hcok.1.2
 have hwh:=L1 n kk (by omega) (by omega)
 have hbs:=L0 L (B7 n kk) (by have:=hLB.len;omega)
 have hI:=U8 L;rw[←e2]at hI;obtain⟨hbd1,hbd2,hbd3,hbd4⟩:=W4 (k:=kk) (c:=getF FF kk) (x:=⟨t,L,wr⟩) hLB hTB hn hkk hcok.2;generalize getF FF kk=c at*;obtain⟨ck,cv,cg⟩:=c;dsimp only at hq3;subst hq3;have hvF:(vsF FF)[q]?=some (.it (Chg.mk ck cv cg).toI):=by simp only[vsF,List.getElem?_map,hq2,Option.map_some]
 generalize hst:Dw n ck ⟨ck,cv,cg⟩ ⟨t,L,wr⟩=S at*;have hnext:∀Ld' VS',VS'=VS0.set i (.ptr (.it S.t.toI))→Ld'=S.l.map Hld.toD→k+1≤KK.length∧VS'=VS0.set i (.ptr (.it S.t.toI))∧Ld'=S.l.map Hld.toD∧LBd (B+(k+1)) S.l∧TBd (B+(k+1)) S.t∧(S.t.rev=(s.tal n).rev∧S.t.floor=(s.tal n).floor)∧Ge n FF (KK.drop (k+1)) ⟨S.t,S.l,S.w⟩=Z:=
  fun Ld' VS' g1 g2=>⟨by omega,g1,g2,hbd1,hbd2,⟨hbd3.trans hrf.1,hbd4.trans hrf.2⟩,hR⟩
 clear hR hbd1 hbd2 hdr;unfold Dw at hst;obtain⟨a,ha⟩:∃a,a=B7 n ck:=⟨_,rfl⟩;rw[←ha]at hst hwh hbs;have hlen:=hLB.len;cases hpf:bsF (Kh a) (eqH a) L with
 |false=>
  rw[hpf]at hbs;have hla:Q1 L a=ver0:=Sto.lastM_no (s:=⟨[],L⟩) hpf;simp only[hla]at hst;cases cg with
  |true=>
   simp only[ver0,and_self,if_true]at hst;subst hst;generalize hp:Km (Kh a) L=p at*;repeat'((conv=>whnf);first|((with_reducible refine Ax (by first|(with_reducible exact Bool.of_not_eq_false (by assumption))|(with_reducible rfl)) (fun hb=>?_));(try rw[hb]);(try simp only[Aa]at hb))|((with_reducible refine Aw (by first|(with_reducible assumption)|(with_reducible rfl)) (fun hb=>?_));(try rw[hb]);(try simp only[Aa]at hb))|((with_reducible refine Exists.intro ?_ ?_);focus (and_intros<;>first|omega|(with_reducible rfl)|kernel_rfl|(intro _ hh;cases hh;done)|(simp;done)|decide))|((with_reducible refine Drawn.mkV ?_ ?_ ?_ (fun hfact=>?_));(focus kernel_rfl);(focus kernel_rfl);(focus kernel_rfl);(try simp only[dRS]at hfact))|((try dsimp only);(rw[B6 he]))|((with_reducible refine CallIs.mk ?_);refine⟨_,_,hwh,?_⟩)|((refine B5 ?_ (by decide)))|((refine Bj ?_ (by decide)))|((with_reducible refine CallWp.mk ?_);refine⟨_,hbs,?_⟩;rintro _ _ ⟨rfl,rfl⟩)|((try dsimp only);rw[hw2])|((first|with_reducible apply A9|with_reducible apply Ba);(focus (simp only[D.at,D.put,D.kid,D.setKid,mkSt,Jo,D.toI,toIs,Ad,Af,hqk,hvF,hVi,hI,Chg.toI,Tal.toI]<;>exact rfl))))
   all_goals(try(conv=>whnf))
   refine Round.by (k+1,wr,t,VS,L,Ld) ?_ (hnext _ _ e1 e2) (by dsimp only;omega)
   try dsimp only
   show norm _ _=upd _ _
   kernel_rfl
  |false=>
   have hcv:cv.length≤256:=by rcases hcok.2 with h|h;cases h;exact h
   have hckl:ck.length≤64:=hkk;obtain⟨hT1,hT2,hT3⟩:=hTB;simp only[ver0,Bool.false_eq_true,false_and,if_false,if_true]at hst;have hfa:putA L a ⟨t.rev+1,t.rev+1,cv,false⟩=L.take (Km (Kh a) L)++⟨a,[⟨t.rev+1,t.rev+1,cv,false⟩]⟩::L.drop (Km (Kh a) L):=by
    unfold putA putL;rw[hpf];simp
   rw[hfa]at hst;have hple:=Hp (Kh a) L;have hins:=X7 Ld (⟨a,[]⟩:Hld).toD (Km (Kh a) L) (by rw[e2,List.length_map];exact hple) (by rw[e2,List.length_map];omega)
   have hLdl:Ld.length=L.length:=by rw[e2,List.length_map]
   generalize hp:Km (Kh a) L=p at*;have hat:=Afr (L:=Ld) (p:=p) (by omega) (⟨a,[]⟩:Hld).toD
   have hll:(Ld.take p++(⟨a,[]⟩:Hld).toD::Ld.drop p).length=Ld.length+1:=by simp;omega
   have hset:∀y,(Ld.take p++(⟨a,[]⟩:Hld).toD::Ld.drop p).set p y=Ld.take p++y::Ld.drop p:=fun y=>Afb (by omega) _ y
   generalize Ld.take p++(⟨a,[]⟩:Hld).toD::Ld.drop p=L' at hins hat hll hset;have hk1:IntKind.i64.wrap (t.keys+1)=t.keys+1:=Bf (by omega)
   have hb1:IntKind.i64.wrap ((ck.length:Int)+(cv.length:Int))=(ck.length:Int)+(cv.length:Int):=Bf (by omega)
   have hb2:IntKind.i64.wrap (t.bytes+((ck.length:Int)+(cv.length:Int)))=t.bytes+((ck.length:Int)+(cv.length:Int)):=Bf (by omega)
   have hv1:IntKind.i64.wrap (t.vers+1)=t.vers+1:=Bf (by omega)
   repeat'((conv=>whnf);first|((with_reducible refine Ax (by first|(with_reducible exact Bool.of_not_eq_false (by assumption))|(with_reducible rfl)) (fun hb=>?_));(try rw[hb]);(try simp only[Aa]at hb))|((with_reducible refine Aw (by first|(with_reducible assumption)|(with_reducible rfl)) (fun hb=>?_));(try rw[hb]);(try simp only[Aa]at hb))|((with_reducible refine And.intro (fun hb=>?_) (fun hb=>?_))<;>first|(exact absurd hb (by decide))|((try rw[hb]);(try simp only[Aa]at hb)))|((with_reducible refine Exists.intro ?_ ?_);focus (and_intros<;>first|omega|(with_reducible rfl)|kernel_rfl|(intro _ hh;cases hh;done)|exact Ah (by rfl)|exact Ag rfl|(simp only[An];omega)|(simp;done)|decide))|((with_reducible refine Drawn.mkV ?_ ?_ ?_ (fun hfact=>?_));(focus kernel_rfl);(focus kernel_rfl);(focus kernel_rfl);(try simp only[dRS]at hfact))|((try dsimp only);(rw[B6 he]))|((with_reducible refine CallIs.mk ?_);refine⟨_,_,hwh,?_⟩)|((refine B5 ?_ (by decide)))|((refine Bj ?_ (by decide)))|((refine Cw ?_ (by decide)))|((with_reducible refine CallWp.mk ?_);refine⟨_,hbs,?_⟩;rintro _ _ ⟨rfl,rfl⟩)|((with_reducible refine CallWp.mk ?_);refine⟨_,hins,?_⟩;rintro _ _ ⟨rfl,rfl⟩)|((try dsimp only);rw[hw2])|((try dsimp only);rw[hr1])|((try dsimp only);rw[hk1])|((try dsimp only);rw[hb1])|((try dsimp only);rw[hb2])|((try dsimp only);rw[hv1])|((first|with_reducible apply A9|with_reducible apply Ba);(focus (simp only[D.at,D.put,D.kid,D.setKid,mkSt,Jo,D.toI,toIs,Ad,Af,hqk,hvF,hVi,hI,hat,hll,Chg.toI,Tal.toI]<;>exact rfl)))|(((with_reducible apply A3));(focus rfl);(focus (simp only[D.at,D.put,D.kid,D.setKid,mkSt,Jo,D.toI,toIs,Ad,Af,hqk,hvF,hVi,hI,hat,hll,Chg.toI,Tal.toI]<;>exact rfl));(try(focus exact rfl))))
   all_goals(try(conv=>whnf))
   subst hst;refine Round.by (k+1,true,(Tal.mk t.rev t.floor (t.bytes+((ck.length:Int)+(cv.length:Int))) (t.keys+1) (t.vers+1)),VS.set i (.ptr (.it (Tal.mk t.rev t.floor (t.bytes+((ck.length:Int)+(cv.length:Int))) (t.keys+1) (t.vers+1):Tal).toI)),L.take p++⟨a,[⟨t.rev+1,t.rev+1,cv,false⟩]⟩::L.drop p,L'.set p (.st [.it (.str a),.vec Bb 4 [.it (Ver.mk (t.rev+1) (t.rev+1) cv false).toI]])) ?_ (hnext _ _ (by rw[e1,List.set_set]) (by rw[hset,e2];simp[Hld.toD,List.map_take,List.map_drop])) (by dsimp only;omega)
   try dsimp only
   show norm _ _=upd _ _
   kernel_rfl
 |true=>
  rw[hpf]at hbs;obtain⟨e,v,g1,g2,g3,g4,g5⟩:=Sto.lastM_eq (s:=⟨[],L⟩) (fun h hh=>⟨(hLB.held h hh).2.1,by have:=(hLB.held h hh).2.2.1;omega⟩) hpf
  change L[Km (Kh a) L]?=some e at g1;change Q1 L a=v at g3;rw[g3]at hst;have hvv:v.val.length≤1000:=(hLB.held e (List.mem_of_getElem? g1)).2.2.2 v (List.mem_of_getElem? g2);have hvsl:=(hLB.held e (List.mem_of_getElem? g1)).2.2.1;have hfa:∀v',putA L a v'=L.set (Km (Kh a) L) ⟨e.at_,e.vs++[v']⟩:=fun v'=>by
   unfold putA putL;rw[hpf,if_pos rfl];exact Zv g1 _
  simp only[hfa]at hst;have hLdl:Ld.length=L.length:=by rw[e2,List.length_map]
  have hpl:Km (Kh a) L<L.length:=(List.getElem?_eq_some_iff.1 g1).1;clear hfa g3;generalize hp:Km (Kh a) L=p at*;obtain⟨b,vs0⟩:=e;dsimp only at g2 g4 g5 hst hvsl;have hat:Ld[p]?=some (.st [.it (.str b),.vec Bb 4 ((vs0.map Ver.toI).map D.it)]):=by rw[e2,List.getElem?_map,g1];rfl
  have hset:∀v',Ld.set p (.st [.it (.str b),.vec Bb 4 ((vs0.map Ver.toI).map D.it++[.it (Ver.toI v')])])=(L.set p ⟨b,vs0++[v']⟩).map Hld.toD:=fun v'=>by rw[e2,List.map_set];simp[Hld.toD]
  have hlv:(vs0.map Ver.toI)[(vs0.map Ver.toI).length - 1]?=some v.toI:=by rw[List.length_map,List.getElem?_map,g2];rfl
  have hvl:(vs0.map Ver.toI).length≤90000:=by rw[List.length_map];omega
  have hv0:0<(vs0.map Ver.toI).length:=by rw[List.length_map];omega
  generalize vs0.map Ver.toI=vs at hat hset hlv hvl hv0;have hwl:IntKind.i64.wrap ((vs.length:Int) - 1)=((vs.length - 1:Nat):Int):=by rw[Bf (by omega)];omega
  obtain⟨vr,vm,vv,vg⟩:=v;dsimp only at hvv hst;obtain⟨hT1,hT2,hT3⟩:=hTB;have hv1:IntKind.i64.wrap (t.vers+1)=t.vers+1:=Bf (by omega)
  have hckl:ck.length≤64:=hkk;cases vg with
  |true=>
   cases cg with
   |true=>
    simp only[and_self,if_true]at hst;subst hst;repeat'((conv=>whnf);first|((with_reducible refine Ax (by first|(with_reducible assumption)|(with_reducible exact Bool.of_not_eq_false (by assumption))|(with_reducible rfl)) (fun hb=>?_));(try rw[hb]);(try simp only[Aa]at hb))|((with_reducible refine Exists.intro ?_ ?_);focus (and_intros<;>first|omega|(with_reducible rfl)|kernel_rfl|(intro _ hh;cases hh;done)|(simp only[An];omega)|(simp;done)|decide))|(with_reducible intro hfact)|((with_reducible refine Drawn.mkV ?_ ?_ ?_ (fun hfact=>?_));(focus kernel_rfl);(focus kernel_rfl);(focus kernel_rfl);(try simp only[dRS]at hfact))|((try dsimp only);(rw[B6 he]))|((with_reducible refine CallIs.mk ?_);refine⟨_,_,hwh,?_⟩)|((refine B5 ?_ (by decide)))|((refine Bj ?_ (by decide)))|((with_reducible refine CallWp.mk ?_);refine⟨_,hbs,?_⟩;rintro _ _ ⟨rfl,rfl⟩)|((try dsimp only);rw[hw2])|((first|with_reducible apply A9|with_reducible apply Ba);(focus (simp only[D.at,D.put,D.kid,D.setKid,mkSt,Jo,D.toI,toIs,Ad,Af,hqk,hvF,hVi,hI,hat,hlv,hwl,Chg.toI,Tal.toI]<;>exact rfl)))|((first|with_reducible apply A3|with_reducible apply A2);(focus rfl);(focus (simp only[D.at,D.put,D.kid,D.setKid,mkSt,Jo,D.toI,toIs,Ad,Af,hqk,hvF,hVi,hI,hat,hlv,hwl,Chg.toI,Tal.toI]<;>exact rfl));(try(focus exact rfl))))
    all_goals(try(conv=>whnf))
    refine Round.by (k+1,wr,t,VS,L,Ld) ?_ (hnext _ _ e1 e2) (by dsimp only;omega)
    try dsimp only
    show norm _ _=upd _ _
    kernel_rfl
   |false=>
    have hcv:cv.length≤256:=by rcases hcok.2 with h|h;cases h;exact h
    simp only[Bool.false_eq_true,false_and,if_false,if_true]at hst;subst hst;have hk1:IntKind.i64.wrap (t.keys+1)=t.keys+1:=Bf (by omega)
    have hb1:IntKind.i64.wrap ((ck.length:Int)+(cv.length:Int))=(ck.length:Int)+(cv.length:Int):=Bf (by omega)
    have hb2:IntKind.i64.wrap (t.bytes+((ck.length:Int)+(cv.length:Int)))=t.bytes+((ck.length:Int)+(cv.length:Int)):=Bf (by omega)
    repeat'((conv=>whnf);first|((with_reducible refine Ax (by first|(with_reducible assumption)|(with_reducible exact Bool.of_not_eq_false (by assumption))|(with_reducible rfl)) (fun hb=>?_));(try rw[hb]);(try simp only[Aa]at hb))|((with_reducible refine Aw (by first|(with_reducible exact Bool.of_not_eq_true (by assumption))|(with_reducible rfl)) (fun hb=>?_));(try rw[hb]);(try simp only[Aa]at hb))|((with_reducible refine And.intro (fun hb=>?_) (fun hb=>?_))<;>first|(exact absurd hb (by decide))|((try rw[hb]);(try simp only[Aa]at hb)))|((with_reducible refine Exists.intro ?_ ?_);focus (and_intros<;>first|omega|(with_reducible rfl)|kernel_rfl|(intro _ hh;cases hh;done)|exact Ah (by rfl)|exact Ag rfl|(simp only[An];omega)|(simp;done)|decide))|(with_reducible intro hfact)|((with_reducible refine Drawn.mkV ?_ ?_ ?_ (fun hfact=>?_));(focus kernel_rfl);(focus kernel_rfl);(focus kernel_rfl);(try simp only[dRS]at hfact))|((try dsimp only);(rw[B6 he]))|((with_reducible refine CallIs.mk ?_);refine⟨_,_,hwh,?_⟩)|((refine B5 ?_ (by decide)))|((refine Bj ?_ (by decide)))|((refine Cw ?_ (by decide)))|((with_reducible refine CallWp.mk ?_);refine⟨_,hbs,?_⟩;rintro _ _ ⟨rfl,rfl⟩)|((try dsimp only);rw[hw2])|((try dsimp only);rw[hr1])|((try dsimp only);rw[hk1])|((try dsimp only);rw[hb1])|((try dsimp only);rw[hb2])|((try dsimp only);rw[hv1])|((first|with_reducible apply A9|with_reducible apply Ba);(focus (simp only[D.at,D.put,D.kid,D.setKid,mkSt,Jo,D.toI,toIs,Ad,Af,hqk,hvF,hVi,hI,hat,hlv,hwl,Chg.toI,Tal.toI]<;>exact rfl)))|((first|with_reducible apply A3|with_reducible apply A2);(focus rfl);(focus (simp only[D.at,D.put,D.kid,D.setKid,mkSt,Jo,D.toI,toIs,Ad,Af,hqk,hvF,hVi,hI,hat,hlv,hwl,Chg.toI,Tal.toI]<;>exact rfl));(try(focus exact rfl))))
    all_goals(try(conv=>whnf))
    refine Round.by (k+1,true,(Tal.mk t.rev t.floor (t.bytes+((ck.length:Int)+(cv.length:Int))) (t.keys+1) (t.vers+1)),VS.set i (.ptr (.it (Tal.mk t.rev t.floor (t.bytes+((ck.length:Int)+(cv.length:Int))) (t.keys+1) (t.vers+1):Tal).toI)),L.set p ⟨b,vs0++[Ver.mk (t.rev+1) (t.rev+1) cv false]⟩,Ld.set p (.st [.it (.str b),.vec Bb 4 (vs.map D.it++[.it (Ver.mk (t.rev+1) (t.rev+1) cv false).toI])])) ?_ (hnext _ _ (by rw[e1,List.set_set]) (hset _)) (by dsimp only;omega)
    try dsimp only
    show norm _ _=upd _ _
    kernel_rfl
  |false=>
   cases cg with
   |true=>
    simp only[Bool.false_eq_true,and_false,if_false,if_true]at hst;subst hst;have hk1:IntKind.i64.wrap (t.keys - 1)=t.keys - 1:=Bf (by omega)
    have hb1:IntKind.i64.wrap ((ck.length:Int)+(vv.length:Int))=(ck.length:Int)+(vv.length:Int):=Bf (by omega)
    have hb2:IntKind.i64.wrap (t.bytes - ((ck.length:Int)+(vv.length:Int)))=t.bytes - ((ck.length:Int)+(vv.length:Int)):=Bf (by omega)
    repeat'((conv=>whnf);first|((with_reducible refine Ax (by first|(with_reducible assumption)|(with_reducible exact Bool.of_not_eq_false (by assumption))|(with_reducible rfl)) (fun hb=>?_));(try rw[hb]);(try simp only[Aa]at hb))|((with_reducible refine Aw (by first|(with_reducible exact Bool.of_not_eq_true (by assumption))|(with_reducible rfl)) (fun hb=>?_));(try rw[hb]);(try simp only[Aa]at hb))|((with_reducible refine And.intro (fun hb=>?_) (fun hb=>?_))<;>first|(exact absurd hb (by decide))|((try rw[hb]);(try simp only[Aa]at hb)))|((with_reducible refine Exists.intro ?_ ?_);focus (and_intros<;>first|omega|(with_reducible rfl)|kernel_rfl|(intro _ hh;cases hh;done)|exact Ah (by rfl)|exact Ag rfl|(simp only[An];omega)|(simp;done)|decide))|(with_reducible intro hfact)|((with_reducible refine Drawn.mkV ?_ ?_ ?_ (fun hfact=>?_));(focus kernel_rfl);(focus kernel_rfl);(focus kernel_rfl);(try simp only[dRS]at hfact))|((try dsimp only);(rw[B6 he]))|((with_reducible refine CallIs.mk ?_);refine⟨_,_,hwh,?_⟩)|((refine B5 ?_ (by decide)))|((refine Bj ?_ (by decide)))|((refine Cw ?_ (by decide)))|((with_reducible refine CallWp.mk ?_);refine⟨_,hbs,?_⟩;rintro _ _ ⟨rfl,rfl⟩)|((try dsimp only);rw[hw2])|((try dsimp only);rw[hr1])|((try dsimp only);rw[hk1])|((try dsimp only);rw[hb1])|((try dsimp only);rw[hb2])|((try dsimp only);rw[hv1])|((first|with_reducible apply A9|with_reducible apply Ba);(focus (simp only[D.at,D.put,D.kid,D.setKid,mkSt,Jo,D.toI,toIs,Ad,Af,hqk,hvF,hVi,hI,hat,hlv,hwl,Chg.toI,Tal.toI]<;>exact rfl)))|((first|with_reducible apply A3|with_reducible apply A2);(focus rfl);(focus (simp only[D.at,D.put,D.kid,D.setKid,mkSt,Jo,D.toI,toIs,Ad,Af,hqk,hvF,hVi,hI,hat,hlv,hwl,Chg.toI,Tal.toI]<;>exact rfl));(try(focus exact rfl))))
    all_goals(try(conv=>whnf))
    refine Round.by (k+1,true,(Tal.mk t.rev t.floor (t.bytes - ((ck.length:Int)+(vv.length:Int))) (t.keys - 1) (t.vers+1)),VS.set i (.ptr (.it (Tal.mk t.rev t.floor (t.bytes - ((ck.length:Int)+(vv.length:Int))) (t.keys - 1) (t.vers+1):Tal).toI)),L.set p ⟨b,vs0++[Ver.mk (t.rev+1) 0 [] true]⟩,Ld.set p (.st [.it (.str b),.vec Bb 4 (vs.map D.it++[.it (Ver.mk (t.rev+1) 0 [] true).toI])])) ?_ (hnext _ _ (by rw[e1,List.set_set]) (hset _)) (by dsimp only;omega)
    try dsimp only
    show norm _ _=upd _ _
    kernel_rfl
   |false=>
    have hcv:cv.length≤256:=by rcases hcok.2 with h|h;cases h;exact h
    simp only[Bool.false_eq_true,false_and,if_false]at hst;subst hst;have hb1:IntKind.i64.wrap ((cv.length:Int) - (vv.length:Int))=(cv.length:Int) - (vv.length:Int):=Bf (by omega)
    have hb2:IntKind.i64.wrap (t.bytes+((cv.length:Int) - (vv.length:Int)))=t.bytes+((cv.length:Int) - (vv.length:Int)):=Bf (by omega)
    repeat'((conv=>whnf);first|((with_reducible refine Ax (by first|(with_reducible assumption)|(with_reducible exact Bool.of_not_eq_false (by assumption))|(with_reducible rfl)) (fun hb=>?_));(try rw[hb]);(try simp only[Aa]at hb))|((with_reducible refine Aw (by first|(with_reducible exact Bool.of_not_eq_true (by assumption))|(with_reducible rfl)) (fun hb=>?_));(try rw[hb]);(try simp only[Aa]at hb))|((with_reducible refine And.intro (fun hb=>?_) (fun hb=>?_))<;>first|(exact absurd hb (by decide))|((try rw[hb]);(try simp only[Aa]at hb)))|((with_reducible refine Exists.intro ?_ ?_);focus (and_intros<;>first|omega|(with_reducible rfl)|kernel_rfl|(intro _ hh;cases hh;done)|exact Ah (by rfl)|exact Ag rfl|(simp only[An];omega)|(simp;done)|decide))|(with_reducible intro hfact)|((with_reducible refine Drawn.mkV ?_ ?_ ?_ (fun hfact=>?_));(focus kernel_rfl);(focus kernel_rfl);(focus kernel_rfl);(try simp only[dRS]at hfact))|((try dsimp only);(rw[B6 he]))|((with_reducible refine CallIs.mk ?_);refine⟨_,_,hwh,?_⟩)|((refine B5 ?_ (by decide)))|((refine Bj ?_ (by decide)))|((refine Cw ?_ (by decide)))|((with_reducible refine CallWp.mk ?_);refine⟨_,hbs,?_⟩;rintro _ _ ⟨rfl,rfl⟩)|((try dsimp only);rw[hw2])|((try dsimp only);rw[hr1])|((try dsimp only);rw[hb1])|((try dsimp only);rw[hb2])|((try dsimp only);rw[hv1])|((first|with_reducible apply A9|with_reducible apply Ba);(focus (simp only[D.at,D.put,D.kid,D.setKid,mkSt,Jo,D.toI,toIs,Ad,Af,hqk,hvF,hVi,hI,hat,hlv,hwl,Chg.toI,Tal.toI]<;>exact rfl)))|((first|with_reducible apply A3|with_reducible apply A2);(focus rfl);(focus (simp only[D.at,D.put,D.kid,D.setKid,mkSt,Jo,D.toI,toIs,Ad,Af,hqk,hvF,hVi,hI,hat,hlv,hwl,Chg.toI,Tal.toI]<;>exact rfl));(try(focus exact rfl))))
    all_goals(try(conv=>whnf))
    refine Round.by (k+1,true,(Tal.mk t.rev t.floor (t.bytes+((cv.length:Int) - (vv.length:Int))) t.keys (t.vers+1)),VS.set i (.ptr (.it (Tal.mk t.rev t.floor (t.bytes+((cv.length:Int) - (vv.length:Int))) t.keys (t.vers+1):Tal).toI)),L.set p ⟨b,vs0++[Ver.mk (t.rev+1) vm cv false]⟩,Ld.set p (.st [.it (.str b),.vec Bb 4 (vs.map D.it++[.it (Ver.mk (t.rev+1) vm cv false).toI])])) ?_ (hnext _ _ (by rw[e1,List.set_set]) (hset _)) (by dsimp only;omega)
    try dsimp only
    show norm _ _=upd _ _
    kernel_rfl
theorem R4{T E:TypeId}(hK:Aek T)(hS:Aem E)(s:Sto)(n:Az)(cs:List Chg)(i:Nat)(hf:s.fi n=some i)(hn:n.length≤1000)(hcs:cs.length≤1000)(hL:LBd 80000 s.l)(hT:TBd 80000 (s.tal n))(hrev:0≤(s.tal n).rev∧(s.tal n).rev≤1000000000000)
 (FF:List Chg) (RES:Option (List Chg)) (hRES:RES=some FF) (hF:K6 cs []=RES) (Z:WSt) (hZ:Ge n FF (Dc (FF.map Chg.key)) ⟨s.tal n,s.l,false⟩=Z):
 Fn Tryd.prog Da [sP s,.v (.str n),.v (.list (cs.map Chg.toI))] (Is (.tup [.i (ti Z.fin.rev),.i (ti 0)]) [sP ⟨s.sp.set i (n,Z.fin),Z.l⟩,.no,.no]):=
 Aa9 hK hS s n cs i hf hn (by omega) (by omega) hL hT hrev FF RES hRES hF Z hZ

open Go.Proofs
def Sto.compE(s:Sto)(n:Az)(rev:Int):Int:=if rev<0 then 1 else if(s.tal n).rev<rev then 13 else if rev<(s.tal n).floor then 14 else 0
end Go.Ab
