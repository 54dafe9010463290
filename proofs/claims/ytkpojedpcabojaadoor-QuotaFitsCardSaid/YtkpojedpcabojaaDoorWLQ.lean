/- Lemmas -/
import Derived.Test.YtkpojedpcabojaaDoorV20
set_option linter.unusedVariables false
set_option linter.unusedSimpArgs false
set_option maxRecDepth 100000
set_option maxHeartbeats 40000000
namespace Go.Ab
open Go.Proofs
def qAt(f:Ver→Chg→Int)(n:Az)(l:List Hld)(F:List Chg)(i:Nat):Int:=match F[i]? with
 |some c=>f (Q1 l (B7 n c.key)) c
 |none=>0
theorem Ts{f:Ver→Chg→Int}{n:Az}{l:List Hld}{F:List Chg}{i:Nat}{c:Chg}(h:F[i]?=some c):qAt f n l F i=f (Q1 l (B7 n c.key)) c:=by unfold qAt;rw[h]
theorem Q0(f:Ver→Chg→Int)(n:Az)(l:List Hld)(F:List Chg):sumI ((List.range F.length).map (qAt f n l F))=sumI (F.map fun c=>f (Q1 l (B7 n c.key)) c):=by
 congr 1
 apply List.ext_getElem (by simp)
 intro i h1 h2;simp only[List.getElem_map,List.getElem_range];rw[Ts (List.getElem?_eq_getElem (by simpa using h2))]
theorem Xq{g:Nat→Int}{left:List Nat}{i:Nat}(h:i∈left):sumI (left.map g)=g i+sumI ((left.erase i).map g):=by
 rw[Qy ((List.perm_cons_erase h).map g)];rfl
theorem Wc(s:Sto)(n:Az)(cs:List Chg)(hcs:cs.length≤1000)(RES:Option (List Chg))(hRES:RES=none)(hF:K6 cs []=RES):
 Fn Tryd.prog Ez [sP s,.v (.str n),.v (.list (cs.map Chg.toI))] (Is (.tup [.i (ti (s.tal n).bytes),.i (ti (s.tal n).keys)]) [sP s,.no,.no]):=by
 refine Jh ?_ (by simp)
 repeat'((conv=>whnf);first|((with_reducible refine Exists.intro ?_ ?_);focus (and_intros<;>first|omega|(with_reducible rfl)|kernel_rfl|(intro _ hh;cases hh;done)|(simp;done)|decide))|(with_reducible intro hfact)|((with_reducible refine CallWp.mk ?_);refine⟨_,Aj6 s n,?_⟩;rintro _ _ ⟨rfl,rfl⟩)|((with_reducible refine CallWp.mk ?_);refine⟨_,Akb s n,?_⟩;rintro _ _ ⟨rfl,rfl⟩))
 all_goals(try(conv=>whnf))
 refine LoopWq.by (X:=Nat × List Chg × List I × List D) (fun y=>[(31,.v (ti (y.1:Int))),(12,.own [] (.map y.2.2.1 y.2.2.2))]) (fun y=>y.1≤cs.length∧y.2.1.length≤y.1∧y.2.2.1=Dn y.2.1∧y.2.2.2=Dt y.2.1∧K6 (cs.drop y.1) y.2.1=RES∧(y.2.1.map Chg.key).Nodup∧∀c∈y.2.1,c.ok) (fun y=>cs.length - y.1) (0,[],[],[]) (by kernel_rfl) ⟨Nat.zero_le _,by simp,rfl,rfl,hF,by simp,by simp⟩ ?_
 rintro⟨j,F,KS,VS⟩ ⟨hj,hFl,e1,e2,hR,hnd,hok⟩;dsimp only at hj hFl e1 e2 hR hnd hok ⊢;subst e1 e2;have hclen:(cs.map Chg.toI).length=cs.length:=List.length_map _;have hw:IntKind.i64.wrap ((j:Int)+1)=((j+1:Nat):Int):=Dk (n:=100000) (by omega) (by simp only[maxLen];omega)
 by_cases hjl:j<cs.length
 case neg=>
  rw[List.drop_eq_nil_of_le (by omega)]at hR
  rw[←hR]at hRES;cases hRES
 obtain⟨c,he⟩:∃c,cs[j]?=some c:=⟨_,List.getElem?_eq_getElem hjl⟩;have hlt:¬decide ((j:Int)<(cs.length:Int))=false:=by simp;omega
 have hlt2:¬decide ((j:Int)<((cs.map Chg.toI).length:Int))=false:=by simp;omega
 have hdr:cs.drop j=c::cs.drop (j+1):=by rw[List.drop_eq_getElem_cons hjl];rw[List.getElem?_eq_getElem hjl]at he;cases he;rfl
 rw[hdr]at hR;simp only[K6]at hR;by_cases hc:c.ok
 ·skip
  have hok':∀x∈Bm F c,x.ok:=fun x hx=>by
   rcases Zn hx with h|h
   ·exact hok x h
   ·subst h;exact hc
  have hfl:=Zm F c;rw[if_pos hc]at hR;have hnd':=U5 (c:=c) hnd;obtain⟨⟨hc1,hc1'⟩,hc2⟩:=hc;have hmain:∀KS' VS',KS'=Dn (Bm F c)→VS'=Dt (Bm F c)→j+1≤cs.length∧(Bm F c).length≤j+1∧KS'=Dn (Bm F c)∧VS'=Dt (Bm F c)∧K6 (cs.drop (j+1)) (Bm F c)=RES∧((Bm F c).map Chg.key).Nodup∧∀c'∈Bm F c,c'.ok:=
   fun KS' VS' e1 e2=>⟨by omega,by omega,e1,e2,hR,hnd',hok'⟩
  clear hR hdr;cases hq:F.findIdx? (fun x=>decide (x.key=c.key))with
  |none=>
   obtain⟨g1,g2,g3⟩:=Xf hq;obtain⟨ck,cv,cg⟩:=c;dsimp only at hc1 hc1' hc2;cases cg with
   |true=>
    repeat'((conv=>whnf);first|((with_reducible refine Ax (by(with_reducible exact Bool.of_not_eq_false (by assumption))) (fun hb=>?_));(try rw[hb]);(try simp only[Aa]at hb))|((with_reducible refine Aw (by(with_reducible rfl)) (fun hb=>?_));(try rw[hb]);(try simp only[Aa]at hb))|((with_reducible refine And.intro (fun hb=>?_) (fun hb=>?_))<;>first|(exfalso;((simp only[Bu]at hb<;>omega)))|((try rw[hb]);(try simp only[Aa]at hb)))|((with_reducible refine Exists.intro ?_ ?_);focus (and_intros<;>first|omega|(with_reducible rfl)|kernel_rfl|(simp;done)))|(with_reducible intro hfact)|((try dsimp only);(rw[B6 he]))|((try dsimp only);rw[hw])|(((with_reducible apply A9));(focus (simp only[D.at,D.put,D.kid,D.setKid,mkSt,Ap,D.toI,toIs,Ak,Af,g1,C7]<;>exact rfl))))
    all_goals(try(conv=>whnf))
    refine Round.by (j+1,Bm F ⟨ck,cv,true⟩,Dn F++[.str ck],Dt F++[.it (Chg.mk ck cv true).toI]) ?_ (hmain _ _ g2.symm g3.symm) (by dsimp only;omega)
    try dsimp only
    show norm _ _=upd _ _
    kernel_rfl
   |false=>
    have hc3:cv.length≤256:=by simpa using hc2
    repeat'((conv=>whnf);first|((with_reducible refine Ax (by first|(with_reducible exact Bool.of_not_eq_false (by assumption))|(with_reducible rfl)) (fun hb=>?_));(try rw[hb]);(try simp only[Aa]at hb))|((with_reducible refine Aw (by(with_reducible rfl)) (fun hb=>?_));(try rw[hb]);(try simp only[Aa]at hb))|((with_reducible refine And.intro (fun hb=>?_) (fun hb=>?_))<;>first|(exfalso;((simp only[Bu]at hb<;>omega)))|((try rw[hb]);(try simp only[Aa]at hb)))|((with_reducible refine Exists.intro ?_ ?_);focus (and_intros<;>first|omega|(with_reducible rfl)|kernel_rfl|(simp;done)))|(with_reducible intro hfact)|((try dsimp only);(rw[B6 he]))|((try dsimp only);rw[hw])|(((with_reducible apply A9));(focus (simp only[D.at,D.put,D.kid,D.setKid,mkSt,Ap,D.toI,toIs,Ak,Af,g1,C7]<;>exact rfl))))
    all_goals(try(conv=>whnf))
    refine Round.by (j+1,Bm F ⟨ck,cv,false⟩,Dn F++[.str ck],Dt F++[.it (Chg.mk ck cv false).toI]) ?_ (hmain _ _ g2.symm g3.symm) (by dsimp only;omega)
    try dsimp only
    show norm _ _=upd _ _
    kernel_rfl
  |some q=>
   obtain⟨g1,g2,g3⟩:=Xg hq;obtain⟨ck,cv,cg⟩:=c;dsimp only at hc1 hc1' hc2;cases cg with
   |true=>
    repeat'((conv=>whnf);first|((with_reducible refine Ax (by(with_reducible exact Bool.of_not_eq_false (by assumption))) (fun hb=>?_));(try rw[hb]);(try simp only[Aa]at hb))|((with_reducible refine Aw (by(with_reducible rfl)) (fun hb=>?_));(try rw[hb]);(try simp only[Aa]at hb))|((with_reducible refine And.intro (fun hb=>?_) (fun hb=>?_))<;>first|(exfalso;((simp only[Bu]at hb<;>omega)))|((try rw[hb]);(try simp only[Aa]at hb)))|((with_reducible refine Exists.intro ?_ ?_);focus (and_intros<;>first|omega|(with_reducible rfl)|kernel_rfl|(simp;done)))|(with_reducible intro hfact)|((try dsimp only);(rw[B6 he]))|((try dsimp only);rw[hw])|(((with_reducible apply A9));(focus (simp only[D.at,D.put,D.kid,D.setKid,mkSt,Ap,D.toI,toIs,Ak,Af,g1,C7]<;>exact rfl))))
    all_goals(try(conv=>whnf))
    refine Round.by (j+1,Bm F ⟨ck,cv,true⟩,Dn F,(Dt F).set q (.it (Chg.mk ck cv true).toI)) ?_ (hmain _ _ g2.symm g3.symm) (by dsimp only;omega)
    try dsimp only
    show norm _ _=upd _ _
    kernel_rfl
   |false=>
    have hc3:cv.length≤256:=by simpa using hc2
    repeat'((conv=>whnf);first|((with_reducible refine Ax (by first|(with_reducible exact Bool.of_not_eq_false (by assumption))|(with_reducible rfl)) (fun hb=>?_));(try rw[hb]);(try simp only[Aa]at hb))|((with_reducible refine Aw (by(with_reducible rfl)) (fun hb=>?_));(try rw[hb]);(try simp only[Aa]at hb))|((with_reducible refine And.intro (fun hb=>?_) (fun hb=>?_))<;>first|(exfalso;((simp only[Bu]at hb<;>omega)))|((try rw[hb]);(try simp only[Aa]at hb)))|((with_reducible refine Exists.intro ?_ ?_);focus (and_intros<;>first|omega|(with_reducible rfl)|kernel_rfl|(simp;done)))|(with_reducible intro hfact)|((try dsimp only);(rw[B6 he]))|((try dsimp only);rw[hw])|(((with_reducible apply A9));(focus (simp only[D.at,D.put,D.kid,D.setKid,mkSt,Ap,D.toI,toIs,Ak,Af,g1,C7]<;>exact rfl))))
    all_goals(try(conv=>whnf))
    refine Round.by (j+1,Bm F ⟨ck,cv,false⟩,Dn F,(Dt F).set q (.it (Chg.mk ck cv false).toI)) ?_ (hmain _ _ g2.symm g3.symm) (by dsimp only;omega)
    try dsimp only
    show norm _ _=upd _ _
    kernel_rfl
 ·obtain⟨ck,cv,cg⟩:=c;by_cases hk:1≤ck.length∧ck.length≤64
  ·obtain⟨hk1,hk2⟩:=hk;cases cg with
   |true=>exact absurd ⟨⟨hk1,hk2⟩,.inl rfl⟩ hc
   |false=>
    have hv:¬cv.length≤256:=fun h=>hc ⟨⟨hk1,hk2⟩,.inr h⟩
    repeat'((conv=>whnf);first|((with_reducible refine Ax (by first|(with_reducible exact Bool.of_not_eq_false (by assumption))|(with_reducible rfl)) (fun hb=>?_));(try rw[hb]);(try simp only[Aa]at hb))|((with_reducible refine Aw (by(with_reducible rfl)) (fun hb=>?_));(try rw[hb]);(try simp only[Aa]at hb))|((with_reducible refine And.intro (fun hb=>?_) (fun hb=>?_))<;>first|(exfalso;((simp only[Bu]at hb<;>omega)))|((try rw[hb]);(try simp only[Aa]at hb)))|((with_reducible refine Exists.intro ?_ ?_);focus (and_intros<;>first|omega|(with_reducible rfl)|kernel_rfl|(simp;done)))|(with_reducible intro hfact)|((try dsimp only);(rw[B6 he])))
    all_goals(try(conv=>whnf))
    (apply dKq<;>kernel_rfl)
  ·repeat'((conv=>whnf);first|((with_reducible refine Ax (by first|(with_reducible exact Bool.of_not_eq_false (by assumption))|(with_reducible rfl)) (fun hb=>?_));(try rw[hb]);(try simp only[Aa]at hb))|((with_reducible refine Aw (by(with_reducible rfl)) (fun hb=>?_));(try rw[hb]);(try simp only[Aa]at hb))|((with_reducible refine And.intro (fun hb=>?_) (fun hb=>?_))<;>first|(exfalso;((simp only[Bu]at hb<;>omega)))|((try rw[hb]);(try simp only[Aa]at hb)))|((with_reducible refine Exists.intro ?_ ?_);focus (and_intros<;>first|omega|(with_reducible rfl)|kernel_rfl|(simp;done)))|(with_reducible intro hfact)|((try dsimp only);(rw[B6 he])))
   all_goals(try(conv=>whnf))
   all_goals first
    |(exfalso;omega)
    |(apply dKq<;>kernel_rfl)
theorem Vu(s:Sto)(n:Az)(cs:List Chg)(hcs:cs.length≤1000)(hn:n.length≤1000){m:Nat}(hI:SInv m s)(hm:m≤80000)(hf:s.fi n=none)(FF:List Chg)(RES:Option (List Chg))(hRES:RES=some FF)(hF:K6 cs []=RES):
 Fn Tryd.prog Ez [sP s,.v (.str n),.v (.list (cs.map Chg.toI))] (Is (.tup [.i (ti (s.tal n).bytes),.i (ti (s.tal n).keys)]) [sP s,.no,.no]):=by
 refine Jh ?_ (by simp)
 repeat'((conv=>whnf);first|((with_reducible refine Exists.intro ?_ ?_);focus (and_intros<;>first|omega|(with_reducible rfl)|kernel_rfl|(intro _ hh;cases hh;done)|(simp;done)|decide))|(with_reducible intro hfact)|((with_reducible refine CallWp.mk ?_);refine⟨_,Aj6 s n,?_⟩;rintro _ _ ⟨rfl,rfl⟩)|((with_reducible refine CallWp.mk ?_);refine⟨_,Akb s n,?_⟩;rintro _ _ ⟨rfl,rfl⟩))
 all_goals(try(conv=>whnf))
 refine LoopWq.by (X:=Nat × List Chg × List I × List D) (fun y=>[(31,.v (ti (y.1:Int))),(12,.own [] (.map y.2.2.1 y.2.2.2))]) (fun y=>y.1≤cs.length∧y.2.1.length≤y.1∧y.2.2.1=Dn y.2.1∧y.2.2.2=Dt y.2.1∧K6 (cs.drop y.1) y.2.1=RES∧(y.2.1.map Chg.key).Nodup∧∀c∈y.2.1,c.ok) (fun y=>cs.length - y.1) (0,[],[],[]) (by kernel_rfl) ⟨Nat.zero_le _,by simp,rfl,rfl,hF,by simp,by simp⟩ ?_
 rintro⟨j,F,KS,VS⟩ ⟨hj,hFl,e1,e2,hR,hnd,hok⟩;dsimp only at hj hFl e1 e2 hR hnd hok ⊢;subst e1 e2;have hclen:(cs.map Chg.toI).length=cs.length:=List.length_map _;have hw:IntKind.i64.wrap ((j:Int)+1)=((j+1:Nat):Int):=Dk (n:=100000) (by omega) (by simp only[maxLen];omega)
 by_cases hjl:j<cs.length
 ·skip
  obtain⟨c,he⟩:∃c,cs[j]?=some c:=⟨_,List.getElem?_eq_getElem hjl⟩;have hlt:¬decide ((j:Int)<(cs.length:Int))=false:=by simp;omega
  have hlt2:¬decide ((j:Int)<((cs.map Chg.toI).length:Int))=false:=by simp;omega
  have hdr:cs.drop j=c::cs.drop (j+1):=by rw[List.drop_eq_getElem_cons hjl];rw[List.getElem?_eq_getElem hjl]at he;cases he;rfl
  rw[hdr]at hR;simp only[K6]at hR;by_cases hc:c.ok
  case neg=>
   rw[if_neg hc]at hR;rw[←hR]at hRES;cases hRES
  have hok':∀x∈Bm F c,x.ok:=fun x hx=>by
   rcases Zn hx with h|h
   ·exact hok x h
   ·subst h;exact hc
  have hfl:=Zm F c;rw[if_pos hc]at hR;have hnd':=U5 (c:=c) hnd;obtain⟨⟨hc1,hc1'⟩,hc2⟩:=hc;have hmain:∀KS' VS',KS'=Dn (Bm F c)→VS'=Dt (Bm F c)→j+1≤cs.length∧(Bm F c).length≤j+1∧KS'=Dn (Bm F c)∧VS'=Dt (Bm F c)∧K6 (cs.drop (j+1)) (Bm F c)=RES∧((Bm F c).map Chg.key).Nodup∧∀c'∈Bm F c,c'.ok:=
   fun KS' VS' e1 e2=>⟨by omega,by omega,e1,e2,hR,hnd',hok'⟩
  clear hR hdr;cases hq:F.findIdx? (fun x=>decide (x.key=c.key))with
  |none=>
   obtain⟨g1,g2,g3⟩:=Xf hq;obtain⟨ck,cv,cg⟩:=c;dsimp only at hc1 hc1' hc2;cases cg with
   |true=>
    repeat'((conv=>whnf);first|((with_reducible refine Ax (by(with_reducible exact Bool.of_not_eq_false (by assumption))) (fun hb=>?_));(try rw[hb]);(try simp only[Aa]at hb))|((with_reducible refine Aw (by(with_reducible rfl)) (fun hb=>?_));(try rw[hb]);(try simp only[Aa]at hb))|((with_reducible refine And.intro (fun hb=>?_) (fun hb=>?_))<;>first|(exfalso;((simp only[Bu]at hb<;>omega)))|((try rw[hb]);(try simp only[Aa]at hb)))|((with_reducible refine Exists.intro ?_ ?_);focus (and_intros<;>first|omega|(with_reducible rfl)|kernel_rfl|(simp;done)))|(with_reducible intro hfact)|((try dsimp only);(rw[B6 he]))|((try dsimp only);rw[hw])|(((with_reducible apply A9));(focus (simp only[D.at,D.put,D.kid,D.setKid,mkSt,Ap,D.toI,toIs,Ak,Af,g1,C7]<;>exact rfl))))
    all_goals(try(conv=>whnf))
    refine Round.by (j+1,Bm F ⟨ck,cv,true⟩,Dn F++[.str ck],Dt F++[.it (Chg.mk ck cv true).toI]) ?_ (hmain _ _ g2.symm g3.symm) (by dsimp only;omega)
    try dsimp only
    show norm _ _=upd _ _
    kernel_rfl
   |false=>
    have hc3:cv.length≤256:=by simpa using hc2
    repeat'((conv=>whnf);first|((with_reducible refine Ax (by first|(with_reducible exact Bool.of_not_eq_false (by assumption))|(with_reducible rfl)) (fun hb=>?_));(try rw[hb]);(try simp only[Aa]at hb))|((with_reducible refine Aw (by(with_reducible rfl)) (fun hb=>?_));(try rw[hb]);(try simp only[Aa]at hb))|((with_reducible refine And.intro (fun hb=>?_) (fun hb=>?_))<;>first|(exfalso;((simp only[Bu]at hb<;>omega)))|((try rw[hb]);(try simp only[Aa]at hb)))|((with_reducible refine Exists.intro ?_ ?_);focus (and_intros<;>first|omega|(with_reducible rfl)|kernel_rfl|(simp;done)))|(with_reducible intro hfact)|((try dsimp only);(rw[B6 he]))|((try dsimp only);rw[hw])|(((with_reducible apply A9));(focus (simp only[D.at,D.put,D.kid,D.setKid,mkSt,Ap,D.toI,toIs,Ak,Af,g1,C7]<;>exact rfl))))
    all_goals(try(conv=>whnf))
    refine Round.by (j+1,Bm F ⟨ck,cv,false⟩,Dn F++[.str ck],Dt F++[.it (Chg.mk ck cv false).toI]) ?_ (hmain _ _ g2.symm g3.symm) (by dsimp only;omega)
    try dsimp only
    show norm _ _=upd _ _
    kernel_rfl
  |some q=>
   obtain⟨g1,g2,g3⟩:=Xg hq;obtain⟨ck,cv,cg⟩:=c;dsimp only at hc1 hc1' hc2;cases cg with
   |true=>
    repeat'((conv=>whnf);first|((with_reducible refine Ax (by(with_reducible exact Bool.of_not_eq_false (by assumption))) (fun hb=>?_));(try rw[hb]);(try simp only[Aa]at hb))|((with_reducible refine Aw (by(with_reducible rfl)) (fun hb=>?_));(try rw[hb]);(try simp only[Aa]at hb))|((with_reducible refine And.intro (fun hb=>?_) (fun hb=>?_))<;>first|(exfalso;((simp only[Bu]at hb<;>omega)))|((try rw[hb]);(try simp only[Aa]at hb)))|((with_reducible refine Exists.intro ?_ ?_);focus (and_intros<;>first|omega|(with_reducible rfl)|kernel_rfl|(simp;done)))|(with_reducible intro hfact)|((try dsimp only);(rw[B6 he]))|((try dsimp only);rw[hw])|(((with_reducible apply A9));(focus (simp only[D.at,D.put,D.kid,D.setKid,mkSt,Ap,D.toI,toIs,Ak,Af,g1,C7]<;>exact rfl))))
    all_goals(try(conv=>whnf))
    refine Round.by (j+1,Bm F ⟨ck,cv,true⟩,Dn F,(Dt F).set q (.it (Chg.mk ck cv true).toI)) ?_ (hmain _ _ g2.symm g3.symm) (by dsimp only;omega)
    try dsimp only
    show norm _ _=upd _ _
    kernel_rfl
   |false=>
    have hc3:cv.length≤256:=by simpa using hc2
    repeat'((conv=>whnf);first|((with_reducible refine Ax (by first|(with_reducible exact Bool.of_not_eq_false (by assumption))|(with_reducible rfl)) (fun hb=>?_));(try rw[hb]);(try simp only[Aa]at hb))|((with_reducible refine Aw (by(with_reducible rfl)) (fun hb=>?_));(try rw[hb]);(try simp only[Aa]at hb))|((with_reducible refine And.intro (fun hb=>?_) (fun hb=>?_))<;>first|(exfalso;((simp only[Bu]at hb<;>omega)))|((try rw[hb]);(try simp only[Aa]at hb)))|((with_reducible refine Exists.intro ?_ ?_);focus (and_intros<;>first|omega|(with_reducible rfl)|kernel_rfl|(simp;done)))|(with_reducible intro hfact)|((try dsimp only);(rw[B6 he]))|((try dsimp only);rw[hw])|(((with_reducible apply A9));(focus (simp only[D.at,D.put,D.kid,D.setKid,mkSt,Ap,D.toI,toIs,Ak,Af,g1,C7]<;>exact rfl))))
    all_goals(try(conv=>whnf))
    refine Round.by (j+1,Bm F ⟨ck,cv,false⟩,Dn F,(Dt F).set q (.it (Chg.mk ck cv false).toI)) ?_ (hmain _ _ g2.symm g3.symm) (by dsimp only;omega)
    try dsimp only
    show norm _ _=upd _ _
    kernel_rfl
 have hlt:¬decide ((j:Int)<(cs.length:Int))=true:=by simp;omega
 have hlt2:¬decide ((j:Int)<((cs.map Chg.toI).length:Int))=true:=by simp;omega
 rw[List.drop_eq_nil_of_le (by omega)]at hR
 have hR:some F=RES:=hR;rw[hRES]at hR;cases hR;have hFl2:FF.length≤1000:=by omega
 repeat'((conv=>whnf);((with_reducible refine Aw (by(with_reducible exact Bool.of_not_eq_true (by assumption))) (fun hb=>?_));(try rw[hb]);(try simp only[Aa]at hb)))
 all_goals(try(conv=>whnf))
 refine LoopWq.by (X:=Unit) (fun _=>[(64,.mit (Dn FF) (Dt FF) (List.range (Dn FF).length) none)]) (fun _=>True) (fun _=>0) () (by kernel_rfl) trivial ?_
 rintro _ _;dsimp only;cases hL:(List.range (Dn FF).length).isEmpty with
 |true=>
  repeat'((conv=>whnf);first|((with_reducible refine Ax (by(with_reducible assumption)) (fun hb=>?_));(try simp only[Aa]at hb))|((with_reducible refine Aw (by first|(with_reducible exact Bool.of_not_eq_true (by assumption))|(with_reducible rfl)) (fun hb=>?_));(try rw[hb]);(try simp only[Aa]at hb))|((with_reducible refine Exists.intro ?_ ?_);focus (and_intros<;>omega)))
  all_goals(try(conv=>whnf))
  (apply dKq<;>kernel_rfl)
 |false=>
  repeat'((conv=>whnf);first|((with_reducible refine Aw (by(with_reducible assumption)) (fun hb=>?_));(try simp only[Aa]at hb))|((with_reducible refine Exists.intro ?_ ?_);focus (and_intros<;>omega)))
  all_goals(try(conv=>whnf))
  refine⟨fun i hi=>?_⟩
  have hil:i<FF.length:=by simpa[Dn]using hi
  obtain⟨c,he⟩:∃c,FF[i]?=some c:=⟨_,List.getElem?_eq_getElem hil⟩;have hco:=hok c (List.mem_of_getElem? he);have hr:=Aff hI hm n hn (spK1 c.key) 0 1;rw[show s.rangeM n (spK1 c.key) 0 1=([],false,16)by unfold Sto.rangeM;rw[if_pos (by rw[hf];rfl)]]at hr
  have hky:=Uk c.key (by have:=hco.1.2;omega)
  repeat'((conv=>whnf);first|((with_reducible refine Ax (by(with_reducible rfl)) (fun hb=>?_));(try rw[hb]);(try simp only[Aa]at hb))|((with_reducible refine And.intro (fun hb=>?_) (fun hb=>?_))<;>first|(exact absurd hb (by decide))|((try rw[hb]);(try simp only[Aa]at hb)))|((with_reducible refine Exists.intro ?_ ?_);focus (and_intros<;>first|omega|kernel_rfl|(intro _ hh;cases hh;done)|(simp;done)|decide))|((try dsimp only);(rw[Cv he]))|((with_reducible refine CallWp.mk ?_);refine⟨_,hky,?_⟩;rintro _ _ ⟨rfl,rfl⟩)|((with_reducible refine CallWp.mk ?_);refine⟨_,hr,?_⟩;rintro _ _ ⟨rfl,rfl⟩))
  all_goals(try(conv=>whnf))
  (apply dKq<;>kernel_rfl)
theorem Vt(s:Sto)(n:Az)(cs:List Chg)(hcs:cs.length≤1000)(hn:n.length≤1000){m:Nat}(hI:SInv m s)(hm:m≤80000)(q:Nat)(hf:s.fi n=some q)(FF:List Chg)(RES:Option (List Chg))(hRES:RES=some FF)(hF:K6 cs []=RES)(B0 K0 B K:Int)(hB0:(s.tal n).bytes=B0)(hK0:(s.tal n).keys=K0)(hB:B0+sumI ((List.range FF.length).map (qAt qB n s.l FF))=B)(hK:K0+sumI ((List.range FF.length).map (qAt qK n s.l FF))=K):
 Fn Tryd.prog Ez [sP s,.v (.str n),.v (.list (cs.map Chg.toI))] (Is (.tup [.i (ti B),.i (ti K)]) [sP s,.no,.no]):=by
 refine Jh ?_ (by simp)
 have hby:=Aj6 s n;have hke:=Akb s n;rw[hB0]at hby;rw[hK0]at hke;have hT:=hI.tb n;have hT1:=hT.bytes;have hT2:=hT.keys;rw[hB0]at hT1;rw[hK0]at hT2;clear hB0 hK0 hT;repeat'((conv=>whnf);first|((with_reducible refine Exists.intro ?_ ?_);focus (and_intros<;>first|omega|(with_reducible rfl)|kernel_rfl|(intro _ hh;cases hh;done)|(simp;done)|decide))|(with_reducible intro hfact)|((with_reducible refine CallWp.mk ?_);refine⟨_,hby,?_⟩;rintro _ _ ⟨rfl,rfl⟩)|((with_reducible refine CallWp.mk ?_);refine⟨_,hke,?_⟩;rintro _ _ ⟨rfl,rfl⟩))
 all_goals(try(conv=>whnf))
 refine LoopWq.by (X:=Nat × List Chg × List I × List D) (fun y=>[(31,.v (ti (y.1:Int))),(12,.own [] (.map y.2.2.1 y.2.2.2))]) (fun y=>y.1≤cs.length∧y.2.1.length≤y.1∧y.2.2.1=Dn y.2.1∧y.2.2.2=Dt y.2.1∧K6 (cs.drop y.1) y.2.1=RES∧(y.2.1.map Chg.key).Nodup∧∀c∈y.2.1,c.ok) (fun y=>cs.length - y.1) (0,[],[],[]) (by kernel_rfl) ⟨Nat.zero_le _,by simp,rfl,rfl,hF,by simp,by simp⟩ ?_
 rintro⟨j,F,KS,VS⟩ ⟨hj,hFl,e1,e2,hR,hnd,hok⟩;dsimp only at hj hFl e1 e2 hR hnd hok ⊢;subst e1 e2;have hclen:(cs.map Chg.toI).length=cs.length:=List.length_map _;have hw:IntKind.i64.wrap ((j:Int)+1)=((j+1:Nat):Int):=Dk (n:=100000) (by omega) (by simp only[maxLen];omega)
 by_cases hjl:j<cs.length
 ·skip
  obtain⟨c,he⟩:∃c,cs[j]?=some c:=⟨_,List.getElem?_eq_getElem hjl⟩;have hlt:¬decide ((j:Int)<(cs.length:Int))=false:=by simp;omega
  have hlt2:¬decide ((j:Int)<((cs.map Chg.toI).length:Int))=false:=by simp;omega
  have hdr:cs.drop j=c::cs.drop (j+1):=by rw[List.drop_eq_getElem_cons hjl];rw[List.getElem?_eq_getElem hjl]at he;cases he;rfl
  rw[hdr]at hR;simp only[K6]at hR;by_cases hc:c.ok
  case neg=>
   rw[if_neg hc]at hR;rw[←hR]at hRES;cases hRES
  have hok':∀x∈Bm F c,x.ok:=fun x hx=>by
   rcases Zn hx with h|h
   ·exact hok x h
   ·subst h;exact hc
  have hfl:=Zm F c;rw[if_pos hc]at hR;have hnd':=U5 (c:=c) hnd;obtain⟨⟨hc1,hc1'⟩,hc2⟩:=hc;have hmain:∀KS' VS',KS'=Dn (Bm F c)→VS'=Dt (Bm F c)→j+1≤cs.length∧(Bm F c).length≤j+1∧KS'=Dn (Bm F c)∧VS'=Dt (Bm F c)∧K6 (cs.drop (j+1)) (Bm F c)=RES∧((Bm F c).map Chg.key).Nodup∧∀c'∈Bm F c,c'.ok:=
   fun KS' VS' e1 e2=>⟨by omega,by omega,e1,e2,hR,hnd',hok'⟩
  clear hR hdr;cases hq:F.findIdx? (fun x=>decide (x.key=c.key))with
  |none=>
   obtain⟨g1,g2,g3⟩:=Xf hq;obtain⟨ck,cv,cg⟩:=c;dsimp only at hc1 hc1' hc2;cases cg with
   |true=>
    repeat'((conv=>whnf);first|((with_reducible refine Ax (by(with_reducible exact Bool.of_not_eq_false (by assumption))) (fun hb=>?_));(try rw[hb]);(try simp only[Aa]at hb))|((with_reducible refine Aw (by(with_reducible rfl)) (fun hb=>?_));(try rw[hb]);(try simp only[Aa]at hb))|((with_reducible refine And.intro (fun hb=>?_) (fun hb=>?_))<;>first|(exfalso;((simp only[Bu]at hb<;>omega)))|((try rw[hb]);(try simp only[Aa]at hb)))|((with_reducible refine Exists.intro ?_ ?_);focus (and_intros<;>first|omega|(with_reducible rfl)|kernel_rfl|(simp;done)))|(with_reducible intro hfact)|((try dsimp only);(rw[B6 he]))|((try dsimp only);rw[hw])|(((with_reducible apply A9));(focus (simp only[D.at,D.put,D.kid,D.setKid,mkSt,Ap,D.toI,toIs,Ak,Af,g1,C7]<;>exact rfl))))
    all_goals(try(conv=>whnf))
    refine Round.by (j+1,Bm F ⟨ck,cv,true⟩,Dn F++[.str ck],Dt F++[.it (Chg.mk ck cv true).toI]) ?_ (hmain _ _ g2.symm g3.symm) (by dsimp only;omega)
    try dsimp only
    show norm _ _=upd _ _
    kernel_rfl
   |false=>
    have hc3:cv.length≤256:=by simpa using hc2
    repeat'((conv=>whnf);first|((with_reducible refine Ax (by first|(with_reducible exact Bool.of_not_eq_false (by assumption))|(with_reducible rfl)) (fun hb=>?_));(try rw[hb]);(try simp only[Aa]at hb))|((with_reducible refine Aw (by(with_reducible rfl)) (fun hb=>?_));(try rw[hb]);(try simp only[Aa]at hb))|((with_reducible refine And.intro (fun hb=>?_) (fun hb=>?_))<;>first|(exfalso;((simp only[Bu]at hb<;>omega)))|((try rw[hb]);(try simp only[Aa]at hb)))|((with_reducible refine Exists.intro ?_ ?_);focus (and_intros<;>first|omega|(with_reducible rfl)|kernel_rfl|(simp;done)))|(with_reducible intro hfact)|((try dsimp only);(rw[B6 he]))|((try dsimp only);rw[hw])|(((with_reducible apply A9));(focus (simp only[D.at,D.put,D.kid,D.setKid,mkSt,Ap,D.toI,toIs,Ak,Af,g1,C7]<;>exact rfl))))
    all_goals(try(conv=>whnf))
    refine Round.by (j+1,Bm F ⟨ck,cv,false⟩,Dn F++[.str ck],Dt F++[.it (Chg.mk ck cv false).toI]) ?_ (hmain _ _ g2.symm g3.symm) (by dsimp only;omega)
    try dsimp only
    show norm _ _=upd _ _
    kernel_rfl
  |some q=>
   obtain⟨g1,g2,g3⟩:=Xg hq;obtain⟨ck,cv,cg⟩:=c;dsimp only at hc1 hc1' hc2;cases cg with
   |true=>
    repeat'((conv=>whnf);first|((with_reducible refine Ax (by(with_reducible exact Bool.of_not_eq_false (by assumption))) (fun hb=>?_));(try rw[hb]);(try simp only[Aa]at hb))|((with_reducible refine Aw (by(with_reducible rfl)) (fun hb=>?_));(try rw[hb]);(try simp only[Aa]at hb))|((with_reducible refine And.intro (fun hb=>?_) (fun hb=>?_))<;>first|(exfalso;((simp only[Bu]at hb<;>omega)))|((try rw[hb]);(try simp only[Aa]at hb)))|((with_reducible refine Exists.intro ?_ ?_);focus (and_intros<;>first|omega|(with_reducible rfl)|kernel_rfl|(simp;done)))|(with_reducible intro hfact)|((try dsimp only);(rw[B6 he]))|((try dsimp only);rw[hw])|(((with_reducible apply A9));(focus (simp only[D.at,D.put,D.kid,D.setKid,mkSt,Ap,D.toI,toIs,Ak,Af,g1,C7]<;>exact rfl))))
    all_goals(try(conv=>whnf))
    refine Round.by (j+1,Bm F ⟨ck,cv,true⟩,Dn F,(Dt F).set q (.it (Chg.mk ck cv true).toI)) ?_ (hmain _ _ g2.symm g3.symm) (by dsimp only;omega)
    try dsimp only
    show norm _ _=upd _ _
    kernel_rfl
   |false=>
    have hc3:cv.length≤256:=by simpa using hc2
    repeat'((conv=>whnf);first|((with_reducible refine Ax (by first|(with_reducible exact Bool.of_not_eq_false (by assumption))|(with_reducible rfl)) (fun hb=>?_));(try rw[hb]);(try simp only[Aa]at hb))|((with_reducible refine Aw (by(with_reducible rfl)) (fun hb=>?_));(try rw[hb]);(try simp only[Aa]at hb))|((with_reducible refine And.intro (fun hb=>?_) (fun hb=>?_))<;>first|(exfalso;((simp only[Bu]at hb<;>omega)))|((try rw[hb]);(try simp only[Aa]at hb)))|((with_reducible refine Exists.intro ?_ ?_);focus (and_intros<;>first|omega|(with_reducible rfl)|kernel_rfl|(simp;done)))|(with_reducible intro hfact)|((try dsimp only);(rw[B6 he]))|((try dsimp only);rw[hw])|(((with_reducible apply A9));(focus (simp only[D.at,D.put,D.kid,D.setKid,mkSt,Ap,D.toI,toIs,Ak,Af,g1,C7]<;>exact rfl))))
    all_goals(try(conv=>whnf))
    refine Round.by (j+1,Bm F ⟨ck,cv,false⟩,Dn F,(Dt F).set q (.it (Chg.mk ck cv false).toI)) ?_ (hmain _ _ g2.symm g3.symm) (by dsimp only;omega)
    try dsimp only
    show norm _ _=upd _ _
    kernel_rfl
 have hlt:¬decide ((j:Int)<(cs.length:Int))=true:=by simp;omega
 have hlt2:¬decide ((j:Int)<((cs.map Chg.toI).length:Int))=true:=by simp;omega
 rw[List.drop_eq_nil_of_le (by omega)]at hR
 have hR:some F=RES:=hR;rw[hRES]at hR;cases hR;have hFl2:FF.length≤1000:=by omega
 repeat'((conv=>whnf);((with_reducible refine Aw (by(with_reducible exact Bool.of_not_eq_true (by assumption))) (fun hb=>?_));(try rw[hb]);(try simp only[Aa]at hb)))
 all_goals(try(conv=>whnf))
 refine LoopWq.by (X:=List Nat × Option Nat × Int × Int) (fun y=>[(64,.mit (Dn FF) (Dt FF) y.1 y.2.1),(8,.v (ti y.2.2.1)),(9,.v (ti y.2.2.2))])
  (fun y=>(∀i∈y.1,i<FF.length)∧y.1.length≤FF.length∧y.2.2.1+sumI (y.1.map (qAt qB n s.l FF))=B∧y.2.2.2+sumI (y.1.map (qAt qK n s.l FF))=K∧(B0 - 1400*((FF.length - y.1.length:Nat):Int)≤y.2.2.1∧y.2.2.1≤B0+1400*((FF.length - y.1.length:Nat):Int))∧(K0 - ((FF.length - y.1.length:Nat):Int)≤y.2.2.2∧y.2.2.2≤K0+((FF.length - y.1.length:Nat):Int)))
  (fun y=>y.1.length) (List.range (Dn FF).length,none,B0,K0) (by kernel_rfl) ⟨by simp[Dn],by simp[Dn],by simpa[Dn]using hB,by simpa[Dn]using hK,by simp[Dn],by simp[Dn]⟩ ?_
 rintro⟨left,cur,b,k⟩ ⟨hlt3,hll,hsB,hsK,hb1,hk1⟩;dsimp only at hlt3 hll hsB hsK hb1 hk1 ⊢;cases hL:left.isEmpty with
 |true=>
  have hnil:left=[]:=by simpa using hL
  subst hnil;have e1:b=B:=by simpa[sumI]using hsB
  have e2:k=K:=by simpa[sumI]using hsK
  subst e1 e2;repeat'((conv=>whnf);first|((with_reducible refine Ax (by(with_reducible assumption)) (fun hb=>?_)))|((with_reducible refine Aw (by first|(with_reducible exact Bool.of_not_eq_true (by assumption))|(with_reducible rfl)) (fun hb=>?_));(try rw[hb]);(try simp only[Aa]at hb))|((with_reducible refine Exists.intro ?_ ?_);focus (and_intros<;>omega)))
  all_goals(try(conv=>whnf))
  (apply dKq<;>kernel_rfl)
 |false=>
  repeat'((conv=>whnf);first|((with_reducible refine Aw (by(with_reducible assumption)) (fun hb=>?_)))|((with_reducible refine Exists.intro ?_ ?_);focus (and_intros<;>omega)))
  all_goals(try(conv=>whnf))
  refine⟨fun i hi=>?_⟩
  have hil:=hlt3 i hi;obtain⟨c,he⟩:∃c,FF[i]?=some c:=⟨_,List.getElem?_eq_getElem hil⟩;have hco:=hok c (List.mem_of_getElem? he);have hr:=Aff hI hm n hn (spK1 c.key) 0 1;rw[Xn hI hf hco.1.2]at hr;have hky:=Uk c.key (by have:=hco.1.2;omega)
  rw[Xq hi,Ts he]at hsB hsK;have hel:(left.erase i).length=left.length - 1:=List.length_erase_of_mem hi;have hpos:1≤left.length:=List.length_pos_of_mem hi;have hmem:∀x∈left.erase i,x<FF.length:=fun x hx=>hlt3 x (List.mem_of_mem_erase hx)
  have hwv:=Abt hI.lb (B7 n c.key);generalize Q1 s.l (B7 n c.key)=was at*;obtain⟨wr,wm,wv,wg⟩:=was;obtain⟨ck,cv,cg⟩:=c;obtain⟨⟨hc1,hc2⟩,hc3⟩:=hco;obtain⟨SB,hSB⟩:∃S,sumI ((left.erase i).map (qAt qB n s.l FF))=S:=⟨_,rfl⟩;obtain⟨SK,hSK⟩:∃S,sumI ((left.erase i).map (qAt qK n s.l FF))=S:=⟨_,rfl⟩;rw[hSB]at hsB;rw[hSK]at hsK;unfold qB at hsB;unfold qK at hsK;dsimp only at hwv hc1 hc2 hc3 hsB hsK hr hky;unfold Vw at hr;dsimp only at hr;have hfin:∀(b' k':Int),b'+SB=B→k'+SK=K→(b - 1400≤b'∧b'≤b+1400)→(k - 1≤k'∧k'≤k+1)→
   (∀i_1∈left.erase i,i_1<FF.length)∧(left.erase i).length≤FF.length∧b'+sumI ((left.erase i).map (qAt qB n s.l FF))=B∧k'+sumI ((left.erase i).map (qAt qK n s.l FF))=K∧(B0 - 1400*((FF.length - (left.erase i).length:Nat):Int)≤b'∧b'≤B0+1400*((FF.length - (left.erase i).length:Nat):Int))∧(K0 - ((FF.length - (left.erase i).length:Nat):Int)≤k'∧k'≤K0+((FF.length - (left.erase i).length:Nat):Int)):=
   fun b' k' h1 h2 h3 h4=>⟨hmem,by omega,by rw[hSB];exact h1,by rw[hSK];exact h2,by rw[hel];omega,by rw[hel];omega⟩
  cases wg with
  |true=>
   simp only[if_true]at hr hsB hsK;cases cg with
   |true=>
    simp only[if_true]at hsB hsK;repeat'((conv=>whnf);first|((with_reducible refine Ax (by(with_reducible rfl)) (fun hb=>?_));(try rw[hb]);(try simp only[Aa]at hb))|((with_reducible refine And.intro (fun hb=>?_) (fun hb=>?_))<;>first|(exact absurd hb (by decide))|((try rw[hb]);(try simp only[Aa]at hb)))|((with_reducible refine Exists.intro ?_ ?_);focus (and_intros<;>first|omega|(with_reducible rfl)|kernel_rfl|(intro _ hh;cases hh;done)|(simp;done)|decide))|(with_reducible intro hfact)|((try dsimp only);(rw[Cv he]))|((with_reducible refine CallWp.mk ?_);refine⟨_,hky,?_⟩;rintro _ _ ⟨rfl,rfl⟩)|((with_reducible refine CallWp.mk ?_);refine⟨_,hr,?_⟩;rintro _ _ ⟨rfl,rfl⟩))
    all_goals(try(conv=>whnf))
    refine Round.by (left.erase i,some i,b,k) ?_ (hfin (b) (k) (by omega) (by omega) (by omega) (by omega)) (by dsimp only;omega)
    try dsimp only
    show norm _ _=upd _ _
    kernel_rfl
   |false=>
    have hc4:cv.length≤256:=by simpa using hc3
    simp only[Bool.false_eq_true,if_false]at hsB hsK;have w1:IntKind.i64.wrap (k+1)=k+1:=Bf (by omega)
    have w2:IntKind.i64.wrap ((ck.length:Int)+(cv.length:Int))=(ck.length:Int)+(cv.length:Int):=Bf (by omega)
    have w3:IntKind.i64.wrap (b+((ck.length:Int)+(cv.length:Int)))=b+((ck.length:Int)+(cv.length:Int)):=Bf (by omega)
    repeat'((conv=>whnf);first|((with_reducible refine Ax (by(with_reducible rfl)) (fun hb=>?_));(try rw[hb]);(try simp only[Aa]at hb))|((with_reducible refine And.intro (fun hb=>?_) (fun hb=>?_))<;>first|(exact absurd hb (by decide))|((try rw[hb]);(try simp only[Aa]at hb)))|((with_reducible refine Exists.intro ?_ ?_);focus (and_intros<;>first|omega|(with_reducible rfl)|kernel_rfl|(intro _ hh;cases hh;done)|(simp;done)|decide))|(with_reducible intro hfact)|((try dsimp only);(rw[Cv he]))|((with_reducible refine CallWp.mk ?_);refine⟨_,hky,?_⟩;rintro _ _ ⟨rfl,rfl⟩)|((with_reducible refine CallWp.mk ?_);refine⟨_,hr,?_⟩;rintro _ _ ⟨rfl,rfl⟩)|((try dsimp only);rw[w2])|(skip;rw[w1])|(skip;rw[w3]))
    all_goals(try(conv=>whnf))
    refine Round.by (left.erase i,some i,b+((ck.length:Int)+(cv.length:Int)),k+1) ?_ (hfin (b+((ck.length:Int)+(cv.length:Int))) (k+1) (by omega) (by omega) (by omega) (by omega)) (by dsimp only;omega)
    try dsimp only
    show norm _ _=upd _ _
    kernel_rfl
  |false=>
   simp only[Bool.false_eq_true,if_false]at hr hsB hsK;have v1:IntKind.i64.wrap (k - 1)=k - 1:=Bf (by omega)
   have v2:IntKind.i64.wrap ((ck.length:Int)+(wv.length:Int))=(ck.length:Int)+(wv.length:Int):=Bf (by omega)
   have v3:IntKind.i64.wrap (b - ((ck.length:Int)+(wv.length:Int)))=b - ((ck.length:Int)+(wv.length:Int)):=Bf (by omega)
   cases cg with
   |true=>
    simp only[if_true]at hsB hsK;repeat'((conv=>whnf);first|((with_reducible refine Ax (by(with_reducible rfl)) (fun hb=>?_));(try rw[hb]);(try simp only[Aa]at hb))|((with_reducible refine And.intro (fun hb=>?_) (fun hb=>?_))<;>first|(exact absurd hb (by decide))|(exfalso;((simp only[Bu]at hb<;>omega)))|((try rw[hb]);(try simp only[Aa]at hb)))|((with_reducible refine Exists.intro ?_ ?_);focus (and_intros<;>first|omega|(with_reducible rfl)|kernel_rfl|(intro _ hh;cases hh;done)|(simp;done)|decide))|(with_reducible intro hfact)|((try dsimp only);(rw[Cv he]))|((with_reducible refine CallWp.mk ?_);refine⟨_,hky,?_⟩;rintro _ _ ⟨rfl,rfl⟩)|((with_reducible refine CallWp.mk ?_);refine⟨_,hr,?_⟩;rintro _ _ ⟨rfl,rfl⟩)|((try dsimp only);rw[v2])|(skip;rw[v1])|(skip;rw[v3]))
    all_goals(try(conv=>whnf))
    refine Round.by (left.erase i,some i,b - ((ck.length:Int)+(wv.length:Int)),k - 1) ?_ (hfin (b - ((ck.length:Int)+(wv.length:Int))) (k - 1) (by omega) (by omega) (by omega) (by omega)) (by dsimp only;omega)
    try dsimp only
    show norm _ _=upd _ _
    kernel_rfl
   |false=>
    have hc4:cv.length≤256:=by simpa using hc3
    simp only[Bool.false_eq_true,if_false]at hsB hsK;have w1:IntKind.i64.wrap (k - 1+1)=k:=by rw[Bf (by omega)];omega
    have w2:IntKind.i64.wrap ((ck.length:Int)+(cv.length:Int))=(ck.length:Int)+(cv.length:Int):=Bf (by omega)
    have w3:IntKind.i64.wrap (b - ((ck.length:Int)+(wv.length:Int))+((ck.length:Int)+(cv.length:Int)))=b+((cv.length:Int) - (wv.length:Int)):=by rw[Bf (by omega)];omega
    repeat'((conv=>whnf);first|((with_reducible refine Ax (by(with_reducible rfl)) (fun hb=>?_));(try rw[hb]);(try simp only[Aa]at hb))|((with_reducible refine And.intro (fun hb=>?_) (fun hb=>?_))<;>first|(exact absurd hb (by decide))|(exfalso;((simp only[Bu]at hb<;>omega)))|((try rw[hb]);(try simp only[Aa]at hb)))|((with_reducible refine Exists.intro ?_ ?_);focus (and_intros<;>first|omega|(with_reducible rfl)|kernel_rfl|(intro _ hh;cases hh;done)|(simp;done)|decide))|(with_reducible intro hfact)|((try dsimp only);(rw[Cv he]))|((with_reducible refine CallWp.mk ?_);refine⟨_,hky,?_⟩;rintro _ _ ⟨rfl,rfl⟩)|((with_reducible refine CallWp.mk ?_);refine⟨_,hr,?_⟩;rintro _ _ ⟨rfl,rfl⟩)|((try dsimp only);rw[v2])|(skip;rw[v1])|(skip;rw[v3])|(skip;rw[w2])|(skip;rw[w1])|(skip;rw[w3]))
    all_goals(try(conv=>whnf))
    refine Round.by (left.erase i,some i,b+((cv.length:Int) - (wv.length:Int)),k) ?_ (hfin (b+((cv.length:Int) - (wv.length:Int))) (k) (by omega) (by omega) (by omega) (by omega)) (by dsimp only;omega)
    try dsimp only
    show norm _ _=upd _ _
    kernel_rfl

open Go.Proofs
def Sto.afterM(s:Sto)(n:Az)(cs:List Chg):Int × Int:=(((s.writeM n cs).1.tal n).bytes,((s.writeM n cs).1.tal n).keys)
theorem Wb{m:Nat}{s:Sto}(hI:SInv m s)(hm:m≤80000)(n:Az)(hn:n.length≤1000)(cs:List Chg)(hcs:cs.length≤1000):
 Fn Tryd.prog Ez [sP s,.v (.str n),.v (.list (cs.map Chg.toI))] (Is (.tup [.i (ti (s.afterM n cs).1),.i (ti (s.afterM n cs).2)]) [sP s,.no,.no]):=by
 cases hF:K6 cs []with
 |none=>
  unfold Sto.afterM;rw[Lr (.inr hF)];exact Wc s n cs hcs none rfl hF
 |some FF=>
  cases hf:s.fi n with
  |none=>
   unfold Sto.afterM;rw[Lr (.inl hf)];exact Vu s n cs hcs hn hI hm hf FF _ rfl hF
  |some q=>
   obtain⟨h1,h2⟩:=Mb hI hf hF;unfold Sto.afterM;dsimp only;rw[h1,h2];exact Vt s n cs hcs hn hI hm q hf FF _ rfl hF _ _ _ _ rfl rfl (by rw[Q0]) (by rw[Q0])
def tenI(n:Az)(b k:Int):I:=.agg [.str n,ti b,ti k]
def Sto.fitsM(s:Sto)(n:Az)(mb mk:Int)(cs:List Chg):Bool:=decide ((s.afterM n cs).1≤max mb (s.tal n).bytes)&&decide ((s.afterM n cs).2≤max mk (s.tal n).keys)
theorem Lu{m:Nat}{s:Sto}(hI:SInv m s)(hm:m≤80000)(n:Az)(hn:n.length≤1000)(mb mk:Int)(cs:List Chg)(hcs:cs.length≤1000):
 Fn Tryd.prog Jj [sP s,.v (tenI n mb mk),.v (.list (cs.map Chg.toI))] (Is (.v (.bool (s.fitsM n mb mk cs))) [sP s,.no,.no]):=by
 have ha:=Wb hI hm n hn cs hcs;have hb:=Aj6 s n;have hk:=Akb s n;unfold Sto.fitsM;generalize s.afterM n cs=A at*;generalize (s.tal n).bytes=B at*;generalize (s.tal n).keys=K at*;obtain⟨a1,a2⟩:=A;dsimp only at ha ⊢;refine Sk ?_ (by simp)
 cases c1:decide (a1≤max mb B)with
 |false=>
  repeat'((conv=>whnf);first|((with_reducible refine Aw (by first|(with_reducible assumption)|(with_reducible rfl)) (fun hb=>?_));(try rw[hb]);(try simp only[Aa]at hb))|((with_reducible refine Exists.intro ?_ ?_);focus (and_intros<;>first|omega|(with_reducible rfl)|kernel_rfl|(intro _ hh;cases hh;done)|(simp;done)|decide))|((with_reducible refine Drawn.mkV ?_ ?_ ?_ (fun hfact=>?_));(focus (as_aux_lemma=>kernel_rfl));(focus (as_aux_lemma=>kernel_rfl));(focus (as_aux_lemma=>kernel_rfl));(try simp only[dRS]at hfact))|((with_reducible refine CallWp.mk ?_);refine⟨_,ha,?_⟩;rintro _ _ ⟨rfl,rfl⟩)|((with_reducible refine CallIs.mk ?_);refine⟨_,_,hb,?_⟩))
  all_goals(try(conv=>whnf))
  all_goals((apply dKq<;>kernel_rfl))
 |true=>
  repeat'((conv=>whnf);first|((with_reducible refine Ax (by first|(with_reducible assumption)|(with_reducible rfl)) (fun hb=>?_));(try rw[hb]);(try simp only[Aa]at hb))|((with_reducible refine Exists.intro ?_ ?_);focus (and_intros<;>first|omega|(with_reducible rfl)|kernel_rfl|(intro _ hh;cases hh;done)|(simp;done)|decide))|((with_reducible refine Drawn.mkV ?_ ?_ ?_ (fun hfact=>?_));(focus (as_aux_lemma=>kernel_rfl));(focus (as_aux_lemma=>kernel_rfl));(focus (as_aux_lemma=>kernel_rfl));(try simp only[dRS]at hfact))|((with_reducible refine CallWp.mk ?_);refine⟨_,ha,?_⟩;rintro _ _ ⟨rfl,rfl⟩)|((with_reducible refine CallIs.mk ?_);refine⟨_,_,hb,?_⟩)|((with_reducible refine CallIs.mk ?_);refine⟨_,_,hk,?_⟩))
  all_goals(try(conv=>whnf))
  all_goals((apply dKq<;>kernel_rfl))
def gtGo:List (List Chg)→Bool
 | []=>false
 |l::r=>if 100<l.length then true else if cGo l=true then true else gtGo r
def F9(w:List (List Chg)):Bool:=if 60<w.length then true else gtGo w
theorem X0:∀{w:List (List Chg)},gtGo w=false→∀l∈w,l.length≤100
 | [],_=>by simp
 |l::r,h=>by
  unfold gtGo at h;split at h
  ·cases h
  ·split at h
   ·cases h
   ·intro x hx;rcases List.mem_cons.1 hx with rfl|hx
    ·omega
    ·exact X0 h x hx
theorem Wv{w:List (List Chg)}(h:F9 w=false):w.length≤60∧∀l∈w,l.length≤100:=by
 unfold F9 at h;split at h
 ·cases h
 ·exact⟨by omega,X0 h⟩
theorem L6(w:List (List Chg)):Fn Tryd.prog Lf [.v (.list (w.map fun l=>I.list (l.map Chg.toI)))] (Is (.v (.bool (F9 w))) [.no]):=by
 refine Ko ?_ (by simp)
 have hwl:(w.map fun l=>I.list (l.map Chg.toI)).length=w.length:=List.length_map _
 unfold F9;by_cases h60:60<w.length
 ·rw[if_pos h60];repeat'((conv=>whnf);first|((with_reducible refine Ax (by first|((with_reducible refine decide_eq_true ?_);omega)|(with_reducible rfl)) (fun hb=>?_));(try rw[hb]);(try simp only[Aa]at hb))|((with_reducible refine Exists.intro ?_ ?_);focus (and_intros<;>(with_reducible rfl)))|(with_reducible intro hfact))
  all_goals(try(conv=>whnf))
  all_goals first
   |(exfalso;omega)
   |(apply dKq<;>kernel_rfl)
 rw[if_neg h60];obtain⟨RES,hRES⟩:∃R,gtGo w=R:=⟨_,rfl⟩;rw[hRES];repeat'((conv=>whnf);first|((with_reducible refine Aw (by first|((with_reducible refine decide_eq_false ?_);omega)|(with_reducible rfl)) (fun hb=>?_));(try rw[hb]);(try simp only[Aa]at hb))|((with_reducible refine Exists.intro ?_ ?_);focus (and_intros<;>(with_reducible rfl)))|(with_reducible intro hfact))
 all_goals(try(conv=>whnf))
 refine LoopWq.by (X:=Nat) (fun j=>[(12,.v (ti (j:Int)))]) (fun j=>j≤w.length∧gtGo (w.drop j)=RES) (fun j=>w.length - j) 0 (by kernel_rfl) ⟨Nat.zero_le _,hRES⟩ ?_
 rintro j ⟨hj,hR⟩
 (try dsimp only at hj hR ⊢)
 by_cases hjl:j<w.length
 case neg=>
  have h3:¬decide ((j:Int)<((w.map fun l=>I.list (l.map Chg.toI)).length:Int))=true:=by simp;omega
  have h4:¬decide ((j:Int)<(w.length:Int))=true:=by simp;omega
  rw[List.drop_eq_nil_of_le (by omega)]at hR
  have hR:false=RES:=hR;subst hR;repeat'((conv=>whnf);((with_reducible refine Aw (by first|(with_reducible assumption)|(with_reducible exact Bool.of_not_eq_true (by assumption))) (fun hb=>?_));(try rw[hb]);(try simp only[Aa]at hb)))
  all_goals(try(conv=>whnf))
  (apply dKq<;>kernel_rfl)
 have hw:IntKind.i64.wrap ((j:Int)+1)=((j+1:Nat):Int):=(Bf (by omega)).trans (by omega)
 obtain⟨l,hl⟩:∃x,w[j]?=some x:=⟨_,List.getElem?_eq_getElem hjl⟩;have h3:¬decide ((j:Int)<((w.map fun l=>I.list (l.map Chg.toI)).length:Int))=false:=by simp;omega
 have h4:¬decide ((j:Int)<(w.length:Int))=false:=by simp;omega
 have hdr:w.drop j=l::w.drop (j+1):=by rw[List.drop_eq_getElem_cons hjl];rw[List.getElem?_eq_getElem hjl]at hl;cases hl;rfl
 rw[hdr]at hR;unfold gtGo at hR;have hcl:(l.map Chg.toI).length=l.length:=List.length_map _;by_cases hd:100<l.length
 ·rw[if_pos hd]at hR;subst hR;repeat'((conv=>whnf);first|((with_reducible refine Ax (by first|(with_reducible assumption)|(with_reducible exact Bool.of_not_eq_false (by assumption))|((with_reducible refine decide_eq_true ?_);omega)) (fun hb=>?_));(try rw[hb]);(try simp only[Aa]at hb))|((with_reducible refine Exists.intro ?_ ?_);focus (and_intros<;>first|omega|(with_reducible rfl)|kernel_rfl))|(with_reducible intro hfact)|((try dsimp only);(rw[B6 hl]))|(skip;rw[hcl]))
  all_goals(try(conv=>whnf))
  all_goals first
   |(exfalso;omega)
   |(apply dKq<;>kernel_rfl)
 rw[if_neg hd]at hR;repeat'((conv=>whnf);first|((with_reducible refine Ax (by(with_reducible exact Bool.of_not_eq_false (by assumption))) (fun hb=>?_));(try rw[hb]);(try simp only[Aa]at hb))|((with_reducible refine Aw (by first|((with_reducible refine decide_eq_false ?_);omega)|(with_reducible rfl)) (fun hb=>?_));(try rw[hb]);(try simp only[Aa]at hb))|((with_reducible refine Exists.intro ?_ ?_);focus (and_intros<;>first|omega|(with_reducible rfl)|kernel_rfl))|(with_reducible intro hfact)|((try dsimp only);(rw[B6 hl]))|((try dsimp only);rw[hcl]))
 all_goals(try(conv=>whnf))
 refine LoopWq.by (X:=Nat) (fun q=>[(21,.v (ti (q:Int)))]) (fun q=>q≤l.length∧(if cGo (l.drop q)=true then true else gtGo (w.drop (j+1)))=RES) (fun q=>l.length - q) 0 (by kernel_rfl) ⟨Nat.zero_le _,hR⟩ ?_
 rintro q ⟨hq,hQ⟩
 (try dsimp only at hq hQ ⊢)
 have hw2:IntKind.i64.wrap ((q:Int)+1)=((q+1:Nat):Int):=(Bf (by omega)).trans (by omega)
 by_cases hql:q<l.length
 case neg=>
  have h5:¬decide ((q:Int)<((l.map Chg.toI).length:Int))=true:=by simp;omega
  have h6:¬decide ((q:Int)<(l.length:Int))=true:=by simp;omega
  rw[List.drop_eq_nil_of_le (by omega)]at hQ
  have hQ:gtGo (w.drop (j+1))=RES:=hQ;repeat'((conv=>whnf);first|((with_reducible refine Aw (by(with_reducible exact Bool.of_not_eq_true (by assumption))) (fun hb=>?_));(try rw[hb]);(try simp only[Aa]at hb))|(skip;rw[hw]))
  all_goals(try(conv=>whnf))
  refine Round.by (j+1) ?_ ⟨by omega,hQ⟩ (by omega)
  try dsimp only
  show norm _ _=upd _ _
  kernel_rfl
 obtain⟨c,hc⟩:∃x,l[q]?=some x:=⟨_,List.getElem?_eq_getElem hql⟩;have h5:¬decide ((q:Int)<((l.map Chg.toI).length:Int))=false:=by simp;omega
 have h6:¬decide ((q:Int)<(l.length:Int))=false:=by simp;omega
 have hdq:l.drop q=c::l.drop (q+1):=by rw[List.drop_eq_getElem_cons hql];rw[List.getElem?_eq_getElem hql]at hc;cases hc;rfl
 rw[hdq]at hQ;unfold cGo at hQ;obtain⟨ck,cv,cg⟩:=c;by_cases hb:(Chg.mk ck cv cg).big
 ·rw[if_pos hb]at hQ;have hQ:true=RES:=hQ;subst hQ;unfold Chg.big at hb
  (try dsimp only at hb)
  repeat'((conv=>whnf);first|((with_reducible refine Ax (by first|(with_reducible assumption)|(with_reducible exact Bool.of_not_eq_false (by assumption))|(with_reducible rfl)) (fun hb=>?_));(try rw[hb]);(try simp only[Aa]at hb))|((with_reducible refine Aw (by(with_reducible rfl)) (fun hb=>?_));(try rw[hb]);(try simp only[Aa]at hb))|((with_reducible refine And.intro (fun hb=>?_) (fun hb=>?_))<;>first|(exfalso;((simp only[Bu]at hb<;>omega)))|((try rw[hb]);(try simp only[Aa]at hb)))|((with_reducible refine Exists.intro ?_ ?_);focus (and_intros<;>first|omega|(with_reducible rfl)|kernel_rfl|(simp;done)))|(with_reducible intro hfact)|((try dsimp only);(rw[B6 hc])))
  all_goals(try(conv=>whnf))
  all_goals((apply dKq<;>kernel_rfl))
 ·rw[if_neg hb]at hQ;unfold Chg.big at hb
  (try dsimp only at hb)
  repeat'((conv=>whnf);first|((with_reducible refine Ax (by(with_reducible exact Bool.of_not_eq_false (by assumption))) (fun hb=>?_));(try rw[hb]);(try simp only[Aa]at hb))|((with_reducible refine Aw (by(with_reducible rfl)) (fun hb=>?_));(try rw[hb]);(try simp only[Aa]at hb))|((with_reducible refine And.intro (fun hb=>?_) (fun hb=>?_))<;>first|(exfalso;((simp only[Bu]at hb<;>omega)))|((try rw[hb]);(try simp only[Aa]at hb)))|((with_reducible refine Exists.intro ?_ ?_);focus (and_intros<;>first|omega|(with_reducible rfl)|kernel_rfl|(simp;done)))|(with_reducible intro hfact)|((try dsimp only);(rw[B6 hc]))|((try dsimp only);rw[hw2]))
  all_goals(try(conv=>whnf))
  refine Round.by (q+1) ?_ ⟨by omega,hQ⟩ (by omega)
  try dsimp only
  show norm _ _=upd _ _
  kernel_rfl

open Go.Proofs
def Ab0:Stm:=(sO [O1 (.box 5 2),gA 6 cF] (.seq (sO [gC 11 17 [],gT 12 11] (cR 12 [gA 6 cF])) (.seq (sO [gM 13 1,O1 (.bsl 14 31 1 (.list []) 1 [(0,13)]),gM 15 0,O1 (.app 16 31 1 24 14 15),gC 17 18 [nL 16],gM 18 17,qf 18 (iG 19 5 0 0),qf 18 (iL 20 19),qf 18 (.len 21 true 20),qf 18 (iB 22 .gtr 21 (cI 1000)),gP 23 18 cT 22] (cR 23 [gA 6 cT])) (sO [gC 24 19 [],O1 (.buildD 25 [(.vec 50 4 [])] []),O1 (.boxD 26 25),O1 (.movD 7 24),O1 (.movD 8 26)] (sO [gM 27 7,gC 28 20 [(true,27),nL (cS [116])]] (sO [gM 29 8,gC 30 25 [(true,29),nL (cS [116])]] (.seq (sO [gM 31 0,gN 32 31,gM 33 (cI 0)] (.block 0 (.loop [10,13,15,34,35,36,37,38,39,40,41,42,43,46,50] (sO [gB 34 .lss 33 32] (.seq (.cond 34 .skip (.exit 0)) (.seq (.block 1 (sO [gI 35 1 31 33,gL 36 35,gA 10 36] (sO [gM 37 7,gM 38 10,gC 39 24 [(true,37),nL (cS [116]),nL 38]] (.ops [gM 40 8,gM 41 10,gC 42 26 [(true,40),nL (cS [116]),nL 41]])))) (.ops [gB 43 .add 33 (cI 1),gM 33 43]))))))) (.seq (.drw [0,0,0,7,0,0,0,127,255,511,1023,2047,1023,5119,13311,29695,65535,131071,262143] [gM 44 7,gU 45 3 5,gM 46 1,gC 47 21 [(true,44),nL 45,nL 46],gM 48 8,gU 49 3 5,gM 50 1,gC 51 42 [(true,48),nL 49,nL 50],O1 (.eqs 52 false .bool 47 51),gM 53 52,qt 53 (iM 54 7),.call (some (53,true)) (some 55) 44 [(true,54)],qt 53 (iM 56 8),qt 53 (.nchk 57 56),qt 53 (iG 58 57 0 0),qt 53 (iL 59 58),.call (some (53,true)) (some 60) 43 [nL 55,nL 59],gP 61 53 60 cF,gA 6 61]) .ret))))))))
theorem Y5:OF 9 62 Ab0 [.t 6]:=oF Tryd.func9 rfl Tryd.ntmps9 (by kernel_rfl) (by kernel_rfl)
def Ac2:Stm:=(sO [gA 6 (cI 0),gA 7 (cI 0)] (sO [O1 (.empty 9 50 4),gM 10 0,O1 (.nchk 11 10),gF 12 11 0,O1 (.loadF 13 false 1 12),O1 (.app 14 50 4 56 9 13),O1 (.buildD 15 [(.vec 50 4 [])] [(0,14)]),O1 (.boxD 16 15),O1 (.movD 8 16)] (sO [gM 17 8,gM 18 1,gM 19 2,gC 20 26 [(true,17),nL 18,nL 19]] (sO [gM 21 8,gM 22 1,gC 23 78 [(true,21),nL 22],gE 24 23 0,gE 25 23 1,gA 6 24,gA 7 25] .ret))))
theorem Ac8:OF 28 26 Ac2 [.t 6,.t 7]:=oF Tryd.func28 rfl Tryd.ntmps28 (by kernel_rfl) (by kernel_rfl)
end Go.Ab
