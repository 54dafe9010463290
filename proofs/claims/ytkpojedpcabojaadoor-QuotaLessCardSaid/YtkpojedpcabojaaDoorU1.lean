/- Lemmas -/
import Derived.Test.YtkpojedpcabojaaDoorV20
set_option linter.unusedVariables false
set_option linter.unusedSimpArgs false
set_option maxRecDepth 100000
set_option maxHeartbeats 40000000
namespace Go.Ab
open Go.Proofs
def qAt(f:Ver→Chg→Int)(n:Az)(l:List Hld)(F:List Chg)(i:Nat):Int:=match F[i]? with
 |some c=>f (Q1 l (B7 n c.key)) c
 |none=>0
theorem Ts{f:Ver→Chg→Int}{n:Az}{l:List Hld}{F:List Chg}{i:Nat}{c:Chg}(h:F[i]?=some c):qAt f n l F i=f (Q1 l (B7 n c.key)) c:=by unfold qAt;rw[h]
theorem Q0(f:Ver→Chg→Int)(n:Az)(l:List Hld)(F:List Chg):sumI ((List.range F.length).map (qAt f n l F))=sumI (F.map fun c=>f (Q1 l (B7 n c.key)) c):=by
 congr 1
 apply List.ext_getElem (by simp)
 intro i h1 h2;simp only[List.getElem_map,List.getElem_range];rw[Ts (List.getElem?_eq_getElem (by simpa using h2))]
theorem Xq{g:Nat→Int}{left:List Nat}{i:Nat}(h:i∈left):sumI (left.map g)=g i+sumI ((left.erase i).map g):=by
 rw[Qy ((List.perm_cons_erase h).map g)];rfl
theorem Wc(s:Sto)(n:Az)(cs:List Chg)(hcs:cs.length≤1000)(RES:Option (List Chg))(hRES:RES=none)(hF:K6 cs []=RES):
 Fn Tryd.prog Ez [sP s,.v (.str n),.v (.list (cs.map Chg.toI))] (Is (.tup [.i (ti (s.tal n).bytes),.i (ti (s.tal n).keys)]) [sP s,.no,.no]):=by
 refine Jh ?_ (by simp)
 repeat'((conv=>whnf);first
  |((with_reducible refine Ax (by first|(with_reducible assumption)|(with_reducible exact Bool.of_not_eq_false (by assumption))|(with_reducible exact Bool.of_not_eq_true (by assumption))|((with_reducible refine decide_eq_true ?_);first|(with_reducible assumption)|omega)|((with_reducible refine decide_eq_false ?_);first|(with_reducible assumption)|omega)|(with_reducible rfl)) (fun hb=>?_));(try rw[hb]);(try simp only[Aa]at hb);(try subst hb))
  |((with_reducible refine Aw (by first|(with_reducible assumption)|(with_reducible exact Bool.of_not_eq_false (by assumption))|(with_reducible exact Bool.of_not_eq_true (by assumption))|((with_reducible refine decide_eq_true ?_);first|(with_reducible assumption)|omega)|((with_reducible refine decide_eq_false ?_);first|(with_reducible assumption)|omega)|(with_reducible rfl)) (fun hb=>?_));(try rw[hb]);(try simp only[Aa]at hb);(try subst hb))
  |((with_reducible refine And.intro (fun hb=>?_) (fun hb=>?_))<;>first|(with_reducible exact absurd hb (by assumption))|(exact absurd hb (by decide))|(with_reducible exact absurd hb Bool.false_ne_true)|(with_reducible exact absurd hb.symm Bool.false_ne_true)|(exfalso;first|(simp only[Bu]at hb<;>omega)|omega)|((try rw[hb]);(try simp only[Aa]at hb);(try subst hb)))
  |((with_reducible refine Exists.intro ?_ ?_);focus (and_intros<;>first|omega|(with_reducible assumption)|(with_reducible rfl)|kernel_rfl|exact rfl|assumption|(intro _ hh;cases hh;done)|exact Ah (by rfl)|exact size_map (fun _=>rfl)|exact Aj rfl|exact take_size (fun _=>rfl)|exact Ag rfl|exact Ai (fun _=>rfl)|exact Ae (fun _=>rfl)|(simp only[Bu];omega)|(simp;done)|decide))
  |(with_reducible intro hfact)
  |((with_reducible refine And.intro ?_ ?_);focus (first|(with_reducible rfl)|(exact rfl)|decide))
  |((with_reducible apply Drawn.by0);(focus kernel_rfl);intro hfact;(try simp only[dRS]at hfact))
  |((with_reducible refine CallWp.mk ?_);refine⟨_,Aj6 s n,?_⟩;rintro _ _ ⟨rfl,rfl⟩)
  |((with_reducible refine CallWp.mk ?_);refine⟨_,Akb s n,?_⟩;rintro _ _ ⟨rfl,rfl⟩))
 all_goals(try(conv=>whnf))
 refine LoopWq.by (X:=Nat × List Chg × List I × List D) (fun y=>[(31,.v (ti (y.1:Int))),(12,.own [] (.map y.2.2.1 y.2.2.2))]) (fun y=>y.1≤cs.length∧y.2.1.length≤y.1∧y.2.2.1=Dn y.2.1∧y.2.2.2=Dt y.2.1∧K6 (cs.drop y.1) y.2.1=RES∧(y.2.1.map Chg.key).Nodup∧∀c∈y.2.1,c.ok) (fun y=>cs.length - y.1) (0,[],[],[]) (by kernel_rfl) ⟨Nat.zero_le _,by simp,rfl,rfl,hF,by simp,by simp⟩ ?_
 rintro⟨j,F,KS,VS⟩ ⟨hj,hFl,e1,e2,hR,hnd,hok⟩;dsimp only at hj hFl e1 e2 hR hnd hok ⊢;subst e1 e2;have hclen:(cs.map Chg.toI).length=cs.length:=List.length_map _;have hw:IntKind.i64.wrap ((j:Int)+1)=((j+1:Nat):Int):=Dk (n:=100000) (by omega) (by simp only[maxLen];omega)
 by_cases hjl:j<cs.length
 case neg=>
  rw[List.drop_eq_nil_of_le (by omega)]at hR
  rw[←hR]at hRES;cases hRES
 obtain⟨c,he⟩:∃c,cs[j]?=some c:=⟨_,List.getElem?_eq_getElem hjl⟩;have hlt:¬decide ((j:Int)<(cs.length:Int))=false:=by simp;omega
 have hlt2:¬decide ((j:Int)<((cs.map Chg.toI).length:Int))=false:=by simp;omega
 have hdr:cs.drop j=c::cs.drop (j+1):=by rw[List.drop_eq_getElem_cons hjl];rw[List.getElem?_eq_getElem hjl]at he;cases he;rfl
 rw[hdr]at hR;simp only[K6]at hR;by_cases hc:c.ok
 ·skip
  have hok':∀x∈Bm F c,x.ok:=fun x hx=>by
   rcases Zn hx with h|h
   ·exact hok x h
   ·subst h;exact hc
  have hfl:=Zm F c;rw[if_pos hc]at hR;have hnd':=U5 (c:=c) hnd;obtain⟨⟨hc1,hc1'⟩,hc2⟩:=hc;have hmain:∀KS' VS',KS'=Dn (Bm F c)→VS'=Dt (Bm F c)→j+1≤cs.length∧(Bm F c).length≤j+1∧KS'=Dn (Bm F c)∧VS'=Dt (Bm F c)∧K6 (cs.drop (j+1)) (Bm F c)=RES∧((Bm F c).map Chg.key).Nodup∧∀c'∈Bm F c,c'.ok:=
   fun KS' VS' e1 e2=>⟨by omega,by omega,e1,e2,hR,hnd',hok'⟩
  clear hR hdr;cases hq:F.findIdx? (fun x=>decide (x.key=c.key))with
  |none=>
   obtain⟨g1,g2,g3⟩:=Xf hq;obtain⟨ck,cv,cg⟩:=c;dsimp only at hc1 hc1' hc2;cases cg with
   |true=>
    repeat'((conv=>whnf);first
     |((with_reducible refine Ax (by first|(with_reducible assumption)|(with_reducible exact Bool.of_not_eq_false (by assumption))|(with_reducible exact Bool.of_not_eq_true (by assumption))|((with_reducible refine decide_eq_true ?_);first|(with_reducible assumption)|omega)|((with_reducible refine decide_eq_false ?_);first|(with_reducible assumption)|omega)|(with_reducible rfl)) (fun hb=>?_));(try rw[hb]);(try simp only[Aa]at hb);(try subst hb))
     |((with_reducible refine Aw (by first|(with_reducible assumption)|(with_reducible exact Bool.of_not_eq_false (by assumption))|(with_reducible exact Bool.of_not_eq_true (by assumption))|((with_reducible refine decide_eq_true ?_);first|(with_reducible assumption)|omega)|((with_reducible refine decide_eq_false ?_);first|(with_reducible assumption)|omega)|(with_reducible rfl)) (fun hb=>?_));(try rw[hb]);(try simp only[Aa]at hb);(try subst hb))
     |((with_reducible refine And.intro (fun hb=>?_) (fun hb=>?_))<;>first|(with_reducible exact absurd hb (by assumption))|(exact absurd hb (by decide))|(with_reducible exact absurd hb Bool.false_ne_true)|(with_reducible exact absurd hb.symm Bool.false_ne_true)|(exfalso;first|(simp only[Bu]at hb<;>omega)|omega)|((try rw[hb]);(try simp only[Aa]at hb);(try subst hb)))
     |((with_reducible refine Exists.intro ?_ ?_);focus (and_intros<;>first|omega|(with_reducible assumption)|(with_reducible rfl)|kernel_rfl|exact rfl|assumption|(intro _ hh;cases hh;done)|exact Ah (by rfl)|exact size_map (fun _=>rfl)|exact Aj rfl|exact take_size (fun _=>rfl)|exact Ag rfl|exact Ai (fun _=>rfl)|exact Ae (fun _=>rfl)|(simp only[Bu];omega)|(simp;done)|decide))
     |(with_reducible intro hfact)
     |((with_reducible refine And.intro ?_ ?_);focus (first|(with_reducible rfl)|(exact rfl)|decide))
     |((with_reducible apply Drawn.by0);(focus kernel_rfl);intro hfact;(try simp only[dRS]at hfact))
     |((try dsimp only);first|rw[B6 he]|rw[Cb he]|rw[Cv he])
     |((try dsimp only);rw[hw])
     |((first|with_reducible apply A9|with_reducible apply Ba);(focus (simp only[D.at,D.put,D.kid,D.setKid,mkSt,Ap,D.toI,toIs,Ak,Af,g1,C7]<;>exact rfl)))
     |((first|with_reducible apply A3|with_reducible apply A2);(focus rfl);(focus (simp only[D.at,D.put,D.kid,D.setKid,mkSt,Ap,D.toI,toIs,Ak,Af,g1,C7]<;>exact rfl));(try(focus exact rfl))))
    all_goals(try(conv=>whnf))
    refine Round.by (j+1,Bm F ⟨ck,cv,true⟩,Dn F++[.str ck],Dt F++[.it (Chg.mk ck cv true).toI]) ?_ (hmain _ _ g2.symm g3.symm) (by dsimp only;omega)
    try dsimp only
    show norm _ _=upd _ _
    kernel_rfl
   |false=>
    have hc3:cv.length≤256:=by simpa using hc2
    repeat'((conv=>whnf);first
     |((with_reducible refine Ax (by first|(with_reducible assumption)|(with_reducible exact Bool.of_not_eq_false (by assumption))|(with_reducible exact Bool.of_not_eq_true (by assumption))|((with_reducible refine decide_eq_true ?_);first|(with_reducible assumption)|omega)|((with_reducible refine decide_eq_false ?_);first|(with_reducible assumption)|omega)|(with_reducible rfl)) (fun hb=>?_));(try rw[hb]);(try simp only[Aa]at hb);(try subst hb))
     |((with_reducible refine Aw (by first|(with_reducible assumption)|(with_reducible exact Bool.of_not_eq_false (by assumption))|(with_reducible exact Bool.of_not_eq_true (by assumption))|((with_reducible refine decide_eq_true ?_);first|(with_reducible assumption)|omega)|((with_reducible refine decide_eq_false ?_);first|(with_reducible assumption)|omega)|(with_reducible rfl)) (fun hb=>?_));(try rw[hb]);(try simp only[Aa]at hb);(try subst hb))
     |((with_reducible refine And.intro (fun hb=>?_) (fun hb=>?_))<;>first|(with_reducible exact absurd hb (by assumption))|(exact absurd hb (by decide))|(with_reducible exact absurd hb Bool.false_ne_true)|(with_reducible exact absurd hb.symm Bool.false_ne_true)|(exfalso;first|(simp only[Bu]at hb<;>omega)|omega)|((try rw[hb]);(try simp only[Aa]at hb);(try subst hb)))
     |((with_reducible refine Exists.intro ?_ ?_);focus (and_intros<;>first|omega|(with_reducible assumption)|(with_reducible rfl)|kernel_rfl|exact rfl|assumption|(intro _ hh;cases hh;done)|exact Ah (by rfl)|exact size_map (fun _=>rfl)|exact Aj rfl|exact take_size (fun _=>rfl)|exact Ag rfl|exact Ai (fun _=>rfl)|exact Ae (fun _=>rfl)|(simp only[Bu];omega)|(simp;done)|decide))
     |(with_reducible intro hfact)
     |((with_reducible refine And.intro ?_ ?_);focus (first|(with_reducible rfl)|(exact rfl)|decide))
     |((with_reducible apply Drawn.by0);(focus kernel_rfl);intro hfact;(try simp only[dRS]at hfact))
     |((try dsimp only);first|rw[B6 he]|rw[Cb he]|rw[Cv he])
     |((try dsimp only);rw[hw])
     |((first|with_reducible apply A9|with_reducible apply Ba);(focus (simp only[D.at,D.put,D.kid,D.setKid,mkSt,Ap,D.toI,toIs,Ak,Af,g1,C7]<;>exact rfl)))
     |((first|with_reducible apply A3|with_reducible apply A2);(focus rfl);(focus (simp only[D.at,D.put,D.kid,D.setKid,mkSt,Ap,D.toI,toIs,Ak,Af,g1,C7]<;>exact rfl));(try(focus exact rfl))))
    all_goals(try(conv=>whnf))
    refine Round.by (j+1,Bm F ⟨ck,cv,false⟩,Dn F++[.str ck],Dt F++[.it (Chg.mk ck cv false).toI]) ?_ (hmain _ _ g2.symm g3.symm) (by dsimp only;omega)
    try dsimp only
    show norm _ _=upd _ _
    kernel_rfl
  |some q=>
   obtain⟨g1,g2,g3⟩:=Xg hq;obtain⟨ck,cv,cg⟩:=c;dsimp only at hc1 hc1' hc2;cases cg with
   |true=>
    repeat'((conv=>whnf);first
     |((with_reducible refine Ax (by first|(with_reducible assumption)|(with_reducible exact Bool.of_not_eq_false (by assumption))|(with_reducible exact Bool.of_not_eq_true (by assumption))|((with_reducible refine decide_eq_true ?_);first|(with_reducible assumption)|omega)|((with_reducible refine decide_eq_false ?_);first|(with_reducible assumption)|omega)|(with_reducible rfl)) (fun hb=>?_));(try rw[hb]);(try simp only[Aa]at hb);(try subst hb))
     |((with_reducible refine Aw (by first|(with_reducible assumption)|(with_reducible exact Bool.of_not_eq_false (by assumption))|(with_reducible exact Bool.of_not_eq_true (by assumption))|((with_reducible refine decide_eq_true ?_);first|(with_reducible assumption)|omega)|((with_reducible refine decide_eq_false ?_);first|(with_reducible assumption)|omega)|(with_reducible rfl)) (fun hb=>?_));(try rw[hb]);(try simp only[Aa]at hb);(try subst hb))
     |((with_reducible refine And.intro (fun hb=>?_) (fun hb=>?_))<;>first|(with_reducible exact absurd hb (by assumption))|(exact absurd hb (by decide))|(with_reducible exact absurd hb Bool.false_ne_true)|(with_reducible exact absurd hb.symm Bool.false_ne_true)|(exfalso;first|(simp only[Bu]at hb<;>omega)|omega)|((try rw[hb]);(try simp only[Aa]at hb);(try subst hb)))
     |((with_reducible refine Exists.intro ?_ ?_);focus (and_intros<;>first|omega|(with_reducible assumption)|(with_reducible rfl)|kernel_rfl|exact rfl|assumption|(intro _ hh;cases hh;done)|exact Ah (by rfl)|exact size_map (fun _=>rfl)|exact Aj rfl|exact take_size (fun _=>rfl)|exact Ag rfl|exact Ai (fun _=>rfl)|exact Ae (fun _=>rfl)|(simp only[Bu];omega)|(simp;done)|decide))
     |(with_reducible intro hfact)
     |((with_reducible refine And.intro ?_ ?_);focus (first|(with_reducible rfl)|(exact rfl)|decide))
     |((with_reducible apply Drawn.by0);(focus kernel_rfl);intro hfact;(try simp only[dRS]at hfact))
     |((try dsimp only);first|rw[B6 he]|rw[Cb he]|rw[Cv he])
     |((try dsimp only);rw[hw])
     |((first|with_reducible apply A9|with_reducible apply Ba);(focus (simp only[D.at,D.put,D.kid,D.setKid,mkSt,Ap,D.toI,toIs,Ak,Af,g1,C7]<;>exact rfl)))
     |((first|with_reducible apply A3|with_reducible apply A2);(focus rfl);(focus (simp only[D.at,D.put,D.kid,D.setKid,mkSt,Ap,D.toI,toIs,Ak,Af,g1,C7]<;>exact rfl));(try(focus exact rfl))))
    all_goals(try(conv=>whnf))
    refine Round.by (j+1,Bm F ⟨ck,cv,true⟩,Dn F,(Dt F).set q (.it (Chg.mk ck cv true).toI)) ?_ (hmain _ _ g2.symm g3.symm) (by dsimp only;omega)
    try dsimp only
    show norm _ _=upd _ _
    kernel_rfl
   |false=>
    have hc3:cv.length≤256:=by simpa using hc2
    repeat'((conv=>whnf);first
     |((with_reducible refine Ax (by first|(with_reducible assumption)|(with_reducible exact Bool.of_not_eq_false (by assumption))|(with_reducible exact Bool.of_not_eq_true (by assumption))|((with_reducible refine decide_eq_true ?_);first|(with_reducible assumption)|omega)|((with_reducible refine decide_eq_false ?_);first|(with_reducible assumption)|omega)|(with_reducible rfl)) (fun hb=>?_));(try rw[hb]);(try simp only[Aa]at hb);(try subst hb))
     |((with_reducible refine Aw (by first|(with_reducible assumption)|(with_reducible exact Bool.of_not_eq_false (by assumption))|(with_reducible exact Bool.of_not_eq_true (by assumption))|((with_reducible refine decide_eq_true ?_);first|(with_reducible assumption)|omega)|((with_reducible refine decide_eq_false ?_);first|(with_reducible assumption)|omega)|(with_reducible rfl)) (fun hb=>?_));(try rw[hb]);(try simp only[Aa]at hb);(try subst hb))
     |((with_reducible refine And.intro (fun hb=>?_) (fun hb=>?_))<;>first|(with_reducible exact absurd hb (by assumption))|(exact absurd hb (by decide))|(with_reducible exact absurd hb Bool.false_ne_true)|(with_reducible exact absurd hb.symm Bool.false_ne_true)|(exfalso;first|(simp only[Bu]at hb<;>omega)|omega)|((try rw[hb]);(try simp only[Aa]at hb);(try subst hb)))
     |((with_reducible refine Exists.intro ?_ ?_);focus (and_intros<;>first|omega|(with_reducible assumption)|(with_reducible rfl)|kernel_rfl|exact rfl|assumption|(intro _ hh;cases hh;done)|exact Ah (by rfl)|exact size_map (fun _=>rfl)|exact Aj rfl|exact take_size (fun _=>rfl)|exact Ag rfl|exact Ai (fun _=>rfl)|exact Ae (fun _=>rfl)|(simp only[Bu];omega)|(simp;done)|decide))
     |(with_reducible intro hfact)
     |((with_reducible refine And.intro ?_ ?_);focus (first|(with_reducible rfl)|(exact rfl)|decide))
     |((with_reducible apply Drawn.by0);(focus kernel_rfl);intro hfact;(try simp only[dRS]at hfact))
     |((try dsimp only);first|rw[B6 he]|rw[Cb he]|rw[Cv he])
     |((try dsimp only);rw[hw])
     |((first|with_reducible apply A9|with_reducible apply Ba);(focus (simp only[D.at,D.put,D.kid,D.setKid,mkSt,Ap,D.toI,toIs,Ak,Af,g1,C7]<;>exact rfl)))
     |((first|with_reducible apply A3|with_reducible apply A2);(focus rfl);(focus (simp only[D.at,D.put,D.kid,D.setKid,mkSt,Ap,D.toI,toIs,Ak,Af,g1,C7]<;>exact rfl));(try(focus exact rfl))))
    all_goals(try(conv=>whnf))
    refine Round.by (j+1,Bm F ⟨ck,cv,false⟩,Dn F,(Dt F).set q (.it (Chg.mk ck cv false).toI)) ?_ (hmain _ _ g2.symm g3.symm) (by dsimp only;omega)
    try dsimp only
    show norm _ _=upd _ _
    kernel_rfl
 ·obtain⟨ck,cv,cg⟩:=c;by_cases hk:1≤ck.length∧ck.length≤64
  ·obtain⟨hk1,hk2⟩:=hk;cases cg with
   |true=>exact absurd ⟨⟨hk1,hk2⟩,.inl rfl⟩ hc
   |false=>
    have hv:¬cv.length≤256:=fun h=>hc ⟨⟨hk1,hk2⟩,.inr h⟩
    repeat'((conv=>whnf);first
     |((with_reducible refine Ax (by first|(with_reducible assumption)|(with_reducible exact Bool.of_not_eq_false (by assumption))|(with_reducible exact Bool.of_not_eq_true (by assumption))|((with_reducible refine decide_eq_true ?_);first|(with_reducible assumption)|omega)|((with_reducible refine decide_eq_false ?_);first|(with_reducible assumption)|omega)|(with_reducible rfl)) (fun hb=>?_));(try rw[hb]);(try simp only[Aa]at hb);(try subst hb))
     |((with_reducible refine Aw (by first|(with_reducible assumption)|(with_reducible exact Bool.of_not_eq_false (by assumption))|(with_reducible exact Bool.of_not_eq_true (by assumption))|((with_reducible refine decide_eq_true ?_);first|(with_reducible assumption)|omega)|((with_reducible refine decide_eq_false ?_);first|(with_reducible assumption)|omega)|(with_reducible rfl)) (fun hb=>?_));(try rw[hb]);(try simp only[Aa]at hb);(try subst hb))
     |((with_reducible refine And.intro (fun hb=>?_) (fun hb=>?_))<;>first|(with_reducible exact absurd hb (by assumption))|(exact absurd hb (by decide))|(with_reducible exact absurd hb Bool.false_ne_true)|(with_reducible exact absurd hb.symm Bool.false_ne_true)|(exfalso;first|(simp only[Bu]at hb<;>omega)|omega)|((try rw[hb]);(try simp only[Aa]at hb);(try subst hb)))
     |((with_reducible refine Exists.intro ?_ ?_);focus (and_intros<;>first|omega|(with_reducible assumption)|(with_reducible rfl)|kernel_rfl|exact rfl|assumption|(intro _ hh;cases hh;done)|exact Ah (by rfl)|exact size_map (fun _=>rfl)|exact Aj rfl|exact take_size (fun _=>rfl)|exact Ag rfl|exact Ai (fun _=>rfl)|exact Ae (fun _=>rfl)|(simp only[Bu];omega)|(simp;done)|decide))
     |(with_reducible intro hfact)
     |((with_reducible refine And.intro ?_ ?_);focus (first|(with_reducible rfl)|(exact rfl)|decide))
     |((with_reducible apply Drawn.by0);(focus kernel_rfl);intro hfact;(try simp only[dRS]at hfact))
     |((try dsimp only);first|rw[B6 he]|rw[Cb he]|rw[Cv he]))
    all_goals(try(conv=>whnf))
    (apply dKq<;>kernel_rfl)
  ·repeat'((conv=>whnf);first
    |((with_reducible refine Ax (by first|(with_reducible assumption)|(with_reducible exact Bool.of_not_eq_false (by assumption))|(with_reducible exact Bool.of_not_eq_true (by assumption))|((with_reducible refine decide_eq_true ?_);first|(with_reducible assumption)|omega)|((with_reducible refine decide_eq_false ?_);first|(with_reducible assumption)|omega)|(with_reducible rfl)) (fun hb=>?_));(try rw[hb]);(try simp only[Aa]at hb);(try subst hb))
    |((with_reducible refine Aw (by first|(with_reducible assumption)|(with_reducible exact Bool.of_not_eq_false (by assumption))|(with_reducible exact Bool.of_not_eq_true (by assumption))|((with_reducible refine decide_eq_true ?_);first|(with_reducible assumption)|omega)|((with_reducible refine decide_eq_false ?_);first|(with_reducible assumption)|omega)|(with_reducible rfl)) (fun hb=>?_));(try rw[hb]);(try simp only[Aa]at hb);(try subst hb))
    |((with_reducible refine And.intro (fun hb=>?_) (fun hb=>?_))<;>first|(with_reducible exact absurd hb (by assumption))|(exact absurd hb (by decide))|(with_reducible exact absurd hb Bool.false_ne_true)|(with_reducible exact absurd hb.symm Bool.false_ne_true)|(exfalso;first|(simp only[Bu]at hb<;>omega)|omega)|((try rw[hb]);(try simp only[Aa]at hb);(try subst hb)))
    |((with_reducible refine Exists.intro ?_ ?_);focus (and_intros<;>first|omega|(with_reducible assumption)|(with_reducible rfl)|kernel_rfl|exact rfl|assumption|(intro _ hh;cases hh;done)|exact Ah (by rfl)|exact size_map (fun _=>rfl)|exact Aj rfl|exact take_size (fun _=>rfl)|exact Ag rfl|exact Ai (fun _=>rfl)|exact Ae (fun _=>rfl)|(simp only[Bu];omega)|(simp;done)|decide))
    |(with_reducible intro hfact)
    |((with_reducible refine And.intro ?_ ?_);focus (first|(with_reducible rfl)|(exact rfl)|decide))
    |((with_reducible apply Drawn.by0);(focus kernel_rfl);intro hfact;(try simp only[dRS]at hfact))
    |((try dsimp only);first|rw[B6 he]|rw[Cb he]|rw[Cv he]))
   all_goals(try(conv=>whnf))
   all_goals first
    |(exfalso;omega)
    |(apply dKq<;>kernel_rfl)
theorem Vu(s:Sto)(n:Az)(cs:List Chg)(hcs:cs.length≤1000)(hn:n.length≤1000){m:Nat}(hI:SInv m s)(hm:m≤80000)(hf:s.fi n=none)(FF:List Chg)(RES:Option (List Chg))(hRES:RES=some FF)(hF:K6 cs []=RES):
 Fn Tryd.prog Ez [sP s,.v (.str n),.v (.list (cs.map Chg.toI))] (Is (.tup [.i (ti (s.tal n).bytes),.i (ti (s.tal n).keys)]) [sP s,.no,.no]):=by
 refine Jh ?_ (by simp)
 repeat'((conv=>whnf);first
  |((with_reducible refine Ax (by first|(with_reducible assumption)|(with_reducible exact Bool.of_not_eq_false (by assumption))|(with_reducible exact Bool.of_not_eq_true (by assumption))|((with_reducible refine decide_eq_true ?_);first|(with_reducible assumption)|omega)|((with_reducible refine decide_eq_false ?_);first|(with_reducible assumption)|omega)|(with_reducible rfl)) (fun hb=>?_));(try rw[hb]);(try simp only[Aa]at hb);(try subst hb))
  |((with_reducible refine Aw (by first|(with_reducible assumption)|(with_reducible exact Bool.of_not_eq_false (by assumption))|(with_reducible exact Bool.of_not_eq_true (by assumption))|((with_reducible refine decide_eq_true ?_);first|(with_reducible assumption)|omega)|((with_reducible refine decide_eq_false ?_);first|(with_reducible assumption)|omega)|(with_reducible rfl)) (fun hb=>?_));(try rw[hb]);(try simp only[Aa]at hb);(try subst hb))
  |((with_reducible refine And.intro (fun hb=>?_) (fun hb=>?_))<;>first|(with_reducible exact absurd hb (by assumption))|(exact absurd hb (by decide))|(with_reducible exact absurd hb Bool.false_ne_true)|(with_reducible exact absurd hb.symm Bool.false_ne_true)|(exfalso;first|(simp only[Bu]at hb<;>omega)|omega)|((try rw[hb]);(try simp only[Aa]at hb);(try subst hb)))
  |((with_reducible refine Exists.intro ?_ ?_);focus (and_intros<;>first|omega|(with_reducible assumption)|(with_reducible rfl)|kernel_rfl|exact rfl|assumption|(intro _ hh;cases hh;done)|exact Ah (by rfl)|exact size_map (fun _=>rfl)|exact Aj rfl|exact take_size (fun _=>rfl)|exact Ag rfl|exact Ai (fun _=>rfl)|exact Ae (fun _=>rfl)|(simp only[Bu];omega)|(simp;done)|decide))
  |(with_reducible intro hfact)
  |((with_reducible refine And.intro ?_ ?_);focus (first|(with_reducible rfl)|(exact rfl)|decide))
  |((with_reducible apply Drawn.by0);(focus kernel_rfl);intro hfact;(try simp only[dRS]at hfact))
  |((with_reducible refine CallWp.mk ?_);refine⟨_,Aj6 s n,?_⟩;rintro _ _ ⟨rfl,rfl⟩)
  |((with_reducible refine CallWp.mk ?_);refine⟨_,Akb s n,?_⟩;rintro _ _ ⟨rfl,rfl⟩))
 all_goals(try(conv=>whnf))
 refine LoopWq.by (X:=Nat × List Chg × List I × List D) (fun y=>[(31,.v (ti (y.1:Int))),(12,.own [] (.map y.2.2.1 y.2.2.2))]) (fun y=>y.1≤cs.length∧y.2.1.length≤y.1∧y.2.2.1=Dn y.2.1∧y.2.2.2=Dt y.2.1∧K6 (cs.drop y.1) y.2.1=RES∧(y.2.1.map Chg.key).Nodup∧∀c∈y.2.1,c.ok) (fun y=>cs.length - y.1) (0,[],[],[]) (by kernel_rfl) ⟨Nat.zero_le _,by simp,rfl,rfl,hF,by simp,by simp⟩ ?_
 rintro⟨j,F,KS,VS⟩ ⟨hj,hFl,e1,e2,hR,hnd,hok⟩;dsimp only at hj hFl e1 e2 hR hnd hok ⊢;subst e1 e2;have hclen:(cs.map Chg.toI).length=cs.length:=List.length_map _;have hw:IntKind.i64.wrap ((j:Int)+1)=((j+1:Nat):Int):=Dk (n:=100000) (by omega) (by simp only[maxLen];omega)
 by_cases hjl:j<cs.length
 ·skip
  obtain⟨c,he⟩:∃c,cs[j]?=some c:=⟨_,List.getElem?_eq_getElem hjl⟩;have hlt:¬decide ((j:Int)<(cs.length:Int))=false:=by simp;omega
  have hlt2:¬decide ((j:Int)<((cs.map Chg.toI).length:Int))=false:=by simp;omega
  have hdr:cs.drop j=c::cs.drop (j+1):=by rw[List.drop_eq_getElem_cons hjl];rw[List.getElem?_eq_getElem hjl]at he;cases he;rfl
  rw[hdr]at hR;simp only[K6]at hR;by_cases hc:c.ok
  case neg=>
   rw[if_neg hc]at hR;rw[←hR]at hRES;cases hRES
  have hok':∀x∈Bm F c,x.ok:=fun x hx=>by
   rcases Zn hx with h|h
   ·exact hok x h
   ·subst h;exact hc
  have hfl:=Zm F c;rw[if_pos hc]at hR;have hnd':=U5 (c:=c) hnd;obtain⟨⟨hc1,hc1'⟩,hc2⟩:=hc;have hmain:∀KS' VS',KS'=Dn (Bm F c)→VS'=Dt (Bm F c)→j+1≤cs.length∧(Bm F c).length≤j+1∧KS'=Dn (Bm F c)∧VS'=Dt (Bm F c)∧K6 (cs.drop (j+1)) (Bm F c)=RES∧((Bm F c).map Chg.key).Nodup∧∀c'∈Bm F c,c'.ok:=
   fun KS' VS' e1 e2=>⟨by omega,by omega,e1,e2,hR,hnd',hok'⟩
  clear hR hdr;cases hq:F.findIdx? (fun x=>decide (x.key=c.key))with
  |none=>
   obtain⟨g1,g2,g3⟩:=Xf hq;obtain⟨ck,cv,cg⟩:=c;dsimp only at hc1 hc1' hc2;cases cg with
   |true=>
    repeat'((conv=>whnf);first
     |((with_reducible refine Ax (by first|(with_reducible assumption)|(with_reducible exact Bool.of_not_eq_false (by assumption))|(with_reducible exact Bool.of_not_eq_true (by assumption))|((with_reducible refine decide_eq_true ?_);first|(with_reducible assumption)|omega)|((with_reducible refine decide_eq_false ?_);first|(with_reducible assumption)|omega)|(with_reducible rfl)) (fun hb=>?_));(try rw[hb]);(try simp only[Aa]at hb);(try subst hb))
     |((with_reducible refine Aw (by first|(with_reducible assumption)|(with_reducible exact Bool.of_not_eq_false (by assumption))|(with_reducible exact Bool.of_not_eq_true (by assumption))|((with_reducible refine decide_eq_true ?_);first|(with_reducible assumption)|omega)|((with_reducible refine decide_eq_false ?_);first|(with_reducible assumption)|omega)|(with_reducible rfl)) (fun hb=>?_));(try rw[hb]);(try simp only[Aa]at hb);(try subst hb))
     |((with_reducible refine And.intro (fun hb=>?_) (fun hb=>?_))<;>first|(with_reducible exact absurd hb (by assumption))|(exact absurd hb (by decide))|(with_reducible exact absurd hb Bool.false_ne_true)|(with_reducible exact absurd hb.symm Bool.false_ne_true)|(exfalso;first|(simp only[Bu]at hb<;>omega)|omega)|((try rw[hb]);(try simp only[Aa]at hb);(try subst hb)))
     |((with_reducible refine Exists.intro ?_ ?_);focus (and_intros<;>first|omega|(with_reducible assumption)|(with_reducible rfl)|kernel_rfl|exact rfl|assumption|(intro _ hh;cases hh;done)|exact Ah (by rfl)|exact size_map (fun _=>rfl)|exact Aj rfl|exact take_size (fun _=>rfl)|exact Ag rfl|exact Ai (fun _=>rfl)|exact Ae (fun _=>rfl)|(simp only[Bu];omega)|(simp;done)|decide))
     |(with_reducible intro hfact)
     |((with_reducible refine And.intro ?_ ?_);focus (first|(with_reducible rfl)|(exact rfl)|decide))
     |((with_reducible apply Drawn.by0);(focus kernel_rfl);intro hfact;(try simp only[dRS]at hfact))
     |((try dsimp only);first|rw[B6 he]|rw[Cb he]|rw[Cv he])
     |((try dsimp only);rw[hw])
     |((first|with_reducible apply A9|with_reducible apply Ba);(focus (simp only[D.at,D.put,D.kid,D.setKid,mkSt,Ap,D.toI,toIs,Ak,Af,g1,C7]<;>exact rfl)))
     |((first|with_reducible apply A3|with_reducible apply A2);(focus rfl);(focus (simp only[D.at,D.put,D.kid,D.setKid,mkSt,Ap,D.toI,toIs,Ak,Af,g1,C7]<;>exact rfl));(try(focus exact rfl))))
    all_goals(try(conv=>whnf))
    refine Round.by (j+1,Bm F ⟨ck,cv,true⟩,Dn F++[.str ck],Dt F++[.it (Chg.mk ck cv true).toI]) ?_ (hmain _ _ g2.symm g3.symm) (by dsimp only;omega)
    try dsimp only
    show norm _ _=upd _ _
    kernel_rfl
   |false=>
    have hc3:cv.length≤256:=by simpa using hc2
    repeat'((conv=>whnf);first
     |((with_reducible refine Ax (by first|(with_reducible assumption)|(with_reducible exact Bool.of_not_eq_false (by assumption))|(with_reducible exact Bool.of_not_eq_true (by assumption))|((with_reducible refine decide_eq_true ?_);first|(with_reducible assumption)|omega)|((with_reducible refine decide_eq_false ?_);first|(with_reducible assumption)|omega)|(with_reducible rfl)) (fun hb=>?_));(try rw[hb]);(try simp only[Aa]at hb);(try subst hb))
     |((with_reducible refine Aw (by first|(with_reducible assumption)|(with_reducible exact Bool.of_not_eq_false (by assumption))|(with_reducible exact Bool.of_not_eq_true (by assumption))|((with_reducible refine decide_eq_true ?_);first|(with_reducible assumption)|omega)|((with_reducible refine decide_eq_false ?_);first|(with_reducible assumption)|omega)|(with_reducible rfl)) (fun hb=>?_));(try rw[hb]);(try simp only[Aa]at hb);(try subst hb))
     |((with_reducible refine And.intro (fun hb=>?_) (fun hb=>?_))<;>first|(with_reducible exact absurd hb (by assumption))|(exact absurd hb (by decide))|(with_reducible exact absurd hb Bool.false_ne_true)|(with_reducible exact absurd hb.symm Bool.false_ne_true)|(exfalso;first|(simp only[Bu]at hb<;>omega)|omega)|((try rw[hb]);(try simp only[Aa]at hb);(try subst hb)))
     |((with_reducible refine Exists.intro ?_ ?_);focus (and_intros<;>first|omega|(with_reducible assumption)|(with_reducible rfl)|kernel_rfl|exact rfl|assumption|(intro _ hh;cases hh;done)|exact Ah (by rfl)|exact size_map (fun _=>rfl)|exact Aj rfl|exact take_size (fun _=>rfl)|exact Ag rfl|exact Ai (fun _=>rfl)|exact Ae (fun _=>rfl)|(simp only[Bu];omega)|(simp;done)|decide))
     |(with_reducible intro hfact)
     |((with_reducible refine And.intro ?_ ?_);focus (first|(with_reducible rfl)|(exact rfl)|decide))
     |((with_reducible apply Drawn.by0);(focus kernel_rfl);intro hfact;(try simp only[dRS]at hfact))
     |((try dsimp only);first|rw[B6 he]|rw[Cb he]|rw[Cv he])
     |((try dsimp only);rw[hw])
     |((first|with_reducible apply A9|with_reducible apply Ba);(focus (simp only[D.at,D.put,D.kid,D.setKid,mkSt,Ap,D.toI,toIs,Ak,Af,g1,C7]<;>exact rfl)))
     |((first|with_reducible apply A3|with_reducible apply A2);(focus rfl);(focus (simp only[D.at,D.put,D.kid,D.setKid,mkSt,Ap,D.toI,toIs,Ak,Af,g1,C7]<;>exact rfl));(try(focus exact rfl))))
    all_goals(try(conv=>whnf))
    refine Round.by (j+1,Bm F ⟨ck,cv,false⟩,Dn F++[.str ck],Dt F++[.it (Chg.mk ck cv false).toI]) ?_ (hmain _ _ g2.symm g3.symm) (by dsimp only;omega)
    try dsimp only
    show norm _ _=upd _ _
    kernel_rfl
  |some q=>
   obtain⟨g1,g2,g3⟩:=Xg hq;obtain⟨ck,cv,cg⟩:=c;dsimp only at hc1 hc1' hc2;cases cg with
   |true=>
    repeat'((conv=>whnf);first
     |((with_reducible refine Ax (by first|(with_reducible assumption)|(with_reducible exact Bool.of_not_eq_false (by assumption))|(with_reducible exact Bool.of_not_eq_true (by assumption))|((with_reducible refine decide_eq_true ?_);first|(with_reducible assumption)|omega)|((with_reducible refine decide_eq_false ?_);first|(with_reducible assumption)|omega)|(with_reducible rfl)) (fun hb=>?_));(try rw[hb]);(try simp only[Aa]at hb);(try subst hb))
     |((with_reducible refine Aw (by first|(with_reducible assumption)|(with_reducible exact Bool.of_not_eq_false (by assumption))|(with_reducible exact Bool.of_not_eq_true (by assumption))|((with_reducible refine decide_eq_true ?_);first|(with_reducible assumption)|omega)|((with_reducible refine decide_eq_false ?_);first|(with_reducible assumption)|omega)|(with_reducible rfl)) (fun hb=>?_));(try rw[hb]);(try simp only[Aa]at hb);(try subst hb))
     |((with_reducible refine And.intro (fun hb=>?_) (fun hb=>?_))<;>first|(with_reducible exact absurd hb (by assumption))|(exact absurd hb (by decide))|(with_reducible exact absurd hb Bool.false_ne_true)|(with_reducible exact absurd hb.symm Bool.false_ne_true)|(exfalso;first|(simp only[Bu]at hb<;>omega)|omega)|((try rw[hb]);(try simp only[Aa]at hb);(try subst hb)))
     |((with_reducible refine Exists.intro ?_ ?_);focus (and_intros<;>first|omega|(with_reducible assumption)|(with_reducible rfl)|kernel_rfl|exact rfl|assumption|(intro _ hh;cases hh;done)|exact Ah (by rfl)|exact size_map (fun _=>rfl)|exact Aj rfl|exact take_size (fun _=>rfl)|exact Ag rfl|exact Ai (fun _=>rfl)|exact Ae (fun _=>rfl)|(simp only[Bu];omega)|(simp;done)|decide))
     |(with_reducible intro hfact)
     |((with_reducible refine And.intro ?_ ?_);focus (first|(with_reducible rfl)|(exact rfl)|decide))
     |((with_reducible apply Drawn.by0);(focus kernel_rfl);intro hfact;(try simp only[dRS]at hfact))
     |((try dsimp only);first|rw[B6 he]|rw[Cb he]|rw[Cv he])
     |((try dsimp only);rw[hw])
     |((first|with_reducible apply A9|with_reducible apply Ba);(focus (simp only[D.at,D.put,D.kid,D.setKid,mkSt,Ap,D.toI,toIs,Ak,Af,g1,C7]<;>exact rfl)))
     |((first|with_reducible apply A3|with_reducible apply A2);(focus rfl);(focus (simp only[D.at,D.put,D.kid,D.setKid,mkSt,Ap,D.toI,toIs,Ak,Af,g1,C7]<;>exact rfl));(try(focus exact rfl))))
    all_goals(try(conv=>whnf))
    refine Round.by (j+1,Bm F ⟨ck,cv,true⟩,Dn F,(Dt F).set q (.it (Chg.mk ck cv true).toI)) ?_ (hmain _ _ g2.symm g3.symm) (by dsimp only;omega)
    try dsimp only
    show norm _ _=upd _ _
    kernel_rfl
   |false=>
    have hc3:cv.length≤256:=by simpa using hc2
    repeat'((conv=>whnf);first
     |((with_reducible refine Ax (by first|(with_reducible assumption)|(with_reducible exact Bool.of_not_eq_false (by assumption))|(with_reducible exact Bool.of_not_eq_true (by assumption))|((with_reducible refine decide_eq_true ?_);first|(with_reducible assumption)|omega)|((with_reducible refine decide_eq_false ?_);first|(with_reducible assumption)|omega)|(with_reducible rfl)) (fun hb=>?_));(try rw[hb]);(try simp only[Aa]at hb);(try subst hb))
     |((with_reducible refine Aw (by first|(with_reducible assumption)|(with_reducible exact Bool.of_not_eq_false (by assumption))|(with_reducible exact Bool.of_not_eq_true (by assumption))|((with_reducible refine decide_eq_true ?_);first|(with_reducible assumption)|omega)|((with_reducible refine decide_eq_false ?_);first|(with_reducible assumption)|omega)|(with_reducible rfl)) (fun hb=>?_));(try rw[hb]);(try simp only[Aa]at hb);(try subst hb))
     |((with_reducible refine And.intro (fun hb=>?_) (fun hb=>?_))<;>first|(with_reducible exact absurd hb (by assumption))|(exact absurd hb (by decide))|(with_reducible exact absurd hb Bool.false_ne_true)|(with_reducible exact absurd hb.symm Bool.false_ne_true)|(exfalso;first|(simp only[Bu]at hb<;>omega)|omega)|((try rw[hb]);(try simp only[Aa]at hb);(try subst hb)))
     |((with_reducible refine Exists.intro ?_ ?_);focus (and_intros<;>first|omega|(with_reducible assumption)|(with_reducible rfl)|kernel_rfl|exact rfl|assumption|(intro _ hh;cases hh;done)|exact Ah (by rfl)|exact size_map (fun _=>rfl)|exact Aj rfl|exact take_size (fun _=>rfl)|exact Ag rfl|exact Ai (fun _=>rfl)|exact Ae (fun _=>rfl)|(simp only[Bu];omega)|(simp;done)|decide))
     |(with_reducible intro hfact)
     |((with_reducible refine And.intro ?_ ?_);focus (first|(with_reducible rfl)|(exact rfl)|decide))
     |((with_reducible apply Drawn.by0);(focus kernel_rfl);intro hfact;(try simp only[dRS]at hfact))
     |((try dsimp only);first|rw[B6 he]|rw[Cb he]|rw[Cv he])
     |((try dsimp only);rw[hw])
     |((first|with_reducible apply A9|with_reducible apply Ba);(focus (simp only[D.at,D.put,D.kid,D.setKid,mkSt,Ap,D.toI,toIs,Ak,Af,g1,C7]<;>exact rfl)))
     |((first|with_reducible apply A3|with_reducible apply A2);(focus rfl);(focus (simp only[D.at,D.put,D.kid,D.setKid,mkSt,Ap,D.toI,toIs,Ak,Af,g1,C7]<;>exact rfl));(try(focus exact rfl))))
    all_goals(try(conv=>whnf))
    refine Round.by (j+1,Bm F ⟨ck,cv,false⟩,Dn F,(Dt F).set q (.it (Chg.mk ck cv false).toI)) ?_ (hmain _ _ g2.symm g3.symm) (by dsimp only;omega)
    try dsimp only
    show norm _ _=upd _ _
    kernel_rfl
 have hlt:¬decide ((j:Int)<(cs.length:Int))=true:=by simp;omega
 have hlt2:¬decide ((j:Int)<((cs.map Chg.toI).length:Int))=true:=by simp;omega
 rw[List.drop_eq_nil_of_le (by omega)]at hR
 have hR:some F=RES:=hR;rw[hRES]at hR;cases hR;have hFl2:FF.length≤1000:=by omega
 repeat'((conv=>whnf);first
  |((with_reducible refine Ax (by first|(with_reducible assumption)|(with_reducible exact Bool.of_not_eq_false (by assumption))|(with_reducible exact Bool.of_not_eq_true (by assumption))|((with_reducible refine decide_eq_true ?_);first|(with_reducible assumption)|omega)|((with_reducible refine decide_eq_false ?_);first|(with_reducible assumption)|omega)|(with_reducible rfl)) (fun hb=>?_));(try rw[hb]);(try simp only[Aa]at hb);(try subst hb))
  |((with_reducible refine Aw (by first|(with_reducible assumption)|(with_reducible exact Bool.of_not_eq_false (by assumption))|(with_reducible exact Bool.of_not_eq_true (by assumption))|((with_reducible refine decide_eq_true ?_);first|(with_reducible assumption)|omega)|((with_reducible refine decide_eq_false ?_);first|(with_reducible assumption)|omega)|(with_reducible rfl)) (fun hb=>?_));(try rw[hb]);(try simp only[Aa]at hb);(try subst hb))
  |((with_reducible refine And.intro (fun hb=>?_) (fun hb=>?_))<;>first|(with_reducible exact absurd hb (by assumption))|(exact absurd hb (by decide))|(with_reducible exact absurd hb Bool.false_ne_true)|(with_reducible exact absurd hb.symm Bool.false_ne_true)|(exfalso;first|(simp only[Bu]at hb<;>omega)|omega)|((try rw[hb]);(try simp only[Aa]at hb);(try subst hb)))
  |((with_reducible refine Exists.intro ?_ ?_);focus (and_intros<;>first|omega|(with_reducible assumption)|(with_reducible rfl)|kernel_rfl|exact rfl|assumption|(intro _ hh;cases hh;done)|exact Ah (by rfl)|exact size_map (fun _=>rfl)|exact Aj rfl|exact take_size (fun _=>rfl)|exact Ag rfl|exact Ai (fun _=>rfl)|exact Ae (fun _=>rfl)|(simp only[Bu];omega)|(simp;done)|decide))
  |(with_reducible intro hfact)
  |((with_reducible refine And.intro ?_ ?_);focus (first|(with_reducible rfl)|(exact rfl)|decide))
  |((with_reducible apply Drawn.by0);(focus kernel_rfl);intro hfact;(try simp only[dRS]at hfact)))
 all_goals(try(conv=>whnf))
 refine LoopWq.by (X:=Unit) (fun _=>[(64,.mit (Dn FF) (Dt FF) (List.range (Dn FF).length) none)]) (fun _=>True) (fun _=>0) () (by kernel_rfl) trivial ?_
 rintro _ _;dsimp only;cases hL:(List.range (Dn FF).length).isEmpty with
 |true=>
  repeat'((conv=>whnf);first
   |((with_reducible refine Ax (by first|(with_reducible assumption)|(with_reducible exact Bool.of_not_eq_false (by assumption))|(with_reducible exact Bool.of_not_eq_true (by assumption))|((with_reducible refine decide_eq_true ?_);first|(with_reducible assumption)|omega)|((with_reducible refine decide_eq_false ?_);first|(with_reducible assumption)|omega)|(with_reducible rfl)) (fun hb=>?_));(try rw[hb]);(try simp only[Aa]at hb);(try subst hb))
   |((with_reducible refine Aw (by first|(with_reducible assumption)|(with_reducible exact Bool.of_not_eq_false (by assumption))|(with_reducible exact Bool.of_not_eq_true (by assumption))|((with_reducible refine decide_eq_true ?_);first|(with_reducible assumption)|omega)|((with_reducible refine decide_eq_false ?_);first|(with_reducible assumption)|omega)|(with_reducible rfl)) (fun hb=>?_));(try rw[hb]);(try simp only[Aa]at hb);(try subst hb))
   |((with_reducible refine And.intro (fun hb=>?_) (fun hb=>?_))<;>first|(with_reducible exact absurd hb (by assumption))|(exact absurd hb (by decide))|(with_reducible exact absurd hb Bool.false_ne_true)|(with_reducible exact absurd hb.symm Bool.false_ne_true)|(exfalso;first|(simp only[Bu]at hb<;>omega)|omega)|((try rw[hb]);(try simp only[Aa]at hb);(try subst hb)))
   |((with_reducible refine Exists.intro ?_ ?_);focus (and_intros<;>first|omega|(with_reducible assumption)|(with_reducible rfl)|kernel_rfl|exact rfl|assumption|(intro _ hh;cases hh;done)|exact Ah (by rfl)|exact size_map (fun _=>rfl)|exact Aj rfl|exact take_size (fun _=>rfl)|exact Ag rfl|exact Ai (fun _=>rfl)|exact Ae (fun _=>rfl)|(simp only[Bu];omega)|(simp;done)|decide))
   |(with_reducible intro hfact)
   |((with_reducible refine And.intro ?_ ?_);focus (first|(with_reducible rfl)|(exact rfl)|decide))
   |((with_reducible apply Drawn.by0);(focus kernel_rfl);intro hfact;(try simp only[dRS]at hfact)))
  all_goals(try(conv=>whnf))
  (apply dKq<;>kernel_rfl)
 |false=>
  repeat'((conv=>whnf);first
   |((with_reducible refine Ax (by first|(with_reducible assumption)|(with_reducible exact Bool.of_not_eq_false (by assumption))|(with_reducible exact Bool.of_not_eq_true (by assumption))|((with_reducible refine decide_eq_true ?_);first|(with_reducible assumption)|omega)|((with_reducible refine decide_eq_false ?_);first|(with_reducible assumption)|omega)|(with_reducible rfl)) (fun hb=>?_));(try rw[hb]);(try simp only[Aa]at hb);(try subst hb))
   |((with_reducible refine Aw (by first|(with_reducible assumption)|(with_reducible exact Bool.of_not_eq_false (by assumption))|(with_reducible exact Bool.of_not_eq_true (by assumption))|((with_reducible refine decide_eq_true ?_);first|(with_reducible assumption)|omega)|((with_reducible refine decide_eq_false ?_);first|(with_reducible assumption)|omega)|(with_reducible rfl)) (fun hb=>?_));(try rw[hb]);(try simp only[Aa]at hb);(try subst hb))
   |((with_reducible refine And.intro (fun hb=>?_) (fun hb=>?_))<;>first|(with_reducible exact absurd hb (by assumption))|(exact absurd hb (by decide))|(with_reducible exact absurd hb Bool.false_ne_true)|(with_reducible exact absurd hb.symm Bool.false_ne_true)|(exfalso;first|(simp only[Bu]at hb<;>omega)|omega)|((try rw[hb]);(try simp only[Aa]at hb);(try subst hb)))
   |((with_reducible refine Exists.intro ?_ ?_);focus (and_intros<;>first|omega|(with_reducible assumption)|(with_reducible rfl)|kernel_rfl|exact rfl|assumption|(intro _ hh;cases hh;done)|exact Ah (by rfl)|exact size_map (fun _=>rfl)|exact Aj rfl|exact take_size (fun _=>rfl)|exact Ag rfl|exact Ai (fun _=>rfl)|exact Ae (fun _=>rfl)|(simp only[Bu];omega)|(simp;done)|decide))
   |(with_reducible intro hfact)
   |((with_reducible refine And.intro ?_ ?_);focus (first|(with_reducible rfl)|(exact rfl)|decide))
   |((with_reducible apply Drawn.by0);(focus kernel_rfl);intro hfact;(try simp only[dRS]at hfact)))
  all_goals(try(conv=>whnf))
  refine⟨fun i hi=>?_⟩
  have hil:i<FF.length:=by simpa[Dn]using hi
  obtain⟨c,he⟩:∃c,FF[i]?=some c:=⟨_,List.getElem?_eq_getElem hil⟩;have hco:=hok c (List.mem_of_getElem? he);have hr:=Aff hI hm n hn (spK1 c.key) 0 1;rw[show s.rangeM n (spK1 c.key) 0 1=([],false,16)by unfold Sto.rangeM;rw[if_pos (by rw[hf];rfl)]]at hr
  have hky:=Uk c.key (by have:=hco.1.2;omega)
  repeat'((conv=>whnf);first
   |((with_reducible refine Ax (by first|(with_reducible assumption)|(with_reducible exact Bool.of_not_eq_false (by assumption))|(with_reducible exact Bool.of_not_eq_true (by assumption))|((with_reducible refine decide_eq_true ?_);first|(with_reducible assumption)|omega)|((with_reducible refine decide_eq_false ?_);first|(with_reducible assumption)|omega)|(with_reducible rfl)) (fun hb=>?_));(try rw[hb]);(try simp only[Aa]at hb);(try subst hb))
   |((with_reducible refine Aw (by first|(with_reducible assumption)|(with_reducible exact Bool.of_not_eq_false (by assumption))|(with_reducible exact Bool.of_not_eq_true (by assumption))|((with_reducible refine decide_eq_true ?_);first|(with_reducible assumption)|omega)|((with_reducible refine decide_eq_false ?_);first|(with_reducible assumption)|omega)|(with_reducible rfl)) (fun hb=>?_));(try rw[hb]);(try simp only[Aa]at hb);(try subst hb))
   |((with_reducible refine And.intro (fun hb=>?_) (fun hb=>?_))<;>first|(with_reducible exact absurd hb (by assumption))|(exact absurd hb (by decide))|(with_reducible exact absurd hb Bool.false_ne_true)|(with_reducible exact absurd hb.symm Bool.false_ne_true)|(exfalso;first|(simp only[Bu]at hb<;>omega)|omega)|((try rw[hb]);(try simp only[Aa]at hb);(try subst hb)))
   |((with_reducible refine Exists.intro ?_ ?_);focus (and_intros<;>first|omega|(with_reducible assumption)|(with_reducible rfl)|kernel_rfl|exact rfl|assumption|(intro _ hh;cases hh;done)|exact Ah (by rfl)|exact size_map (fun _=>rfl)|exact Aj rfl|exact take_size (fun _=>rfl)|exact Ag rfl|exact Ai (fun _=>rfl)|exact Ae (fun _=>rfl)|(simp only[Bu];omega)|(simp;done)|decide))
   |(with_reducible intro hfact)
   |((with_reducible refine And.intro ?_ ?_);focus (first|(with_reducible rfl)|(exact rfl)|decide))
   |((with_reducible apply Drawn.by0);(focus kernel_rfl);intro hfact;(try simp only[dRS]at hfact))
   |((try dsimp only);first|rw[B6 he]|rw[Cb he]|rw[Cv he])
   |((with_reducible refine CallWp.mk ?_);refine⟨_,hky,?_⟩;rintro _ _ ⟨rfl,rfl⟩)
   |((with_reducible refine CallWp.mk ?_);refine⟨_,hr,?_⟩;rintro _ _ ⟨rfl,rfl⟩))
  all_goals(try(conv=>whnf))
  (apply dKq<;>kernel_rfl)
theorem Vt(s:Sto)(n:Az)(cs:List Chg)(hcs:cs.length≤1000)(hn:n.length≤1000){m:Nat}(hI:SInv m s)(hm:m≤80000)(q:Nat)(hf:s.fi n=some q)(FF:List Chg)(RES:Option (List Chg))(hRES:RES=some FF)(hF:K6 cs []=RES)(B0 K0 B K:Int)(hB0:(s.tal n).bytes=B0)(hK0:(s.tal n).keys=K0)(hB:B0+sumI ((List.range FF.length).map (qAt qB n s.l FF))=B)(hK:K0+sumI ((List.range FF.length).map (qAt qK n s.l FF))=K):
 Fn Tryd.prog Ez [sP s,.v (.str n),.v (.list (cs.map Chg.toI))] (Is (.tup [.i (ti B),.i (ti K)]) [sP s,.no,.no]):=by
 refine Jh ?_ (by simp)
 have hby:=Aj6 s n;have hke:=Akb s n;rw[hB0]at hby;rw[hK0]at hke;have hT:=hI.tb n;have hT1:=hT.bytes;have hT2:=hT.keys;rw[hB0]at hT1;rw[hK0]at hT2;clear hB0 hK0 hT;repeat'((conv=>whnf);first
  |((with_reducible refine Ax (by first|(with_reducible assumption)|(with_reducible exact Bool.of_not_eq_false (by assumption))|(with_reducible exact Bool.of_not_eq_true (by assumption))|((with_reducible refine decide_eq_true ?_);first|(with_reducible assumption)|omega)|((with_reducible refine decide_eq_false ?_);first|(with_reducible assumption)|omega)|(with_reducible rfl)) (fun hb=>?_));(try rw[hb]);(try simp only[Aa]at hb);(try subst hb))
  |((with_reducible refine Aw (by first|(with_reducible assumption)|(with_reducible exact Bool.of_not_eq_false (by assumption))|(with_reducible exact Bool.of_not_eq_true (by assumption))|((with_reducible refine decide_eq_true ?_);first|(with_reducible assumption)|omega)|((with_reducible refine decide_eq_false ?_);first|(with_reducible assumption)|omega)|(with_reducible rfl)) (fun hb=>?_));(try rw[hb]);(try simp only[Aa]at hb);(try subst hb))
  |((with_reducible refine And.intro (fun hb=>?_) (fun hb=>?_))<;>first|(with_reducible exact absurd hb (by assumption))|(exact absurd hb (by decide))|(with_reducible exact absurd hb Bool.false_ne_true)|(with_reducible exact absurd hb.symm Bool.false_ne_true)|(exfalso;first|(simp only[Bu]at hb<;>omega)|omega)|((try rw[hb]);(try simp only[Aa]at hb);(try subst hb)))
  |((with_reducible refine Exists.intro ?_ ?_);focus (and_intros<;>first|omega|(with_reducible assumption)|(with_reducible rfl)|kernel_rfl|exact rfl|assumption|(intro _ hh;cases hh;done)|exact Ah (by rfl)|exact size_map (fun _=>rfl)|exact Aj rfl|exact take_size (fun _=>rfl)|exact Ag rfl|exact Ai (fun _=>rfl)|exact Ae (fun _=>rfl)|(simp only[Bu];omega)|(simp;done)|decide))
  |(with_reducible intro hfact)
  |((with_reducible refine And.intro ?_ ?_);focus (first|(with_reducible rfl)|(exact rfl)|decide))
  |((with_reducible apply Drawn.by0);(focus kernel_rfl);intro hfact;(try simp only[dRS]at hfact))
  |((with_reducible refine CallWp.mk ?_);refine⟨_,hby,?_⟩;rintro _ _ ⟨rfl,rfl⟩)
  |((with_reducible refine CallWp.mk ?_);refine⟨_,hke,?_⟩;rintro _ _ ⟨rfl,rfl⟩))
 all_goals(try(conv=>whnf))
 refine LoopWq.by (X:=Nat × List Chg × List I × List D) (fun y=>[(31,.v (ti (y.1:Int))),(12,.own [] (.map y.2.2.1 y.2.2.2))]) (fun y=>y.1≤cs.length∧y.2.1.length≤y.1∧y.2.2.1=Dn y.2.1∧y.2.2.2=Dt y.2.1∧K6 (cs.drop y.1) y.2.1=RES∧(y.2.1.map Chg.key).Nodup∧∀c∈y.2.1,c.ok) (fun y=>cs.length - y.1) (0,[],[],[]) (by kernel_rfl) ⟨Nat.zero_le _,by simp,rfl,rfl,hF,by simp,by simp⟩ ?_
 rintro⟨j,F,KS,VS⟩ ⟨hj,hFl,e1,e2,hR,hnd,hok⟩;dsimp only at hj hFl e1 e2 hR hnd hok ⊢;subst e1 e2;have hclen:(cs.map Chg.toI).length=cs.length:=List.length_map _;have hw:IntKind.i64.wrap ((j:Int)+1)=((j+1:Nat):Int):=Dk (n:=100000) (by omega) (by simp only[maxLen];omega)
 by_cases hjl:j<cs.length
 ·skip
  obtain⟨c,he⟩:∃c,cs[j]?=some c:=⟨_,List.getElem?_eq_getElem hjl⟩;have hlt:¬decide ((j:Int)<(cs.length:Int))=false:=by simp;omega
  have hlt2:¬decide ((j:Int)<((cs.map Chg.toI).length:Int))=false:=by simp;omega
  have hdr:cs.drop j=c::cs.drop (j+1):=by rw[List.drop_eq_getElem_cons hjl];rw[List.getElem?_eq_getElem hjl]at he;cases he;rfl
  rw[hdr]at hR;simp only[K6]at hR;by_cases hc:c.ok
  case neg=>
   rw[if_neg hc]at hR;rw[←hR]at hRES;cases hRES
  have hok':∀x∈Bm F c,x.ok:=fun x hx=>by
   rcases Zn hx with h|h
   ·exact hok x h
   ·subst h;exact hc
  have hfl:=Zm F c;rw[if_pos hc]at hR;have hnd':=U5 (c:=c) hnd;obtain⟨⟨hc1,hc1'⟩,hc2⟩:=hc;have hmain:∀KS' VS',KS'=Dn (Bm F c)→VS'=Dt (Bm F c)→j+1≤cs.length∧(Bm F c).length≤j+1∧KS'=Dn (Bm F c)∧VS'=Dt (Bm F c)∧K6 (cs.drop (j+1)) (Bm F c)=RES∧((Bm F c).map Chg.key).Nodup∧∀c'∈Bm F c,c'.ok:=
   fun KS' VS' e1 e2=>⟨by omega,by omega,e1,e2,hR,hnd',hok'⟩
  clear hR hdr;cases hq:F.findIdx? (fun x=>decide (x.key=c.key))with
  |none=>
   obtain⟨g1,g2,g3⟩:=Xf hq;obtain⟨ck,cv,cg⟩:=c;dsimp only at hc1 hc1' hc2;cases cg with
   |true=>
    repeat'((conv=>whnf);first
     |((with_reducible refine Ax (by first|(with_reducible assumption)|(with_reducible exact Bool.of_not_eq_false (by assumption))|(with_reducible exact Bool.of_not_eq_true (by assumption))|((with_reducible refine decide_eq_true ?_);first|(with_reducible assumption)|omega)|((with_reducible refine decide_eq_false ?_);first|(with_reducible assumption)|omega)|(with_reducible rfl)) (fun hb=>?_));(try rw[hb]);(try simp only[Aa]at hb);(try subst hb))
     |((with_reducible refine Aw (by first|(with_reducible assumption)|(with_reducible exact Bool.of_not_eq_false (by assumption))|(with_reducible exact Bool.of_not_eq_true (by assumption))|((with_reducible refine decide_eq_true ?_);first|(with_reducible assumption)|omega)|((with_reducible refine decide_eq_false ?_);first|(with_reducible assumption)|omega)|(with_reducible rfl)) (fun hb=>?_));(try rw[hb]);(try simp only[Aa]at hb);(try subst hb))
     |((with_reducible refine And.intro (fun hb=>?_) (fun hb=>?_))<;>first|(with_reducible exact absurd hb (by assumption))|(exact absurd hb (by decide))|(with_reducible exact absurd hb Bool.false_ne_true)|(with_reducible exact absurd hb.symm Bool.false_ne_true)|(exfalso;first|(simp only[Bu]at hb<;>omega)|omega)|((try rw[hb]);(try simp only[Aa]at hb);(try subst hb)))
     |((with_reducible refine Exists.intro ?_ ?_);focus (and_intros<;>first|omega|(with_reducible assumption)|(with_reducible rfl)|kernel_rfl|exact rfl|assumption|(intro _ hh;cases hh;done)|exact Ah (by rfl)|exact size_map (fun _=>rfl)|exact Aj rfl|exact take_size (fun _=>rfl)|exact Ag rfl|exact Ai (fun _=>rfl)|exact Ae (fun _=>rfl)|(simp only[Bu];omega)|(simp;done)|decide))
     |(with_reducible intro hfact)
     |((with_reducible refine And.intro ?_ ?_);focus (first|(with_reducible rfl)|(exact rfl)|decide))
     |((with_reducible apply Drawn.by0);(focus kernel_rfl);intro hfact;(try simp only[dRS]at hfact))
     |((try dsimp only);first|rw[B6 he]|rw[Cb he]|rw[Cv he])
     |((try dsimp only);rw[hw])
     |((first|with_reducible apply A9|with_reducible apply Ba);(focus (simp only[D.at,D.put,D.kid,D.setKid,mkSt,Ap,D.toI,toIs,Ak,Af,g1,C7]<;>exact rfl)))
     |((first|with_reducible apply A3|with_reducible apply A2);(focus rfl);(focus (simp only[D.at,D.put,D.kid,D.setKid,mkSt,Ap,D.toI,toIs,Ak,Af,g1,C7]<;>exact rfl));(try(focus exact rfl))))
    all_goals(try(conv=>whnf))
    refine Round.by (j+1,Bm F ⟨ck,cv,true⟩,Dn F++[.str ck],Dt F++[.it (Chg.mk ck cv true).toI]) ?_ (hmain _ _ g2.symm g3.symm) (by dsimp only;omega)
    try dsimp only
    show norm _ _=upd _ _
    kernel_rfl
   |false=>
    have hc3:cv.length≤256:=by simpa using hc2
    repeat'((conv=>whnf);first
     |((with_reducible refine Ax (by first|(with_reducible assumption)|(with_reducible exact Bool.of_not_eq_false (by assumption))|(with_reducible exact Bool.of_not_eq_true (by assumption))|((with_reducible refine decide_eq_true ?_);first|(with_reducible assumption)|omega)|((with_reducible refine decide_eq_false ?_);first|(with_reducible assumption)|omega)|(with_reducible rfl)) (fun hb=>?_));(try rw[hb]);(try simp only[Aa]at hb);(try subst hb))
     |((with_reducible refine Aw (by first|(with_reducible assumption)|(with_reducible exact Bool.of_not_eq_false (by assumption))|(with_reducible exact Bool.of_not_eq_true (by assumption))|((with_reducible refine decide_eq_true ?_);first|(with_reducible assumption)|omega)|((with_reducible refine decide_eq_false ?_);first|(with_reducible assumption)|omega)|(with_reducible rfl)) (fun hb=>?_));(try rw[hb]);(try simp only[Aa]at hb);(try subst hb))
     |((with_reducible refine And.intro (fun hb=>?_) (fun hb=>?_))<;>first|(with_reducible exact absurd hb (by assumption))|(exact absurd hb (by decide))|(with_reducible exact absurd hb Bool.false_ne_true)|(with_reducible exact absurd hb.symm Bool.false_ne_true)|(exfalso;first|(simp only[Bu]at hb<;>omega)|omega)|((try rw[hb]);(try simp only[Aa]at hb);(try subst hb)))
     |((with_reducible refine Exists.intro ?_ ?_);focus (and_intros<;>first|omega|(with_reducible assumption)|(with_reducible rfl)|kernel_rfl|exact rfl|assumption|(intro _ hh;cases hh;done)|exact Ah (by rfl)|exact size_map (fun _=>rfl)|exact Aj rfl|exact take_size (fun _=>rfl)|exact Ag rfl|exact Ai (fun _=>rfl)|exact Ae (fun _=>rfl)|(simp only[Bu];omega)|(simp;done)|decide))
     |(with_reducible intro hfact)
     |((with_reducible refine And.intro ?_ ?_);focus (first|(with_reducible rfl)|(exact rfl)|decide))
     |((with_reducible apply Drawn.by0);(focus kernel_rfl);intro hfact;(try simp only[dRS]at hfact))
     |((try dsimp only);first|rw[B6 he]|rw[Cb he]|rw[Cv he])
     |((try dsimp only);rw[hw])
     |((first|with_reducible apply A9|with_reducible apply Ba);(focus (simp only[D.at,D.put,D.kid,D.setKid,mkSt,Ap,D.toI,toIs,Ak,Af,g1,C7]<;>exact rfl)))
     |((first|with_reducible apply A3|with_reducible apply A2);(focus rfl);(focus (simp only[D.at,D.put,D.kid,D.setKid,mkSt,Ap,D.toI,toIs,Ak,Af,g1,C7]<;>exact rfl));(try(focus exact rfl))))
    all_goals(try(conv=>whnf))
    refine Round.by (j+1,Bm F ⟨ck,cv,false⟩,Dn F++[.str ck],Dt F++[.it (Chg.mk ck cv false).toI]) ?_ (hmain _ _ g2.symm g3.symm) (by dsimp only;omega)
    try dsimp only
    show norm _ _=upd _ _
    kernel_rfl
  |some q=>
   obtain⟨g1,g2,g3⟩:=Xg hq;obtain⟨ck,cv,cg⟩:=c;dsimp only at hc1 hc1' hc2;cases cg with
   |true=>
    repeat'((conv=>whnf);first
     |((with_reducible refine Ax (by first|(with_reducible assumption)|(with_reducible exact Bool.of_not_eq_false (by assumption))|(with_reducible exact Bool.of_not_eq_true (by assumption))|((with_reducible refine decide_eq_true ?_);first|(with_reducible assumption)|omega)|((with_reducible refine decide_eq_false ?_);first|(with_reducible assumption)|omega)|(with_reducible rfl)) (fun hb=>?_));(try rw[hb]);(try simp only[Aa]at hb);(try subst hb))
     |((with_reducible refine Aw (by first|(with_reducible assumption)|(with_reducible exact Bool.of_not_eq_false (by assumption))|(with_reducible exact Bool.of_not_eq_true (by assumption))|((with_reducible refine decide_eq_true ?_);first|(with_reducible assumption)|omega)|((with_reducible refine decide_eq_false ?_);first|(with_reducible assumption)|omega)|(with_reducible rfl)) (fun hb=>?_));(try rw[hb]);(try simp only[Aa]at hb);(try subst hb))
     |((with_reducible refine And.intro (fun hb=>?_) (fun hb=>?_))<;>first|(with_reducible exact absurd hb (by assumption))|(exact absurd hb (by decide))|(with_reducible exact absurd hb Bool.false_ne_true)|(with_reducible exact absurd hb.symm Bool.false_ne_true)|(exfalso;first|(simp only[Bu]at hb<;>omega)|omega)|((try rw[hb]);(try simp only[Aa]at hb);(try subst hb)))
     |((with_reducible refine Exists.intro ?_ ?_);focus (and_intros<;>first|omega|(with_reducible assumption)|(with_reducible rfl)|kernel_rfl|exact rfl|assumption|(intro _ hh;cases hh;done)|exact Ah (by rfl)|exact size_map (fun _=>rfl)|exact Aj rfl|exact take_size (fun _=>rfl)|exact Ag rfl|exact Ai (fun _=>rfl)|exact Ae (fun _=>rfl)|(simp only[Bu];omega)|(simp;done)|decide))
     |(with_reducible intro hfact)
     |((with_reducible refine And.intro ?_ ?_);focus (first|(with_reducible rfl)|(exact rfl)|decide))
     |((with_reducible apply Drawn.by0);(focus kernel_rfl);intro hfact;(try simp only[dRS]at hfact))
     |((try dsimp only);first|rw[B6 he]|rw[Cb he]|rw[Cv he])
     |((try dsimp only);rw[hw])
     |((first|with_reducible apply A9|with_reducible apply Ba);(focus (simp only[D.at,D.put,D.kid,D.setKid,mkSt,Ap,D.toI,toIs,Ak,Af,g1,C7]<;>exact rfl)))
     |((first|with_reducible apply A3|with_reducible apply A2);(focus rfl);(focus (simp only[D.at,D.put,D.kid,D.setKid,mkSt,Ap,D.toI,toIs,Ak,Af,g1,C7]<;>exact rfl));(try(focus exact rfl))))
    all_goals(try(conv=>whnf))
    refine Round.by (j+1,Bm F ⟨ck,cv,true⟩,Dn F,(Dt F).set q (.it (Chg.mk ck cv true).toI)) ?_ (hmain _ _ g2.symm g3.symm) (by dsimp only;omega)
    try dsimp only
    show norm _ _=upd _ _
    kernel_rfl
   |false=>
    have hc3:cv.length≤256:=by simpa using hc2
    repeat'((conv=>whnf);first
     |((with_reducible refine Ax (by first|(with_reducible assumption)|(with_reducible exact Bool.of_not_eq_false (by assumption))|(with_reducible exact Bool.of_not_eq_true (by assumption))|((with_reducible refine decide_eq_true ?_);first|(with_reducible assumption)|omega)|((with_reducible refine decide_eq_false ?_);first|(with_reducible assumption)|omega)|(with_reducible rfl)) (fun hb=>?_));(try rw[hb]);(try simp only[Aa]at hb);(try subst hb))
     |((with_reducible refine Aw (by first|(with_reducible assumption)|(with_reducible exact Bool.of_not_eq_false (by assumption))|(with_reducible exact Bool.of_not_eq_true (by assumption))|((with_reducible refine decide_eq_true ?_);first|(with_reducible assumption)|omega)|((with_reducible refine decide_eq_false ?_);first|(with_reducible assumption)|omega)|(with_reducible rfl)) (fun hb=>?_));(try rw[hb]);(try simp only[Aa]at hb);(try subst hb))
     |((with_reducible refine And.intro (fun hb=>?_) (fun hb=>?_))<;>first|(with_reducible exact absurd hb (by assumption))|(exact absurd hb (by decide))|(with_reducible exact absurd hb Bool.false_ne_true)|(with_reducible exact absurd hb.symm Bool.false_ne_true)|(exfalso;first|(simp only[Bu]at hb<;>omega)|omega)|((try rw[hb]);(try simp only[Aa]at hb);(try subst hb)))
     |((with_reducible refine Exists.intro ?_ ?_);focus (and_intros<;>first|omega|(with_reducible assumption)|(with_reducible rfl)|kernel_rfl|exact rfl|assumption|(intro _ hh;cases hh;done)|exact Ah (by rfl)|exact size_map (fun _=>rfl)|exact Aj rfl|exact take_size (fun _=>rfl)|exact Ag rfl|exact Ai (fun _=>rfl)|exact Ae (fun _=>rfl)|(simp only[Bu];omega)|(simp;done)|decide))
     |(with_reducible intro hfact)
     |((with_reducible refine And.intro ?_ ?_);focus (first|(with_reducible rfl)|(exact rfl)|decide))
     |((with_reducible apply Drawn.by0);(focus kernel_rfl);intro hfact;(try simp only[dRS]at hfact))
     |((try dsimp only);first|rw[B6 he]|rw[Cb he]|rw[Cv he])
     |((try dsimp only);rw[hw])
     |((first|with_reducible apply A9|with_reducible apply Ba);(focus (simp only[D.at,D.put,D.kid,D.setKid,mkSt,Ap,D.toI,toIs,Ak,Af,g1,C7]<;>exact rfl)))
     |((first|with_reducible apply A3|with_reducible apply A2);(focus rfl);(focus (simp only[D.at,D.put,D.kid,D.setKid,mkSt,Ap,D.toI,toIs,Ak,Af,g1,C7]<;>exact rfl));(try(focus exact rfl))))
    all_goals(try(conv=>whnf))
    refine Round.by (j+1,Bm F ⟨ck,cv,false⟩,Dn F,(Dt F).set q (.it (Chg.mk ck cv false).toI)) ?_ (hmain _ _ g2.symm g3.symm) (by dsimp only;omega)
    try dsimp only
    show norm _ _=upd _ _
    kernel_rfl
 have hlt:¬decide ((j:Int)<(cs.length:Int))=true:=by simp;omega
 have hlt2:¬decide ((j:Int)<((cs.map Chg.toI).length:Int))=true:=by simp;omega
 rw[List.drop_eq_nil_of_le (by omega)]at hR
 have hR:some F=RES:=hR;rw[hRES]at hR;cases hR;have hFl2:FF.length≤1000:=by omega
 repeat'((conv=>whnf);first
  |((with_reducible refine Ax (by first|(with_reducible assumption)|(with_reducible exact Bool.of_not_eq_false (by assumption))|(with_reducible exact Bool.of_not_eq_true (by assumption))|((with_reducible refine decide_eq_true ?_);first|(with_reducible assumption)|omega)|((with_reducible refine decide_eq_false ?_);first|(with_reducible assumption)|omega)|(with_reducible rfl)) (fun hb=>?_));(try rw[hb]);(try simp only[Aa]at hb);(try subst hb))
  |((with_reducible refine Aw (by first|(with_reducible assumption)|(with_reducible exact Bool.of_not_eq_false (by assumption))|(with_reducible exact Bool.of_not_eq_true (by assumption))|((with_reducible refine decide_eq_true ?_);first|(with_reducible assumption)|omega)|((with_reducible refine decide_eq_false ?_);first|(with_reducible assumption)|omega)|(with_reducible rfl)) (fun hb=>?_));(try rw[hb]);(try simp only[Aa]at hb);(try subst hb))
  |((with_reducible refine And.intro (fun hb=>?_) (fun hb=>?_))<;>first|(with_reducible exact absurd hb (by assumption))|(exact absurd hb (by decide))|(with_reducible exact absurd hb Bool.false_ne_true)|(with_reducible exact absurd hb.symm Bool.false_ne_true)|(exfalso;first|(simp only[Bu]at hb<;>omega)|omega)|((try rw[hb]);(try simp only[Aa]at hb);(try subst hb)))
  |((with_reducible refine Exists.intro ?_ ?_);focus (and_intros<;>first|omega|(with_reducible assumption)|(with_reducible rfl)|kernel_rfl|exact rfl|assumption|(intro _ hh;cases hh;done)|exact Ah (by rfl)|exact size_map (fun _=>rfl)|exact Aj rfl|exact take_size (fun _=>rfl)|exact Ag rfl|exact Ai (fun _=>rfl)|exact Ae (fun _=>rfl)|(simp only[Bu];omega)|(simp;done)|decide))
  |(with_reducible intro hfact)
  |((with_reducible refine And.intro ?_ ?_);focus (first|(with_reducible rfl)|(exact rfl)|decide))
  |((with_reducible apply Drawn.by0);(focus kernel_rfl);intro hfact;(try simp only[dRS]at hfact)))
 all_goals(try(conv=>whnf))
 refine LoopWq.by (X:=List Nat × Option Nat × Int × Int) (fun y=>[(64,.mit (Dn FF) (Dt FF) y.1 y.2.1),(8,.v (ti y.2.2.1)),(9,.v (ti y.2.2.2))])
  (fun y=>(∀i∈y.1,i<FF.length)∧y.1.length≤FF.length∧y.2.2.1+sumI (y.1.map (qAt qB n s.l FF))=B∧y.2.2.2+sumI (y.1.map (qAt qK n s.l FF))=K∧(B0 - 1400*((FF.length - y.1.length:Nat):Int)≤y.2.2.1∧y.2.2.1≤B0+1400*((FF.length - y.1.length:Nat):Int))∧(K0 - ((FF.length - y.1.length:Nat):Int)≤y.2.2.2∧y.2.2.2≤K0+((FF.length - y.1.length:Nat):Int)))
  (fun y=>y.1.length) (List.range (Dn FF).length,none,B0,K0) (by kernel_rfl) ⟨by simp[Dn],by simp[Dn],by simpa[Dn]using hB,by simpa[Dn]using hK,by simp[Dn],by simp[Dn]⟩ ?_
 rintro⟨left,cur,b,k⟩ ⟨hlt3,hll,hsB,hsK,hb1,hk1⟩;dsimp only at hlt3 hll hsB hsK hb1 hk1 ⊢;cases hL:left.isEmpty with
 |true=>
  have hnil:left=[]:=by simpa using hL
  subst hnil;have e1:b=B:=by simpa[sumI]using hsB
  have e2:k=K:=by simpa[sumI]using hsK
  subst e1 e2;repeat'((conv=>whnf);first
   |((with_reducible refine Ax (by first|(with_reducible assumption)|(with_reducible exact Bool.of_not_eq_false (by assumption))|(with_reducible exact Bool.of_not_eq_true (by assumption))|((with_reducible refine decide_eq_true ?_);first|(with_reducible assumption)|omega)|((with_reducible refine decide_eq_false ?_);first|(with_reducible assumption)|omega)|(with_reducible rfl)) (fun hb=>?_));(try rw[hb]);(try simp only[Aa]at hb);(try subst hb))
   |((with_reducible refine Aw (by first|(with_reducible assumption)|(with_reducible exact Bool.of_not_eq_false (by assumption))|(with_reducible exact Bool.of_not_eq_true (by assumption))|((with_reducible refine decide_eq_true ?_);first|(with_reducible assumption)|omega)|((with_reducible refine decide_eq_false ?_);first|(with_reducible assumption)|omega)|(with_reducible rfl)) (fun hb=>?_));(try rw[hb]);(try simp only[Aa]at hb);(try subst hb))
   |((with_reducible refine And.intro (fun hb=>?_) (fun hb=>?_))<;>first|(with_reducible exact absurd hb (by assumption))|(exact absurd hb (by decide))|(with_reducible exact absurd hb Bool.false_ne_true)|(with_reducible exact absurd hb.symm Bool.false_ne_true)|(exfalso;first|(simp only[Bu]at hb<;>omega)|omega)|((try rw[hb]);(try simp only[Aa]at hb);(try subst hb)))
   |((with_reducible refine Exists.intro ?_ ?_);focus (and_intros<;>first|omega|(with_reducible assumption)|(with_reducible rfl)|kernel_rfl|exact rfl|assumption|(intro _ hh;cases hh;done)|exact Ah (by rfl)|exact size_map (fun _=>rfl)|exact Aj rfl|exact take_size (fun _=>rfl)|exact Ag rfl|exact Ai (fun _=>rfl)|exact Ae (fun _=>rfl)|(simp only[Bu];omega)|(simp;done)|decide))
   |(with_reducible intro hfact)
   |((with_reducible refine And.intro ?_ ?_);focus (first|(with_reducible rfl)|(exact rfl)|decide))
   |((with_reducible apply Drawn.by0);(focus kernel_rfl);intro hfact;(try simp only[dRS]at hfact)))
  all_goals(try(conv=>whnf))
  (apply dKq<;>kernel_rfl)
 |false=>
  repeat'((conv=>whnf);first
   |((with_reducible refine Ax (by first|(with_reducible assumption)|(with_reducible exact Bool.of_not_eq_false (by assumption))|(with_reducible exact Bool.of_not_eq_true (by assumption))|((with_reducible refine decide_eq_true ?_);first|(with_reducible assumption)|omega)|((with_reducible refine decide_eq_false ?_);first|(with_reducible assumption)|omega)|(with_reducible rfl)) (fun hb=>?_));(try rw[hb]);(try simp only[Aa]at hb);(try subst hb))
   |((with_reducible refine Aw (by first|(with_reducible assumption)|(with_reducible exact Bool.of_not_eq_false (by assumption))|(with_reducible exact Bool.of_not_eq_true (by assumption))|((with_reducible refine decide_eq_true ?_);first|(with_reducible assumption)|omega)|((with_reducible refine decide_eq_false ?_);first|(with_reducible assumption)|omega)|(with_reducible rfl)) (fun hb=>?_));(try rw[hb]);(try simp only[Aa]at hb);(try subst hb))
   |((with_reducible refine And.intro (fun hb=>?_) (fun hb=>?_))<;>first|(with_reducible exact absurd hb (by assumption))|(exact absurd hb (by decide))|(with_reducible exact absurd hb Bool.false_ne_true)|(with_reducible exact absurd hb.symm Bool.false_ne_true)|(exfalso;first|(simp only[Bu]at hb<;>omega)|omega)|((try rw[hb]);(try simp only[Aa]at hb);(try subst hb)))
   |((with_reducible refine Exists.intro ?_ ?_);focus (and_intros<;>first|omega|(with_reducible assumption)|(with_reducible rfl)|kernel_rfl|exact rfl|assumption|(intro _ hh;cases hh;done)|exact Ah (by rfl)|exact size_map (fun _=>rfl)|exact Aj rfl|exact take_size (fun _=>rfl)|exact Ag rfl|exact Ai (fun _=>rfl)|exact Ae (fun _=>rfl)|(simp only[Bu];omega)|(simp;done)|decide))
   |(with_reducible intro hfact)
   |((with_reducible refine And.intro ?_ ?_);focus (first|(with_reducible rfl)|(exact rfl)|decide))
   |((with_reducible apply Drawn.by0);(focus kernel_rfl);intro hfact;(try simp only[dRS]at hfact)))
  all_goals(try(conv=>whnf))
  refine⟨fun i hi=>?_⟩
  have hil:=hlt3 i hi;obtain⟨c,he⟩:∃c,FF[i]?=some c:=⟨_,List.getElem?_eq_getElem hil⟩;have hco:=hok c (List.mem_of_getElem? he);have hr:=Aff hI hm n hn (spK1 c.key) 0 1;rw[Xn hI hf hco.1.2]at hr;have hky:=Uk c.key (by have:=hco.1.2;omega)
  rw[Xq hi,Ts he]at hsB hsK;have hel:(left.erase i).length=left.length - 1:=List.length_erase_of_mem hi;have hpos:1≤left.length:=List.length_pos_of_mem hi;have hmem:∀x∈left.erase i,x<FF.length:=fun x hx=>hlt3 x (List.mem_of_mem_erase hx)
  have hwv:=Abt hI.lb (B7 n c.key);generalize Q1 s.l (B7 n c.key)=was at*;obtain⟨wr,wm,wv,wg⟩:=was;obtain⟨ck,cv,cg⟩:=c;obtain⟨⟨hc1,hc2⟩,hc3⟩:=hco;obtain⟨SB,hSB⟩:∃S,sumI ((left.erase i).map (qAt qB n s.l FF))=S:=⟨_,rfl⟩;obtain⟨SK,hSK⟩:∃S,sumI ((left.erase i).map (qAt qK n s.l FF))=S:=⟨_,rfl⟩;rw[hSB]at hsB;rw[hSK]at hsK;unfold qB at hsB;unfold qK at hsK;dsimp only at hwv hc1 hc2 hc3 hsB hsK hr hky;unfold Vw at hr;dsimp only at hr;have hfin:∀(b' k':Int),b'+SB=B→k'+SK=K→(b - 1400≤b'∧b'≤b+1400)→(k - 1≤k'∧k'≤k+1)→
   (∀i_1∈left.erase i,i_1<FF.length)∧(left.erase i).length≤FF.length∧b'+sumI ((left.erase i).map (qAt qB n s.l FF))=B∧k'+sumI ((left.erase i).map (qAt qK n s.l FF))=K∧(B0 - 1400*((FF.length - (left.erase i).length:Nat):Int)≤b'∧b'≤B0+1400*((FF.length - (left.erase i).length:Nat):Int))∧(K0 - ((FF.length - (left.erase i).length:Nat):Int)≤k'∧k'≤K0+((FF.length - (left.erase i).length:Nat):Int)):=
   fun b' k' h1 h2 h3 h4=>⟨hmem,by omega,by rw[hSB];exact h1,by rw[hSK];exact h2,by rw[hel];omega,by rw[hel];omega⟩
  cases wg with
  |true=>
   simp only[if_true]at hr hsB hsK;cases cg with
   |true=>
    simp only[if_true]at hsB hsK;repeat'((conv=>whnf);first
     |((with_reducible refine Ax (by first|(with_reducible assumption)|(with_reducible exact Bool.of_not_eq_false (by assumption))|(with_reducible exact Bool.of_not_eq_true (by assumption))|((with_reducible refine decide_eq_true ?_);first|(with_reducible assumption)|omega)|((with_reducible refine decide_eq_false ?_);first|(with_reducible assumption)|omega)|(with_reducible rfl)) (fun hb=>?_));(try rw[hb]);(try simp only[Aa]at hb);(try subst hb))
     |((with_reducible refine Aw (by first|(with_reducible assumption)|(with_reducible exact Bool.of_not_eq_false (by assumption))|(with_reducible exact Bool.of_not_eq_true (by assumption))|((with_reducible refine decide_eq_true ?_);first|(with_reducible assumption)|omega)|((with_reducible refine decide_eq_false ?_);first|(with_reducible assumption)|omega)|(with_reducible rfl)) (fun hb=>?_));(try rw[hb]);(try simp only[Aa]at hb);(try subst hb))
     |((with_reducible refine And.intro (fun hb=>?_) (fun hb=>?_))<;>first|(with_reducible exact absurd hb (by assumption))|(exact absurd hb (by decide))|(with_reducible exact absurd hb Bool.false_ne_true)|(with_reducible exact absurd hb.symm Bool.false_ne_true)|(exfalso;first|(simp only[Bu]at hb<;>omega)|omega)|((try rw[hb]);(try simp only[Aa]at hb);(try subst hb)))
     |((with_reducible refine Exists.intro ?_ ?_);focus (and_intros<;>first|omega|(with_reducible assumption)|(with_reducible rfl)|kernel_rfl|exact rfl|assumption|(intro _ hh;cases hh;done)|exact Ah (by rfl)|exact size_map (fun _=>rfl)|exact Aj rfl|exact take_size (fun _=>rfl)|exact Ag rfl|exact Ai (fun _=>rfl)|exact Ae (fun _=>rfl)|(simp only[Bu];omega)|(simp;done)|decide))
     |(with_reducible intro hfact)
     |((with_reducible refine And.intro ?_ ?_);focus (first|(with_reducible rfl)|(exact rfl)|decide))
     |((with_reducible apply Drawn.by0);(focus kernel_rfl);intro hfact;(try simp only[dRS]at hfact))
     |((try dsimp only);first|rw[B6 he]|rw[Cb he]|rw[Cv he])
     |((with_reducible refine CallWp.mk ?_);refine⟨_,hky,?_⟩;rintro _ _ ⟨rfl,rfl⟩)
     |((with_reducible refine CallWp.mk ?_);refine⟨_,hr,?_⟩;rintro _ _ ⟨rfl,rfl⟩))
    all_goals(try(conv=>whnf))
    refine Round.by (left.erase i,some i,b,k) ?_ (hfin (b) (k) (by omega) (by omega) (by omega) (by omega)) (by dsimp only;omega)
    try dsimp only
    show norm _ _=upd _ _
    kernel_rfl
   |false=>
    have hc4:cv.length≤256:=by simpa using hc3
    simp only[Bool.false_eq_true,if_false]at hsB hsK;have w1:IntKind.i64.wrap (k+1)=k+1:=Bf (by omega)
    have w2:IntKind.i64.wrap ((ck.length:Int)+(cv.length:Int))=(ck.length:Int)+(cv.length:Int):=Bf (by omega)
    have w3:IntKind.i64.wrap (b+((ck.length:Int)+(cv.length:Int)))=b+((ck.length:Int)+(cv.length:Int)):=Bf (by omega)
    repeat'((conv=>whnf);first
     |((with_reducible refine Ax (by first|(with_reducible assumption)|(with_reducible exact Bool.of_not_eq_false (by assumption))|(with_reducible exact Bool.of_not_eq_true (by assumption))|((with_reducible refine decide_eq_true ?_);first|(with_reducible assumption)|omega)|((with_reducible refine decide_eq_false ?_);first|(with_reducible assumption)|omega)|(with_reducible rfl)) (fun hb=>?_));(try rw[hb]);(try simp only[Aa]at hb);(try subst hb))
     |((with_reducible refine Aw (by first|(with_reducible assumption)|(with_reducible exact Bool.of_not_eq_false (by assumption))|(with_reducible exact Bool.of_not_eq_true (by assumption))|((with_reducible refine decide_eq_true ?_);first|(with_reducible assumption)|omega)|((with_reducible refine decide_eq_false ?_);first|(with_reducible assumption)|omega)|(with_reducible rfl)) (fun hb=>?_));(try rw[hb]);(try simp only[Aa]at hb);(try subst hb))
     |((with_reducible refine And.intro (fun hb=>?_) (fun hb=>?_))<;>first|(with_reducible exact absurd hb (by assumption))|(exact absurd hb (by decide))|(with_reducible exact absurd hb Bool.false_ne_true)|(with_reducible exact absurd hb.symm Bool.false_ne_true)|(exfalso;first|(simp only[Bu]at hb<;>omega)|omega)|((try rw[hb]);(try simp only[Aa]at hb);(try subst hb)))
     |((with_reducible refine Exists.intro ?_ ?_);focus (and_intros<;>first|omega|(with_reducible assumption)|(with_reducible rfl)|kernel_rfl|exact rfl|assumption|(intro _ hh;cases hh;done)|exact Ah (by rfl)|exact size_map (fun _=>rfl)|exact Aj rfl|exact take_size (fun _=>rfl)|exact Ag rfl|exact Ai (fun _=>rfl)|exact Ae (fun _=>rfl)|(simp only[Bu];omega)|(simp;done)|decide))
     |(with_reducible intro hfact)
     |((with_reducible refine And.intro ?_ ?_);focus (first|(with_reducible rfl)|(exact rfl)|decide))
     |((with_reducible apply Drawn.by0);(focus kernel_rfl);intro hfact;(try simp only[dRS]at hfact))
     |((try dsimp only);first|rw[B6 he]|rw[Cb he]|rw[Cv he])
     |((with_reducible refine CallWp.mk ?_);refine⟨_,hky,?_⟩;rintro _ _ ⟨rfl,rfl⟩)
     |((with_reducible refine CallWp.mk ?_);refine⟨_,hr,?_⟩;rintro _ _ ⟨rfl,rfl⟩)
     |((try dsimp only);rw[w2])
     |((try dsimp only);rw[w1])
     |((try dsimp only);rw[w3]))
    all_goals(try(conv=>whnf))
    refine Round.by (left.erase i,some i,b+((ck.length:Int)+(cv.length:Int)),k+1) ?_ (hfin (b+((ck.length:Int)+(cv.length:Int))) (k+1) (by omega) (by omega) (by omega) (by omega)) (by dsimp only;omega)
    try dsimp only
    show norm _ _=upd _ _
    kernel_rfl
  |false=>
   simp only[Bool.false_eq_true,if_false]at hr hsB hsK;have v1:IntKind.i64.wrap (k - 1)=k - 1:=Bf (by omega)
   have v2:IntKind.i64.wrap ((ck.length:Int)+(wv.length:Int))=(ck.length:Int)+(wv.length:Int):=Bf (by omega)
   have v3:IntKind.i64.wrap (b - ((ck.length:Int)+(wv.length:Int)))=b - ((ck.length:Int)+(wv.length:Int)):=Bf (by omega)
   cases cg with
   |true=>
    simp only[if_true]at hsB hsK;repeat'((conv=>whnf);first
     |((with_reducible refine Ax (by first|(with_reducible assumption)|(with_reducible exact Bool.of_not_eq_false (by assumption))|(with_reducible exact Bool.of_not_eq_true (by assumption))|((with_reducible refine decide_eq_true ?_);first|(with_reducible assumption)|omega)|((with_reducible refine decide_eq_false ?_);first|(with_reducible assumption)|omega)|(with_reducible rfl)) (fun hb=>?_));(try rw[hb]);(try simp only[Aa]at hb);(try subst hb))
     |((with_reducible refine Aw (by first|(with_reducible assumption)|(with_reducible exact Bool.of_not_eq_false (by assumption))|(with_reducible exact Bool.of_not_eq_true (by assumption))|((with_reducible refine decide_eq_true ?_);first|(with_reducible assumption)|omega)|((with_reducible refine decide_eq_false ?_);first|(with_reducible assumption)|omega)|(with_reducible rfl)) (fun hb=>?_));(try rw[hb]);(try simp only[Aa]at hb);(try subst hb))
     |((with_reducible refine And.intro (fun hb=>?_) (fun hb=>?_))<;>first|(with_reducible exact absurd hb (by assumption))|(exact absurd hb (by decide))|(with_reducible exact absurd hb Bool.false_ne_true)|(with_reducible exact absurd hb.symm Bool.false_ne_true)|(exfalso;first|(simp only[Bu]at hb<;>omega)|omega)|((try rw[hb]);(try simp only[Aa]at hb);(try subst hb)))
     |((with_reducible refine Exists.intro ?_ ?_);focus (and_intros<;>first|omega|(with_reducible assumption)|(with_reducible rfl)|kernel_rfl|exact rfl|assumption|(intro _ hh;cases hh;done)|exact Ah (by rfl)|exact size_map (fun _=>rfl)|exact Aj rfl|exact take_size (fun _=>rfl)|exact Ag rfl|exact Ai (fun _=>rfl)|exact Ae (fun _=>rfl)|(simp only[Bu];omega)|(simp;done)|decide))
     |(with_reducible intro hfact)
     |((with_reducible refine And.intro ?_ ?_);focus (first|(with_reducible rfl)|(exact rfl)|decide))
     |((with_reducible apply Drawn.by0);(focus kernel_rfl);intro hfact;(try simp only[dRS]at hfact))
     |((try dsimp only);first|rw[B6 he]|rw[Cb he]|rw[Cv he])
     |((with_reducible refine CallWp.mk ?_);refine⟨_,hky,?_⟩;rintro _ _ ⟨rfl,rfl⟩)
     |((with_reducible refine CallWp.mk ?_);refine⟨_,hr,?_⟩;rintro _ _ ⟨rfl,rfl⟩)
     |((try dsimp only);rw[v2])
     |((try dsimp only);rw[v1])
     |((try dsimp only);rw[v3]))
    all_goals(try(conv=>whnf))
    refine Round.by (left.erase i,some i,b - ((ck.length:Int)+(wv.length:Int)),k - 1) ?_ (hfin (b - ((ck.length:Int)+(wv.length:Int))) (k - 1) (by omega) (by omega) (by omega) (by omega)) (by dsimp only;omega)
    try dsimp only
    show norm _ _=upd _ _
    kernel_rfl
   |false=>
    have hc4:cv.length≤256:=by simpa using hc3
    simp only[Bool.false_eq_true,if_false]at hsB hsK;have w1:IntKind.i64.wrap (k - 1+1)=k:=by rw[Bf (by omega)];omega
    have w2:IntKind.i64.wrap ((ck.length:Int)+(cv.length:Int))=(ck.length:Int)+(cv.length:Int):=Bf (by omega)
    have w3:IntKind.i64.wrap (b - ((ck.length:Int)+(wv.length:Int))+((ck.length:Int)+(cv.length:Int)))=b+((cv.length:Int) - (wv.length:Int)):=by rw[Bf (by omega)];omega
    repeat'((conv=>whnf);first
     |((with_reducible refine Ax (by first|(with_reducible assumption)|(with_reducible exact Bool.of_not_eq_false (by assumption))|(with_reducible exact Bool.of_not_eq_true (by assumption))|((with_reducible refine decide_eq_true ?_);first|(with_reducible assumption)|omega)|((with_reducible refine decide_eq_false ?_);first|(with_reducible assumption)|omega)|(with_reducible rfl)) (fun hb=>?_));(try rw[hb]);(try simp only[Aa]at hb);(try subst hb))
     |((with_reducible refine Aw (by first|(with_reducible assumption)|(with_reducible exact Bool.of_not_eq_false (by assumption))|(with_reducible exact Bool.of_not_eq_true (by assumption))|((with_reducible refine decide_eq_true ?_);first|(with_reducible assumption)|omega)|((with_reducible refine decide_eq_false ?_);first|(with_reducible assumption)|omega)|(with_reducible rfl)) (fun hb=>?_));(try rw[hb]);(try simp only[Aa]at hb);(try subst hb))
     |((with_reducible refine And.intro (fun hb=>?_) (fun hb=>?_))<;>first|(with_reducible exact absurd hb (by assumption))|(exact absurd hb (by decide))|(with_reducible exact absurd hb Bool.false_ne_true)|(with_reducible exact absurd hb.symm Bool.false_ne_true)|(exfalso;first|(simp only[Bu]at hb<;>omega)|omega)|((try rw[hb]);(try simp only[Aa]at hb);(try subst hb)))
     |((with_reducible refine Exists.intro ?_ ?_);focus (and_intros<;>first|omega|(with_reducible assumption)|(with_reducible rfl)|kernel_rfl|exact rfl|assumption|(intro _ hh;cases hh;done)|exact Ah (by rfl)|exact size_map (fun _=>rfl)|exact Aj rfl|exact take_size (fun _=>rfl)|exact Ag rfl|exact Ai (fun _=>rfl)|exact Ae (fun _=>rfl)|(simp only[Bu];omega)|(simp;done)|decide))
     |(with_reducible intro hfact)
     |((with_reducible refine And.intro ?_ ?_);focus (first|(with_reducible rfl)|(exact rfl)|decide))
     |((with_reducible apply Drawn.by0);(focus kernel_rfl);intro hfact;(try simp only[dRS]at hfact))
     |((try dsimp only);first|rw[B6 he]|rw[Cb he]|rw[Cv he])
     |((with_reducible refine CallWp.mk ?_);refine⟨_,hky,?_⟩;rintro _ _ ⟨rfl,rfl⟩)
     |((with_reducible refine CallWp.mk ?_);refine⟨_,hr,?_⟩;rintro _ _ ⟨rfl,rfl⟩)
     |((try dsimp only);rw[v2])
     |((try dsimp only);rw[v1])
     |((try dsimp only);rw[v3])
     |((try dsimp only);rw[w2])
     |((try dsimp only);rw[w1])
     |((try dsimp only);rw[w3]))
    all_goals(try(conv=>whnf))
    refine Round.by (left.erase i,some i,b+((cv.length:Int) - (wv.length:Int)),k) ?_ (hfin (b+((cv.length:Int) - (wv.length:Int))) (k) (by omega) (by omega) (by omega) (by omega)) (by dsimp only;omega)
    try dsimp only
    show norm _ _=upd _ _
    kernel_rfl
end Go.Ab
