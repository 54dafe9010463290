/- Lemmas -/
import Derived.Test.YtkpojedpcabojaaDoorU1
set_option linter.unusedVariables false
set_option linter.unusedSimpArgs false
set_option maxRecDepth 100000
set_option maxHeartbeats 40000000
namespace Go.Ab
open Go.Proofs
def Sto.afterM(s:Sto)(n:Az)(cs:List Chg):Int × Int:=(((s.writeM n cs).1.tal n).bytes,((s.writeM n cs).1.tal n).keys)
theorem Wb{m:Nat}{s:Sto}(hI:SInv m s)(hm:m≤80000)(n:Az)(hn:n.length≤1000)(cs:List Chg)(hcs:cs.length≤1000):
 Fn Tryd.prog Ez [sP s,.v (.str n),.v (.list (cs.map Chg.toI))] (Is (.tup [.i (ti (s.afterM n cs).1),.i (ti (s.afterM n cs).2)]) [sP s,.no,.no]):=by
 cases hF:K6 cs []with
 |none=>
  unfold Sto.afterM;rw[Lr (.inr hF)];exact Wc s n cs hcs none rfl hF
 |some FF=>
  cases hf:s.fi n with
  |none=>
   unfold Sto.afterM;rw[Lr (.inl hf)];exact Vu s n cs hcs hn hI hm hf FF _ rfl hF
  |some q=>
   obtain⟨h1,h2⟩:=Mb hI hf hF;unfold Sto.afterM;dsimp only;rw[h1,h2];exact Vt s n cs hcs hn hI hm q hf FF _ rfl hF _ _ _ _ rfl rfl (by rw[Q0]) (by rw[Q0])
def tenI(n:Az)(b k:Int):I:=.agg [.str n,ti b,ti k]
def Sto.fitsM(s:Sto)(n:Az)(mb mk:Int)(cs:List Chg):Bool:=decide ((s.afterM n cs).1≤max mb (s.tal n).bytes)&&decide ((s.afterM n cs).2≤max mk (s.tal n).keys)
theorem Lu{m:Nat}{s:Sto}(hI:SInv m s)(hm:m≤80000)(n:Az)(hn:n.length≤1000)(mb mk:Int)(cs:List Chg)(hcs:cs.length≤1000):
 Fn Tryd.prog Jj [sP s,.v (tenI n mb mk),.v (.list (cs.map Chg.toI))] (Is (.v (.bool (s.fitsM n mb mk cs))) [sP s,.no,.no]):=by
 have ha:=Wb hI hm n hn cs hcs;have hb:=Aj6 s n;have hk:=Akb s n;unfold Sto.fitsM;generalize s.afterM n cs=A at*;generalize (s.tal n).bytes=B at*;generalize (s.tal n).keys=K at*;obtain⟨a1,a2⟩:=A;dsimp only at ha ⊢;refine Sk ?_ (by simp)
 cases c1:decide (a1≤max mb B)with
 |false=>
  repeat'((conv=>whnf);first
   |((with_reducible refine Ax (by first|(with_reducible assumption)|(with_reducible exact Bool.of_not_eq_false (by assumption))|(with_reducible exact Bool.of_not_eq_true (by assumption))|((with_reducible refine decide_eq_true ?_);first|(with_reducible assumption)|omega)|((with_reducible refine decide_eq_false ?_);first|(with_reducible assumption)|omega)|(with_reducible rfl)) (fun hb=>?_));(try rw[hb]);(try simp only[Aa]at hb);(try subst hb))
   |((with_reducible refine Aw (by first|(with_reducible assumption)|(with_reducible exact Bool.of_not_eq_false (by assumption))|(with_reducible exact Bool.of_not_eq_true (by assumption))|((with_reducible refine decide_eq_true ?_);first|(with_reducible assumption)|omega)|((with_reducible refine decide_eq_false ?_);first|(with_reducible assumption)|omega)|(with_reducible rfl)) (fun hb=>?_));(try rw[hb]);(try simp only[Aa]at hb);(try subst hb))
   |((with_reducible refine And.intro (fun hb=>?_) (fun hb=>?_))<;>first|(with_reducible exact absurd hb (by assumption))|(exact absurd hb (by decide))|(with_reducible exact absurd hb Bool.false_ne_true)|(with_reducible exact absurd hb.symm Bool.false_ne_true)|(exfalso;first|(simp only[Bu]at hb<;>omega)|omega)|((try rw[hb]);(try simp only[Aa]at hb);(try subst hb)))
   |((with_reducible refine Exists.intro ?_ ?_);focus (and_intros<;>first|omega|(with_reducible assumption)|(with_reducible rfl)|kernel_rfl|exact rfl|assumption|(intro _ hh;cases hh;done)|exact Ah (by rfl)|exact size_map (fun _=>rfl)|exact Aj rfl|exact take_size (fun _=>rfl)|exact Ag rfl|exact Ai (fun _=>rfl)|exact Ae (fun _=>rfl)|(simp only[Bu];omega)|(simp;done)|decide))
   |(with_reducible intro hfact)
   |((with_reducible refine And.intro ?_ ?_);focus (first|(with_reducible rfl)|(exact rfl)|decide))
   |((with_reducible refine Drawn.mkV ?_ ?_ ?_ (fun hfact=>?_));(focus (as_aux_lemma=>kernel_rfl));(focus (as_aux_lemma=>kernel_rfl));(focus (as_aux_lemma=>kernel_rfl));(try simp only[dRS]at hfact))
   |((with_reducible refine CallWp.mk ?_);refine⟨_,ha,?_⟩;rintro _ _ ⟨rfl,rfl⟩)
   |((with_reducible refine CallIs.mk ?_);refine⟨_,_,hb,?_⟩)
   |((with_reducible refine CallIs.mk ?_);refine⟨_,_,hk,?_⟩)
   |((first|with_reducible apply A9|with_reducible apply Ba);(focus (simp only[D.at,D.put,D.kid,D.setKid,mkSt,Ap,D.toI,toIs,Ak,Af,tenI]<;>exact rfl)))
   |((first|with_reducible apply A3|with_reducible apply A2);(focus rfl);(focus (simp only[D.at,D.put,D.kid,D.setKid,mkSt,Ap,D.toI,toIs,Ak,Af,tenI]<;>exact rfl));(try(focus exact rfl))))
  all_goals(try(conv=>whnf))
  all_goals((apply dKq<;>kernel_rfl))
 |true=>
  repeat'((conv=>whnf);first
   |((with_reducible refine Ax (by first|(with_reducible assumption)|(with_reducible exact Bool.of_not_eq_false (by assumption))|(with_reducible exact Bool.of_not_eq_true (by assumption))|((with_reducible refine decide_eq_true ?_);first|(with_reducible assumption)|omega)|((with_reducible refine decide_eq_false ?_);first|(with_reducible assumption)|omega)|(with_reducible rfl)) (fun hb=>?_));(try rw[hb]);(try simp only[Aa]at hb);(try subst hb))
   |((with_reducible refine Aw (by first|(with_reducible assumption)|(with_reducible exact Bool.of_not_eq_false (by assumption))|(with_reducible exact Bool.of_not_eq_true (by assumption))|((with_reducible refine decide_eq_true ?_);first|(with_reducible assumption)|omega)|((with_reducible refine decide_eq_false ?_);first|(with_reducible assumption)|omega)|(with_reducible rfl)) (fun hb=>?_));(try rw[hb]);(try simp only[Aa]at hb);(try subst hb))
   |((with_reducible refine And.intro (fun hb=>?_) (fun hb=>?_))<;>first|(with_reducible exact absurd hb (by assumption))|(exact absurd hb (by decide))|(with_reducible exact absurd hb Bool.false_ne_true)|(with_reducible exact absurd hb.symm Bool.false_ne_true)|(exfalso;first|(simp only[Bu]at hb<;>omega)|omega)|((try rw[hb]);(try simp only[Aa]at hb);(try subst hb)))
   |((with_reducible refine Exists.intro ?_ ?_);focus (and_intros<;>first|omega|(with_reducible assumption)|(with_reducible rfl)|kernel_rfl|exact rfl|assumption|(intro _ hh;cases hh;done)|exact Ah (by rfl)|exact size_map (fun _=>rfl)|exact Aj rfl|exact take_size (fun _=>rfl)|exact Ag rfl|exact Ai (fun _=>rfl)|exact Ae (fun _=>rfl)|(simp only[Bu];omega)|(simp;done)|decide))
   |(with_reducible intro hfact)
   |((with_reducible refine And.intro ?_ ?_);focus (first|(with_reducible rfl)|(exact rfl)|decide))
   |((with_reducible refine Drawn.mkV ?_ ?_ ?_ (fun hfact=>?_));(focus (as_aux_lemma=>kernel_rfl));(focus (as_aux_lemma=>kernel_rfl));(focus (as_aux_lemma=>kernel_rfl));(try simp only[dRS]at hfact))
   |((with_reducible refine CallWp.mk ?_);refine⟨_,ha,?_⟩;rintro _ _ ⟨rfl,rfl⟩)
   |((with_reducible refine CallIs.mk ?_);refine⟨_,_,hb,?_⟩)
   |((with_reducible refine CallIs.mk ?_);refine⟨_,_,hk,?_⟩)
   |((first|with_reducible apply A9|with_reducible apply Ba);(focus (simp only[D.at,D.put,D.kid,D.setKid,mkSt,Ap,D.toI,toIs,Ak,Af,tenI]<;>exact rfl)))
   |((first|with_reducible apply A3|with_reducible apply A2);(focus rfl);(focus (simp only[D.at,D.put,D.kid,D.setKid,mkSt,Ap,D.toI,toIs,Ak,Af,tenI]<;>exact rfl));(try(focus exact rfl))))
  all_goals(try(conv=>whnf))
  all_goals((apply dKq<;>kernel_rfl))
def gtGo:List (List Chg)→Bool
 | []=>false
 |l::r=>if 100<l.length then true else if cGo l=true then true else gtGo r
def F9(w:List (List Chg)):Bool:=if 60<w.length then true else gtGo w
theorem X0:∀{w:List (List Chg)},gtGo w=false→∀l∈w,l.length≤100
 | [],_=>by simp
 |l::r,h=>by
  unfold gtGo at h;split at h
  ·cases h
  ·split at h
   ·cases h
   ·intro x hx;rcases List.mem_cons.1 hx with rfl|hx
    ·omega
    ·exact X0 h x hx
theorem Wv{w:List (List Chg)}(h:F9 w=false):w.length≤60∧∀l∈w,l.length≤100:=by
 unfold F9 at h;split at h
 ·cases h
 ·exact⟨by omega,X0 h⟩
theorem L6(w:List (List Chg)):Fn Tryd.prog Lf [.v (.list (w.map fun l=>I.list (l.map Chg.toI)))] (Is (.v (.bool (F9 w))) [.no]):=by
 refine Ko ?_ (by simp)
 have hwl:(w.map fun l=>I.list (l.map Chg.toI)).length=w.length:=List.length_map _
 unfold F9;by_cases h60:60<w.length
 ·rw[if_pos h60];repeat'((conv=>whnf);first
   |((with_reducible refine Ax (by first|(with_reducible assumption)|(with_reducible exact Bool.of_not_eq_false (by assumption))|(with_reducible exact Bool.of_not_eq_true (by assumption))|((with_reducible refine decide_eq_true ?_);first|(with_reducible assumption)|omega)|((with_reducible refine decide_eq_false ?_);first|(with_reducible assumption)|omega)|(with_reducible rfl)) (fun hb=>?_));(try rw[hb]);(try simp only[Aa]at hb);(try subst hb))
   |((with_reducible refine Aw (by first|(with_reducible assumption)|(with_reducible exact Bool.of_not_eq_false (by assumption))|(with_reducible exact Bool.of_not_eq_true (by assumption))|((with_reducible refine decide_eq_true ?_);first|(with_reducible assumption)|omega)|((with_reducible refine decide_eq_false ?_);first|(with_reducible assumption)|omega)|(with_reducible rfl)) (fun hb=>?_));(try rw[hb]);(try simp only[Aa]at hb);(try subst hb))
   |((with_reducible refine And.intro (fun hb=>?_) (fun hb=>?_))<;>first|(with_reducible exact absurd hb (by assumption))|(exact absurd hb (by decide))|(with_reducible exact absurd hb Bool.false_ne_true)|(with_reducible exact absurd hb.symm Bool.false_ne_true)|(exfalso;first|(simp only[Bu]at hb<;>omega)|omega)|((try rw[hb]);(try simp only[Aa]at hb);(try subst hb)))
   |((with_reducible refine Exists.intro ?_ ?_);focus (and_intros<;>first|omega|(with_reducible assumption)|(with_reducible rfl)|kernel_rfl|exact rfl|assumption|(intro _ hh;cases hh;done)|exact Ah (by rfl)|exact size_map (fun _=>rfl)|exact Aj rfl|exact take_size (fun _=>rfl)|exact Ag rfl|exact Ai (fun _=>rfl)|exact Ae (fun _=>rfl)|(simp only[Bu];omega)|(simp;done)|decide))
   |(with_reducible intro hfact)
   |((with_reducible refine And.intro ?_ ?_);focus (first|(with_reducible rfl)|(exact rfl)|decide)))
  all_goals(try(conv=>whnf))
  all_goals first
   |(exfalso;omega)
   |(apply dKq<;>kernel_rfl)
 rw[if_neg h60];obtain⟨RES,hRES⟩:∃R,gtGo w=R:=⟨_,rfl⟩;rw[hRES];repeat'((conv=>whnf);first
  |((with_reducible refine Ax (by first|(with_reducible assumption)|(with_reducible exact Bool.of_not_eq_false (by assumption))|(with_reducible exact Bool.of_not_eq_true (by assumption))|((with_reducible refine decide_eq_true ?_);first|(with_reducible assumption)|omega)|((with_reducible refine decide_eq_false ?_);first|(with_reducible assumption)|omega)|(with_reducible rfl)) (fun hb=>?_));(try rw[hb]);(try simp only[Aa]at hb);(try subst hb))
  |((with_reducible refine Aw (by first|(with_reducible assumption)|(with_reducible exact Bool.of_not_eq_false (by assumption))|(with_reducible exact Bool.of_not_eq_true (by assumption))|((with_reducible refine decide_eq_true ?_);first|(with_reducible assumption)|omega)|((with_reducible refine decide_eq_false ?_);first|(with_reducible assumption)|omega)|(with_reducible rfl)) (fun hb=>?_));(try rw[hb]);(try simp only[Aa]at hb);(try subst hb))
  |((with_reducible refine And.intro (fun hb=>?_) (fun hb=>?_))<;>first|(with_reducible exact absurd hb (by assumption))|(exact absurd hb (by decide))|(with_reducible exact absurd hb Bool.false_ne_true)|(with_reducible exact absurd hb.symm Bool.false_ne_true)|(exfalso;first|(simp only[Bu]at hb<;>omega)|omega)|((try rw[hb]);(try simp only[Aa]at hb);(try subst hb)))
  |((with_reducible refine Exists.intro ?_ ?_);focus (and_intros<;>first|omega|(with_reducible assumption)|(with_reducible rfl)|kernel_rfl|exact rfl|assumption|(intro _ hh;cases hh;done)|exact Ah (by rfl)|exact size_map (fun _=>rfl)|exact Aj rfl|exact take_size (fun _=>rfl)|exact Ag rfl|exact Ai (fun _=>rfl)|exact Ae (fun _=>rfl)|(simp only[Bu];omega)|(simp;done)|decide))
  |(with_reducible intro hfact)
  |((with_reducible refine And.intro ?_ ?_);focus (first|(with_reducible rfl)|(exact rfl)|decide)))
 all_goals(try(conv=>whnf))
 refine LoopWq.by (X:=Nat) (fun j=>[(12,.v (ti (j:Int)))]) (fun j=>j≤w.length∧gtGo (w.drop j)=RES) (fun j=>w.length - j) 0 (by kernel_rfl) ⟨Nat.zero_le _,hRES⟩ ?_
 rintro j ⟨hj,hR⟩
 (try dsimp only at hj hR ⊢)
 by_cases hjl:j<w.length
 case neg=>
  have h3:¬decide ((j:Int)<((w.map fun l=>I.list (l.map Chg.toI)).length:Int))=true:=by simp;omega
  have h4:¬decide ((j:Int)<(w.length:Int))=true:=by simp;omega
  rw[List.drop_eq_nil_of_le (by omega)]at hR
  have hR:false=RES:=hR;subst hR;repeat'((conv=>whnf);first
   |((with_reducible refine Ax (by first|(with_reducible assumption)|(with_reducible exact Bool.of_not_eq_false (by assumption))|(with_reducible exact Bool.of_not_eq_true (by assumption))|((with_reducible refine decide_eq_true ?_);first|(with_reducible assumption)|omega)|((with_reducible refine decide_eq_false ?_);first|(with_reducible assumption)|omega)|(with_reducible rfl)) (fun hb=>?_));(try rw[hb]);(try simp only[Aa]at hb);(try subst hb))
   |((with_reducible refine Aw (by first|(with_reducible assumption)|(with_reducible exact Bool.of_not_eq_false (by assumption))|(with_reducible exact Bool.of_not_eq_true (by assumption))|((with_reducible refine decide_eq_true ?_);first|(with_reducible assumption)|omega)|((with_reducible refine decide_eq_false ?_);first|(with_reducible assumption)|omega)|(with_reducible rfl)) (fun hb=>?_));(try rw[hb]);(try simp only[Aa]at hb);(try subst hb))
   |((with_reducible refine And.intro (fun hb=>?_) (fun hb=>?_))<;>first|(with_reducible exact absurd hb (by assumption))|(exact absurd hb (by decide))|(with_reducible exact absurd hb Bool.false_ne_true)|(with_reducible exact absurd hb.symm Bool.false_ne_true)|(exfalso;first|(simp only[Bu]at hb<;>omega)|omega)|((try rw[hb]);(try simp only[Aa]at hb);(try subst hb)))
   |((with_reducible refine Exists.intro ?_ ?_);focus (and_intros<;>first|omega|(with_reducible assumption)|(with_reducible rfl)|kernel_rfl|exact rfl|assumption|(intro _ hh;cases hh;done)|exact Ah (by rfl)|exact size_map (fun _=>rfl)|exact Aj rfl|exact take_size (fun _=>rfl)|exact Ag rfl|exact Ai (fun _=>rfl)|exact Ae (fun _=>rfl)|(simp only[Bu];omega)|(simp;done)|decide))
   |(with_reducible intro hfact)
   |((with_reducible refine And.intro ?_ ?_);focus (first|(with_reducible rfl)|(exact rfl)|decide)))
  all_goals(try(conv=>whnf))
  (apply dKq<;>kernel_rfl)
 have hw:IntKind.i64.wrap ((j:Int)+1)=((j+1:Nat):Int):=(Bf (by omega)).trans (by omega)
 obtain⟨l,hl⟩:∃x,w[j]?=some x:=⟨_,List.getElem?_eq_getElem hjl⟩;have h3:¬decide ((j:Int)<((w.map fun l=>I.list (l.map Chg.toI)).length:Int))=false:=by simp;omega
 have h4:¬decide ((j:Int)<(w.length:Int))=false:=by simp;omega
 have hdr:w.drop j=l::w.drop (j+1):=by rw[List.drop_eq_getElem_cons hjl];rw[List.getElem?_eq_getElem hjl]at hl;cases hl;rfl
 rw[hdr]at hR;unfold gtGo at hR;have hcl:(l.map Chg.toI).length=l.length:=List.length_map _;by_cases hd:100<l.length
 ·rw[if_pos hd]at hR;subst hR;repeat'((conv=>whnf);first
   |((with_reducible refine Ax (by first|(with_reducible assumption)|(with_reducible exact Bool.of_not_eq_false (by assumption))|(with_reducible exact Bool.of_not_eq_true (by assumption))|((with_reducible refine decide_eq_true ?_);first|(with_reducible assumption)|omega)|((with_reducible refine decide_eq_false ?_);first|(with_reducible assumption)|omega)|(with_reducible rfl)) (fun hb=>?_));(try rw[hb]);(try simp only[Aa]at hb);(try subst hb))
   |((with_reducible refine Aw (by first|(with_reducible assumption)|(with_reducible exact Bool.of_not_eq_false (by assumption))|(with_reducible exact Bool.of_not_eq_true (by assumption))|((with_reducible refine decide_eq_true ?_);first|(with_reducible assumption)|omega)|((with_reducible refine decide_eq_false ?_);first|(with_reducible assumption)|omega)|(with_reducible rfl)) (fun hb=>?_));(try rw[hb]);(try simp only[Aa]at hb);(try subst hb))
   |((with_reducible refine And.intro (fun hb=>?_) (fun hb=>?_))<;>first|(with_reducible exact absurd hb (by assumption))|(exact absurd hb (by decide))|(with_reducible exact absurd hb Bool.false_ne_true)|(with_reducible exact absurd hb.symm Bool.false_ne_true)|(exfalso;first|(simp only[Bu]at hb<;>omega)|omega)|((try rw[hb]);(try simp only[Aa]at hb);(try subst hb)))
   |((with_reducible refine Exists.intro ?_ ?_);focus (and_intros<;>first|omega|(with_reducible assumption)|(with_reducible rfl)|kernel_rfl|exact rfl|assumption|(intro _ hh;cases hh;done)|exact Ah (by rfl)|exact size_map (fun _=>rfl)|exact Aj rfl|exact take_size (fun _=>rfl)|exact Ag rfl|exact Ai (fun _=>rfl)|exact Ae (fun _=>rfl)|(simp only[Bu];omega)|(simp;done)|decide))
   |(with_reducible intro hfact)
   |((with_reducible refine And.intro ?_ ?_);focus (first|(with_reducible rfl)|(exact rfl)|decide))
   |((try dsimp only);first|rw[B6 hl]|rw[Cb hl]|rw[Cv hl])
   |((try dsimp only);rw[hcl])
   |((try dsimp only);rw[hw]))
  all_goals(try(conv=>whnf))
  all_goals first
   |(exfalso;omega)
   |(apply dKq<;>kernel_rfl)
 rw[if_neg hd]at hR;repeat'((conv=>whnf);first
  |((with_reducible refine Ax (by first|(with_reducible assumption)|(with_reducible exact Bool.of_not_eq_false (by assumption))|(with_reducible exact Bool.of_not_eq_true (by assumption))|((with_reducible refine decide_eq_true ?_);first|(with_reducible assumption)|omega)|((with_reducible refine decide_eq_false ?_);first|(with_reducible assumption)|omega)|(with_reducible rfl)) (fun hb=>?_));(try rw[hb]);(try simp only[Aa]at hb);(try subst hb))
  |((with_reducible refine Aw (by first|(with_reducible assumption)|(with_reducible exact Bool.of_not_eq_false (by assumption))|(with_reducible exact Bool.of_not_eq_true (by assumption))|((with_reducible refine decide_eq_true ?_);first|(with_reducible assumption)|omega)|((with_reducible refine decide_eq_false ?_);first|(with_reducible assumption)|omega)|(with_reducible rfl)) (fun hb=>?_));(try rw[hb]);(try simp only[Aa]at hb);(try subst hb))
  |((with_reducible refine And.intro (fun hb=>?_) (fun hb=>?_))<;>first|(with_reducible exact absurd hb (by assumption))|(exact absurd hb (by decide))|(with_reducible exact absurd hb Bool.false_ne_true)|(with_reducible exact absurd hb.symm Bool.false_ne_true)|(exfalso;first|(simp only[Bu]at hb<;>omega)|omega)|((try rw[hb]);(try simp only[Aa]at hb);(try subst hb)))
  |((with_reducible refine Exists.intro ?_ ?_);focus (and_intros<;>first|omega|(with_reducible assumption)|(with_reducible rfl)|kernel_rfl|exact rfl|assumption|(intro _ hh;cases hh;done)|exact Ah (by rfl)|exact size_map (fun _=>rfl)|exact Aj rfl|exact take_size (fun _=>rfl)|exact Ag rfl|exact Ai (fun _=>rfl)|exact Ae (fun _=>rfl)|(simp only[Bu];omega)|(simp;done)|decide))
  |(with_reducible intro hfact)
  |((with_reducible refine And.intro ?_ ?_);focus (first|(with_reducible rfl)|(exact rfl)|decide))
  |((try dsimp only);first|rw[B6 hl]|rw[Cb hl]|rw[Cv hl])
  |((try dsimp only);rw[hcl])
  |((try dsimp only);rw[hw]))
 all_goals(try(conv=>whnf))
 refine LoopWq.by (X:=Nat) (fun q=>[(21,.v (ti (q:Int)))]) (fun q=>q≤l.length∧(if cGo (l.drop q)=true then true else gtGo (w.drop (j+1)))=RES) (fun q=>l.length - q) 0 (by kernel_rfl) ⟨Nat.zero_le _,hR⟩ ?_
 rintro q ⟨hq,hQ⟩
 (try dsimp only at hq hQ ⊢)
 have hw2:IntKind.i64.wrap ((q:Int)+1)=((q+1:Nat):Int):=(Bf (by omega)).trans (by omega)
 by_cases hql:q<l.length
 case neg=>
  have h5:¬decide ((q:Int)<((l.map Chg.toI).length:Int))=true:=by simp;omega
  have h6:¬decide ((q:Int)<(l.length:Int))=true:=by simp;omega
  rw[List.drop_eq_nil_of_le (by omega)]at hQ
  have hQ:gtGo (w.drop (j+1))=RES:=hQ;repeat'((conv=>whnf);first
   |((with_reducible refine Ax (by first|(with_reducible assumption)|(with_reducible exact Bool.of_not_eq_false (by assumption))|(with_reducible exact Bool.of_not_eq_true (by assumption))|((with_reducible refine decide_eq_true ?_);first|(with_reducible assumption)|omega)|((with_reducible refine decide_eq_false ?_);first|(with_reducible assumption)|omega)|(with_reducible rfl)) (fun hb=>?_));(try rw[hb]);(try simp only[Aa]at hb);(try subst hb))
   |((with_reducible refine Aw (by first|(with_reducible assumption)|(with_reducible exact Bool.of_not_eq_false (by assumption))|(with_reducible exact Bool.of_not_eq_true (by assumption))|((with_reducible refine decide_eq_true ?_);first|(with_reducible assumption)|omega)|((with_reducible refine decide_eq_false ?_);first|(with_reducible assumption)|omega)|(with_reducible rfl)) (fun hb=>?_));(try rw[hb]);(try simp only[Aa]at hb);(try subst hb))
   |((with_reducible refine And.intro (fun hb=>?_) (fun hb=>?_))<;>first|(with_reducible exact absurd hb (by assumption))|(exact absurd hb (by decide))|(with_reducible exact absurd hb Bool.false_ne_true)|(with_reducible exact absurd hb.symm Bool.false_ne_true)|(exfalso;first|(simp only[Bu]at hb<;>omega)|omega)|((try rw[hb]);(try simp only[Aa]at hb);(try subst hb)))
   |((with_reducible refine Exists.intro ?_ ?_);focus (and_intros<;>first|omega|(with_reducible assumption)|(with_reducible rfl)|kernel_rfl|exact rfl|assumption|(intro _ hh;cases hh;done)|exact Ah (by rfl)|exact size_map (fun _=>rfl)|exact Aj rfl|exact take_size (fun _=>rfl)|exact Ag rfl|exact Ai (fun _=>rfl)|exact Ae (fun _=>rfl)|(simp only[Bu];omega)|(simp;done)|decide))
   |(with_reducible intro hfact)
   |((with_reducible refine And.intro ?_ ?_);focus (first|(with_reducible rfl)|(exact rfl)|decide))
   |((try dsimp only);rw[hw]))
  all_goals(try(conv=>whnf))
  refine Round.by (j+1) ?_ ⟨by omega,hQ⟩ (by omega)
  try dsimp only
  show norm _ _=upd _ _
  kernel_rfl
 obtain⟨c,hc⟩:∃x,l[q]?=some x:=⟨_,List.getElem?_eq_getElem hql⟩;have h5:¬decide ((q:Int)<((l.map Chg.toI).length:Int))=false:=by simp;omega
 have h6:¬decide ((q:Int)<(l.length:Int))=false:=by simp;omega
 have hdq:l.drop q=c::l.drop (q+1):=by rw[List.drop_eq_getElem_cons hql];rw[List.getElem?_eq_getElem hql]at hc;cases hc;rfl
 rw[hdq]at hQ;unfold cGo at hQ;obtain⟨ck,cv,cg⟩:=c;by_cases hb:(Chg.mk ck cv cg).big
 ·rw[if_pos hb]at hQ;have hQ:true=RES:=hQ;subst hQ;unfold Chg.big at hb
  (try dsimp only at hb)
  repeat'((conv=>whnf);first
   |((with_reducible refine Ax (by first|(with_reducible assumption)|(with_reducible exact Bool.of_not_eq_false (by assumption))|(with_reducible exact Bool.of_not_eq_true (by assumption))|((with_reducible refine decide_eq_true ?_);first|(with_reducible assumption)|omega)|((with_reducible refine decide_eq_false ?_);first|(with_reducible assumption)|omega)|(with_reducible rfl)) (fun hb=>?_));(try rw[hb]);(try simp only[Aa]at hb);(try subst hb))
   |((with_reducible refine Aw (by first|(with_reducible assumption)|(with_reducible exact Bool.of_not_eq_false (by assumption))|(with_reducible exact Bool.of_not_eq_true (by assumption))|((with_reducible refine decide_eq_true ?_);first|(with_reducible assumption)|omega)|((with_reducible refine decide_eq_false ?_);first|(with_reducible assumption)|omega)|(with_reducible rfl)) (fun hb=>?_));(try rw[hb]);(try simp only[Aa]at hb);(try subst hb))
   |((with_reducible refine And.intro (fun hb=>?_) (fun hb=>?_))<;>first|(with_reducible exact absurd hb (by assumption))|(exact absurd hb (by decide))|(with_reducible exact absurd hb Bool.false_ne_true)|(with_reducible exact absurd hb.symm Bool.false_ne_true)|(exfalso;first|(simp only[Bu]at hb<;>omega)|omega)|((try rw[hb]);(try simp only[Aa]at hb);(try subst hb)))
   |((with_reducible refine Exists.intro ?_ ?_);focus (and_intros<;>first|omega|(with_reducible assumption)|(with_reducible rfl)|kernel_rfl|exact rfl|assumption|(intro _ hh;cases hh;done)|exact Ah (by rfl)|exact size_map (fun _=>rfl)|exact Aj rfl|exact take_size (fun _=>rfl)|exact Ag rfl|exact Ai (fun _=>rfl)|exact Ae (fun _=>rfl)|(simp only[Bu];omega)|(simp;done)|decide))
   |(with_reducible intro hfact)
   |((with_reducible refine And.intro ?_ ?_);focus (first|(with_reducible rfl)|(exact rfl)|decide))
   |((try dsimp only);first|rw[B6 hc]|rw[Cb hc]|rw[Cv hc])
   |((try dsimp only);rw[hw2]))
  all_goals(try(conv=>whnf))
  all_goals((apply dKq<;>kernel_rfl))
 ·rw[if_neg hb]at hQ;unfold Chg.big at hb
  (try dsimp only at hb)
  repeat'((conv=>whnf);first
   |((with_reducible refine Ax (by first|(with_reducible assumption)|(with_reducible exact Bool.of_not_eq_false (by assumption))|(with_reducible exact Bool.of_not_eq_true (by assumption))|((with_reducible refine decide_eq_true ?_);first|(with_reducible assumption)|omega)|((with_reducible refine decide_eq_false ?_);first|(with_reducible assumption)|omega)|(with_reducible rfl)) (fun hb=>?_));(try rw[hb]);(try simp only[Aa]at hb);(try subst hb))
   |((with_reducible refine Aw (by first|(with_reducible assumption)|(with_reducible exact Bool.of_not_eq_false (by assumption))|(with_reducible exact Bool.of_not_eq_true (by assumption))|((with_reducible refine decide_eq_true ?_);first|(with_reducible assumption)|omega)|((with_reducible refine decide_eq_false ?_);first|(with_reducible assumption)|omega)|(with_reducible rfl)) (fun hb=>?_));(try rw[hb]);(try simp only[Aa]at hb);(try subst hb))
   |((with_reducible refine And.intro (fun hb=>?_) (fun hb=>?_))<;>first|(with_reducible exact absurd hb (by assumption))|(exact absurd hb (by decide))|(with_reducible exact absurd hb Bool.false_ne_true)|(with_reducible exact absurd hb.symm Bool.false_ne_true)|(exfalso;first|(simp only[Bu]at hb<;>omega)|omega)|((try rw[hb]);(try simp only[Aa]at hb);(try subst hb)))
   |((with_reducible refine Exists.intro ?_ ?_);focus (and_intros<;>first|omega|(with_reducible assumption)|(with_reducible rfl)|kernel_rfl|exact rfl|assumption|(intro _ hh;cases hh;done)|exact Ah (by rfl)|exact size_map (fun _=>rfl)|exact Aj rfl|exact take_size (fun _=>rfl)|exact Ag rfl|exact Ai (fun _=>rfl)|exact Ae (fun _=>rfl)|(simp only[Bu];omega)|(simp;done)|decide))
   |(with_reducible intro hfact)
   |((with_reducible refine And.intro ?_ ?_);focus (first|(with_reducible rfl)|(exact rfl)|decide))
   |((try dsimp only);first|rw[B6 hc]|rw[Cb hc]|rw[Cv hc])
   |((try dsimp only);rw[hw2]))
  all_goals(try(conv=>whnf))
  refine Round.by (q+1) ?_ ⟨by omega,hQ⟩ (by omega)
  try dsimp only
  show norm _ _=upd _ _
  kernel_rfl

open Go.Proofs
def aw5:Sto:=⟨[([116],⟨1,0,10,1,1⟩)],[⟨[1,116,97],[⟨1,1,[49,50,51,52,53,54,55,56,57],false⟩]⟩]⟩
theorem We:aw1.writeM [116] [⟨[97],[49,50,51,52,53,54,55,56,57],false⟩]=(aw5,1,0):=by
 have h1:aw1.fi [116]=some 0:=by rfl
 have h2:K6 [⟨[97],[49,50,51,52,53,54,55,56,57],false⟩] []=some [⟨[97],[49,50,51,52,53,54,55,56,57],false⟩]:=by rfl
 have h3:Dc (([⟨[97],[49,50,51,52,53,54,55,56,57],false⟩]:List Chg).map Chg.key)=[[97]]:=by simp[Dc]
 unfold Sto.writeM;simp only[h1,h2,h3];rfl
theorem inv1:SInv 0 aw1:=by
 have h1:=Ajr.open (nm:=D9 [116]) [116] Aha;rw[Ai9]at h1;exact h1
theorem inv5:SInv 2 aw5:=by
 have h1:=inv1.write [116] [⟨[97],[49,50,51,52,53,54,55,56,57],false⟩];rw[We]at h1;exact h1
theorem Xs:aw5.fitsM [116] 8 2 [⟨[97],[49,50,51,52,53,54,55,56],false⟩]=true:=by
 obtain⟨h1,h2⟩:=Mb inv5 (n:=[116]) (i:=0) (cs:=[⟨[97],[49,50,51,52,53,54,55,56],false⟩]) (F:=[⟨[97],[49,50,51,52,53,54,55,56],false⟩]) (by rfl) (by rfl)
 unfold Sto.fitsM Sto.afterM;dsimp only;rw[h1,h2];rfl
theorem Xu:aw5.fitsM [116] 8 2 [⟨[98],[],false⟩]=false:=by
 obtain⟨h1,h2⟩:=Mb inv5 (n:=[116]) (i:=0) (cs:=[⟨[98],[],false⟩]) (F:=[⟨[98],[],false⟩]) (by rfl) (by rfl)
 unfold Sto.fitsM Sto.afterM;dsimp only;rw[h1,h2];rfl
theorem Yy:Fn Tryd.prog Da [sP aw1,.v (.str [116]),.v (.list [(Chg.mk [97] [49,50,51,52,53,54,55,56,57] false).toI])] (Is (.tup [.i (ti 1),.i (ti 0)]) [sP aw5,.no,.no]):=by
 have hw:=Air inv1 (by omega) [116] [⟨[97],[49,50,51,52,53,54,55,56,57],false⟩] (by decide) (by decide)
 rw[We]at hw;exact hw
theorem Yo:Fn Tryd.prog Jj [sP aw5,.v (.agg [.str [116],ti 8,ti 2]),.v (.list [(Chg.mk [97] [49,50,51,52,53,54,55,56] false).toI])] (Is (.v (.bool true)) [sP aw5,.no,.no]):=by
 have h1:=Lu inv5 (by omega) [116] (by decide) 8 2 [⟨[97],[49,50,51,52,53,54,55,56],false⟩] (by decide)
 rw[Xs]at h1;exact h1
theorem Ys:Fn Tryd.prog Jj [sP aw5,.v (.agg [.str [116],ti 8,ti 2]),.v (.list [(Chg.mk [98] [] false).toI])] (Is (.v (.bool false)) [sP aw5,.no,.no]):=by
 have h2:=Lu inv5 (by omega) [116] (by decide) 8 2 [⟨[98],[],false⟩] (by decide)
 rw[Xu]at h2;exact h2
theorem Jt:Fn Tryd.prog Kx [] (Is (.v (.bool true)) []):=by
 refine Kc ?_ (by simp)
 repeat'((conv=>whnf);first
  |((with_reducible refine Ax (by first|(with_reducible assumption)|(with_reducible exact Bool.of_not_eq_false (by assumption))|(with_reducible exact Bool.of_not_eq_true (by assumption))|((with_reducible refine decide_eq_true ?_);first|(with_reducible assumption)|omega)|((with_reducible refine decide_eq_false ?_);first|(with_reducible assumption)|omega)|(with_reducible rfl)) (fun hb=>?_));(try rw[hb]);(try simp only[Aa]at hb);(try subst hb))
  |((with_reducible refine Aw (by first|(with_reducible assumption)|(with_reducible exact Bool.of_not_eq_false (by assumption))|(with_reducible exact Bool.of_not_eq_true (by assumption))|((with_reducible refine decide_eq_true ?_);first|(with_reducible assumption)|omega)|((with_reducible refine decide_eq_false ?_);first|(with_reducible assumption)|omega)|(with_reducible rfl)) (fun hb=>?_));(try rw[hb]);(try simp only[Aa]at hb);(try subst hb))
  |((with_reducible refine And.intro (fun hb=>?_) (fun hb=>?_))<;>first|(with_reducible exact absurd hb (by assumption))|(exact absurd hb (by decide))|(with_reducible exact absurd hb Bool.false_ne_true)|(with_reducible exact absurd hb.symm Bool.false_ne_true)|(exfalso;first|(simp only[Bu]at hb<;>omega)|omega)|((try rw[hb]);(try simp only[Aa]at hb);(try subst hb)))
  |((with_reducible refine Exists.intro ?_ ?_);focus (and_intros<;>first|omega|(with_reducible assumption)|(with_reducible rfl)|kernel_rfl|exact rfl|assumption|(intro _ hh;cases hh;done)|exact Ah (by rfl)|exact size_map (fun _=>rfl)|exact Aj rfl|exact take_size (fun _=>rfl)|exact Ag rfl|exact Ai (fun _=>rfl)|exact Ae (fun _=>rfl)|(simp only[Bu];omega)|(simp;done)|decide))
  |(with_reducible intro hfact)
  |((with_reducible refine And.intro ?_ ?_);focus (first|(with_reducible rfl)|(exact rfl)|decide)))
 all_goals(try(conv=>whnf))
 generalize hKK:F7 Tryd.prog _ _=KK;as_aux_lemma=>
  repeat'((conv=>whnf);first
   |((with_reducible refine Ax (by first|(with_reducible assumption)|(with_reducible exact Bool.of_not_eq_false (by assumption))|(with_reducible exact Bool.of_not_eq_true (by assumption))|((with_reducible refine decide_eq_true ?_);first|(with_reducible assumption)|omega)|((with_reducible refine decide_eq_false ?_);first|(with_reducible assumption)|omega)|(with_reducible rfl)) (fun hb=>?_));(try rw[hb]);(try simp only[Aa]at hb);(try subst hb))
   |((with_reducible refine Aw (by first|(with_reducible assumption)|(with_reducible exact Bool.of_not_eq_false (by assumption))|(with_reducible exact Bool.of_not_eq_true (by assumption))|((with_reducible refine decide_eq_true ?_);first|(with_reducible assumption)|omega)|((with_reducible refine decide_eq_false ?_);first|(with_reducible assumption)|omega)|(with_reducible rfl)) (fun hb=>?_));(try rw[hb]);(try simp only[Aa]at hb);(try subst hb))
   |((with_reducible refine And.intro (fun hb=>?_) (fun hb=>?_))<;>first|(with_reducible exact absurd hb (by assumption))|(exact absurd hb (by decide))|(with_reducible exact absurd hb Bool.false_ne_true)|(with_reducible exact absurd hb.symm Bool.false_ne_true)|(exfalso;first|(simp only[Bu]at hb<;>omega)|omega)|((try rw[hb]);(try simp only[Aa]at hb);(try subst hb)))
   |((with_reducible refine Exists.intro ?_ ?_);focus (and_intros<;>first|omega|(with_reducible assumption)|(with_reducible rfl)|kernel_rfl|exact rfl|assumption|(intro _ hh;cases hh;done)|exact Ah (by rfl)|exact size_map (fun _=>rfl)|exact Aj rfl|exact take_size (fun _=>rfl)|exact Ag rfl|exact Ai (fun _=>rfl)|exact Ae (fun _=>rfl)|(simp only[Bu];omega)|(simp;done)|decide))
   |(with_reducible intro hfact)
   |((with_reducible refine And.intro ?_ ?_);focus (first|(with_reducible rfl)|(exact rfl)|decide))
   |((with_reducible refine CallWp.mk ?_);refine⟨_,Adg,?_⟩;rintro _ _ ⟨rfl,rfl⟩))
  all_goals(try(conv=>whnf))
  rw[←hKK];clear hKK;as_aux_lemma=>
   repeat'((conv=>whnf);first
    |((with_reducible refine Ax (by first|(with_reducible assumption)|(with_reducible exact Bool.of_not_eq_false (by assumption))|(with_reducible exact Bool.of_not_eq_true (by assumption))|((with_reducible refine decide_eq_true ?_);first|(with_reducible assumption)|omega)|((with_reducible refine decide_eq_false ?_);first|(with_reducible assumption)|omega)|(with_reducible rfl)) (fun hb=>?_));(try rw[hb]);(try simp only[Aa]at hb);(try subst hb))
    |((with_reducible refine Aw (by first|(with_reducible assumption)|(with_reducible exact Bool.of_not_eq_false (by assumption))|(with_reducible exact Bool.of_not_eq_true (by assumption))|((with_reducible refine decide_eq_true ?_);first|(with_reducible assumption)|omega)|((with_reducible refine decide_eq_false ?_);first|(with_reducible assumption)|omega)|(with_reducible rfl)) (fun hb=>?_));(try rw[hb]);(try simp only[Aa]at hb);(try subst hb))
    |((with_reducible refine And.intro (fun hb=>?_) (fun hb=>?_))<;>first|(with_reducible exact absurd hb (by assumption))|(exact absurd hb (by decide))|(with_reducible exact absurd hb Bool.false_ne_true)|(with_reducible exact absurd hb.symm Bool.false_ne_true)|(exfalso;first|(simp only[Bu]at hb<;>omega)|omega)|((try rw[hb]);(try simp only[Aa]at hb);(try subst hb)))
    |((with_reducible refine Exists.intro ?_ ?_);focus (and_intros<;>first|omega|(with_reducible assumption)|(with_reducible rfl)|kernel_rfl|exact rfl|assumption|(intro _ hh;cases hh;done)|exact Ah (by rfl)|exact size_map (fun _=>rfl)|exact Aj rfl|exact take_size (fun _=>rfl)|exact Ag rfl|exact Ai (fun _=>rfl)|exact Ae (fun _=>rfl)|(simp only[Bu];omega)|(simp;done)|decide))
    |(with_reducible intro hfact)
    |((with_reducible refine And.intro ?_ ?_);focus (first|(with_reducible rfl)|(exact rfl)|decide)))
   all_goals(try(conv=>whnf))
   generalize hKK:F7 Tryd.prog _ _=KK;as_aux_lemma=>
    repeat'((conv=>whnf);first
     |((with_reducible refine Ax (by first|(with_reducible assumption)|(with_reducible exact Bool.of_not_eq_false (by assumption))|(with_reducible exact Bool.of_not_eq_true (by assumption))|((with_reducible refine decide_eq_true ?_);first|(with_reducible assumption)|omega)|((with_reducible refine decide_eq_false ?_);first|(with_reducible assumption)|omega)|(with_reducible rfl)) (fun hb=>?_));(try rw[hb]);(try simp only[Aa]at hb);(try subst hb))
     |((with_reducible refine Aw (by first|(with_reducible assumption)|(with_reducible exact Bool.of_not_eq_false (by assumption))|(with_reducible exact Bool.of_not_eq_true (by assumption))|((with_reducible refine decide_eq_true ?_);first|(with_reducible assumption)|omega)|((with_reducible refine decide_eq_false ?_);first|(with_reducible assumption)|omega)|(with_reducible rfl)) (fun hb=>?_));(try rw[hb]);(try simp only[Aa]at hb);(try subst hb))
     |((with_reducible refine And.intro (fun hb=>?_) (fun hb=>?_))<;>first|(with_reducible exact absurd hb (by assumption))|(exact absurd hb (by decide))|(with_reducible exact absurd hb Bool.false_ne_true)|(with_reducible exact absurd hb.symm Bool.false_ne_true)|(exfalso;first|(simp only[Bu]at hb<;>omega)|omega)|((try rw[hb]);(try simp only[Aa]at hb);(try subst hb)))
     |((with_reducible refine Exists.intro ?_ ?_);focus (and_intros<;>first|omega|(with_reducible assumption)|(with_reducible rfl)|kernel_rfl|exact rfl|assumption|(intro _ hh;cases hh;done)|exact Ah (by rfl)|exact size_map (fun _=>rfl)|exact Aj rfl|exact take_size (fun _=>rfl)|exact Ag rfl|exact Ai (fun _=>rfl)|exact Ae (fun _=>rfl)|(simp only[Bu];omega)|(simp;done)|decide))
     |(with_reducible intro hfact)
     |((with_reducible refine And.intro ?_ ?_);focus (first|(with_reducible rfl)|(exact rfl)|decide))
     |((with_reducible refine CallWp.mk ?_);refine⟨_,Ae1,?_⟩;rintro _ _ ⟨rfl,rfl⟩))
    all_goals(try(conv=>whnf))
    rw[←hKK];clear hKK;as_aux_lemma=>
     repeat'((conv=>whnf);first
      |((with_reducible refine Ax (by first|(with_reducible assumption)|(with_reducible exact Bool.of_not_eq_false (by assumption))|(with_reducible exact Bool.of_not_eq_true (by assumption))|((with_reducible refine decide_eq_true ?_);first|(with_reducible assumption)|omega)|((with_reducible refine decide_eq_false ?_);first|(with_reducible assumption)|omega)|(with_reducible rfl)) (fun hb=>?_));(try rw[hb]);(try simp only[Aa]at hb);(try subst hb))
      |((with_reducible refine Aw (by first|(with_reducible assumption)|(with_reducible exact Bool.of_not_eq_false (by assumption))|(with_reducible exact Bool.of_not_eq_true (by assumption))|((with_reducible refine decide_eq_true ?_);first|(with_reducible assumption)|omega)|((with_reducible refine decide_eq_false ?_);first|(with_reducible assumption)|omega)|(with_reducible rfl)) (fun hb=>?_));(try rw[hb]);(try simp only[Aa]at hb);(try subst hb))
      |((with_reducible refine And.intro (fun hb=>?_) (fun hb=>?_))<;>first|(with_reducible exact absurd hb (by assumption))|(exact absurd hb (by decide))|(with_reducible exact absurd hb Bool.false_ne_true)|(with_reducible exact absurd hb.symm Bool.false_ne_true)|(exfalso;first|(simp only[Bu]at hb<;>omega)|omega)|((try rw[hb]);(try simp only[Aa]at hb);(try subst hb)))
      |((with_reducible refine Exists.intro ?_ ?_);focus (and_intros<;>first|omega|(with_reducible assumption)|(with_reducible rfl)|kernel_rfl|exact rfl|assumption|(intro _ hh;cases hh;done)|exact Ah (by rfl)|exact size_map (fun _=>rfl)|exact Aj rfl|exact take_size (fun _=>rfl)|exact Ag rfl|exact Ai (fun _=>rfl)|exact Ae (fun _=>rfl)|(simp only[Bu];omega)|(simp;done)|decide))
      |(with_reducible intro hfact)
      |((with_reducible refine And.intro ?_ ?_);focus (first|(with_reducible rfl)|(exact rfl)|decide)))
     all_goals(try(conv=>whnf))
     generalize hKK:F7 Tryd.prog _ _=KK;as_aux_lemma=>
      repeat'((conv=>whnf);first
       |((with_reducible refine Ax (by first|(with_reducible assumption)|(with_reducible exact Bool.of_not_eq_false (by assumption))|(with_reducible exact Bool.of_not_eq_true (by assumption))|((with_reducible refine decide_eq_true ?_);first|(with_reducible assumption)|omega)|((with_reducible refine decide_eq_false ?_);first|(with_reducible assumption)|omega)|(with_reducible rfl)) (fun hb=>?_));(try rw[hb]);(try simp only[Aa]at hb);(try subst hb))
       |((with_reducible refine Aw (by first|(with_reducible assumption)|(with_reducible exact Bool.of_not_eq_false (by assumption))|(with_reducible exact Bool.of_not_eq_true (by assumption))|((with_reducible refine decide_eq_true ?_);first|(with_reducible assumption)|omega)|((with_reducible refine decide_eq_false ?_);first|(with_reducible assumption)|omega)|(with_reducible rfl)) (fun hb=>?_));(try rw[hb]);(try simp only[Aa]at hb);(try subst hb))
       |((with_reducible refine And.intro (fun hb=>?_) (fun hb=>?_))<;>first|(with_reducible exact absurd hb (by assumption))|(exact absurd hb (by decide))|(with_reducible exact absurd hb Bool.false_ne_true)|(with_reducible exact absurd hb.symm Bool.false_ne_true)|(exfalso;first|(simp only[Bu]at hb<;>omega)|omega)|((try rw[hb]);(try simp only[Aa]at hb);(try subst hb)))
       |((with_reducible refine Exists.intro ?_ ?_);focus (and_intros<;>first|omega|(with_reducible assumption)|(with_reducible rfl)|kernel_rfl|exact rfl|assumption|(intro _ hh;cases hh;done)|exact Ah (by rfl)|exact size_map (fun _=>rfl)|exact Aj rfl|exact take_size (fun _=>rfl)|exact Ag rfl|exact Ai (fun _=>rfl)|exact Ae (fun _=>rfl)|(simp only[Bu];omega)|(simp;done)|decide))
       |(with_reducible intro hfact)
       |((with_reducible refine And.intro ?_ ?_);focus (first|(with_reducible rfl)|(exact rfl)|decide))
       |((with_reducible refine CallWp.mk ?_);refine⟨_,Yy,?_⟩;rintro _ _ ⟨rfl,rfl⟩))
      all_goals(try(conv=>whnf))
      rw[←hKK];clear hKK;as_aux_lemma=>
       repeat'((conv=>whnf);first
        |((with_reducible refine Ax (by first|(with_reducible assumption)|(with_reducible exact Bool.of_not_eq_false (by assumption))|(with_reducible exact Bool.of_not_eq_true (by assumption))|((with_reducible refine decide_eq_true ?_);first|(with_reducible assumption)|omega)|((with_reducible refine decide_eq_false ?_);first|(with_reducible assumption)|omega)|(with_reducible rfl)) (fun hb=>?_));(try rw[hb]);(try simp only[Aa]at hb);(try subst hb))
        |((with_reducible refine Aw (by first|(with_reducible assumption)|(with_reducible exact Bool.of_not_eq_false (by assumption))|(with_reducible exact Bool.of_not_eq_true (by assumption))|((with_reducible refine decide_eq_true ?_);first|(with_reducible assumption)|omega)|((with_reducible refine decide_eq_false ?_);first|(with_reducible assumption)|omega)|(with_reducible rfl)) (fun hb=>?_));(try rw[hb]);(try simp only[Aa]at hb);(try subst hb))
        |((with_reducible refine And.intro (fun hb=>?_) (fun hb=>?_))<;>first|(with_reducible exact absurd hb (by assumption))|(exact absurd hb (by decide))|(with_reducible exact absurd hb Bool.false_ne_true)|(with_reducible exact absurd hb.symm Bool.false_ne_true)|(exfalso;first|(simp only[Bu]at hb<;>omega)|omega)|((try rw[hb]);(try simp only[Aa]at hb);(try subst hb)))
        |((with_reducible refine Exists.intro ?_ ?_);focus (and_intros<;>first|omega|(with_reducible assumption)|(with_reducible rfl)|kernel_rfl|exact rfl|assumption|(intro _ hh;cases hh;done)|exact Ah (by rfl)|exact size_map (fun _=>rfl)|exact Aj rfl|exact take_size (fun _=>rfl)|exact Ag rfl|exact Ai (fun _=>rfl)|exact Ae (fun _=>rfl)|(simp only[Bu];omega)|(simp;done)|decide))
        |(with_reducible intro hfact)
        |((with_reducible refine And.intro ?_ ?_);focus (first|(with_reducible rfl)|(exact rfl)|decide))
        |((with_reducible refine CallWp.mk ?_);refine⟨_,Yo,?_⟩;rintro _ _ ⟨rfl,rfl⟩)
        |((with_reducible refine CallWp.mk ?_);refine⟨_,Ys,?_⟩;rintro _ _ ⟨rfl,rfl⟩))
       all_goals(try(conv=>whnf))
       (apply dKq<;>kernel_rfl)

open Go.Proofs
abbrev tQ:Az:=[116]
theorem Tq(w:List (List Chg))(n:Az)(mb mk:Int)(h:F9 w=true∨mb<0∨mk<0):
 Fn Tryd.prog Ev [.v (.list (w.map fun l=>I.list (l.map Chg.toI))),.v (.agg [.str n,ti mb,ti mk])] (Is (.v (.bool true)) [.no,.no]):=by
 refine Jg ?_ (by simp)
 have hg:=L6 w;cases hG:F9 w with
 |true=>
  rw[hG]at hg;repeat'((conv=>whnf);first
   |((with_reducible refine Ax (by first|(with_reducible assumption)|(with_reducible exact Bool.of_not_eq_false (by assumption))|(with_reducible exact Bool.of_not_eq_true (by assumption))|((with_reducible refine decide_eq_true ?_);first|(with_reducible assumption)|omega)|((with_reducible refine decide_eq_false ?_);first|(with_reducible assumption)|omega)|(with_reducible rfl)) (fun hb=>?_));(try rw[hb]);(try simp only[Aa]at hb);(try subst hb))
   |((with_reducible refine Aw (by first|(with_reducible assumption)|(with_reducible exact Bool.of_not_eq_false (by assumption))|(with_reducible exact Bool.of_not_eq_true (by assumption))|((with_reducible refine decide_eq_true ?_);first|(with_reducible assumption)|omega)|((with_reducible refine decide_eq_false ?_);first|(with_reducible assumption)|omega)|(with_reducible rfl)) (fun hb=>?_));(try rw[hb]);(try simp only[Aa]at hb);(try subst hb))
   |((with_reducible refine And.intro (fun hb=>?_) (fun hb=>?_))<;>first|(with_reducible exact absurd hb (by assumption))|(exact absurd hb (by decide))|(with_reducible exact absurd hb Bool.false_ne_true)|(with_reducible exact absurd hb.symm Bool.false_ne_true)|(exfalso;first|(simp only[Bu]at hb<;>omega)|omega)|((try rw[hb]);(try simp only[Aa]at hb);(try subst hb)))
   |((with_reducible refine Exists.intro ?_ ?_);focus (and_intros<;>first|omega|(with_reducible assumption)|(with_reducible rfl)|kernel_rfl|exact rfl|assumption|(intro _ hh;cases hh;done)|exact Ah (by rfl)|exact size_map (fun _=>rfl)|exact Aj rfl|exact take_size (fun _=>rfl)|exact Ag rfl|exact Ai (fun _=>rfl)|exact Ae (fun _=>rfl)|(simp only[Bu];omega)|(simp;done)|decide))
   |(with_reducible intro hfact)
   |((with_reducible refine And.intro ?_ ?_);focus (first|(with_reducible rfl)|(exact rfl)|decide))
   |((with_reducible apply Drawn.by0);(focus kernel_rfl);intro hfact;(try simp only[dRS]at hfact))
   |((with_reducible refine CallWp.mk ?_);refine⟨_,Jt,?_⟩;rintro _ _ ⟨rfl,rfl⟩)
   |((with_reducible refine CallWp.mk ?_);refine⟨_,hg,?_⟩;rintro _ _ ⟨rfl,rfl⟩))
  all_goals(try(conv=>whnf))
  all_goals((apply dKq<;>kernel_rfl))
 |false=>
  rw[hG]at hg h;have h:mb<0∨mk<0:=by simpa using h
  repeat'((conv=>whnf);first
   |((with_reducible refine Ax (by first|(with_reducible assumption)|(with_reducible exact Bool.of_not_eq_false (by assumption))|(with_reducible exact Bool.of_not_eq_true (by assumption))|((with_reducible refine decide_eq_true ?_);first|(with_reducible assumption)|omega)|((with_reducible refine decide_eq_false ?_);first|(with_reducible assumption)|omega)|(with_reducible rfl)) (fun hb=>?_));(try rw[hb]);(try simp only[Aa]at hb);(try subst hb))
   |((with_reducible refine Aw (by first|(with_reducible assumption)|(with_reducible exact Bool.of_not_eq_false (by assumption))|(with_reducible exact Bool.of_not_eq_true (by assumption))|((with_reducible refine decide_eq_true ?_);first|(with_reducible assumption)|omega)|((with_reducible refine decide_eq_false ?_);first|(with_reducible assumption)|omega)|(with_reducible rfl)) (fun hb=>?_));(try rw[hb]);(try simp only[Aa]at hb);(try subst hb))
   |((with_reducible refine And.intro (fun hb=>?_) (fun hb=>?_))<;>first|(with_reducible exact absurd hb (by assumption))|(exact absurd hb (by decide))|(with_reducible exact absurd hb Bool.false_ne_true)|(with_reducible exact absurd hb.symm Bool.false_ne_true)|(exfalso;first|(simp only[Bu]at hb<;>omega)|omega)|((try rw[hb]);(try simp only[Aa]at hb);(try subst hb)))
   |((with_reducible refine Exists.intro ?_ ?_);focus (and_intros<;>first|omega|(with_reducible assumption)|(with_reducible rfl)|kernel_rfl|exact rfl|assumption|(intro _ hh;cases hh;done)|exact Ah (by rfl)|exact size_map (fun _=>rfl)|exact Aj rfl|exact take_size (fun _=>rfl)|exact Ag rfl|exact Ai (fun _=>rfl)|exact Ae (fun _=>rfl)|(simp only[Bu];omega)|(simp;done)|decide))
   |(with_reducible intro hfact)
   |((with_reducible refine And.intro ?_ ?_);focus (first|(with_reducible rfl)|(exact rfl)|decide))
   |((with_reducible apply Drawn.by0);(focus kernel_rfl);intro hfact;(try simp only[dRS]at hfact))
   |((with_reducible refine CallWp.mk ?_);refine⟨_,Jt,?_⟩;rintro _ _ ⟨rfl,rfl⟩)
   |((with_reducible refine CallWp.mk ?_);refine⟨_,hg,?_⟩;rintro _ _ ⟨rfl,rfl⟩))
  all_goals(try(conv=>whnf))
  all_goals first
   |(exfalso;omega)
   |(apply dKq<;>kernel_rfl)

open Go.Proofs
def Hq:Stm:=(sO [O1 (.box 3 1),gA 4 cF] (.seq (sO [gC 11 17 [],gT 12 11] (cR 12 [gA 4 cF])) (.seq (sO [gM 13 0,gC 14 18 [nL 13],gM 15 14,qf 15 (iG 16 3 1 1),qf 15 (iL 17 16),qf 15 (iB 18 .lss 17 (cI 0)),gP 19 15 cT 18,gM 20 19,qf 20 (iG 21 3 2 2),qf 20 (iL 22 21),qf 20 (iB 23 .lss 22 (cI 0)),gP 24 20 cT 23] (cR 24 [gA 4 cT])) (sO [gF 25 3 0,gS 1 25 (cS [116])] (sO [gC 26 19 [],O1 (.movD 5 26)] (sO [gM 27 5,gC 28 20 [(true,27),nL (cS [116])]] (.seq (sO [gM 29 0,gN 30 29,gM 31 (cI 0)] (.block 0 (.loop (kr [4,7,8,9,10,13] 32 44) (sO [gB 32 .lss 31 30] (.seq (.cond 32 .skip (.exit 0)) (.seq (.block 1 (sO [gI 33 1 29 31,gL 34 33,gA 7 34] (sO [gM 35 5,gU 36 3 3,gM 37 7,gC 38 21 [(true,35),nL 36,nL 37],gA 8 38] (sO [gM 39 5,gC 40 22 [(true,39),nL (cS [116])],gM 41 5,gC 42 23 [(true,41),nL (cS [116])],gA 9 40,gA 10 42] (.seq (sO [gM 43 8] (.cond 43 (.ops [gM 44 5,gM 45 7,gC 46 24 [(true,44),nL (cS [116]),nL 45]]) .skip)) (.seq (.drw [0,1,0,4,15,31,63,127,63,319,1023,2047,4095,8191,16383,32767,65535,131071,65535,524287,1048575,2097151,4194303,2097151,16777215,33554431,67108863,134217727] [gM 47 5,gC 48 22 [(true,47),nL (cS [116])],gF 49 3 1,gL 50 49,gB 51 .gtr 48 50,gM 52 51,qf 52 (iM 53 5),.call (some (52,false)) (some 54) 23 [(true,53),nL (cS [116])],qf 52 (iG 55 3 2 2),qf 52 (iL 56 55),qf 52 (iB 57 .gtr 54 56),gP 58 52 cT 57,gM 59 58,qf 59 (iM 60 8),qf 59 (iT 61 60),qf 59 (iM 62 61),qt 62 (iM 63 5),.call (some (62,true)) (some 64) 22 [(true,63),nL (cS [116])],qt 62 (iM 65 9),qt 62 (iB 66 .neq 64 65),qt 62 (iM 67 66),qf 67 (iM 68 5),.call (some (67,false)) (some 69) 23 [(true,68),nL (cS [116])],qf 67 (iM 70 10),qf 67 (iB 71 .neq 69 70),qt 62 (iP 72 67 cT 71),qf 59 (iP 73 62 72 cF),gP 74 59 cT 73]) (cR 74 [gA 4 cF]))))))) (.ops [gB 75 .add 31 (cI 1),gM 31 75]))))))) (sO [gA 4 cT] .ret))))))))
theorem Hr:OF 3 76 Hq [.t 4]:=oF Tryd.func3 rfl Tryd.ntmps3 (by kernel_rfl) (by kernel_rfl)
end Go.Ab
