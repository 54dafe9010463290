/- Lemmas -/
import Derived.Test.YtkpojedpcabojaaDoorU1
set_option linter.unusedVariables false
set_option linter.unusedSimpArgs false
set_option maxRecDepth 100000
set_option maxHeartbeats 40000000
namespace Go.Ab
open Go.Proofs
def Sto.afterM(s:Sto)(n:Az)(cs:List Chg):Int × Int:=(((s.writeM n cs).1.tal n).bytes,((s.writeM n cs).1.tal n).keys)
theorem Wb{m:Nat}{s:Sto}(hI:SInv m s)(hm:m≤80000)(n:Az)(hn:n.length≤1000)(cs:List Chg)(hcs:cs.length≤1000):
 Fn Tryd.prog Ez [sP s,.v (.str n),.v (.list (cs.map Chg.toI))] (Is (.tup [.i (ti (s.afterM n cs).1),.i (ti (s.afterM n cs).2)]) [sP s,.no,.no]):=by
 cases hF:K6 cs []with
 |none=>
  unfold Sto.afterM;rw[Lr (.inr hF)];exact Wc s n cs hcs none rfl hF
 |some FF=>
  cases hf:s.fi n with
  |none=>
   unfold Sto.afterM;rw[Lr (.inl hf)];exact Vu s n cs hcs hn hI hm hf FF _ rfl hF
  |some q=>
   obtain⟨h1,h2⟩:=Mb hI hf hF;unfold Sto.afterM;dsimp only;rw[h1,h2];exact Vt s n cs hcs hn hI hm q hf FF _ rfl hF _ _ _ _ rfl rfl (by rw[Q0]) (by rw[Q0])
def tenI(n:Az)(b k:Int):I:=.agg [.str n,ti b,ti k]
def Sto.fitsM(s:Sto)(n:Az)(mb mk:Int)(cs:List Chg):Bool:=decide ((s.afterM n cs).1≤max mb (s.tal n).bytes)&&decide ((s.afterM n cs).2≤max mk (s.tal n).keys)
theorem Lu{m:Nat}{s:Sto}(hI:SInv m s)(hm:m≤80000)(n:Az)(hn:n.length≤1000)(mb mk:Int)(cs:List Chg)(hcs:cs.length≤1000):
 Fn Tryd.prog Jj [sP s,.v (tenI n mb mk),.v (.list (cs.map Chg.toI))] (Is (.v (.bool (s.fitsM n mb mk cs))) [sP s,.no,.no]):=by
 have ha:=Wb hI hm n hn cs hcs;have hb:=Aj6 s n;have hk:=Akb s n;unfold Sto.fitsM;generalize s.afterM n cs=A at*;generalize (s.tal n).bytes=B at*;generalize (s.tal n).keys=K at*;obtain⟨a1,a2⟩:=A;dsimp only at ha ⊢;refine Sk ?_ (by simp)
 cases c1:decide (a1≤max mb B)with
 |false=>
  repeat'((conv=>whnf);first
   |((with_reducible refine Ax (by first|(with_reducible assumption)|(with_reducible exact Bool.of_not_eq_false (by assumption))|(with_reducible exact Bool.of_not_eq_true (by assumption))|((with_reducible refine decide_eq_true ?_);first|(with_reducible assumption)|omega)|((with_reducible refine decide_eq_false ?_);first|(with_reducible assumption)|omega)|(with_reducible rfl)) (fun hb=>?_));(try rw[hb]);(try simp only[Aa]at hb);(try subst hb))
   |((with_reducible refine Aw (by first|(with_reducible assumption)|(with_reducible exact Bool.of_not_eq_false (by assumption))|(with_reducible exact Bool.of_not_eq_true (by assumption))|((with_reducible refine decide_eq_true ?_);first|(with_reducible assumption)|omega)|((with_reducible refine decide_eq_false ?_);first|(with_reducible assumption)|omega)|(with_reducible rfl)) (fun hb=>?_));(try rw[hb]);(try simp only[Aa]at hb);(try subst hb))
   |((with_reducible refine And.intro (fun hb=>?_) (fun hb=>?_))<;>first|(with_reducible exact absurd hb (by assumption))|(exact absurd hb (by decide))|(with_reducible exact absurd hb Bool.false_ne_true)|(with_reducible exact absurd hb.symm Bool.false_ne_true)|(exfalso;first|(simp only[Bu]at hb<;>omega)|omega)|((try rw[hb]);(try simp only[Aa]at hb);(try subst hb)))
   |((with_reducible refine Exists.intro ?_ ?_);focus (and_intros<;>first|omega|(with_reducible assumption)|(with_reducible rfl)|kernel_rfl|exact rfl|assumption|(intro _ hh;cases hh;done)|exact Ah (by rfl)|exact size_map (fun _=>rfl)|exact Aj rfl|exact take_size (fun _=>rfl)|exact Ag rfl|exact Ai (fun _=>rfl)|exact Ae (fun _=>rfl)|(simp only[Bu];omega)|(simp;done)|decide))
   |(with_reducible intro hfact)
   |((with_reducible refine And.intro ?_ ?_);focus (first|(with_reducible rfl)|(exact rfl)|decide))
   |((with_reducible refine Drawn.mkV ?_ ?_ ?_ (fun hfact=>?_));(focus (as_aux_lemma=>kernel_rfl));(focus (as_aux_lemma=>kernel_rfl));(focus (as_aux_lemma=>kernel_rfl));(try simp only[dRS]at hfact))
   |((with_reducible refine CallWp.mk ?_);refine⟨_,ha,?_⟩;rintro _ _ ⟨rfl,rfl⟩)
   |((with_reducible refine CallIs.mk ?_);refine⟨_,_,hb,?_⟩)
   |((with_reducible refine CallIs.mk ?_);refine⟨_,_,hk,?_⟩)
   |((first|with_reducible apply A9|with_reducible apply Ba);(focus (simp only[D.at,D.put,D.kid,D.setKid,mkSt,Ap,D.toI,toIs,Ak,Af,tenI]<;>exact rfl)))
   |((first|with_reducible apply A3|with_reducible apply A2);(focus rfl);(focus (simp only[D.at,D.put,D.kid,D.setKid,mkSt,Ap,D.toI,toIs,Ak,Af,tenI]<;>exact rfl));(try(focus exact rfl))))
  all_goals(try(conv=>whnf))
  all_goals((apply dKq<;>kernel_rfl))
 |true=>
  repeat'((conv=>whnf);first
   |((with_reducible refine Ax (by first|(with_reducible assumption)|(with_reducible exact Bool.of_not_eq_false (by assumption))|(with_reducible exact Bool.of_not_eq_true (by assumption))|((with_reducible refine decide_eq_true ?_);first|(with_reducible assumption)|omega)|((with_reducible refine decide_eq_false ?_);first|(with_reducible assumption)|omega)|(with_reducible rfl)) (fun hb=>?_));(try rw[hb]);(try simp only[Aa]at hb);(try subst hb))
   |((with_reducible refine Aw (by first|(with_reducible assumption)|(with_reducible exact Bool.of_not_eq_false (by assumption))|(with_reducible exact Bool.of_not_eq_true (by assumption))|((with_reducible refine decide_eq_true ?_);first|(with_reducible assumption)|omega)|((with_reducible refine decide_eq_false ?_);first|(with_reducible assumption)|omega)|(with_reducible rfl)) (fun hb=>?_));(try rw[hb]);(try simp only[Aa]at hb);(try subst hb))
   |((with_reducible refine And.intro (fun hb=>?_) (fun hb=>?_))<;>first|(with_reducible exact absurd hb (by assumption))|(exact absurd hb (by decide))|(with_reducible exact absurd hb Bool.false_ne_true)|(with_reducible exact absurd hb.symm Bool.false_ne_true)|(exfalso;first|(simp only[Bu]at hb<;>omega)|omega)|((try rw[hb]);(try simp only[Aa]at hb);(try subst hb)))
   |((with_reducible refine Exists.intro ?_ ?_);focus (and_intros<;>first|omega|(with_reducible assumption)|(with_reducible rfl)|kernel_rfl|exact rfl|assumption|(intro _ hh;cases hh;done)|exact Ah (by rfl)|exact size_map (fun _=>rfl)|exact Aj rfl|exact take_size (fun _=>rfl)|exact Ag rfl|exact Ai (fun _=>rfl)|exact Ae (fun _=>rfl)|(simp only[Bu];omega)|(simp;done)|decide))
   |(with_reducible intro hfact)
   |((with_reducible refine And.intro ?_ ?_);focus (first|(with_reducible rfl)|(exact rfl)|decide))
   |((with_reducible refine Drawn.mkV ?_ ?_ ?_ (fun hfact=>?_));(focus (as_aux_lemma=>kernel_rfl));(focus (as_aux_lemma=>kernel_rfl));(focus (as_aux_lemma=>kernel_rfl));(try simp only[dRS]at hfact))
   |((with_reducible refine CallWp.mk ?_);refine⟨_,ha,?_⟩;rintro _ _ ⟨rfl,rfl⟩)
   |((with_reducible refine CallIs.mk ?_);refine⟨_,_,hb,?_⟩)
   |((with_reducible refine CallIs.mk ?_);refine⟨_,_,hk,?_⟩)
   |((first|with_reducible apply A9|with_reducible apply Ba);(focus (simp only[D.at,D.put,D.kid,D.setKid,mkSt,Ap,D.toI,toIs,Ak,Af,tenI]<;>exact rfl)))
   |((first|with_reducible apply A3|with_reducible apply A2);(focus rfl);(focus (simp only[D.at,D.put,D.kid,D.setKid,mkSt,Ap,D.toI,toIs,Ak,Af,tenI]<;>exact rfl));(try(focus exact rfl))))
  all_goals(try(conv=>whnf))
  all_goals((apply dKq<;>kernel_rfl))
def gtGo:List (List Chg)→Bool
 | []=>false
 |l::r=>if 100<l.length then true else if cGo l=true then true else gtGo r
def F9(w:List (List Chg)):Bool:=if 60<w.length then true else gtGo w
theorem X0:∀{w:List (List Chg)},gtGo w=false→∀l∈w,l.length≤100
 | [],_=>by simp
 |l::r,h=>by
  unfold gtGo at h;split at h
  ·cases h
  ·split at h
   ·cases h
   ·intro x hx;rcases List.mem_cons.1 hx with rfl|hx
    ·omega
    ·exact X0 h x hx
theorem Wv{w:List (List Chg)}(h:F9 w=false):w.length≤60∧∀l∈w,l.length≤100:=by
 unfold F9 at h;split at h
 ·cases h
 ·exact⟨by omega,X0 h⟩
theorem L6(w:List (List Chg)):Fn Tryd.prog Lf [.v (.list (w.map fun l=>I.list (l.map Chg.toI)))] (Is (.v (.bool (F9 w))) [.no]):=by
 refine Ko ?_ (by simp)
 have hwl:(w.map fun l=>I.list (l.map Chg.toI)).length=w.length:=List.length_map _
 unfold F9;by_cases h60:60<w.length
 ·rw[if_pos h60];repeat'((conv=>whnf);first
   |((with_reducible refine Ax (by first|(with_reducible assumption)|(with_reducible exact Bool.of_not_eq_false (by assumption))|(with_reducible exact Bool.of_not_eq_true (by assumption))|((with_reducible refine decide_eq_true ?_);first|(with_reducible assumption)|omega)|((with_reducible refine decide_eq_false ?_);first|(with_reducible assumption)|omega)|(with_reducible rfl)) (fun hb=>?_));(try rw[hb]);(try simp only[Aa]at hb);(try subst hb))
   |((with_reducible refine Aw (by first|(with_reducible assumption)|(with_reducible exact Bool.of_not_eq_false (by assumption))|(with_reducible exact Bool.of_not_eq_true (by assumption))|((with_reducible refine decide_eq_true ?_);first|(with_reducible assumption)|omega)|((with_reducible refine decide_eq_false ?_);first|(with_reducible assumption)|omega)|(with_reducible rfl)) (fun hb=>?_));(try rw[hb]);(try simp only[Aa]at hb);(try subst hb))
   |((with_reducible refine And.intro (fun hb=>?_) (fun hb=>?_))<;>first|(with_reducible exact absurd hb (by assumption))|(exact absurd hb (by decide))|(with_reducible exact absurd hb Bool.false_ne_true)|(with_reducible exact absurd hb.symm Bool.false_ne_true)|(exfalso;first|(simp only[Bu]at hb<;>omega)|omega)|((try rw[hb]);(try simp only[Aa]at hb);(try subst hb)))
   |((with_reducible refine Exists.intro ?_ ?_);focus (and_intros<;>first|omega|(with_reducible assumption)|(with_reducible rfl)|kernel_rfl|exact rfl|assumption|(intro _ hh;cases hh;done)|exact Ah (by rfl)|exact size_map (fun _=>rfl)|exact Aj rfl|exact take_size (fun _=>rfl)|exact Ag rfl|exact Ai (fun _=>rfl)|exact Ae (fun _=>rfl)|(simp only[Bu];omega)|(simp;done)|decide))
   |(with_reducible intro hfact)
   |((with_reducible refine And.intro ?_ ?_);focus (first|(with_reducible rfl)|(exact rfl)|decide)))
  all_goals(try(conv=>whnf))
  all_goals first
   |(exfalso;omega)
   |(apply dKq<;>kernel_rfl)
 rw[if_neg h60];obtain⟨RES,hRES⟩:∃R,gtGo w=R:=⟨_,rfl⟩;rw[hRES];repeat'((conv=>whnf);first
  |((with_reducible refine Ax (by first|(with_reducible assumption)|(with_reducible exact Bool.of_not_eq_false (by assumption))|(with_reducible exact Bool.of_not_eq_true (by assumption))|((with_reducible refine decide_eq_true ?_);first|(with_reducible assumption)|omega)|((with_reducible refine decide_eq_false ?_);first|(with_reducible assumption)|omega)|(with_reducible rfl)) (fun hb=>?_));(try rw[hb]);(try simp only[Aa]at hb);(try subst hb))
  |((with_reducible refine Aw (by first|(with_reducible assumption)|(with_reducible exact Bool.of_not_eq_false (by assumption))|(with_reducible exact Bool.of_not_eq_true (by assumption))|((with_reducible refine decide_eq_true ?_);first|(with_reducible assumption)|omega)|((with_reducible refine decide_eq_false ?_);first|(with_reducible assumption)|omega)|(with_reducible rfl)) (fun hb=>?_));(try rw[hb]);(try simp only[Aa]at hb);(try subst hb))
  |((with_reducible refine And.intro (fun hb=>?_) (fun hb=>?_))<;>first|(with_reducible exact absurd hb (by assumption))|(exact absurd hb (by decide))|(with_reducible exact absurd hb Bool.false_ne_true)|(with_reducible exact absurd hb.symm Bool.false_ne_true)|(exfalso;first|(simp only[Bu]at hb<;>omega)|omega)|((try rw[hb]);(try simp only[Aa]at hb);(try subst hb)))
  |((with_reducible refine Exists.intro ?_ ?_);focus (and_intros<;>first|omega|(with_reducible assumption)|(with_reducible rfl)|kernel_rfl|exact rfl|assumption|(intro _ hh;cases hh;done)|exact Ah (by rfl)|exact size_map (fun _=>rfl)|exact Aj rfl|exact take_size (fun _=>rfl)|exact Ag rfl|exact Ai (fun _=>rfl)|exact Ae (fun _=>rfl)|(simp only[Bu];omega)|(simp;done)|decide))
  |(with_reducible intro hfact)
  |((with_reducible refine And.intro ?_ ?_);focus (first|(with_reducible rfl)|(exact rfl)|decide)))
 all_goals(try(conv=>whnf))
 refine LoopWq.by (X:=Nat) (fun j=>[(12,.v (ti (j:Int)))]) (fun j=>j≤w.length∧gtGo (w.drop j)=RES) (fun j=>w.length - j) 0 (by kernel_rfl) ⟨Nat.zero_le _,hRES⟩ ?_
 rintro j ⟨hj,hR⟩
 (try dsimp only at hj hR ⊢)
 by_cases hjl:j<w.length
 case neg=>
  have h3:¬decide ((j:Int)<((w.map fun l=>I.list (l.map Chg.toI)).length:Int))=true:=by simp;omega
  have h4:¬decide ((j:Int)<(w.length:Int))=true:=by simp;omega
  rw[List.drop_eq_nil_of_le (by omega)]at hR
  have hR:false=RES:=hR;subst hR;repeat'((conv=>whnf);first
   |((with_reducible refine Ax (by first|(with_reducible assumption)|(with_reducible exact Bool.of_not_eq_false (by assumption))|(with_reducible exact Bool.of_not_eq_true (by assumption))|((with_reducible refine decide_eq_true ?_);first|(with_reducible assumption)|omega)|((with_reducible refine decide_eq_false ?_);first|(with_reducible assumption)|omega)|(with_reducible rfl)) (fun hb=>?_));(try rw[hb]);(try simp only[Aa]at hb);(try subst hb))
   |((with_reducible refine Aw (by first|(with_reducible assumption)|(with_reducible exact Bool.of_not_eq_false (by assumption))|(with_reducible exact Bool.of_not_eq_true (by assumption))|((with_reducible refine decide_eq_true ?_);first|(with_reducible assumption)|omega)|((with_reducible refine decide_eq_false ?_);first|(with_reducible assumption)|omega)|(with_reducible rfl)) (fun hb=>?_));(try rw[hb]);(try simp only[Aa]at hb);(try subst hb))
   |((with_reducible refine And.intro (fun hb=>?_) (fun hb=>?_))<;>first|(with_reducible exact absurd hb (by assumption))|(exact absurd hb (by decide))|(with_reducible exact absurd hb Bool.false_ne_true)|(with_reducible exact absurd hb.symm Bool.false_ne_true)|(exfalso;first|(simp only[Bu]at hb<;>omega)|omega)|((try rw[hb]);(try simp only[Aa]at hb);(try subst hb)))
   |((with_reducible refine Exists.intro ?_ ?_);focus (and_intros<;>first|omega|(with_reducible assumption)|(with_reducible rfl)|kernel_rfl|exact rfl|assumption|(intro _ hh;cases hh;done)|exact Ah (by rfl)|exact size_map (fun _=>rfl)|exact Aj rfl|exact take_size (fun _=>rfl)|exact Ag rfl|exact Ai (fun _=>rfl)|exact Ae (fun _=>rfl)|(simp only[Bu];omega)|(simp;done)|decide))
   |(with_reducible intro hfact)
   |((with_reducible refine And.intro ?_ ?_);focus (first|(with_reducible rfl)|(exact rfl)|decide)))
  all_goals(try(conv=>whnf))
  (apply dKq<;>kernel_rfl)
 have hw:IntKind.i64.wrap ((j:Int)+1)=((j+1:Nat):Int):=(Bf (by omega)).trans (by omega)
 obtain⟨l,hl⟩:∃x,w[j]?=some x:=⟨_,List.getElem?_eq_getElem hjl⟩;have h3:¬decide ((j:Int)<((w.map fun l=>I.list (l.map Chg.toI)).length:Int))=false:=by simp;omega
 have h4:¬decide ((j:Int)<(w.length:Int))=false:=by simp;omega
 have hdr:w.drop j=l::w.drop (j+1):=by rw[List.drop_eq_getElem_cons hjl];rw[List.getElem?_eq_getElem hjl]at hl;cases hl;rfl
 rw[hdr]at hR;unfold gtGo at hR;have hcl:(l.map Chg.toI).length=l.length:=List.length_map _;by_cases hd:100<l.length
 ·rw[if_pos hd]at hR;subst hR;repeat'((conv=>whnf);first
   |((with_reducible refine Ax (by first|(with_reducible assumption)|(with_reducible exact Bool.of_not_eq_false (by assumption))|(with_reducible exact Bool.of_not_eq_true (by assumption))|((with_reducible refine decide_eq_true ?_);first|(with_reducible assumption)|omega)|((with_reducible refine decide_eq_false ?_);first|(with_reducible assumption)|omega)|(with_reducible rfl)) (fun hb=>?_));(try rw[hb]);(try simp only[Aa]at hb);(try subst hb))
   |((with_reducible refine Aw (by first|(with_reducible assumption)|(with_reducible exact Bool.of_not_eq_false (by assumption))|(with_reducible exact Bool.of_not_eq_true (by assumption))|((with_reducible refine decide_eq_true ?_);first|(with_reducible assumption)|omega)|((with_reducible refine decide_eq_false ?_);first|(with_reducible assumption)|omega)|(with_reducible rfl)) (fun hb=>?_));(try rw[hb]);(try simp only[Aa]at hb);(try subst hb))
   |((with_reducible refine And.intro (fun hb=>?_) (fun hb=>?_))<;>first|(with_reducible exact absurd hb (by assumption))|(exact absurd hb (by decide))|(with_reducible exact absurd hb Bool.false_ne_true)|(with_reducible exact absurd hb.symm Bool.false_ne_true)|(exfalso;first|(simp only[Bu]at hb<;>omega)|omega)|((try rw[hb]);(try simp only[Aa]at hb);(try subst hb)))
   |((with_reducible refine Exists.intro ?_ ?_);focus (and_intros<;>first|omega|(with_reducible assumption)|(with_reducible rfl)|kernel_rfl|exact rfl|assumption|(intro _ hh;cases hh;done)|exact Ah (by rfl)|exact size_map (fun _=>rfl)|exact Aj rfl|exact take_size (fun _=>rfl)|exact Ag rfl|exact Ai (fun _=>rfl)|exact Ae (fun _=>rfl)|(simp only[Bu];omega)|(simp;done)|decide))
   |(with_reducible intro hfact)
   |((with_reducible refine And.intro ?_ ?_);focus (first|(with_reducible rfl)|(exact rfl)|decide))
   |((try dsimp only);first|rw[B6 hl]|rw[Cb hl]|rw[Cv hl])
   |((try dsimp only);rw[hcl])
   |((try dsimp only);rw[hw]))
  all_goals(try(conv=>whnf))
  all_goals first
   |(exfalso;omega)
   |(apply dKq<;>kernel_rfl)
 rw[if_neg hd]at hR;repeat'((conv=>whnf);first
  |((with_reducible refine Ax (by first|(with_reducible assumption)|(with_reducible exact Bool.of_not_eq_false (by assumption))|(with_reducible exact Bool.of_not_eq_true (by assumption))|((with_reducible refine decide_eq_true ?_);first|(with_reducible assumption)|omega)|((with_reducible refine decide_eq_false ?_);first|(with_reducible assumption)|omega)|(with_reducible rfl)) (fun hb=>?_));(try rw[hb]);(try simp only[Aa]at hb);(try subst hb))
  |((with_reducible refine Aw (by first|(with_reducible assumption)|(with_reducible exact Bool.of_not_eq_false (by assumption))|(with_reducible exact Bool.of_not_eq_true (by assumption))|((with_reducible refine decide_eq_true ?_);first|(with_reducible assumption)|omega)|((with_reducible refine decide_eq_false ?_);first|(with_reducible assumption)|omega)|(with_reducible rfl)) (fun hb=>?_));(try rw[hb]);(try simp only[Aa]at hb);(try subst hb))
  |((with_reducible refine And.intro (fun hb=>?_) (fun hb=>?_))<;>first|(with_reducible exact absurd hb (by assumption))|(exact absurd hb (by decide))|(with_reducible exact absurd hb Bool.false_ne_true)|(with_reducible exact absurd hb.symm Bool.false_ne_true)|(exfalso;first|(simp only[Bu]at hb<;>omega)|omega)|((try rw[hb]);(try simp only[Aa]at hb);(try subst hb)))
  |((with_reducible refine Exists.intro ?_ ?_);focus (and_intros<;>first|omega|(with_reducible assumption)|(with_reducible rfl)|kernel_rfl|exact rfl|assumption|(intro _ hh;cases hh;done)|exact Ah (by rfl)|exact size_map (fun _=>rfl)|exact Aj rfl|exact take_size (fun _=>rfl)|exact Ag rfl|exact Ai (fun _=>rfl)|exact Ae (fun _=>rfl)|(simp only[Bu];omega)|(simp;done)|decide))
  |(with_reducible intro hfact)
  |((with_reducible refine And.intro ?_ ?_);focus (first|(with_reducible rfl)|(exact rfl)|decide))
  |((try dsimp only);first|rw[B6 hl]|rw[Cb hl]|rw[Cv hl])
  |((try dsimp only);rw[hcl])
  |((try dsimp only);rw[hw]))
 all_goals(try(conv=>whnf))
 refine LoopWq.by (X:=Nat) (fun q=>[(21,.v (ti (q:Int)))]) (fun q=>q≤l.length∧(if cGo (l.drop q)=true then true else gtGo (w.drop (j+1)))=RES) (fun q=>l.length - q) 0 (by kernel_rfl) ⟨Nat.zero_le _,hR⟩ ?_
 rintro q ⟨hq,hQ⟩
 (try dsimp only at hq hQ ⊢)
 have hw2:IntKind.i64.wrap ((q:Int)+1)=((q+1:Nat):Int):=(Bf (by omega)).trans (by omega)
 by_cases hql:q<l.length
 case neg=>
  have h5:¬decide ((q:Int)<((l.map Chg.toI).length:Int))=true:=by simp;omega
  have h6:¬decide ((q:Int)<(l.length:Int))=true:=by simp;omega
  rw[List.drop_eq_nil_of_le (by omega)]at hQ
  have hQ:gtGo (w.drop (j+1))=RES:=hQ;repeat'((conv=>whnf);first
   |((with_reducible refine Ax (by first|(with_reducible assumption)|(with_reducible exact Bool.of_not_eq_false (by assumption))|(with_reducible exact Bool.of_not_eq_true (by assumption))|((with_reducible refine decide_eq_true ?_);first|(with_reducible assumption)|omega)|((with_reducible refine decide_eq_false ?_);first|(with_reducible assumption)|omega)|(with_reducible rfl)) (fun hb=>?_));(try rw[hb]);(try simp only[Aa]at hb);(try subst hb))
   |((with_reducible refine Aw (by first|(with_reducible assumption)|(with_reducible exact Bool.of_not_eq_false (by assumption))|(with_reducible exact Bool.of_not_eq_true (by assumption))|((with_reducible refine decide_eq_true ?_);first|(with_reducible assumption)|omega)|((with_reducible refine decide_eq_false ?_);first|(with_reducible assumption)|omega)|(with_reducible rfl)) (fun hb=>?_));(try rw[hb]);(try simp only[Aa]at hb);(try subst hb))
   |((with_reducible refine And.intro (fun hb=>?_) (fun hb=>?_))<;>first|(with_reducible exact absurd hb (by assumption))|(exact absurd hb (by decide))|(with_reducible exact absurd hb Bool.false_ne_true)|(with_reducible exact absurd hb.symm Bool.false_ne_true)|(exfalso;first|(simp only[Bu]at hb<;>omega)|omega)|((try rw[hb]);(try simp only[Aa]at hb);(try subst hb)))
   |((with_reducible refine Exists.intro ?_ ?_);focus (and_intros<;>first|omega|(with_reducible assumption)|(with_reducible rfl)|kernel_rfl|exact rfl|assumption|(intro _ hh;cases hh;done)|exact Ah (by rfl)|exact size_map (fun _=>rfl)|exact Aj rfl|exact take_size (fun _=>rfl)|exact Ag rfl|exact Ai (fun _=>rfl)|exact Ae (fun _=>rfl)|(simp only[Bu];omega)|(simp;done)|decide))
   |(with_reducible intro hfact)
   |((with_reducible refine And.intro ?_ ?_);focus (first|(with_reducible rfl)|(exact rfl)|decide))
   |((try dsimp only);rw[hw]))
  all_goals(try(conv=>whnf))
  refine Round.by (j+1) ?_ ⟨by omega,hQ⟩ (by omega)
  try dsimp only
  show norm _ _=upd _ _
  kernel_rfl
 obtain⟨c,hc⟩:∃x,l[q]?=some x:=⟨_,List.getElem?_eq_getElem hql⟩;have h5:¬decide ((q:Int)<((l.map Chg.toI).length:Int))=false:=by simp;omega
 have h6:¬decide ((q:Int)<(l.length:Int))=false:=by simp;omega
 have hdq:l.drop q=c::l.drop (q+1):=by rw[List.drop_eq_getElem_cons hql];rw[List.getElem?_eq_getElem hql]at hc;cases hc;rfl
 rw[hdq]at hQ;unfold cGo at hQ;obtain⟨ck,cv,cg⟩:=c;by_cases hb:(Chg.mk ck cv cg).big
 ·rw[if_pos hb]at hQ;have hQ:true=RES:=hQ;subst hQ;unfold Chg.big at hb
  (try dsimp only at hb)
  repeat'((conv=>whnf);first
   |((with_reducible refine Ax (by first|(with_reducible assumption)|(with_reducible exact Bool.of_not_eq_false (by assumption))|(with_reducible exact Bool.of_not_eq_true (by assumption))|((with_reducible refine decide_eq_true ?_);first|(with_reducible assumption)|omega)|((with_reducible refine decide_eq_false ?_);first|(with_reducible assumption)|omega)|(with_reducible rfl)) (fun hb=>?_));(try rw[hb]);(try simp only[Aa]at hb);(try subst hb))
   |((with_reducible refine Aw (by first|(with_reducible assumption)|(with_reducible exact Bool.of_not_eq_false (by assumption))|(with_reducible exact Bool.of_not_eq_true (by assumption))|((with_reducible refine decide_eq_true ?_);first|(with_reducible assumption)|omega)|((with_reducible refine decide_eq_false ?_);first|(with_reducible assumption)|omega)|(with_reducible rfl)) (fun hb=>?_));(try rw[hb]);(try simp only[Aa]at hb);(try subst hb))
   |((with_reducible refine And.intro (fun hb=>?_) (fun hb=>?_))<;>first|(with_reducible exact absurd hb (by assumption))|(exact absurd hb (by decide))|(with_reducible exact absurd hb Bool.false_ne_true)|(with_reducible exact absurd hb.symm Bool.false_ne_true)|(exfalso;first|(simp only[Bu]at hb<;>omega)|omega)|((try rw[hb]);(try simp only[Aa]at hb);(try subst hb)))
   |((with_reducible refine Exists.intro ?_ ?_);focus (and_intros<;>first|omega|(with_reducible assumption)|(with_reducible rfl)|kernel_rfl|exact rfl|assumption|(intro _ hh;cases hh;done)|exact Ah (by rfl)|exact size_map (fun _=>rfl)|exact Aj rfl|exact take_size (fun _=>rfl)|exact Ag rfl|exact Ai (fun _=>rfl)|exact Ae (fun _=>rfl)|(simp only[Bu];omega)|(simp;done)|decide))
   |(with_reducible intro hfact)
   |((with_reducible refine And.intro ?_ ?_);focus (first|(with_reducible rfl)|(exact rfl)|decide))
   |((try dsimp only);first|rw[B6 hc]|rw[Cb hc]|rw[Cv hc])
   |((try dsimp only);rw[hw2]))
  all_goals(try(conv=>whnf))
  all_goals((apply dKq<;>kernel_rfl))
 ·rw[if_neg hb]at hQ;unfold Chg.big at hb
  (try dsimp only at hb)
  repeat'((conv=>whnf);first
   |((with_reducible refine Ax (by first|(with_reducible assumption)|(with_reducible exact Bool.of_not_eq_false (by assumption))|(with_reducible exact Bool.of_not_eq_true (by assumption))|((with_reducible refine decide_eq_true ?_);first|(with_reducible assumption)|omega)|((with_reducible refine decide_eq_false ?_);first|(with_reducible assumption)|omega)|(with_reducible rfl)) (fun hb=>?_));(try rw[hb]);(try simp only[Aa]at hb);(try subst hb))
   |((with_reducible refine Aw (by first|(with_reducible assumption)|(with_reducible exact Bool.of_not_eq_false (by assumption))|(with_reducible exact Bool.of_not_eq_true (by assumption))|((with_reducible refine decide_eq_true ?_);first|(with_reducible assumption)|omega)|((with_reducible refine decide_eq_false ?_);first|(with_reducible assumption)|omega)|(with_reducible rfl)) (fun hb=>?_));(try rw[hb]);(try simp only[Aa]at hb);(try subst hb))
   |((with_reducible refine And.intro (fun hb=>?_) (fun hb=>?_))<;>first|(with_reducible exact absurd hb (by assumption))|(exact absurd hb (by decide))|(with_reducible exact absurd hb Bool.false_ne_true)|(with_reducible exact absurd hb.symm Bool.false_ne_true)|(exfalso;first|(simp only[Bu]at hb<;>omega)|omega)|((try rw[hb]);(try simp only[Aa]at hb);(try subst hb)))
   |((with_reducible refine Exists.intro ?_ ?_);focus (and_intros<;>first|omega|(with_reducible assumption)|(with_reducible rfl)|kernel_rfl|exact rfl|assumption|(intro _ hh;cases hh;done)|exact Ah (by rfl)|exact size_map (fun _=>rfl)|exact Aj rfl|exact take_size (fun _=>rfl)|exact Ag rfl|exact Ai (fun _=>rfl)|exact Ae (fun _=>rfl)|(simp only[Bu];omega)|(simp;done)|decide))
   |(with_reducible intro hfact)
   |((with_reducible refine And.intro ?_ ?_);focus (first|(with_reducible rfl)|(exact rfl)|decide))
   |((try dsimp only);first|rw[B6 hc]|rw[Cb hc]|rw[Cv hc])
   |((try dsimp only);rw[hw2]))
  all_goals(try(conv=>whnf))
  refine Round.by (q+1) ?_ ⟨by omega,hQ⟩ (by omega)
  try dsimp only
  show norm _ _=upd _ _
  kernel_rfl

open Go.Proofs
def aw5:Sto:=⟨[([116],⟨1,0,10,1,1⟩)],[⟨[1,116,97],[⟨1,1,[49,50,51,52,53,54,55,56,57],false⟩]⟩]⟩
theorem We:aw1.writeM [116] [⟨[97],[49,50,51,52,53,54,55,56,57],false⟩]=(aw5,1,0):=by
 have h1:aw1.fi [116]=some 0:=by rfl
 have h2:K6 [⟨[97],[49,50,51,52,53,54,55,56,57],false⟩] []=some [⟨[97],[49,50,51,52,53,54,55,56,57],false⟩]:=by rfl
 have h3:Dc (([⟨[97],[49,50,51,52,53,54,55,56,57],false⟩]:List Chg).map Chg.key)=[[97]]:=by simp[Dc]
 unfold Sto.writeM;simp only[h1,h2,h3];rfl
theorem inv1:SInv 0 aw1:=by
 have h1:=Ajr.open (nm:=D9 [116]) [116] Aha;rw[Ai9]at h1;exact h1
theorem inv5:SInv 2 aw5:=by
 have h1:=inv1.write [116] [⟨[97],[49,50,51,52,53,54,55,56,57],false⟩];rw[We]at h1;exact h1
theorem Xs:aw5.fitsM [116] 8 2 [⟨[97],[49,50,51,52,53,54,55,56],false⟩]=true:=by
 obtain⟨h1,h2⟩:=Mb inv5 (n:=[116]) (i:=0) (cs:=[⟨[97],[49,50,51,52,53,54,55,56],false⟩]) (F:=[⟨[97],[49,50,51,52,53,54,55,56],false⟩]) (by rfl) (by rfl)
 unfold Sto.fitsM Sto.afterM;dsimp only;rw[h1,h2];rfl
theorem Xu:aw5.fitsM [116] 8 2 [⟨[98],[],false⟩]=false:=by
 obtain⟨h1,h2⟩:=Mb inv5 (n:=[116]) (i:=0) (cs:=[⟨[98],[],false⟩]) (F:=[⟨[98],[],false⟩]) (by rfl) (by rfl)
 unfold Sto.fitsM Sto.afterM;dsimp only;rw[h1,h2];rfl
theorem Yy:Fn Tryd.prog Da [sP aw1,.v (.str [116]),.v (.list [(Chg.mk [97] [49,50,51,52,53,54,55,56,57] false).toI])] (Is (.tup [.i (ti 1),.i (ti 0)]) [sP aw5,.no,.no]):=by
 have hw:=Air inv1 (by omega) [116] [⟨[97],[49,50,51,52,53,54,55,56,57],false⟩] (by decide) (by decide)
 rw[We]at hw;exact hw
theorem Yo:Fn Tryd.prog Jj [sP aw5,.v (.agg [.str [116],ti 8,ti 2]),.v (.list [(Chg.mk [97] [49,50,51,52,53,54,55,56] false).toI])] (Is (.v (.bool true)) [sP aw5,.no,.no]):=by
 have h1:=Lu inv5 (by omega) [116] (by decide) 8 2 [⟨[97],[49,50,51,52,53,54,55,56],false⟩] (by decide)
 rw[Xs]at h1;exact h1
theorem Ys:Fn Tryd.prog Jj [sP aw5,.v (.agg [.str [116],ti 8,ti 2]),.v (.list [(Chg.mk [98] [] false).toI])] (Is (.v (.bool false)) [sP aw5,.no,.no]):=by
 have h2:=Lu inv5 (by omega) [116] (by decide) 8 2 [⟨[98],[],false⟩] (by decide)
 rw[Xu]at h2;exact h2
theorem Jt:Fn Tryd.prog Kx [] (Is (.v (.bool true)) []):=by
 refine Kc ?_ (by simp)
 repeat'((conv=>whnf);first
  |((with_reducible refine Ax (by first|(with_reducible assumption)|(with_reducible exact Bool.of_not_eq_false (by assumption))|(with_reducible exact Bool.of_not_eq_true (by assumption))|((with_reducible refine decide_eq_true ?_);first|(with_reducible assumption)|omega)|((with_reducible refine decide_eq_false ?_);first|(with_reducible assumption)|omega)|(with_reducible rfl)) (fun hb=>?_));(try rw[hb]);(try simp only[Aa]at hb);(try subst hb))
  |((with_reducible refine Aw (by first|(with_reducible assumption)|(with_reducible exact Bool.of_not_eq_false (by assumption))|(with_reducible exact Bool.of_not_eq_true (by assumption))|((with_reducible refine decide_eq_true ?_);first|(with_reducible assumption)|omega)|((with_reducible refine decide_eq_false ?_);first|(with_reducible assumption)|omega)|(with_reducible rfl)) (fun hb=>?_));(try rw[hb]);(try simp only[Aa]at hb);(try subst hb))
  |((with_reducible refine And.intro (fun hb=>?_) (fun hb=>?_))<;>first|(with_reducible exact absurd hb (by assumption))|(exact absurd hb (by decide))|(with_reducible exact absurd hb Bool.false_ne_true)|(with_reducible exact absurd hb.symm Bool.false_ne_true)|(exfalso;first|(simp only[Bu]at hb<;>omega)|omega)|((try rw[hb]);(try simp only[Aa]at hb);(try subst hb)))
  |((with_reducible refine Exists.intro ?_ ?_);focus (and_intros<;>first|omega|(with_reducible assumption)|(with_reducible rfl)|kernel_rfl|exact rfl|assumption|(intro _ hh;cases hh;done)|exact Ah (by rfl)|exact size_map (fun _=>rfl)|exact Aj rfl|exact take_size (fun _=>rfl)|exact Ag rfl|exact Ai (fun _=>rfl)|exact Ae (fun _=>rfl)|(simp only[Bu];omega)|(simp;done)|decide))
  |(with_reducible intro hfact)
  |((with_reducible refine And.intro ?_ ?_);focus (first|(with_reducible rfl)|(exact rfl)|decide)))
 all_goals(try(conv=>whnf))
 generalize hKK:F7 Tryd.prog _ _=KK;as_aux_lemma=>
  repeat'((conv=>whnf);first
   |((with_reducible refine Ax (by first|(with_reducible assumption)|(with_reducible exact Bool.of_not_eq_false (by assumption))|(with_reducible exact Bool.of_not_eq_true (by assumption))|((with_reducible refine decide_eq_true ?_);first|(with_reducible assumption)|omega)|((with_reducible refine decide_eq_false ?_);first|(with_reducible assumption)|omega)|(with_reducible rfl)) (fun hb=>?_));(try rw[hb]);(try simp only[Aa]at hb);(try subst hb))
   |((with_reducible refine Aw (by first|(with_reducible assumption)|(with_reducible exact Bool.of_not_eq_false (by assumption))|(with_reducible exact Bool.of_not_eq_true (by assumption))|((with_reducible refine decide_eq_true ?_);first|(with_reducible assumption)|omega)|((with_reducible refine decide_eq_false ?_);first|(with_reducible assumption)|omega)|(with_reducible rfl)) (fun hb=>?_));(try rw[hb]);(try simp only[Aa]at hb);(try subst hb))
   |((with_reducible refine And.intro (fun hb=>?_) (fun hb=>?_))<;>first|(with_reducible exact absurd hb (by assumption))|(exact absurd hb (by decide))|(with_reducible exact absurd hb Bool.false_ne_true)|(with_reducible exact absurd hb.symm Bool.false_ne_true)|(exfalso;first|(simp only[Bu]at hb<;>omega)|omega)|((try rw[hb]);(try simp only[Aa]at hb);(try subst hb)))
   |((with_reducible refine Exists.intro ?_ ?_);focus (and_intros<;>first|omega|(with_reducible assumption)|(with_reducible rfl)|kernel_rfl|exact rfl|assumption|(intro _ hh;cases hh;done)|exact Ah (by rfl)|exact size_map (fun _=>rfl)|exact Aj rfl|exact take_size (fun _=>rfl)|exact Ag rfl|exact Ai (fun _=>rfl)|exact Ae (fun _=>rfl)|(simp only[Bu];omega)|(simp;done)|decide))
   |(with_reducible intro hfact)
   |((with_reducible refine And.intro ?_ ?_);focus (first|(with_reducible rfl)|(exact rfl)|decide))
   |((with_reducible refine CallWp.mk ?_);refine⟨_,Adg,?_⟩;rintro _ _ ⟨rfl,rfl⟩))
  all_goals(try(conv=>whnf))
  rw[←hKK];clear hKK;as_aux_lemma=>
   repeat'((conv=>whnf);first
    |((with_reducible refine Ax (by first|(with_reducible assumption)|(with_reducible exact Bool.of_not_eq_false (by assumption))|(with_reducible exact Bool.of_not_eq_true (by assumption))|((with_reducible refine decide_eq_true ?_);first|(with_reducible assumption)|omega)|((with_reducible refine decide_eq_false ?_);first|(with_reducible assumption)|omega)|(with_reducible rfl)) (fun hb=>?_));(try rw[hb]);(try simp only[Aa]at hb);(try subst hb))
    |((with_reducible refine Aw (by first|(with_reducible assumption)|(with_reducible exact Bool.of_not_eq_false (by assumption))|(with_reducible exact Bool.of_not_eq_true (by assumption))|((with_reducible refine decide_eq_true ?_);first|(with_reducible assumption)|omega)|((with_reducible refine decide_eq_false ?_);first|(with_reducible assumption)|omega)|(with_reducible rfl)) (fun hb=>?_));(try rw[hb]);(try simp only[Aa]at hb);(try subst hb))
    |((with_reducible refine And.intro (fun hb=>?_) (fun hb=>?_))<;>first|(with_reducible exact absurd hb (by assumption))|(exact absurd hb (by decide))|(with_reducible exact absurd hb Bool.false_ne_true)|(with_reducible exact absurd hb.symm Bool.false_ne_true)|(exfalso;first|(simp only[Bu]at hb<;>omega)|omega)|((try rw[hb]);(try simp only[Aa]at hb);(try subst hb)))
    |((with_reducible refine Exists.intro ?_ ?_);focus (and_intros<;>first|omega|(with_reducible assumption)|(with_reducible rfl)|kernel_rfl|exact rfl|assumption|(intro _ hh;cases hh;done)|exact Ah (by rfl)|exact size_map (fun _=>rfl)|exact Aj rfl|exact take_size (fun _=>rfl)|exact Ag rfl|exact Ai (fun _=>rfl)|exact Ae (fun _=>rfl)|(simp only[Bu];omega)|(simp;done)|decide))
    |(with_reducible intro hfact)
    |((with_reducible refine And.intro ?_ ?_);focus (first|(with_reducible rfl)|(exact rfl)|decide)))
   all_goals(try(conv=>whnf))
   generalize hKK:F7 Tryd.prog _ _=KK;as_aux_lemma=>
    repeat'((conv=>whnf);first
     |((with_reducible refine Ax (by first|(with_reducible assumption)|(with_reducible exact Bool.of_not_eq_false (by assumption))|(with_reducible exact Bool.of_not_eq_true (by assumption))|((with_reducible refine decide_eq_true ?_);first|(with_reducible assumption)|omega)|((with_reducible refine decide_eq_false ?_);first|(with_reducible assumption)|omega)|(with_reducible rfl)) (fun hb=>?_));(try rw[hb]);(try simp only[Aa]at hb);(try subst hb))
     |((with_reducible refine Aw (by first|(with_reducible assumption)|(with_reducible exact Bool.of_not_eq_false (by assumption))|(with_reducible exact Bool.of_not_eq_true (by assumption))|((with_reducible refine decide_eq_true ?_);first|(with_reducible assumption)|omega)|((with_reducible refine decide_eq_false ?_);first|(with_reducible assumption)|omega)|(with_reducible rfl)) (fun hb=>?_));(try rw[hb]);(try simp only[Aa]at hb);(try subst hb))
     |((with_reducible refine And.intro (fun hb=>?_) (fun hb=>?_))<;>first|(with_reducible exact absurd hb (by assumption))|(exact absurd hb (by decide))|(with_reducible exact absurd hb Bool.false_ne_true)|(with_reducible exact absurd hb.symm Bool.false_ne_true)|(exfalso;first|(simp only[Bu]at hb<;>omega)|omega)|((try rw[hb]);(try simp only[Aa]at hb);(try subst hb)))
     |((with_reducible refine Exists.intro ?_ ?_);focus (and_intros<;>first|omega|(with_reducible assumption)|(with_reducible rfl)|kernel_rfl|exact rfl|assumption|(intro _ hh;cases hh;done)|exact Ah (by rfl)|exact size_map (fun _=>rfl)|exact Aj rfl|exact take_size (fun _=>rfl)|exact Ag rfl|exact Ai (fun _=>rfl)|exact Ae (fun _=>rfl)|(simp only[Bu];omega)|(simp;done)|decide))
     |(with_reducible intro hfact)
     |((with_reducible refine And.intro ?_ ?_);focus (first|(with_reducible rfl)|(exact rfl)|decide))
     |((with_reducible refine CallWp.mk ?_);refine⟨_,Ae1,?_⟩;rintro _ _ ⟨rfl,rfl⟩))
    all_goals(try(conv=>whnf))
    rw[←hKK];clear hKK;as_aux_lemma=>
     repeat'((conv=>whnf);first
      |((with_reducible refine Ax (by first|(with_reducible assumption)|(with_reducible exact Bool.of_not_eq_false (by assumption))|(with_reducible exact Bool.of_not_eq_true (by assumption))|((with_reducible refine decide_eq_true ?_);first|(with_reducible assumption)|omega)|((with_reducible refine decide_eq_false ?_);first|(with_reducible assumption)|omega)|(with_reducible rfl)) (fun hb=>?_));(try rw[hb]);(try simp only[Aa]at hb);(try subst hb))
      |((with_reducible refine Aw (by first|(with_reducible assumption)|(with_reducible exact Bool.of_not_eq_false (by assumption))|(with_reducible exact Bool.of_not_eq_true (by assumption))|((with_reducible refine decide_eq_true ?_);first|(with_reducible assumption)|omega)|((with_reducible refine decide_eq_false ?_);first|(with_reducible assumption)|omega)|(with_reducible rfl)) (fun hb=>?_));(try rw[hb]);(try simp only[Aa]at hb);(try subst hb))
      |((with_reducible refine And.intro (fun hb=>?_) (fun hb=>?_))<;>first|(with_reducible exact absurd hb (by assumption))|(exact absurd hb (by decide))|(with_reducible exact absurd hb Bool.false_ne_true)|(with_reducible exact absurd hb.symm Bool.false_ne_true)|(exfalso;first|(simp only[Bu]at hb<;>omega)|omega)|((try rw[hb]);(try simp only[Aa]at hb);(try subst hb)))
      |((with_reducible refine Exists.intro ?_ ?_);focus (and_intros<;>first|omega|(with_reducible assumption)|(with_reducible rfl)|kernel_rfl|exact rfl|assumption|(intro _ hh;cases hh;done)|exact Ah (by rfl)|exact size_map (fun _=>rfl)|exact Aj rfl|exact take_size (fun _=>rfl)|exact Ag rfl|exact Ai (fun _=>rfl)|exact Ae (fun _=>rfl)|(simp only[Bu];omega)|(simp;done)|decide))
      |(with_reducible intro hfact)
      |((with_reducible refine And.intro ?_ ?_);focus (first|(with_reducible rfl)|(exact rfl)|decide)))
     all_goals(try(conv=>whnf))
     generalize hKK:F7 Tryd.prog _ _=KK;as_aux_lemma=>
      repeat'((conv=>whnf);first
       |((with_reducible refine Ax (by first|(with_reducible assumption)|(with_reducible exact Bool.of_not_eq_false (by assumption))|(with_reducible exact Bool.of_not_eq_true (by assumption))|((with_reducible refine decide_eq_true ?_);first|(with_reducible assumption)|omega)|((with_reducible refine decide_eq_false ?_);first|(with_reducible assumption)|omega)|(with_reducible rfl)) (fun hb=>?_));(try rw[hb]);(try simp only[Aa]at hb);(try subst hb))
       |((with_reducible refine Aw (by first|(with_reducible assumption)|(with_reducible exact Bool.of_not_eq_false (by assumption))|(with_reducible exact Bool.of_not_eq_true (by assumption))|((with_reducible refine decide_eq_true ?_);first|(with_reducible assumption)|omega)|((with_reducible refine decide_eq_false ?_);first|(with_reducible assumption)|omega)|(with_reducible rfl)) (fun hb=>?_));(try rw[hb]);(try simp only[Aa]at hb);(try subst hb))
       |((with_reducible refine And.intro (fun hb=>?_) (fun hb=>?_))<;>first|(with_reducible exact absurd hb (by assumption))|(exact absurd hb (by decide))|(with_reducible exact absurd hb Bool.false_ne_true)|(with_reducible exact absurd hb.symm Bool.false_ne_true)|(exfalso;first|(simp only[Bu]at hb<;>omega)|omega)|((try rw[hb]);(try simp only[Aa]at hb);(try subst hb)))
       |((with_reducible refine Exists.intro ?_ ?_);focus (and_intros<;>first|omega|(with_reducible assumption)|(with_reducible rfl)|kernel_rfl|exact rfl|assumption|(intro _ hh;cases hh;done)|exact Ah (by rfl)|exact size_map (fun _=>rfl)|exact Aj rfl|exact take_size (fun _=>rfl)|exact Ag rfl|exact Ai (fun _=>rfl)|exact Ae (fun _=>rfl)|(simp only[Bu];omega)|(simp;done)|decide))
       |(with_reducible intro hfact)
       |((with_reducible refine And.intro ?_ ?_);focus (first|(with_reducible rfl)|(exact rfl)|decide))
       |((with_reducible refine CallWp.mk ?_);refine⟨_,Yy,?_⟩;rintro _ _ ⟨rfl,rfl⟩))
      all_goals(try(conv=>whnf))
      rw[←hKK];clear hKK;as_aux_lemma=>
       repeat'((conv=>whnf);first
        |((with_reducible refine Ax (by first|(with_reducible assumption)|(with_reducible exact Bool.of_not_eq_false (by assumption))|(with_reducible exact Bool.of_not_eq_true (by assumption))|((with_reducible refine decide_eq_true ?_);first|(with_reducible assumption)|omega)|((with_reducible refine decide_eq_false ?_);first|(with_reducible assumption)|omega)|(with_reducible rfl)) (fun hb=>?_));(try rw[hb]);(try simp only[Aa]at hb);(try subst hb))
        |((with_reducible refine Aw (by first|(with_reducible assumption)|(with_reducible exact Bool.of_not_eq_false (by assumption))|(with_reducible exact Bool.of_not_eq_true (by assumption))|((with_reducible refine decide_eq_true ?_);first|(with_reducible assumption)|omega)|((with_reducible refine decide_eq_false ?_);first|(with_reducible assumption)|omega)|(with_reducible rfl)) (fun hb=>?_));(try rw[hb]);(try simp only[Aa]at hb);(try subst hb))
        |((with_reducible refine And.intro (fun hb=>?_) (fun hb=>?_))<;>first|(with_reducible exact absurd hb (by assumption))|(exact absurd hb (by decide))|(with_reducible exact absurd hb Bool.false_ne_true)|(with_reducible exact absurd hb.symm Bool.false_ne_true)|(exfalso;first|(simp only[Bu]at hb<;>omega)|omega)|((try rw[hb]);(try simp only[Aa]at hb);(try subst hb)))
        |((with_reducible refine Exists.intro ?_ ?_);focus (and_intros<;>first|omega|(with_reducible assumption)|(with_reducible rfl)|kernel_rfl|exact rfl|assumption|(intro _ hh;cases hh;done)|exact Ah (by rfl)|exact size_map (fun _=>rfl)|exact Aj rfl|exact take_size (fun _=>rfl)|exact Ag rfl|exact Ai (fun _=>rfl)|exact Ae (fun _=>rfl)|(simp only[Bu];omega)|(simp;done)|decide))
        |(with_reducible intro hfact)
        |((with_reducible refine And.intro ?_ ?_);focus (first|(with_reducible rfl)|(exact rfl)|decide))
        |((with_reducible refine CallWp.mk ?_);refine⟨_,Yo,?_⟩;rintro _ _ ⟨rfl,rfl⟩)
        |((with_reducible refine CallWp.mk ?_);refine⟨_,Ys,?_⟩;rintro _ _ ⟨rfl,rfl⟩))
       all_goals(try(conv=>whnf))
       (apply dKq<;>kernel_rfl)

open Go.Proofs
theorem Sg:∀{cs F FF:List Chg} {c:Chg},K6 cs F=some FF→c∈FF→c∈cs∨c∈F
 | [],F,FF,c,h,hc=>by
   have h:some F=some FF:=h;cases h;exact .inr hc
 |d::r,F,FF,c,h,hc=>by
  unfold K6 at h;split at h
  ·rcases Sg h hc with h1|h1
   ·exact .inl (List.mem_cons_of_mem _ h1)
   ·rcases Zn h1 with h2|h2
    ·exact .inr h2
    ·subst h2;exact .inl (List.mem_cons_self ..)
  ·cases h
def Jd(c:Chg):Chg:=⟨c.key,[],true⟩
theorem N2:∀{l:List Int},(∀x∈l,x≤0)→sumI l≤0
 | [],_=>Int.le_refl _
 |x::r,h=>by
  have h1:=h x (List.mem_cons_self ..);have h2:=N2 (l:=r) fun y hy=>h y (List.mem_cons_of_mem _ hy)
  unfold sumI;omega
theorem Zh{m:Nat}{s:Sto}(hI:SInv m s)(n:Az)(mb mk:Int)(cs:List Chg):s.fitsM n mb mk (cs.map Jd)=true:=by
 have main:(s.afterM n (cs.map Jd)).1≤(s.tal n).bytes∧(s.afterM n (cs.map Jd)).2≤(s.tal n).keys:=by
  unfold Sto.afterM;cases hF:K6 (cs.map Jd) []with
  |none=>rw[Lr (.inr hF)];exact⟨Int.le_refl _,Int.le_refl _⟩
  |some F=>
   cases hf:s.fi n with
   |none=>rw[Lr (.inl hf)];exact⟨Int.le_refl _,Int.le_refl _⟩
   |some q=>
    obtain⟨h1,h2⟩:=Mb hI hf hF;dsimp only;rw[h1,h2];have hg:∀c∈F,c.gone=true:=fun c hc=>by
     rcases Sg hF hc with h|h
     ·obtain⟨d,_,rfl⟩:=List.mem_map.1 h;rfl
     ·cases h
    have e1:sumI (F.map fun c=>qB (Q1 s.l (B7 n c.key)) c)≤0:=N2 fun x hx=>by
     obtain⟨c,hc,rfl⟩:=List.mem_map.1 hx;unfold qB;rw[if_pos (hg c hc)];split<;>omega
    have e2:sumI (F.map fun c=>qK (Q1 s.l (B7 n c.key)) c)≤0:=N2 fun x hx=>by
     obtain⟨c,hc,rfl⟩:=List.mem_map.1 hx;unfold qK;rw[if_pos (hg c hc)];split<;>omega
    omega
 unfold Sto.fitsM;simp only[Bool.and_eq_true,decide_eq_true_eq];omega
theorem Zs{s:Sto}{n:Az}{mb mk:Int}{cs:List Chg}(h:s.fitsM n mb mk cs=true):s.fitsM n (mb+1) (mk+1) cs=true:=by
 unfold Sto.fitsM at*;simp only[Bool.and_eq_true,decide_eq_true_eq]at*;omega
abbrev tQ:Az:=[116]

open Go.Proofs
def Hr:Stm:=(sO [O1 (.box 5 2),gA 6 cF] (.seq (sO [gC 14 17 [],gT 15 14] (cR 15 [gA 6 cF])) (.seq (sO [gM 16 1,O1 (.bsl 17 31 1 (.list []) 1 [(0,16)]),gM 18 0,O1 (.app 19 31 1 24 17 18),gC 20 18 [nL 19],gM 21 20,qf 21 (iG 22 5 1 1),qf 21 (iL 23 22),qf 21 (iB 24 .lss 23 (cI 0)),gP 25 21 cT 24,gM 26 25,qf 26 (iG 27 5 2 2),qf 26 (iL 28 27),qf 26 (iB 29 .lss 28 (cI 0)),gP 30 26 cT 29,gM 31 30,qf 31 (iG 32 5 1 1),qf 31 (iL 33 32),qf 31 (iB 34 .gtr 33 (cI 1099511627776)),gP 35 31 cT 34,gM 36 35,qf 36 (iG 37 5 2 2),qf 36 (iL 38 37),qf 36 (iB 39 .gtr 38 (cI 1099511627776)),gP 40 36 cT 39] (cR 40 [gA 6 cT])) (sO [gF 41 5 0,gS 1 41 (cS [116])] (sO [gC 42 19 [],O1 (.movD 7 42)] (sO [gM 43 7,gC 44 20 [(true,43),nL (cS [116])]] (.seq (sO [gM 45 0,gN 46 45,gM 47 (cI 0)] (.block 0 (.loop [9,16,18,48,49,50,51,52,53,54,55,61,79,84,90] (sO [gB 48 .lss 47 46] (.seq (.cond 48 .skip (.exit 0)) (.seq (.block 1 (sO [gI 49 1 45 47,gL 50 49,gA 9 50] (.ops [gM 51 7,gM 52 9,gC 53 24 [(true,51),nL (cS [116]),nL 52]]))) (.ops [gB 54 .add 47 (cI 1),gM 47 54]))))))) (sO [gA 10 (.nils 38 3)] (.seq (sO [gM 55 1,gN 56 55,gM 57 (cI 0)] (.block 2 (.loop [12,16,18,45,52,58,59,60,61,62,63,64,65,66,67,79,84,90] (sO [gB 58 .lss 57 56] (.seq (.cond 58 .skip (.exit 2)) (.seq (.block 3 (sO [gI 59 3 55 57,gU 60 3 59,O1 (.alloc 12 (.one (.i (.agg [(.str []),(.str []),(.bool false)])))),gS 3 12 60] (.ops [gM 61 10,gF 62 12 0,gL 63 62,O1 (.build 64 [(.str []),(.str []),(.bool false)] [(0,63),(2,cT)]),O1 (.bsl 65 38 3 (.agg [(.str []),(.str []),(.bool false)]) 1 [(0,64)]),O1 (.app 66 38 3 40 61 65),gA 10 66]))) (.ops [gB 67 .add 57 (cI 1),gM 57 67]))))))) (sO [gU 68 3 5,O1 (.alloc 13 (.one (.i (.agg [(.str []),(.int .i64 0),(.int .i64 0)])))),gS 3 13 68] (.seq (.drw [0,1,3,0,8,24,7,71,255,511] [gF 69 5 1,gL 70 69,gB 71 .add 70 (cI 1),gF 72 5 2,gL 73 72,gB 74 .add 73 (cI 1),gF 75 13 1,gS 1 75 71,gF 76 13 2,gS 1 76 74]) (sO [gM 77 7,gU 78 3 5,gM 79 10,gC 80 21 [(true,77),nL 78,nL 79],gM 81 80,qt 81 (iM 82 7),qt 81 (iU 83 3 5),qt 81 (iM 84 1),.call (some (81,true)) (some 85) 21 [(true,82),nL 83,nL 84],qt 81 (iT 86 85),qt 81 (iM 87 86),qf 87 (iM 88 7),qf 87 (iU 89 3 13),qf 87 (iM 90 1),.call (some (87,false)) (some 91) 21 [(true,88),nL 89,nL 90],qt 81 (iP 92 87 cT 91),gP 93 81 92 cF,gA 6 93] .ret))))))))))))
theorem Hq:OF 4 94 Hr [.t 6]:=oF Tryd.func4 rfl Tryd.ntmps4 (by kernel_rfl) (by kernel_rfl)
end Go.Ab

