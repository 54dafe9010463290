/- Lemmas -/
import Derived.Test.YtkpojedpcabojaaDoorW9
import Derived.Test.YtkpojedpcabojaaDoorWD
import Derived.Test.YtkpojedpcabojaaDoorNW
import Derived.Deep.Slices
import Derived.ChangeSame
import Derived.ChangeArms
import Derived.ProofKit
import Derived.OpenShut
set_option linter.unusedVariables false
set_option linter.unusedSimpArgs false
set_option maxRecDepth 100000
namespace Go.Ab
open Go.Proofs
abbrev Cv:FuncId:=8
def Kh:Stm:=(sO [gA 6 cF] (.seq (sO [gC 15 30 [],gT 16 15] (cR 16 [gA 6 cF])) (.seq (sO [gM 17 0,O1 (.len 18 true 17),gB 19 .gtr 18 (cI 255),gM 20 19,qf 20 (iM 21 1),qf 20 (.len 22 true 21),qf 20 (iB 23 .gtr 22 (cI 255)),gP 24 20 cT 23,gM 25 24,qf 25 (iM 26 2),qf 25 (.len 27 true 26),qf 25 (iB 28 .gtr 27 (cI 1000)),gP 29 25 cT 28] (cR 29 [gA 6 cT])) (sO [gM 30 0,gM 31 2,gC 32 38 [nL 30,nL 31],gA 7 32] (sO [gM 34 7,gC 35 39 [nL 34],gA 33 35,gE 36 33 0,gE 37 33 1,gE 38 33 2,gA 8 36,gA 9 37,gA 10 38] (sO [gM 39 1,gC 40 38 [nL 39,nL (cS [])],gC 41 40 [nL 40],O1 (.alloc 11 (.one (.i (.agg [(.str []),(.str [])])))),gS 2 11 41] (sO [gM 43 7,gM 44 7,O1 (.len 45 true 44),gM 46 0,O1 (.len 47 true 46),O1 (.mm 48 false 45 47),O1 (.slc 49 true 1 43 none (some 48)),gC 50 39 [nL 49],gA 42 50,gE 51 42 0,gE 52 42 1,gE 53 42 2,gA 12 51,gA 13 52,gA 14 53] (sO [gM 54 10,gM 55 54,qt 55 (iM 56 8),qt 55 (iM 57 0),qt 55 (iB 58 .eql 56 57),gP 59 55 58 cF,gM 60 59,qt 60 (iM 61 9),qt 60 (iM 62 2),qt 60 (iB 63 .eql 61 62),gP 64 60 63 cF,gM 65 64,qt 65 (iM 66 14),qt 65 (iT 67 66),gP 68 65 67 cF,gM 69 68,qt 69 (iU 70 2 11),qt 69 (iM 71 7),.call (some (69,true)) (some 72) 41 [nL 70,nL 71],qt 69 (iM 73 0),qt 69 (iM 74 1),qt 69 (iB 75 .eql 73 74),qt 69 (.eqs 76 false .bool 72 75),gP 77 69 76 cF,gA 6 77] .ret))))))))
theorem Gs:OF 8 78 Kh [.t 6]:=oF Tryd.func8 rfl Tryd.ntmps8 (by kernel_rfl) (by kernel_rfl)
abbrev Jt:FuncId:=30
def Jg:Stm:=(sO [gA 0 cF] (sO [gC 9 19 [],gA 1 9] (.seq (sO [gM 10 1,gC 11 20 [(true,10),nL (cS [116])],gB 12 .neq 11 (cI 0)] (cR 12 [gA 0 cF])) (sO [gM 14 1,O1 (.build 15 [(.str []),(.str []),(.bool false)] [(0,(cS [97])),(1,(cS [49]))]),O1 (.build 16 [(.str []),(.str []),(.bool false)] [(0,(cS [98])),(1,(cS [50]))]),O1 (.bsl 17 38 3 (.agg [(.str []),(.str []),(.bool false)]) 2 [(0,15),(1,16)]),gC 18 24 [(true,14),nL (cS [116]),nL 17],gA 13 18,gE 19 13 0,gE 20 13 1,gA 2 19,gA 3 20] (sO [gM 22 1,O1 (.build 23 [(.str []),(.str []),(.bool false)] [(0,(cS [97])),(2,cT)]),O1 (.bsl 24 38 3 (.agg [(.str []),(.str []),(.bool false)]) 1 [(0,23)]),gC 25 24 [(true,22),nL (cS [116]),nL 24],gA 21 25,gE 26 21 0,gE 27 21 1,gA 4 26,gA 5 27] (sO [gM 29 1,O1 (.build 30 [(.str []),(.str [])] []),gC 31 33 [(true,29),nL (cS [116]),nL 30,nL (cI 1),nL (cI 9)],gA 28 31,gE 32 28 0,gE 33 28 1,gE 34 28 2,gA 6 32,gA 7 33,gA 8 34] (sO [gM 35 2,gB 36 .eql 35 (cI 1),gM 37 36,qt 37 (iM 38 4),qt 37 (iB 39 .eql 38 (cI 2)),gP 40 37 39 cF,gM 41 40,qt 41 (iM 42 3),qt 41 (iB 43 .eql 42 (cI 0)),gP 44 41 43 cF,gM 45 44,qt 45 (iM 46 5),qt 45 (iB 47 .eql 46 (cI 0)),gP 48 45 47 cF,gM 49 48,qt 49 (iM 50 8),qt 49 (iB 51 .eql 50 (cI 0)),gP 52 49 51 cF,gM 53 52,qt 53 (iM 54 6),qt 53 (iN 55 54),qt 53 (iB 56 .eql 55 (cI 2)),gP 57 53 56 cF,gM 58 57,qt 58 (iM 59 6),qt 58 (iI 60 4 59 (cI 0)),qt 58 (iU 61 4 60),qt 58 (.build 62 [(.str []),(.str []),(.int .i64 0),(.int .i64 0)] [(0,(cS [97])),(1,(cS [49])),(2,(cI 1)),(3,(cI 1))]),qt 58 (.eqs 63 false (.st [.str,.str,(.int .i64),(.int .i64)]) 61 62),gP 64 58 63 cF,gM 65 64,qt 65 (iM 66 1),.call (some (65,true)) (some 67) 48 [(true,66),nL (cS [116]),nL (cI 2)],qt 65 (iB 68 .eql 67 (cI 0)),gP 69 65 68 cF,gM 70 69,qt 70 (iM 71 1),.call (some (70,true)) (some 72) 49 [(true,71),nL (cS [116])],qt 70 (iB 73 .eql 72 (cI 1)),gP 74 70 73 cF,gA 0 74] .ret)))))))
theorem Jj:OF 30 75 Jg [.t 0]:=oF Tryd.func30 rfl Tryd.ntmps30 (by kernel_rfl) (by kernel_rfl)
set_option maxHeartbeats 40000000

open Go.Proofs
theorem awB1:LBd 80000 aw1.l:=⟨by decide,by intro h hh;cases hh⟩
theorem awB2:LBd 80000 aw2.l:=⟨by decide,by intro h hh;simp[aw2]at hh;rcases hh with rfl|rfl<;>simp⟩
theorem awB3:LBd 80000 aw3.l:=⟨by decide,by intro h hh;simp[aw3]at hh;rcases hh with rfl|rfl<;>simp⟩
theorem Ae1:Fn Tryd.prog Ec [sP ⟨[],[]⟩,.v (.str [116])] (Is (.v (ti 0)) [sP aw1,.no]):=by
 have h:=Aa1 [116]
 rw[show D9 [116]=true by rfl]at h
 exact Aa2 ⟨[],[]⟩ [116] true h
theorem Aba:Fn Tryd.prog Da [sP aw1,.v (.str [116]),.v (.list [(Chg.mk [97] [49] false).toI,(Chg.mk [98] [50] false).toI])] (Is (.tup [.i (ti 1),.i (ti 0)]) [sP aw2,.no,.no]):=
 R4 Aep Aex aw1 [116] awF1 0 (by rfl) (by decide) (by decide) awB1 ⟨by decide,by decide,by decide⟩ (by decide) awF1 (some awF1) rfl Aez ⟨⟨0,0,4,2,2⟩,aw2.l,true⟩ (by rw[Adn];exact Afn)
theorem Abb:Fn Tryd.prog Da [sP aw2,.v (.str [116]),.v (.list [(Chg.mk [97] [] true).toI])] (Is (.tup [.i (ti 2),.i (ti 0)]) [sP aw3,.no,.no]):=
 R4 Aep Aex aw2 [116] awF2 0 (by rfl) (by decide) (by decide) awB2 ⟨by decide,by decide,by decide⟩ (by decide) awF2 (some awF2) rfl Ae0 ⟨⟨1,0,2,1,3⟩,aw3.l,true⟩ (by rw[Ado];exact Afo)
theorem Adm:Fn Tryd.prog C9 [sP aw3,.v (.str [116]),.v (⟨[],[]⟩:Sp).toI,.v (ti 1),.v (ti 9)] (Is (.tup [.i (.list [(Pr.mk [97] [49] 1 1).toI,(Pr.mk [98] [50] 1 1).toI]),.i (.bool false),.i (ti 0)]) [sP aw3,.no,.no,.no,.no]):=
 Ab6 ofC aw3 ⟨by decide,by intro h hh;simp[aw3]at hh;rcases hh with rfl|rfl<;>simp⟩ [116] (by decide) ⟨[],[]⟩ 1 9 0 (by rfl) (by decide) (by decide) (by decide) ([⟨[97],[49],1,1⟩,⟨[98],[50],1,1⟩],false) (by rfl)
theorem Zc:Fn Tryd.prog Mq [sP aw3,.v (.str [116]),.v (ti 2)] (Is (.v (ti 0)) [sP aw4,.no,.no]):=
 Uz aw3 [116] 2 0 (by rfl) awB3 (by decide) ⟨aw4.l,1⟩ Aey
theorem Ae2:Fn Tryd.prog Dn [sP aw4,.v (.str [116])] (Is (.v (ti 1)) [sP aw4,.no]):=Ub aw4 [116]
theorem Wv:Fn Tryd.prog Jt [] (Is (.v (.bool true)) []):=by
 refine Jj ?_ (by simp)
 repeat'((conv=>whnf);first
  |((with_reducible refine Ax (by first|(with_reducible assumption)|(with_reducible exact Bool.of_not_eq_false (by assumption))|(with_reducible exact Bool.of_not_eq_true (by assumption))|((with_reducible refine decide_eq_true ?_);first|(with_reducible assumption)|omega)|((with_reducible refine decide_eq_false ?_);first|(with_reducible assumption)|omega)|(with_reducible rfl)) (fun hb=>?_));(try rw[hb]);(try simp only[Aa,Bool.false_eq_true,Bool.true_eq_false]at hb);(try subst hb))
  |((with_reducible refine Aw (by first|(with_reducible assumption)|(with_reducible exact Bool.of_not_eq_false (by assumption))|(with_reducible exact Bool.of_not_eq_true (by assumption))|((with_reducible refine decide_eq_true ?_);first|(with_reducible assumption)|omega)|((with_reducible refine decide_eq_false ?_);first|(with_reducible assumption)|omega)|(with_reducible rfl)) (fun hb=>?_));(try rw[hb]);(try simp only[Aa,Bool.false_eq_true,Bool.true_eq_false]at hb);(try subst hb))
  |((with_reducible refine And.intro (fun hb=>?_) (fun hb=>?_))<;>first|(with_reducible exact absurd hb (by assumption))|(exact absurd hb (by decide))|(with_reducible exact absurd hb Bool.false_ne_true)|(with_reducible exact absurd hb.symm Bool.false_ne_true)|(exfalso;first|(simp only[Aj]at hb<;>omega)|omega)|((try rw[hb]);(try simp only[Aa,Bool.false_eq_true,Bool.true_eq_false]at hb);(try subst hb)))
  |((with_reducible refine Exists.intro ?_ ?_);focus (and_intros<;>first|omega|(with_reducible assumption)|(with_reducible rfl)|kernel_rfl|exact rfl|assumption|(intro _ hh;cases hh;done)|exact Ah (by rfl)|exact size_map (fun _=>rfl)|exact Ai rfl|exact take_size (fun _=>rfl)|exact Ag rfl|exact Af (fun _=>rfl)|exact Ae (fun _=>rfl)|(simp only[Aj];omega)|(simp;done)|decide))
  |(with_reducible intro hfact)
  |((with_reducible refine And.intro ?_ ?_);focus (first|(with_reducible rfl)|(exact rfl)|decide))
  |((with_reducible refine CallWp.mk ?_);refine⟨_,Adg,?_⟩;rintro _ _ ⟨rfl,rfl⟩)
  |((with_reducible refine CallWp.mk ?_);refine⟨_,Ae1,?_⟩;rintro _ _ ⟨rfl,rfl⟩)
  |((with_reducible refine CallWp.mk ?_);refine⟨_,Aba,?_⟩;rintro _ _ ⟨rfl,rfl⟩)
  |((with_reducible refine CallWp.mk ?_);refine⟨_,Abb,?_⟩;rintro _ _ ⟨rfl,rfl⟩)
  |((with_reducible refine CallWp.mk ?_);refine⟨_,Adm,?_⟩;rintro _ _ ⟨rfl,rfl⟩)
  |((with_reducible refine CallWp.mk ?_);refine⟨_,Zc,?_⟩;rintro _ _ ⟨rfl,rfl⟩)
  |((with_reducible refine CallWp.mk ?_);refine⟨_,Ae2,?_⟩;rintro _ _ ⟨rfl,rfl⟩))
 all_goals(try(conv=>whnf))
 (apply dKq<;>kernel_rfl)

open Go.Proofs
theorem Mf (n m k:Az) (hg:255<n.length∨255<m.length∨1000<k.length):Fn Tryd.prog Cv [.v (.str n),.v (.str m),.v (.str k)] (Is (.v (.bool true)) [.no,.no,.no]):=by
 refine Gs ?_ (by simp)
 by_cases h1:255<n.length
 ·have g1:¬decide ((255:Int)<(n.length:Int))=false:=by simp;omega
  repeat'((conv=>whnf);first
   |((with_reducible refine Ax (by first|(with_reducible assumption)|(with_reducible exact Bool.of_not_eq_false (by assumption))|(with_reducible exact Bool.of_not_eq_true (by assumption))|((with_reducible refine decide_eq_true ?_);first|(with_reducible assumption)|omega)|((with_reducible refine decide_eq_false ?_);first|(with_reducible assumption)|omega)|(with_reducible rfl)) (fun hb=>?_));(try rw[hb]);(try simp only[Aa,Bool.false_eq_true,Bool.true_eq_false]at hb);(try subst hb))
   |((with_reducible refine Aw (by first|(with_reducible assumption)|(with_reducible exact Bool.of_not_eq_false (by assumption))|(with_reducible exact Bool.of_not_eq_true (by assumption))|((with_reducible refine decide_eq_true ?_);first|(with_reducible assumption)|omega)|((with_reducible refine decide_eq_false ?_);first|(with_reducible assumption)|omega)|(with_reducible rfl)) (fun hb=>?_));(try rw[hb]);(try simp only[Aa,Bool.false_eq_true,Bool.true_eq_false]at hb);(try subst hb))
   |((with_reducible refine And.intro (fun hb=>?_) (fun hb=>?_))<;>first|(with_reducible exact absurd hb (by assumption))|(exact absurd hb (by decide))|(with_reducible exact absurd hb Bool.false_ne_true)|(with_reducible exact absurd hb.symm Bool.false_ne_true)|(exfalso;first|(simp only[Aj]at hb<;>omega)|omega)|((try rw[hb]);(try simp only[Aa,Bool.false_eq_true,Bool.true_eq_false]at hb);(try subst hb)))
   |((with_reducible refine Exists.intro ?_ ?_);focus (and_intros<;>first|omega|(with_reducible assumption)|(with_reducible rfl)|kernel_rfl|exact rfl|assumption|(intro _ hh;cases hh;done)|exact Ah (by rfl)|exact size_map (fun _=>rfl)|exact Ai rfl|exact take_size (fun _=>rfl)|exact Ag rfl|exact Af (fun _=>rfl)|exact Ae (fun _=>rfl)|(simp only[Aj];omega)|(simp;done)|decide))
   |(with_reducible intro hfact)
   |((with_reducible refine And.intro ?_ ?_);focus (first|(with_reducible rfl)|(exact rfl)|decide))
   |((with_reducible refine CallWp.mk ?_);refine⟨_,Wv,?_⟩;rintro _ _ ⟨rfl,rfl⟩))
  all_goals(try(conv=>whnf))
  (apply dKq<;>kernel_rfl)
 have g1:¬decide ((255:Int)<(n.length:Int))=true:=by simp;omega
 by_cases h2:255<m.length
 ·have g2:¬decide ((255:Int)<(m.length:Int))=false:=by simp;omega
  repeat'((conv=>whnf);first
   |((with_reducible refine Ax (by first|(with_reducible assumption)|(with_reducible exact Bool.of_not_eq_false (by assumption))|(with_reducible exact Bool.of_not_eq_true (by assumption))|((with_reducible refine decide_eq_true ?_);first|(with_reducible assumption)|omega)|((with_reducible refine decide_eq_false ?_);first|(with_reducible assumption)|omega)|(with_reducible rfl)) (fun hb=>?_));(try rw[hb]);(try simp only[Aa,Bool.false_eq_true,Bool.true_eq_false]at hb);(try subst hb))
   |((with_reducible refine Aw (by first|(with_reducible assumption)|(with_reducible exact Bool.of_not_eq_false (by assumption))|(with_reducible exact Bool.of_not_eq_true (by assumption))|((with_reducible refine decide_eq_true ?_);first|(with_reducible assumption)|omega)|((with_reducible refine decide_eq_false ?_);first|(with_reducible assumption)|omega)|(with_reducible rfl)) (fun hb=>?_));(try rw[hb]);(try simp only[Aa,Bool.false_eq_true,Bool.true_eq_false]at hb);(try subst hb))
   |((with_reducible refine And.intro (fun hb=>?_) (fun hb=>?_))<;>first|(with_reducible exact absurd hb (by assumption))|(exact absurd hb (by decide))|(with_reducible exact absurd hb Bool.false_ne_true)|(with_reducible exact absurd hb.symm Bool.false_ne_true)|(exfalso;first|(simp only[Aj]at hb<;>omega)|omega)|((try rw[hb]);(try simp only[Aa,Bool.false_eq_true,Bool.true_eq_false]at hb);(try subst hb)))
   |((with_reducible refine Exists.intro ?_ ?_);focus (and_intros<;>first|omega|(with_reducible assumption)|(with_reducible rfl)|kernel_rfl|exact rfl|assumption|(intro _ hh;cases hh;done)|exact Ah (by rfl)|exact size_map (fun _=>rfl)|exact Ai rfl|exact take_size (fun _=>rfl)|exact Ag rfl|exact Af (fun _=>rfl)|exact Ae (fun _=>rfl)|(simp only[Aj];omega)|(simp;done)|decide))
   |(with_reducible intro hfact)
   |((with_reducible refine And.intro ?_ ?_);focus (first|(with_reducible rfl)|(exact rfl)|decide))
   |((with_reducible refine CallWp.mk ?_);refine⟨_,Wv,?_⟩;rintro _ _ ⟨rfl,rfl⟩))
  all_goals(try(conv=>whnf))
  (apply dKq<;>kernel_rfl)
 have g2:¬decide ((255:Int)<(m.length:Int))=true:=by simp;omega
 have h3:1000<k.length:=by omega
 have g3:¬decide ((1000:Int)<(k.length:Int))=false:=by simp;omega
 repeat'((conv=>whnf);first
  |((with_reducible refine Ax (by first|(with_reducible assumption)|(with_reducible exact Bool.of_not_eq_false (by assumption))|(with_reducible exact Bool.of_not_eq_true (by assumption))|((with_reducible refine decide_eq_true ?_);first|(with_reducible assumption)|omega)|((with_reducible refine decide_eq_false ?_);first|(with_reducible assumption)|omega)|(with_reducible rfl)) (fun hb=>?_));(try rw[hb]);(try simp only[Aa,Bool.false_eq_true,Bool.true_eq_false]at hb);(try subst hb))
  |((with_reducible refine Aw (by first|(with_reducible assumption)|(with_reducible exact Bool.of_not_eq_false (by assumption))|(with_reducible exact Bool.of_not_eq_true (by assumption))|((with_reducible refine decide_eq_true ?_);first|(with_reducible assumption)|omega)|((with_reducible refine decide_eq_false ?_);first|(with_reducible assumption)|omega)|(with_reducible rfl)) (fun hb=>?_));(try rw[hb]);(try simp only[Aa,Bool.false_eq_true,Bool.true_eq_false]at hb);(try subst hb))
  |((with_reducible refine And.intro (fun hb=>?_) (fun hb=>?_))<;>first|(with_reducible exact absurd hb (by assumption))|(exact absurd hb (by decide))|(with_reducible exact absurd hb Bool.false_ne_true)|(with_reducible exact absurd hb.symm Bool.false_ne_true)|(exfalso;first|(simp only[Aj]at hb<;>omega)|omega)|((try rw[hb]);(try simp only[Aa,Bool.false_eq_true,Bool.true_eq_false]at hb);(try subst hb)))
  |((with_reducible refine Exists.intro ?_ ?_);focus (and_intros<;>first|omega|(with_reducible assumption)|(with_reducible rfl)|kernel_rfl|exact rfl|assumption|(intro _ hh;cases hh;done)|exact Ah (by rfl)|exact size_map (fun _=>rfl)|exact Ai rfl|exact take_size (fun _=>rfl)|exact Ag rfl|exact Af (fun _=>rfl)|exact Ae (fun _=>rfl)|(simp only[Aj];omega)|(simp;done)|decide))
  |(with_reducible intro hfact)
  |((with_reducible refine And.intro ?_ ?_);focus (first|(with_reducible rfl)|(exact rfl)|decide))
  |((with_reducible refine CallWp.mk ?_);refine⟨_,Wv,?_⟩;rintro _ _ ⟨rfl,rfl⟩))
 all_goals(try(conv=>whnf))
 (apply dKq<;>kernel_rfl)
theorem Lh (n m k A B U:Az) (a1 a2:Az) (hl:n.length≤255∧m.length≤255∧k.length≤1000)
 (hw1:Fn Tryd.prog Tw [.v (.str n),.v (.str k)] (Is (.v (.str A)) [.no,.no])) (hw2:Fn Tryd.prog Tw [.v (.str m),.v (.str [])] (Is (.v (.str B)) [.no,.no]))
 (hx1:Fn Tryd.prog Tx [.v (.str A)] (Is (.tup [.i (.str n),.i (.str k),.i (.bool true)]) [.no]))
 (hx2:Fn Tryd.prog Tx [.v (.str (List.drop (Int.toNat 0) (List.take (min (A.length:Int) (n.length:Int)).toNat A)))] (Is (.tup [.i (.str a1),.i (.str a2),.i (.bool false)]) [.no]))
 (hu:Fn Tryd.prog Kx [.v (.str B)] (Is (.v (⟨B,U⟩:Sp).toI) [.no]))
 (hs:Fn Tryd.prog Za [.v (⟨B,U⟩:Sp).toI,.v (.str A)] (Is (.v (.bool (decide (n=m)))) [.no,.no])):
 Fn Tryd.prog Cv [.v (.str n),.v (.str m),.v (.str k)] (Is (.v (.bool true)) [.no,.no,.no]):=by
 refine Gs ?_ (by simp)
 obtain⟨l1,l2,l3⟩:=hl
 have g1:¬decide ((255:Int)<(n.length:Int))=true:=by simp;omega
 have g2:¬decide ((255:Int)<(m.length:Int))=true:=by simp;omega
 have g3:¬decide ((1000:Int)<(k.length:Int))=true:=by simp;omega
 have e1:¬decide (n=n)=false:=by simp
 have e2:¬decide (k=k)=false:=by simp
 repeat'((conv=>whnf);first
  |((with_reducible refine Ax (by first|(with_reducible assumption)|(with_reducible exact Bool.of_not_eq_false (by assumption))|(with_reducible exact Bool.of_not_eq_true (by assumption))|((with_reducible refine decide_eq_true ?_);first|(with_reducible assumption)|omega)|((with_reducible refine decide_eq_false ?_);first|(with_reducible assumption)|omega)|(with_reducible rfl)) (fun hb=>?_));(try rw[hb]);(try simp only[Aa,Bool.false_eq_true,Bool.true_eq_false]at hb);(try subst hb))
  |((with_reducible refine Aw (by first|(with_reducible assumption)|(with_reducible exact Bool.of_not_eq_false (by assumption))|(with_reducible exact Bool.of_not_eq_true (by assumption))|((with_reducible refine decide_eq_true ?_);first|(with_reducible assumption)|omega)|((with_reducible refine decide_eq_false ?_);first|(with_reducible assumption)|omega)|(with_reducible rfl)) (fun hb=>?_));(try rw[hb]);(try simp only[Aa,Bool.false_eq_true,Bool.true_eq_false]at hb);(try subst hb))
  |((with_reducible refine And.intro (fun hb=>?_) (fun hb=>?_))<;>first|(with_reducible exact absurd hb (by assumption))|(exact absurd hb (by decide))|(with_reducible exact absurd hb Bool.false_ne_true)|(with_reducible exact absurd hb.symm Bool.false_ne_true)|(exfalso;first|(simp only[Aj]at hb<;>omega)|omega)|((try rw[hb]);(try simp only[Aa,Bool.false_eq_true,Bool.true_eq_false]at hb);(try subst hb)))
  |((with_reducible refine Exists.intro ?_ ?_);focus (and_intros<;>first|omega|(with_reducible assumption)|(with_reducible rfl)|kernel_rfl|exact rfl|assumption|(intro _ hh;cases hh;done)|exact Ah (by rfl)|exact size_map (fun _=>rfl)|exact Ai rfl|exact take_size (fun _=>rfl)|exact Ag rfl|exact Af (fun _=>rfl)|exact Ae (fun _=>rfl)|(simp only[Aj];omega)|(simp;done)|decide))
  |(with_reducible intro hfact)
  |((with_reducible refine And.intro ?_ ?_);focus (first|(with_reducible rfl)|(exact rfl)|decide))
  |((with_reducible refine CallWp.mk ?_);refine⟨_,Wv,?_⟩;rintro _ _ ⟨rfl,rfl⟩)
  |((with_reducible refine CallWp.mk ?_);refine⟨_,hw1,?_⟩;rintro _ _ ⟨rfl,rfl⟩)
  |((with_reducible refine CallWp.mk ?_);refine⟨_,hw2,?_⟩;rintro _ _ ⟨rfl,rfl⟩)
  |((with_reducible refine CallWp.mk ?_);refine⟨_,hx1,?_⟩;rintro _ _ ⟨rfl,rfl⟩))
 all_goals(try(conv=>whnf))
 generalize hKK:F7 Tryd.prog _ _=KK
 as_aux_lemma=>
  repeat'((conv=>whnf);first
   |((with_reducible refine Ax (by first|(with_reducible assumption)|(with_reducible exact Bool.of_not_eq_false (by assumption))|(with_reducible exact Bool.of_not_eq_true (by assumption))|((with_reducible refine decide_eq_true ?_);first|(with_reducible assumption)|omega)|((with_reducible refine decide_eq_false ?_);first|(with_reducible assumption)|omega)|(with_reducible rfl)) (fun hb=>?_));(try rw[hb]);(try simp only[Aa,Bool.false_eq_true,Bool.true_eq_false]at hb);(try subst hb))
   |((with_reducible refine Aw (by first|(with_reducible assumption)|(with_reducible exact Bool.of_not_eq_false (by assumption))|(with_reducible exact Bool.of_not_eq_true (by assumption))|((with_reducible refine decide_eq_true ?_);first|(with_reducible assumption)|omega)|((with_reducible refine decide_eq_false ?_);first|(with_reducible assumption)|omega)|(with_reducible rfl)) (fun hb=>?_));(try rw[hb]);(try simp only[Aa,Bool.false_eq_true,Bool.true_eq_false]at hb);(try subst hb))
   |((with_reducible refine And.intro (fun hb=>?_) (fun hb=>?_))<;>first|(with_reducible exact absurd hb (by assumption))|(exact absurd hb (by decide))|(with_reducible exact absurd hb Bool.false_ne_true)|(with_reducible exact absurd hb.symm Bool.false_ne_true)|(exfalso;first|(simp only[Aj]at hb<;>omega)|omega)|((try rw[hb]);(try simp only[Aa,Bool.false_eq_true,Bool.true_eq_false]at hb);(try subst hb)))
   |((with_reducible refine Exists.intro ?_ ?_);focus (and_intros<;>first|omega|(with_reducible assumption)|(with_reducible rfl)|kernel_rfl|exact rfl|assumption|(intro _ hh;cases hh;done)|exact Ah (by rfl)|exact size_map (fun _=>rfl)|exact Ai rfl|exact take_size (fun _=>rfl)|exact Ag rfl|exact Af (fun _=>rfl)|exact Ae (fun _=>rfl)|(simp only[Aj];omega)|(simp;done)|decide))
   |(with_reducible intro hfact)
   |((with_reducible refine And.intro ?_ ?_);focus (first|(with_reducible rfl)|(exact rfl)|decide))
   |((with_reducible refine CallWp.mk ?_);refine⟨_,hu,?_⟩;rintro _ _ ⟨rfl,rfl⟩))
  all_goals(try(conv=>whnf))
  rw[←hKK]
  clear hKK
  as_aux_lemma=>
   repeat'((conv=>whnf);first
    |((with_reducible refine Ax (by first|(with_reducible assumption)|(with_reducible exact Bool.of_not_eq_false (by assumption))|(with_reducible exact Bool.of_not_eq_true (by assumption))|((with_reducible refine decide_eq_true ?_);first|(with_reducible assumption)|omega)|((with_reducible refine decide_eq_false ?_);first|(with_reducible assumption)|omega)|(with_reducible rfl)) (fun hb=>?_));(try rw[hb]);(try simp only[Aa,Bool.false_eq_true,Bool.true_eq_false]at hb);(try subst hb))
    |((with_reducible refine Aw (by first|(with_reducible assumption)|(with_reducible exact Bool.of_not_eq_false (by assumption))|(with_reducible exact Bool.of_not_eq_true (by assumption))|((with_reducible refine decide_eq_true ?_);first|(with_reducible assumption)|omega)|((with_reducible refine decide_eq_false ?_);first|(with_reducible assumption)|omega)|(with_reducible rfl)) (fun hb=>?_));(try rw[hb]);(try simp only[Aa,Bool.false_eq_true,Bool.true_eq_false]at hb);(try subst hb))
    |((with_reducible refine And.intro (fun hb=>?_) (fun hb=>?_))<;>first|(with_reducible exact absurd hb (by assumption))|(exact absurd hb (by decide))|(with_reducible exact absurd hb Bool.false_ne_true)|(with_reducible exact absurd hb.symm Bool.false_ne_true)|(exfalso;first|(simp only[Aj]at hb<;>omega)|omega)|((try rw[hb]);(try simp only[Aa,Bool.false_eq_true,Bool.true_eq_false]at hb);(try subst hb)))
    |((with_reducible refine Exists.intro ?_ ?_);focus (and_intros<;>first|omega|(with_reducible assumption)|(with_reducible rfl)|kernel_rfl|exact rfl|assumption|(intro _ hh;cases hh;done)|exact Ah (by rfl)|exact size_map (fun _=>rfl)|exact Ai rfl|exact take_size (fun _=>rfl)|exact Ag rfl|exact Af (fun _=>rfl)|exact Ae (fun _=>rfl)|(simp only[Aj];omega)|(simp;done)|decide))
    |(with_reducible intro hfact)
    |((with_reducible refine And.intro ?_ ?_);focus (first|(with_reducible rfl)|(exact rfl)|decide))
    |((with_reducible refine CallWp.mk ?_);refine⟨_,hx2,?_⟩;rintro _ _ ⟨rfl,rfl⟩)
    |((with_reducible refine CallWp.mk ?_);refine⟨_,hs,?_⟩;rintro _ _ ⟨rfl,rfl⟩))
   all_goals(try(conv=>whnf))
   all_goals(refine Done.mk ⟨?_,by kernel_rfl⟩ (by kernel_rfl))
   all_goals exact SV.bool_congr (by simp)
theorem Ls (n m k A B:Az) (hn:n.length≤255) (hm:m.length≤255) (hk:k.length≤1000) (hl1:A.length=n.length+k.length+1) (hl2:B.length≤256)
 (f1:Fn Tryd.prog Tw [.v (.str n),.v (.str k)] (Is (.v (.str A)) [.no,.no])) (f2:Fn Tryd.prog Tw [.v (.str m),.v (.str [])] (Is (.v (.str B)) [.no,.no]))
 (f3:C1 A=(n,k,true)) (f4:decide (SpH ⟨B,under B⟩ A)=decide (n=m)) (f5:(C1 (A.take n.length)).2.2=false):
 Fn Tryd.prog Cv [.v (.str n),.v (.str m),.v (.str k)] (Is (.v (.bool true)) [.no,.no,.no]):=by
 have hx1:=L2 A (by omega)
 rw[f3]at hx1
 have hs:=Tu ⟨B,under B⟩ A
 rw[f4]at hs
 have hcut:List.drop (Int.toNat 0) (List.take (min (A.length:Int) (n.length:Int)).toNat A)=A.take n.length:=by
  rw[show(min (A.length:Int) (n.length:Int)).toNat=n.length by omega];exact List.drop_zero
 have hx2:=L2 (A.take n.length) (by rw[List.length_take];omega)
 rw[f5]at hx2
 generalize (C1 (A.take n.length)).1=a1 at hx2
 generalize (C1 (A.take n.length)).2.1=a2 at hx2
 rw[←hcut]at hx2
 have hu:=Na B (by omega)
 generalize under B=U at hu hs
 exact Lh n m k A B U a1 a2 ⟨hn,hm,hk⟩ f1 f2 hx1 hx2 hu hs
theorem Q7 (n m k:Az):Fn Tryd.prog Cv [.v (.str n),.v (.str m),.v (.str k)] (Is (.v (.bool true)) [.no,.no,.no]):=by
 by_cases hg:255<n.length∨255<m.length∨1000<k.length
 ·exact Mf n m k hg
 have hn:n.length≤255:=by omega
 have hm:m.length≤255:=by omega
 have hk:k.length≤1000:=by omega
 refine Ls n m k (B7 n k) (B7 m []) hn hm hk (Aa5 n k) ?_ (L1 n k (by omega) (by omega)) (L1 m [] (by omega) (by simp)) ?_ ?_ ?_
 ·rw[Aa5];simp;omega
 ·exact Mt (by omega)
 ·rw[decide_eq_decide,Pf];exact Mo hm hn
 ·exact Ms hn

open Go.ChangeShapes Go.Deep
inductive Sh where
 |int (k:IntKind)
 |bool
 |str
 |st (l:List Sh)
 |sl (sz:Nat) (e:Sh)
 |ar (sz n:Nat) (e:Sh)
 deriving Inhabited
mutual
def Sh.ok (P:Program):TypeId→Sh→Bool
 |t,.int k=>match P.underlying t with
  |some (.int k')=>k==k'
  |_=>false
 |t,.bool=>match P.underlying t with
  |some .bool=>true
  |_=>false
 |t,.str=>match P.underlying t with
  |some .string=>true
  |_=>false
 |t,.st l=>match P.underlying t with
  |some (.struct fs)=>Sh.oks P 0 (P.cellsOf t) fs.toList l
  |_=>false
 |t,.sl sz e=>match P.underlying t with
  |some (.slice e')=>P.cellsOf e'==sz&&sz != 0&&Sh.ok P e' e
  |_=>false
 |t,.ar sz n e=>match P.underlying t with
  |some (.array m e')=>P.cellsOf e'==sz&&m==n&&P.cellsOf t==n*sz&&Sh.ok P e' e
  |_=>false
def Sh.oks (P:Program):Nat→Nat→List Field→List Sh→Bool
 |off,tot,[],[]=>off==tot
 |off,tot,f::fs,s::l=>f.offset==off&&Sh.ok P f.type s&&Sh.oks P (off+P.cellsOf f.type) tot fs l
 |_,_,_,_=>false
end
mutual
def Fits:Sh→I→Prop
 | .int k,x=>∃n,x= .int k n∧(Lit.int k n).wf=true
 | .bool,x=>∃b,x= .bool b
 | .str,x=>∃s,x= .str s
 | .st l,x=>∃xs,x= .agg xs∧FitsL l xs
 | .sl sz e,x=>∃xs,x= .list xs∧∀y∈xs,Fits e y∧y.size=sz
 | .ar sz n e,x=>∃xs,x= .arr sz xs∧xs.length=n∧∀y∈xs,Fits e y∧y.size=sz
def FitsL:List Sh→List I→Prop
 | [],xs=>xs=[]
 |s::l,xs=>∃y ys,xs=y::ys∧Fits s y∧FitsL l ys
end
def De (w:World):Mem:=fun b=>w.heap[b]?
section
variable{H:Type}{enc:TypeId × Value → H}{P:Program}{w:World}{base:Nat}{sp:Nat → Bool}{held:Bool}
theorem Su {a:Addr} {n:Nat} {cs:List Value} (h:w.cells? base a n=some cs) (h0:0<n):∃bl ty fz,a=⟨a.block,a.off,none⟩∧w.heap[a.block]?=some (.cells bl ty fz)∧a.off+n≤bl.size∧(bl.toList.drop a.off).take n=cs:=by
 obtain⟨_,hl,hc⟩:=World.cells?_some h
 have hget:∀i,i<n→∃v,w.cell? (a.add i)=some v:=fun i hi=>⟨cs[i]'(by omega),by rw[hc i hi,List.getElem?_eq_getElem]⟩
 obtain⟨v,hv⟩:=hget 0 h0
 unfold World.cell? at hv
 rw[show a.add 0=a from by simp[Addr.add]]at hv
 split at hv
 ·rename_i bl ty fz hb
  split at hv
  ·cases hv
  ·rename_i hs
   have hspot:a.spot=none:=by cases hsp:a.spot<;>simp[hsp]at hs ⊢
   have hadd:∀i,w.cell? (a.add i)=bl[a.off+i]?:=by
    intro i
    unfold World.cell? Addr.add
    by_cases hi:i=0
    ·simp[hi,hb,hspot]
    ·simp[hi,hb]
   have hsz:a.off+n≤bl.size:=by
    obtain⟨v',hv'⟩:=hget (n - 1) (by omega)
    rw[hadd]at hv'
    have:=(Array.getElem?_eq_some_iff.1 hv').1
    omega
   refine⟨bl,ty,fz,?_,hb,hsz,?_⟩
   ·cases a;simp at hspot;simp[hspot]
   ·apply List.ext_getElem?
    intro i
    by_cases hi:i<n
    ·rw[List.getElem?_take,if_pos hi,List.getElem?_drop, ←hc i hi,hadd]
     simp
    ·rw[List.getElem?_eq_none (by simp;omega),List.getElem?_eq_none (by omega)]
 ·cases hv
theorem RepIs.of_rows {G:Mem} {sz:Nat}:∀{n:Nat} {cells:List Value} {p:I→Prop},n*sz≤cells.length→(∀i,i<n→∃x,RepI G x ((cells.drop (i*sz)).take sz)∧p x)→∃xs,xs.length=n∧RepIs G xs (cells.take (n*sz))∧∀x∈xs,p x
 |0,cells,p,_,_=>⟨[],rfl,by simp[RepIs],by simp⟩
 |n+1,cells,p,hl,h=>by
  have hm:(n+1)*sz=sz+n*sz:=by rw[Nat.add_mul];omega
  obtain⟨x,h1,h2⟩:=h 0 (by omega)
  simp only[Nat.zero_mul,List.drop_zero]at h1
  obtain⟨xs,h3,h4,h5⟩:=RepIs.of_rows (sz:=sz) (n:=n) (cells:=cells.drop sz) (p:=p) (by rw[List.length_drop];omega) fun i hi=>by
   obtain⟨y,g1,g2⟩:=h (i+1) (by omega)
   refine⟨y,?_,g2⟩
   rw[List.drop_drop,show sz+i*sz=(i+1)*sz by rw[Nat.add_mul];omega]
   exact g1
  refine⟨x::xs,by simp[h3],?_,?_⟩
  ·rw[hm,List.take_add]
   simp only[RepIs]
   exact⟨_,_,rfl,h1,h4⟩
  ·intro y hy
   rcases List.mem_cons.mp hy with rfl|hy
   ·exact h2
   ·exact h5 y hy
theorem Ab4:∀{l:List Sh} {fs:List Field} {off tot:Nat},Sh.oks P off tot fs l=true→off≤tot
 | [],[],_,_,h=>by simp only[Sh.oks,beq_iff_eq]at h;omega
 |s::l,f::fs,off,tot,h=>by
  simp only[Sh.oks,Bool.and_eq_true]at h
  have:=Ab4 h.2
  omega
 | [],_::_,_,_,h=>by simp[Sh.oks]at h
 |_::_,[],_,_,h=>by simp[Sh.oks]at h
mutual
theorem trod_item:∀(sh:Sh) {t:TypeId} {fuel:Nat} {cs:List Value} {x:DataW H × List MemPlace},sh.ok P t=true→DataW.trod enc P w base (fun _=>sp 0) held fuel t cs=some x→
 ∃y,RepI (De w) y cs∧Fits sh y
 | .int k,t,fuel,cs,x,ho,h=>by
   simp only[Sh.ok]at ho
   split at ho
   ·rename_i k' ht
    rw[beq_iff_eq]at ho
    subst ho
    obtain⟨n,rfl,_,hw⟩:=DataW.trod_int ht h
    exact⟨.int k n,by simp[RepI],n,rfl,hw⟩
   ·cases ho
 | .bool,t,fuel,cs,x,ho,h=>by
   simp only[Sh.ok]at ho
   split at ho
   ·rename_i ht
    obtain⟨b,rfl,_⟩:=DataW.trod_bool ht h
    exact⟨.bool b,by simp[RepI],b,rfl⟩
   ·cases ho
 | .str,t,fuel,cs,x,ho,h=>by
   simp only[Sh.ok]at ho
   split at ho
   ·rename_i ht
    obtain⟨s,rfl,_,hs⟩:=DataW.trod_string ht h
    obtain⟨⟨s⟩⟩:=s
    exact⟨.str s,by simp only[RepI];exact⟨trivial,hs⟩,s,rfl⟩
   ·cases ho
 | .st l,t,fuel,cs,x,ho,h=>by
   simp only[Sh.ok]at ho
   split at ho
   ·rename_i fs ht
    cases fuel with
    |zero=>simp[DataW.trod]at h
    |succ fuel=>
     simp only[DataW.trod,ht]at h
     split at h
     ·rename_i hl
      obtain⟨xs,h1,_⟩:=Option.map_eq_some_iff.1 h
      obtain⟨ys,h2,h3⟩:=trod_items l (off:=0) ho h1
      refine⟨.agg ys,?_,ys,rfl,h3⟩
      simp only[RepI]
      simpa[←hl]using h2
     ·cases h
   ·cases ho
 | .sl sz e,t,fuel,cs,x,ho,h=>by
   simp only[Sh.ok]at ho
   split at ho
   ·rename_i e' ht
    simp only[Bool.and_eq_true,beq_iff_eq,bne_iff_ne,ne_eq]at ho
    obtain⟨⟨hsz,hz⟩,he⟩:=ho
    rcases open_slice ht h with⟨rfl,_⟩|⟨a,len,cap,m,n,D,Pl,rfl,_,hlc,hcm,hm,_,hx⟩
    ·exact⟨.list [],by simp only[RepI];exact⟨none,0,rfl,Nat.le_refl _,Nat.zero_le _,.inl trivial⟩,[],rfl,by simp⟩
    ·by_cases h0:len=0
     ·subst h0
      exact⟨.list [],by simp only[RepI];exact⟨some a,cap,rfl,Nat.zero_le _,hcm,.inl trivial⟩,[],rfl,by simp⟩
     ·have hmm:len≤m:=by subst hm;split<;>omega
      have hrow:∀i,i<len→∃cs' y,w.cells? base (a.add (i*sz)) sz=some cs'∧RepI (De w) y cs'∧Fits e y∧y.size=sz:=by
       intro i hi
       obtain⟨cs',g1,g2⟩:=hx i (by omega)
       obtain⟨y,g3,g4⟩:=trod_item e he g2
       rw[hsz]at g1
       have hlen:=(World.cells?_some g1).2.1
       exact⟨cs',y,g1,g3,g4,by rw[←RepI.length _ _ g3,hlen]⟩
      obtain⟨cs0,_,c1,_⟩:=hrow 0 (by omega)
      rw[Nat.zero_mul,show a.add 0=a by simp[Addr.add]]at c1
      obtain⟨bl,ty,fz,ha,hb,hs0,_⟩:=Su c1 (by omega)
      have hat:∀i,i<len→a.off+i*sz+sz≤bl.size∧∃y,RepI (De w) y (((bl.toList.drop a.off).drop (i*sz)).take sz)∧Fits e y∧y.size=sz:=by
       intro i hi
       obtain⟨cs',y,g1,g2,g3,g4⟩:=hrow i hi
       obtain⟨bl',ty',fz',k1,k2,k3,k4⟩:=Su g1 (by omega)
       have e1:(a.add (i*sz)).block=a.block:=by unfold Addr.add;split<;>rfl
       have e2:(a.add (i*sz)).off=a.off+i*sz:=by unfold Addr.add;split<;>rename_i hh<;>simp[hh]
       rw[e1,hb]at k2
       cases k2
       rw[e2]at k3 k4
       refine⟨k3,y,?_,g3,g4⟩
       rw[List.drop_drop,k4]
       exact g2
      have hlast:=(hat (len - 1) (by omega)).1
      have hmul:(len - 1)*sz+sz=len*sz:=by
       obtain⟨q,rfl⟩:∃q,len=q+1:=⟨len - 1,by omega⟩
       rw[Nat.add_sub_cancel,Nat.add_mul,Nat.one_mul]
      obtain⟨xs,x1,x2,x3⟩:=RepIs.of_rows (G:=De w) (sz:=sz) (n:=len) (cells:=bl.toList.drop a.off) (p:=fun y=>Fits e y∧y.size=sz) (by simp;omega) fun i hi=>(hat i hi).2
      refine⟨.list xs,?_,xs,rfl,x3⟩
      simp only[RepI]
      refine⟨some a,cap,by rw[x1],by omega,hcm,.inr ⟨a.block,a.off,bl,ty,fz,sz,by rw[←ha],hb,fun y hy=>(x3 y hy).2,by rw[x1];omega,by rw[x1];exact x2⟩⟩
   ·cases ho
 | .ar sz n e,t,fuel,cs,x,ho,h=>by
   simp only[Sh.ok]at ho
   split at ho
   ·rename_i m e' ht
    simp only[Bool.and_eq_true,beq_iff_eq]at ho
    obtain⟨⟨⟨hsz,rfl⟩,htot⟩,he⟩:=ho
    obtain⟨xs,fu,rfl,_,hl,hxl,hx⟩:=DataW.trod_array ht h
    rw[htot]at hl
    rw[hsz]at hx
    obtain⟨ys,y1,y2,y3⟩:=RepIs.of_rows (G:=De w) (sz:=sz) (n:=m) (cells:=cs) (p:=fun y=>Fits e y∧y.size=sz) (by omega) fun i hi=>by
     obtain⟨d,hd⟩:∃d,xs[i]?=some d:=⟨_,List.getElem?_eq_getElem (by omega)⟩
     have h1:=hx i hi
     rw[hd]at h1
     obtain⟨y,g1,g2⟩:=trod_item e he h1
     refine⟨y,g1,g2,?_⟩
     rw[←RepI.length _ _ g1,List.length_take,List.length_drop]
     have:(i+1)*sz≤m*sz:=Nat.mul_le_mul_right _ (by omega)
     rw[Nat.add_mul,Nat.one_mul]at this
     omega
    refine⟨.arr sz ys,?_,ys,rfl,y1,y3⟩
    rw[List.take_of_length_le (by omega)]at y2
    simp only[RepI]
    exact⟨y2,fun y hy=>(y3 y hy).2⟩
   ·cases ho
theorem trod_items:∀(l:List Sh) {fs:List Field} {off tot fuel:Nat} {cs:List Value} {xs:List (DataW H × List MemPlace)},Sh.oks P off tot fs l=true→
 (fs.mapM fun f=>DataW.trod enc P w base (fun _=>sp 0) held fuel f.type ((cs.drop f.offset).take (P.cellsOf f.type)))=some xs→∃ys,RepIs (De w) ys ((cs.take tot).drop off)∧FitsL l ys
 | [],fs,off,tot,fuel,cs,xs,ho,h=>by
   cases fs with
   |nil=>
    simp only[Sh.oks,beq_iff_eq]at ho
    subst ho
    exact⟨[],by simp[RepIs],rfl⟩
   |cons f fs=>simp[Sh.oks]at ho
 |s::l,fs,off,tot,fuel,cs,xs,ho,h=>by
  cases fs with
  |nil=>simp[Sh.oks]at ho
  |cons f fs=>
   simp only[Sh.oks,Bool.and_eq_true,beq_iff_eq]at ho
   obtain⟨⟨rfl,h1⟩,h2⟩:=ho
   simp only[List.mapM_cons]at h
   obtain⟨y,g1,g2⟩:=Option.bind_eq_some_iff.1 h
   obtain⟨z,g3,g4⟩:=Option.bind_eq_some_iff.1 g2
   obtain⟨u,g5,g6⟩:=trod_item s h1 g1
   obtain⟨us,g7,g8⟩:=trod_items l (cs:=cs) h2 g3
   refine⟨u::us,?_,u,us,rfl,g6,g8⟩
   simp only[RepIs]
   have hle:=Ab4 h2
   refine⟨_,_,?_,g5,g7⟩
   have e1:(cs.drop f.offset).take (P.cellsOf f.type)=((cs.take tot).drop f.offset).take (P.cellsOf f.type):=by
    rw[List.drop_take,List.take_take,Nat.min_eq_left (by omega)]
   rw[e1, ←List.drop_drop,List.take_append_drop]
end
end

open Go.ChangeShapes Go.Deep
theorem Fm {α β:Type} {f g:α→Option β}:∀{l:List α} {xs:List β},l.mapM f=some xs→(∀a∈l,∀y∈xs,f a=some y→g a=some y)→l.mapM g=some xs
 | [],xs,h,_=>by simpa using h
 |a::l,xs,h,hg=>by
  simp only[List.mapM_cons]at h ⊢
  obtain⟨y,g1,g2⟩:=Option.bind_eq_some_iff.1 h
  obtain⟨z,g3,g4⟩:=Option.bind_eq_some_iff.1 g2
  cases g4
  rw[hg a (List.mem_cons_self ..) y (List.mem_cons_self ..) g1]
  have:=Fm (l:=l) g3 fun b hb x hx=>hg b (List.mem_cons_of_mem _ hb) x (List.mem_cons_of_mem _ hx)
  simp[this]
section
variable{H:Type}{enc:TypeId × Value → H}{P:Program}{W W':World}{sp':Nat → Bool}{held:Bool}
theorem Zg (hk:∀(b:Nat) (o:Obj),W.heap[b]?=some o→W'.heap[b]?=some o) {a:Addr} {v:Value} (h:W.cell? a=some v):W'.cell? a=some v:=by
 unfold World.cell? at h ⊢
 split at h
 ·rename_i bl ty fz hb
  rw[hk _ _ hb]
  exact h
 ·cases h
theorem Xa (hk:∀(b:Nat) (o:Obj),W.heap[b]?=some o→W'.heap[b]?=some o) {a:Addr} {n:Nat} {cs:List Value} (h:W.cells? 0 a n=some cs):W'.cells? 0 a n=some cs:=by
 unfold World.cells? at h ⊢
 split at h
 ·rename_i h0
  rw[if_pos h0]
  exact Fm h fun i _ y _ hy=>Zg hk hy
 ·cases h
theorem Hc (hk:∀(b:Nat) (o:Obj),W.heap[b]?=some o→W'.heap[b]?=some o):∀(fuel:Nat) (sh:Sh) {t:TypeId} {cs:List Value} {x:DataW H × List MemPlace},sh.ok P t=true→
 DataW.trod enc P W 0 (fun _=>true) held fuel t cs=some x→(∀p∈x.2,sp' p.block=true)→DataW.trod enc P W' 0 sp' held fuel t cs=some x
 |0,sh,t,cs,x,ho,h,hp=>by simp[DataW.trod]at h
 |fuel+1,.int k,t,cs,x,ho,h,hp=>by
  simp only[Sh.ok]at ho
  split at ho
  ·rename_i k' ht
   obtain⟨n,rfl,rfl,hw⟩:=DataW.trod_int ht h
   simp[DataW.trod,ht,hw]
  ·cases ho
 |fuel+1,.bool,t,cs,x,ho,h,hp=>by
  simp only[Sh.ok]at ho
  split at ho
  ·rename_i ht
   obtain⟨b,rfl,rfl⟩:=DataW.trod_bool ht h
   simp[DataW.trod,ht]
  ·cases ho
 |fuel+1,.str,t,cs,x,ho,h,hp=>by
  simp only[Sh.ok]at ho
  split at ho
  ·rename_i ht
   obtain⟨s,rfl,rfl,hs⟩:=DataW.trod_string ht h
   simp[DataW.trod,ht,hs]
  ·cases ho
 |fuel+1,.st l,t,cs,x,ho,h,hp=>by
  simp only[Sh.ok]at ho
  split at ho
  ·rename_i fs ht
   simp only[DataW.trod,ht]at h ⊢
   split at h
   ·rename_i hl
    rw[if_pos hl]
    obtain⟨xs,h1,rfl⟩:=Option.map_eq_some_iff.1 h
    have fld:∀(l:List Sh) (fs:List Field) (off tot:Nat) (xs:List (DataW H × List MemPlace)),Sh.oks P off tot fs l=true→
     (fs.mapM fun f=>DataW.trod enc P W 0 (fun _=>true) held fuel f.type ((cs.drop f.offset).take (P.cellsOf f.type)))=some xs→(∀y∈xs,∀p∈y.2,sp' p.block=true)→
     (fs.mapM fun f=>DataW.trod enc P W' 0 sp' held fuel f.type ((cs.drop f.offset).take (P.cellsOf f.type)))=some xs:=by
     intro l
     induction l with
     |nil=>
      intro fs off tot xs ho h hp
      cases fs with
      |nil=>simpa using h
      |cons f fs=>simp[Sh.oks]at ho
     |cons s l ih=>
      intro fs off tot xs ho h hp
      cases fs with
      |nil=>simp[Sh.oks]at ho
      |cons f fs=>
       simp only[Sh.oks,Bool.and_eq_true,beq_iff_eq]at ho
       simp only[List.mapM_cons]at h ⊢
       obtain⟨y,g1,g2⟩:=Option.bind_eq_some_iff.1 h
       obtain⟨z,g3,g4⟩:=Option.bind_eq_some_iff.1 g2
       cases g4
       rw[Hc hk fuel s ho.1.2 g1 (hp y (List.mem_cons_self ..))]
       have:=ih fs _ _ z ho.2 g3 fun y hy=>hp y (List.mem_cons_of_mem _ hy)
       simp[this]
    rw[fld l fs.toList 0 _ xs ho h1 fun y hy p hp'=>hp p (List.mem_flatMap.2 ⟨y,hy,hp'⟩)]
    rfl
   ·cases h
  ·cases ho
 |fuel+1,.ar sz n e,t,cs,x,ho,h,hp=>by
  simp only[Sh.ok]at ho
  split at ho
  ·rename_i m e' ht
   simp only[Bool.and_eq_true,beq_iff_eq]at ho
   simp only[DataW.trod,ht]at h ⊢
   split at h
   ·rename_i hl
    rw[if_pos hl]
    obtain⟨xs,h1,rfl⟩:=Option.map_eq_some_iff.1 h
    rw[Fm h1 fun i _ y hy h2=>Hc hk fuel e ho.2 h2 fun p hp'=>hp p (List.mem_flatMap.2 ⟨y,hy,hp'⟩)]
    rfl
   ·cases h
  ·cases ho
 |fuel+1,.sl sz e,t,cs,x,ho,h,hp=>by
  simp only[Sh.ok]at ho
  split at ho
  ·rename_i e' ht
   simp only[Bool.and_eq_true,beq_iff_eq,bne_iff_ne,ne_eq]at ho
   obtain⟨⟨hsz,hz⟩,he⟩:=ho
   have elem:∀{a:Addr} {i:Nat} {y:DataW H × List MemPlace},(∀p∈y.2,sp' p.block=true)→((W.cells? 0 (a.add (i*P.cellsOf e')) (P.cellsOf e')).bind (DataW.trod enc P W 0 (fun _=>true) held fuel e'))=some y→
    ((W'.cells? 0 (a.add (i*P.cellsOf e')) (P.cellsOf e')).bind (DataW.trod enc P W' 0 sp' held fuel e'))=some y:=by
    intro a i y hy h
    obtain⟨cs',g1,g2⟩:=Option.bind_eq_some_iff.1 h
    rw[Xa hk g1]
    exact Hc hk fuel e he g2 hy
   have hcs:cs=[.slice none 0 0]∨∃a len cap,cs=[.slice (some a) len cap]:=by
    rcases open_slice ht h with⟨h1,_⟩|⟨a,len,cap,_,_,_,_,h1,_⟩
    ·exact .inl h1
    ·exact .inr ⟨a,len,cap,h1⟩
   rcases hcs with rfl|⟨a,len,cap,rfl⟩
   ·simp only[DataW.trod,ht]at h ⊢
    exact h
   ·simp only[DataW.trod,ht]at h ⊢
    split at h
    ·rename_i hc
     rw[if_pos hc]
     obtain⟨elems,g1,g2⟩:=Option.bind_eq_some_iff.1 h
     obtain⟨rest,g3,rfl⟩:=Option.map_eq_some_iff.1 g2
     have hrow:0<elems.length+rest.length→sp' a.block=true:=by
      intro h0
      refine hp (.cell a.block (a.off+0)) (List.mem_append_left _ ?_)
      unfold MemPlace.row
      refine List.mem_map.2 ⟨0,List.mem_range.2 (Nat.mul_pos h0 (by omega)),rfl⟩
     have hel:∀y∈elems++rest,∀p∈y.2,sp' p.block=true:=fun y hy p hp'=>hp p (List.mem_append_right _ (List.mem_flatMap.2 ⟨y,hy,hp'⟩))
     have k1:=Fm g1 fun i _ y hy h=>elem (hel y (List.mem_append_left _ hy)) h
     rw[k1]
     simp only[if_true]at g3
     have k2:(if sp' a.block=true then(List.range (cap - len)).mapM fun j=>((W'.cells? 0 (a.add ((len+j)*P.cellsOf e')) (P.cellsOf e')).bind (DataW.trod enc P W' 0 sp' held fuel e'))else some [])=some rest:=by
      have k3:=Fm g3 fun j _ y hy h=>elem (hel y (List.mem_append_right _ hy)) h
      cases hs:sp' a.block with
      |true=>rw[if_pos rfl];exact k3
      |false=>
       rw[if_neg (by decide)]
       have hr0:rest=[]:=by
        cases rest with
        |nil=>rfl
        |cons r rs=>
         have:=hrow (by simp;omega)
         rw[hs]at this
         cases this
       rw[hr0]
     simp only[Option.bind_some]
     rw[k2]
     rfl
    ·cases h
  ·cases ho
end
end Go.Ab
