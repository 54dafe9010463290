/- Lemmas -/
import Derived.Test.YtkpojedpcabojaaDoorW9
import Derived.Test.YtkpojedpcabojaaDoorWD
import Derived.Test.YtkpojedpcabojaaDoorWL
set_option linter.unusedVariables false
set_option linter.unusedSimpArgs false
set_option maxRecDepth 100000
set_option maxHeartbeats 40000000
namespace Go.Ab
open Go.Proofs
theorem awB1:LBd 80000 aw1.l:=⟨by decide,by intro h hh;cases hh⟩
theorem awB2:LBd 80000 aw2.l:=⟨by decide,by intro h hh;simp[aw2]at hh;rcases hh with rfl|rfl<;>simp⟩
theorem awB3:LBd 80000 aw3.l:=⟨by decide,by intro h hh;simp[aw3]at hh;rcases hh with rfl|rfl<;>simp⟩
theorem Ae1:Fn Tryd.prog Ec [sP ⟨[],[]⟩,.v (.str [116])] (Is (.v (ti 0)) [sP aw1,.no]):=by
 have h:=Aa1 [116]
 rw[show D9 [116]=true by rfl]at h
 exact Aa2 ⟨[],[]⟩ [116] true h
theorem Aba:Fn Tryd.prog Da [sP aw1,.v (.str [116]),.v (.list [(Chg.mk [97] [49] false).toI,(Chg.mk [98] [50] false).toI])] (Is (.tup [.i (ti 1),.i (ti 0)]) [sP aw2,.no,.no]):=
 R4 Aep Aex aw1 [116] awF1 0 (by rfl) (by decide) (by decide) awB1 ⟨by decide,by decide,by decide⟩ (by decide) awF1 (some awF1) rfl Aez ⟨⟨0,0,4,2,2⟩,aw2.l,true⟩ (by rw[Adn];exact Afn)
theorem Abb:Fn Tryd.prog Da [sP aw2,.v (.str [116]),.v (.list [(Chg.mk [97] [] true).toI])] (Is (.tup [.i (ti 2),.i (ti 0)]) [sP aw3,.no,.no]):=
 R4 Aep Aex aw2 [116] awF2 0 (by rfl) (by decide) (by decide) awB2 ⟨by decide,by decide,by decide⟩ (by decide) awF2 (some awF2) rfl Ae0 ⟨⟨1,0,2,1,3⟩,aw3.l,true⟩ (by rw[Ado];exact Afo)
theorem Adm:Fn Tryd.prog C9 [sP aw3,.v (.str [116]),.v (⟨[],[]⟩:Sp).toI,.v (ti 1),.v (ti 9)] (Is (.tup [.i (.list [(Pr.mk [97] [49] 1 1).toI,(Pr.mk [98] [50] 1 1).toI]),.i (.bool false),.i (ti 0)]) [sP aw3,.no,.no,.no,.no]):=
 Ab6 ofC aw3 ⟨by decide,by intro h hh;simp[aw3]at hh;rcases hh with rfl|rfl<;>simp⟩ [116] (by decide) ⟨[],[]⟩ 1 9 0 (by rfl) (by decide) (by decide) (by decide) ([⟨[97],[49],1,1⟩,⟨[98],[50],1,1⟩],false) (by rfl)
theorem Zc:Fn Tryd.prog Mq [sP aw3,.v (.str [116]),.v (ti 2)] (Is (.v (ti 0)) [sP aw4,.no,.no]):=
 Uz aw3 [116] 2 0 (by rfl) awB3 (by decide) ⟨aw4.l,1⟩ Aey
theorem Ae2:Fn Tryd.prog Dn [sP aw4,.v (.str [116])] (Is (.v (ti 1)) [sP aw4,.no]):=Ub aw4 [116]
theorem Wv:Fn Tryd.prog Jt [] (Is (.v (.bool true)) []):=by
 refine Jj ?_ (by simp)
 repeat'((conv=>whnf);first
  |((with_reducible refine Ax (by first|(with_reducible assumption)|(with_reducible exact Bool.of_not_eq_false (by assumption))|(with_reducible exact Bool.of_not_eq_true (by assumption))|((with_reducible refine decide_eq_true ?_);first|(with_reducible assumption)|omega)|((with_reducible refine decide_eq_false ?_);first|(with_reducible assumption)|omega)|(with_reducible rfl)) (fun hb=>?_));(try rw[hb]);(try simp only[Aa,Bool.false_eq_true,Bool.true_eq_false]at hb);(try subst hb))
  |((with_reducible refine Aw (by first|(with_reducible assumption)|(with_reducible exact Bool.of_not_eq_false (by assumption))|(with_reducible exact Bool.of_not_eq_true (by assumption))|((with_reducible refine decide_eq_true ?_);first|(with_reducible assumption)|omega)|((with_reducible refine decide_eq_false ?_);first|(with_reducible assumption)|omega)|(with_reducible rfl)) (fun hb=>?_));(try rw[hb]);(try simp only[Aa,Bool.false_eq_true,Bool.true_eq_false]at hb);(try subst hb))
  |((with_reducible refine And.intro (fun hb=>?_) (fun hb=>?_))<;>first|(with_reducible exact absurd hb (by assumption))|(exact absurd hb (by decide))|(with_reducible exact absurd hb Bool.false_ne_true)|(with_reducible exact absurd hb.symm Bool.false_ne_true)|(exfalso;first|(simp only[Aj]at hb<;>omega)|omega)|((try rw[hb]);(try simp only[Aa,Bool.false_eq_true,Bool.true_eq_false]at hb);(try subst hb)))
  |((with_reducible refine Exists.intro ?_ ?_);focus (and_intros<;>first|omega|(with_reducible assumption)|(with_reducible rfl)|kernel_rfl|exact rfl|assumption|(intro _ hh;cases hh;done)|exact Ah (by rfl)|exact size_map (fun _=>rfl)|exact Ai rfl|exact take_size (fun _=>rfl)|exact Ag rfl|exact Af (fun _=>rfl)|exact Ae (fun _=>rfl)|(simp only[Aj];omega)|(simp;done)|decide))
  |(with_reducible intro hfact)
  |((with_reducible refine And.intro ?_ ?_);focus (first|(with_reducible rfl)|(exact rfl)|decide))
  |((with_reducible refine CallWp.mk ?_);refine⟨_,Adg,?_⟩;rintro _ _ ⟨rfl,rfl⟩)
  |((with_reducible refine CallWp.mk ?_);refine⟨_,Ae1,?_⟩;rintro _ _ ⟨rfl,rfl⟩)
  |((with_reducible refine CallWp.mk ?_);refine⟨_,Aba,?_⟩;rintro _ _ ⟨rfl,rfl⟩)
  |((with_reducible refine CallWp.mk ?_);refine⟨_,Abb,?_⟩;rintro _ _ ⟨rfl,rfl⟩)
  |((with_reducible refine CallWp.mk ?_);refine⟨_,Adm,?_⟩;rintro _ _ ⟨rfl,rfl⟩)
  |((with_reducible refine CallWp.mk ?_);refine⟨_,Zc,?_⟩;rintro _ _ ⟨rfl,rfl⟩)
  |((with_reducible refine CallWp.mk ?_);refine⟨_,Ae2,?_⟩;rintro _ _ ⟨rfl,rfl⟩))
 all_goals(try(conv=>whnf))
 (apply dKq<;>kernel_rfl)

open Go.Proofs
abbrev Gs:FuncId:=12
def F7:Stm:=(sO [O1 (.box 1 0),gA 2 cF] (.seq (sO [gC 9 30 [],gT 10 9] (cR 10 [gA 2 cF])) (sO [gA 3 (.c .nilp)] (sO [gM 12 3,gF 13 1 1,gL 14 13,gF 15 1 2,gL 16 15,gC 17 24 [nL 12,nL 14,nL 16],gA 11 17,gE 18 11 0,gE 19 11 1,gA 4 18,gA 5 19] (sO [gM 21 3,gF 22 1 1,gL 23 22,gF 24 1 3,gU 25 2 24,gG 26 1 4 5,gL 27 26,gG 28 1 5 6,gL 29 28,gC 30 33 [nL 21,nL 23,nL 25,nL 27,nL 29],gA 20 30,gE 31 20 0,gE 32 20 1,gE 33 20 2,gA 6 31,gA 7 32,gA 8 33] (sO [gM 34 4,gB 35 .eql 34 (cI 0),gM 36 35,qt 36 (iM 37 5),qt 36 (iB 38 .eql 37 (cI 16)),gP 39 36 38 cF,gM 40 39,qt 40 (iM 41 6),qt 40 (iN 42 41),qt 40 (iB 43 .eql 42 (cI 0)),gP 44 40 43 cF,gM 45 44,qt 45 (iM 46 7),qt 45 (iT 47 46),gP 48 45 47 cF,gM 49 48,qt 49 (iM 50 8),qt 49 (iB 51 .eql 50 (cI 16)),gP 52 49 51 cF,gM 53 52,qt 53 (iM 54 3),qt 53 (iG 55 1 1 1),qt 53 (iL 56 55),qt 53 (iG 57 1 4 5),qt 53 (iL 58 57),.call (some (53,true)) (some 59) 48 [nL 54,nL 56,nL 58],qt 53 (iB 60 .eql 59 (cI 16)),gP 61 53 60 cF,gM 62 61,qt 62 (iM 63 3),qt 62 (iG 64 1 1 1),qt 62 (iL 65 64),.call (some (62,true)) (some 66) 20 [nL 63,nL 65],qt 62 (iB 67 .eql 66 (cI 16)),gP 68 62 67 cF,gM 69 68,qt 69 (iM 70 3),.call (some (69,true)) (some 71) 47 [nL 70],qt 69 (iN 72 71),qt 69 (iB 73 .eql 72 (cI 0)),gP 74 69 73 cF,gM 75 74,qt 75 (iM 76 3),.call (some (75,true)) (some 77) 44 [nL 76],qt 75 (iN 78 77),qt 75 (iB 79 .eql 78 (cI 0)),gP 80 75 79 cF,gM 81 80,qt 81 (iM 82 3),qt 81 (iG 83 1 1 1),qt 81 (iL 84 83),.call (some (81,true)) (some 85) 29 [nL 82,nL 84],qt 81 (iB 86 .eql 85 (cI 0)),gP 87 81 86 cF,gM 88 87,qt 88 (iM 89 3),qt 88 (iG 90 1 1 1),qt 88 (iL 91 90),.call (some (88,true)) (some 92) 36 [nL 89,nL 91],qt 88 (iB 93 .eql 92 (cI 0)),gP 94 88 93 cF,gM 95 94,qt 95 (iM 96 3),qt 95 (iG 97 1 1 1),qt 95 (iL 98 97),.call (some (95,true)) (some 99) 22 [nL 96,nL 98],qt 95 (iB 100 .eql 99 (cI 0)),gP 101 95 100 cF,gM 102 101,qt 102 (iM 103 3),qt 102 (iG 104 1 1 1),qt 102 (iL 105 104),.call (some (102,true)) (some 106) 23 [nL 103,nL 105],qt 102 (iB 107 .eql 106 (cI 0)),gP 108 102 107 cF,gM 109 108,qt 109 (iM 110 3),qt 109 (iG 111 1 1 1),qt 109 (iL 112 111),.call (some (109,true)) (some 113) 49 [nL 110,nL 112],qt 109 (iB 114 .eql 113 (cI 0)),gP 115 109 114 cF,gA 2 115] .ret))))))
theorem F9:OF 12 116 F7 [.t 2]:=oF Tryd.func12 rfl Tryd.ntmps12 (by kernel_rfl) (by kernel_rfl)
def Lg:Stm:=(sO [O1 (.box 1 0),gA 2 (.nils 50 4)] (sO [gA 3 (.nils 50 4)] (.seq (sO [gL 10 1,gC 11 47 [nL 10],gN 12 11,gM 13 (cI 0)] (.block 0 (.loop [0,4,5,6,7,10,14,15,16,17,18,19,20,21,22,23,24,25,26,27,28,29,30,31,32,33,34,35,54,55,56,57,58,59] (sO [gB 14 .lss 13 12] (.seq (.cond 14 .skip (.exit 0)) (.seq (.block 1 (sO [gI 15 1 11 13,gL 16 15,gA 5 16] (sO [gL 17 1,O1 (.nchk 18 17),gF 19 18 0,gL 20 19,gM 21 5,O1 (.mget 22 .nilp false 20 21),gA 6 22] (.seq (.drw [0,0,2,6,14,0,32,96,224,511,0,2047] [gM 23 5,gM 24 6,O1 (.nchk 25 24),gF 26 25 0,gL 27 26,gM 28 6,O1 (.nchk 29 28),gF 30 29 1,gL 31 30,O1 (.buildD 32 [(.it (.str [])),(.it (.int .i64 0)),(.it (.int .i64 0)),(.vec 130 2 [])] [(0,23),(1,27),(2,31)]),O1 (.allocD 7 (.st [(.it (.str [])),(.it (.int .i64 0)),(.it (.int .i64 0)),(.vec 130 2 [])])),gS 4 7 32]) (.seq (sO [gL 33 1,gM 34 5,.inl none (some 35) 60 79 [33,34]] (.block 2 (.rngF 35 105 50 60 [36,37] Fy (sO [gA 8 36] (.ops [gA 9 37])) (.block 3 (.drw [0,1,0,0,8,24,56,0,248,504,1016,2040,4092,8188,16383,32767,65535] [gF 38 7 3,gL 39 38,gM 40 9,gL 41 1,O1 (.nchk 42 41),gF 43 42 1,gL 44 43,gM 45 8,gI 46 2 44 45,gF 47 46 1,gL 48 47,.peek none (some 49) 83 [nL 48],O1 (.buildD 50 [(.it (.str [])),(.vec 125 4 [])] [(0,40),(1,49)]),O1 (.bslD 51 130 2 (.agg [(.str []),(.list [])]) 1 [(0,50)]),O1 (.app 52 130 2 40 39 51),gF 53 7 3,gS 1 53 52]))))) (.ops [gM 54 3,gU 55 4 7,O1 (.bslD 56 50 4 (.agg [(.str []),(.int .i64 0),(.int .i64 0),(.list [])]) 1 [(0,55)]),O1 (.app 57 50 4 56 54 56),gA 3 57])))))) (.ops [gB 58 .add 13 (cI 1),gM 13 58]))))))) (sO [gM 59 3,O1 (.mov 2 50 4 59)] .ret))))
theorem Lr:OF 44 60 Lg [.t 2]:=oF Tryd.func44 rfl Tryd.ntmps44 (by kernel_rfl) (by kernel_rfl)

open Go.Proofs
theorem Aff (n:Az):Fn Tryd.prog Pf [.v .nilp,.v (.str n)] (Is (.v (ti 0)) [.no,.no]):=by
 refine Nf ?_ (by simp)
 repeat'((conv=>whnf);first
  |((with_reducible refine Ax (by first|(with_reducible assumption)|(with_reducible exact Bool.of_not_eq_false (by assumption))|(with_reducible exact Bool.of_not_eq_true (by assumption))|((with_reducible refine decide_eq_true ?_);first|(with_reducible assumption)|omega)|((with_reducible refine decide_eq_false ?_);first|(with_reducible assumption)|omega)|(with_reducible rfl)) (fun hb=>?_));(try rw[hb]);(try simp only[Aa,Bool.false_eq_true,Bool.true_eq_false]at hb);(try subst hb))
  |((with_reducible refine Aw (by first|(with_reducible assumption)|(with_reducible exact Bool.of_not_eq_false (by assumption))|(with_reducible exact Bool.of_not_eq_true (by assumption))|((with_reducible refine decide_eq_true ?_);first|(with_reducible assumption)|omega)|((with_reducible refine decide_eq_false ?_);first|(with_reducible assumption)|omega)|(with_reducible rfl)) (fun hb=>?_));(try rw[hb]);(try simp only[Aa,Bool.false_eq_true,Bool.true_eq_false]at hb);(try subst hb))
  |((with_reducible refine And.intro (fun hb=>?_) (fun hb=>?_))<;>first|(with_reducible exact absurd hb (by assumption))|(exact absurd hb (by decide))|(with_reducible exact absurd hb Bool.false_ne_true)|(with_reducible exact absurd hb.symm Bool.false_ne_true)|(exfalso;first|(simp only[Aj]at hb<;>omega)|omega)|((try rw[hb]);(try simp only[Aa,Bool.false_eq_true,Bool.true_eq_false]at hb);(try subst hb)))
  |((with_reducible refine Exists.intro ?_ ?_);focus (and_intros<;>first|omega|(with_reducible assumption)|(with_reducible rfl)|kernel_rfl|exact rfl|assumption|(intro _ hh;cases hh;done)|exact Ah (by rfl)|exact size_map (fun _=>rfl)|exact Ai rfl|exact take_size (fun _=>rfl)|exact Ag rfl|exact Af (fun _=>rfl)|exact Ae (fun _=>rfl)|(simp only[Aj];omega)|(simp;done)|decide))
  |(with_reducible intro hfact)
  |((with_reducible refine And.intro ?_ ?_);focus (first|(with_reducible rfl)|(exact rfl)|decide))
  |((refine Au ?_)))
 all_goals(try(conv=>whnf))
 (apply dKq<;>kernel_rfl)
theorem Abz (n:Az):Fn Tryd.prog Mg [.v .nilp,.v (.str n)] (Is (.v (ti 0)) [.no,.no]):=by
 refine Ls ?_ (by simp)
 repeat'((conv=>whnf);first
  |((with_reducible refine Ax (by first|(with_reducible assumption)|(with_reducible exact Bool.of_not_eq_false (by assumption))|(with_reducible exact Bool.of_not_eq_true (by assumption))|((with_reducible refine decide_eq_true ?_);first|(with_reducible assumption)|omega)|((with_reducible refine decide_eq_false ?_);first|(with_reducible assumption)|omega)|(with_reducible rfl)) (fun hb=>?_));(try rw[hb]);(try simp only[Aa,Bool.false_eq_true,Bool.true_eq_false]at hb);(try subst hb))
  |((with_reducible refine Aw (by first|(with_reducible assumption)|(with_reducible exact Bool.of_not_eq_false (by assumption))|(with_reducible exact Bool.of_not_eq_true (by assumption))|((with_reducible refine decide_eq_true ?_);first|(with_reducible assumption)|omega)|((with_reducible refine decide_eq_false ?_);first|(with_reducible assumption)|omega)|(with_reducible rfl)) (fun hb=>?_));(try rw[hb]);(try simp only[Aa,Bool.false_eq_true,Bool.true_eq_false]at hb);(try subst hb))
  |((with_reducible refine And.intro (fun hb=>?_) (fun hb=>?_))<;>first|(with_reducible exact absurd hb (by assumption))|(exact absurd hb (by decide))|(with_reducible exact absurd hb Bool.false_ne_true)|(with_reducible exact absurd hb.symm Bool.false_ne_true)|(exfalso;first|(simp only[Aj]at hb<;>omega)|omega)|((try rw[hb]);(try simp only[Aa,Bool.false_eq_true,Bool.true_eq_false]at hb);(try subst hb)))
  |((with_reducible refine Exists.intro ?_ ?_);focus (and_intros<;>first|omega|(with_reducible assumption)|(with_reducible rfl)|kernel_rfl|exact rfl|assumption|(intro _ hh;cases hh;done)|exact Ah (by rfl)|exact size_map (fun _=>rfl)|exact Ai rfl|exact take_size (fun _=>rfl)|exact Ag rfl|exact Af (fun _=>rfl)|exact Ae (fun _=>rfl)|(simp only[Aj];omega)|(simp;done)|decide))
  |(with_reducible intro hfact)
  |((with_reducible refine And.intro ?_ ?_);focus (first|(with_reducible rfl)|(exact rfl)|decide))
  |((refine Au ?_)))
 all_goals(try(conv=>whnf))
 (apply dKq<;>kernel_rfl)
theorem Aby (n:Az):Fn Tryd.prog Mf [.v .nilp,.v (.str n)] (Is (.v (ti 0)) [.no,.no]):=by
 refine Lq ?_ (by simp)
 repeat'((conv=>whnf);first
  |((with_reducible refine Ax (by first|(with_reducible assumption)|(with_reducible exact Bool.of_not_eq_false (by assumption))|(with_reducible exact Bool.of_not_eq_true (by assumption))|((with_reducible refine decide_eq_true ?_);first|(with_reducible assumption)|omega)|((with_reducible refine decide_eq_false ?_);first|(with_reducible assumption)|omega)|(with_reducible rfl)) (fun hb=>?_));(try rw[hb]);(try simp only[Aa,Bool.false_eq_true,Bool.true_eq_false]at hb);(try subst hb))
  |((with_reducible refine Aw (by first|(with_reducible assumption)|(with_reducible exact Bool.of_not_eq_false (by assumption))|(with_reducible exact Bool.of_not_eq_true (by assumption))|((with_reducible refine decide_eq_true ?_);first|(with_reducible assumption)|omega)|((with_reducible refine decide_eq_false ?_);first|(with_reducible assumption)|omega)|(with_reducible rfl)) (fun hb=>?_));(try rw[hb]);(try simp only[Aa,Bool.false_eq_true,Bool.true_eq_false]at hb);(try subst hb))
  |((with_reducible refine And.intro (fun hb=>?_) (fun hb=>?_))<;>first|(with_reducible exact absurd hb (by assumption))|(exact absurd hb (by decide))|(with_reducible exact absurd hb Bool.false_ne_true)|(with_reducible exact absurd hb.symm Bool.false_ne_true)|(exfalso;first|(simp only[Aj]at hb<;>omega)|omega)|((try rw[hb]);(try simp only[Aa,Bool.false_eq_true,Bool.true_eq_false]at hb);(try subst hb)))
  |((with_reducible refine Exists.intro ?_ ?_);focus (and_intros<;>first|omega|(with_reducible assumption)|(with_reducible rfl)|kernel_rfl|exact rfl|assumption|(intro _ hh;cases hh;done)|exact Ah (by rfl)|exact size_map (fun _=>rfl)|exact Ai rfl|exact take_size (fun _=>rfl)|exact Ag rfl|exact Af (fun _=>rfl)|exact Ae (fun _=>rfl)|(simp only[Aj];omega)|(simp;done)|decide))
  |(with_reducible intro hfact)
  |((with_reducible refine And.intro ?_ ?_);focus (first|(with_reducible rfl)|(exact rfl)|decide))
  |((refine Au ?_)))
 all_goals(try(conv=>whnf))
 (apply dKq<;>kernel_rfl)
theorem Ad7 (n:Az):Fn Tryd.prog Mt [.v .nilp,.v (.str n)] (Is (.v (ti 0)) [.no,.no]):=by
 refine Mo ?_ (by simp)
 repeat'((conv=>whnf);first
  |((with_reducible refine Ax (by first|(with_reducible assumption)|(with_reducible exact Bool.of_not_eq_false (by assumption))|(with_reducible exact Bool.of_not_eq_true (by assumption))|((with_reducible refine decide_eq_true ?_);first|(with_reducible assumption)|omega)|((with_reducible refine decide_eq_false ?_);first|(with_reducible assumption)|omega)|(with_reducible rfl)) (fun hb=>?_));(try rw[hb]);(try simp only[Aa,Bool.false_eq_true,Bool.true_eq_false]at hb);(try subst hb))
  |((with_reducible refine Aw (by first|(with_reducible assumption)|(with_reducible exact Bool.of_not_eq_false (by assumption))|(with_reducible exact Bool.of_not_eq_true (by assumption))|((with_reducible refine decide_eq_true ?_);first|(with_reducible assumption)|omega)|((with_reducible refine decide_eq_false ?_);first|(with_reducible assumption)|omega)|(with_reducible rfl)) (fun hb=>?_));(try rw[hb]);(try simp only[Aa,Bool.false_eq_true,Bool.true_eq_false]at hb);(try subst hb))
  |((with_reducible refine And.intro (fun hb=>?_) (fun hb=>?_))<;>first|(with_reducible exact absurd hb (by assumption))|(exact absurd hb (by decide))|(with_reducible exact absurd hb Bool.false_ne_true)|(with_reducible exact absurd hb.symm Bool.false_ne_true)|(exfalso;first|(simp only[Aj]at hb<;>omega)|omega)|((try rw[hb]);(try simp only[Aa,Bool.false_eq_true,Bool.true_eq_false]at hb);(try subst hb)))
  |((with_reducible refine Exists.intro ?_ ?_);focus (and_intros<;>first|omega|(with_reducible assumption)|(with_reducible rfl)|kernel_rfl|exact rfl|assumption|(intro _ hh;cases hh;done)|exact Ah (by rfl)|exact size_map (fun _=>rfl)|exact Ai rfl|exact take_size (fun _=>rfl)|exact Ag rfl|exact Af (fun _=>rfl)|exact Ae (fun _=>rfl)|(simp only[Aj];omega)|(simp;done)|decide))
  |(with_reducible intro hfact)
  |((with_reducible refine And.intro ?_ ?_);focus (first|(with_reducible rfl)|(exact rfl)|decide))
  |((refine Au ?_)))
 all_goals(try(conv=>whnf))
 (apply dKq<;>kernel_rfl)
theorem Vi (n:Az):Fn Tryd.prog Dn [.v .nilp,.v (.str n)] (Is (.v (ti 0)) [.no,.no]):=by
 refine Ev ?_ (by simp)
 repeat'((conv=>whnf);first
  |((with_reducible refine Ax (by first|(with_reducible assumption)|(with_reducible exact Bool.of_not_eq_false (by assumption))|(with_reducible exact Bool.of_not_eq_true (by assumption))|((with_reducible refine decide_eq_true ?_);first|(with_reducible assumption)|omega)|((with_reducible refine decide_eq_false ?_);first|(with_reducible assumption)|omega)|(with_reducible rfl)) (fun hb=>?_));(try rw[hb]);(try simp only[Aa,Bool.false_eq_true,Bool.true_eq_false]at hb);(try subst hb))
  |((with_reducible refine Aw (by first|(with_reducible assumption)|(with_reducible exact Bool.of_not_eq_false (by assumption))|(with_reducible exact Bool.of_not_eq_true (by assumption))|((with_reducible refine decide_eq_true ?_);first|(with_reducible assumption)|omega)|((with_reducible refine decide_eq_false ?_);first|(with_reducible assumption)|omega)|(with_reducible rfl)) (fun hb=>?_));(try rw[hb]);(try simp only[Aa,Bool.false_eq_true,Bool.true_eq_false]at hb);(try subst hb))
  |((with_reducible refine And.intro (fun hb=>?_) (fun hb=>?_))<;>first|(with_reducible exact absurd hb (by assumption))|(exact absurd hb (by decide))|(with_reducible exact absurd hb Bool.false_ne_true)|(with_reducible exact absurd hb.symm Bool.false_ne_true)|(exfalso;first|(simp only[Aj]at hb<;>omega)|omega)|((try rw[hb]);(try simp only[Aa,Bool.false_eq_true,Bool.true_eq_false]at hb);(try subst hb)))
  |((with_reducible refine Exists.intro ?_ ?_);focus (and_intros<;>first|omega|(with_reducible assumption)|(with_reducible rfl)|kernel_rfl|exact rfl|assumption|(intro _ hh;cases hh;done)|exact Ah (by rfl)|exact size_map (fun _=>rfl)|exact Ai rfl|exact take_size (fun _=>rfl)|exact Ag rfl|exact Af (fun _=>rfl)|exact Ae (fun _=>rfl)|(simp only[Aj];omega)|(simp;done)|decide))
  |(with_reducible intro hfact)
  |((with_reducible refine And.intro ?_ ?_);focus (first|(with_reducible rfl)|(exact rfl)|decide))
  |((refine Au ?_)))
 all_goals(try(conv=>whnf))
 (apply dKq<;>kernel_rfl)
theorem Ab1 (n:Az) (cs:List I):Fn Tryd.prog Da [.v .nilp,.v (.str n),.v (.list cs)] (Is (.tup [.i (ti 0),.i (ti 16)]) [.no,.no,.no]):=by
 refine Fo ?_ (by simp)
 repeat'((conv=>whnf);first
  |((with_reducible refine Ax (by first|(with_reducible assumption)|(with_reducible exact Bool.of_not_eq_false (by assumption))|(with_reducible exact Bool.of_not_eq_true (by assumption))|((with_reducible refine decide_eq_true ?_);first|(with_reducible assumption)|omega)|((with_reducible refine decide_eq_false ?_);first|(with_reducible assumption)|omega)|(with_reducible rfl)) (fun hb=>?_));(try rw[hb]);(try simp only[Aa,Bool.false_eq_true,Bool.true_eq_false]at hb);(try subst hb))
  |((with_reducible refine Aw (by first|(with_reducible assumption)|(with_reducible exact Bool.of_not_eq_false (by assumption))|(with_reducible exact Bool.of_not_eq_true (by assumption))|((with_reducible refine decide_eq_true ?_);first|(with_reducible assumption)|omega)|((with_reducible refine decide_eq_false ?_);first|(with_reducible assumption)|omega)|(with_reducible rfl)) (fun hb=>?_));(try rw[hb]);(try simp only[Aa,Bool.false_eq_true,Bool.true_eq_false]at hb);(try subst hb))
  |((with_reducible refine And.intro (fun hb=>?_) (fun hb=>?_))<;>first|(with_reducible exact absurd hb (by assumption))|(exact absurd hb (by decide))|(with_reducible exact absurd hb Bool.false_ne_true)|(with_reducible exact absurd hb.symm Bool.false_ne_true)|(exfalso;first|(simp only[Aj]at hb<;>omega)|omega)|((try rw[hb]);(try simp only[Aa,Bool.false_eq_true,Bool.true_eq_false]at hb);(try subst hb)))
  |((with_reducible refine Exists.intro ?_ ?_);focus (and_intros<;>first|omega|(with_reducible assumption)|(with_reducible rfl)|kernel_rfl|exact rfl|assumption|(intro _ hh;cases hh;done)|exact Ah (by rfl)|exact size_map (fun _=>rfl)|exact Ai rfl|exact take_size (fun _=>rfl)|exact Ag rfl|exact Af (fun _=>rfl)|exact Ae (fun _=>rfl)|(simp only[Aj];omega)|(simp;done)|decide))
  |(with_reducible intro hfact)
  |((with_reducible refine And.intro ?_ ?_);focus (first|(with_reducible rfl)|(exact rfl)|decide))
  |((with_reducible apply Drawn.by0);(focus kernel_rfl);intro hfact;(try simp only[dRS]at hfact))
  |((refine Au ?_)))
 all_goals(try(conv=>whnf))
 (apply dKq<;>kernel_rfl)
theorem Ab0 (n:Az) (x:Sp) (rev most:Int):Fn Tryd.prog C9 [.v .nilp,.v (.str n),.v x.toI,.v (ti rev),.v (ti most)] (Is (.tup [.i (.list []),.i (.bool false),.i (ti 16)]) [.no,.no,.no,.no,.no]):=by
 refine D0 ?_ (by simp)
 repeat'((conv=>whnf);first
  |((with_reducible refine Ax (by first|(with_reducible assumption)|(with_reducible exact Bool.of_not_eq_false (by assumption))|(with_reducible exact Bool.of_not_eq_true (by assumption))|((with_reducible refine decide_eq_true ?_);first|(with_reducible assumption)|omega)|((with_reducible refine decide_eq_false ?_);first|(with_reducible assumption)|omega)|(with_reducible rfl)) (fun hb=>?_));(try rw[hb]);(try simp only[Aa,Bool.false_eq_true,Bool.true_eq_false]at hb);(try subst hb))
  |((with_reducible refine Aw (by first|(with_reducible assumption)|(with_reducible exact Bool.of_not_eq_false (by assumption))|(with_reducible exact Bool.of_not_eq_true (by assumption))|((with_reducible refine decide_eq_true ?_);first|(with_reducible assumption)|omega)|((with_reducible refine decide_eq_false ?_);first|(with_reducible assumption)|omega)|(with_reducible rfl)) (fun hb=>?_));(try rw[hb]);(try simp only[Aa,Bool.false_eq_true,Bool.true_eq_false]at hb);(try subst hb))
  |((with_reducible refine And.intro (fun hb=>?_) (fun hb=>?_))<;>first|(with_reducible exact absurd hb (by assumption))|(exact absurd hb (by decide))|(with_reducible exact absurd hb Bool.false_ne_true)|(with_reducible exact absurd hb.symm Bool.false_ne_true)|(exfalso;first|(simp only[Aj]at hb<;>omega)|omega)|((try rw[hb]);(try simp only[Aa,Bool.false_eq_true,Bool.true_eq_false]at hb);(try subst hb)))
  |((with_reducible refine Exists.intro ?_ ?_);focus (and_intros<;>first|omega|(with_reducible assumption)|(with_reducible rfl)|kernel_rfl|exact rfl|assumption|(intro _ hh;cases hh;done)|exact Ah (by rfl)|exact size_map (fun _=>rfl)|exact Ai rfl|exact take_size (fun _=>rfl)|exact Ag rfl|exact Af (fun _=>rfl)|exact Ae (fun _=>rfl)|(simp only[Aj];omega)|(simp;done)|decide))
  |(with_reducible intro hfact)
  |((with_reducible refine And.intro ?_ ?_);focus (first|(with_reducible rfl)|(exact rfl)|decide))
  |((with_reducible apply Drawn.by0);(focus kernel_rfl);intro hfact;(try simp only[dRS]at hfact))
  |((refine Au ?_)))
 all_goals(try(conv=>whnf))
 (apply dKq<;>kernel_rfl)
theorem Xn (n:Az) (rev:Int):Fn Tryd.prog Mq [.v .nilp,.v (.str n),.v (ti rev)] (Is (.v (ti 16)) [.no,.no,.no]):=by
 refine Ez ?_ (by simp)
 repeat'((conv=>whnf);first
  |((with_reducible refine Ax (by first|(with_reducible assumption)|(with_reducible exact Bool.of_not_eq_false (by assumption))|(with_reducible exact Bool.of_not_eq_true (by assumption))|((with_reducible refine decide_eq_true ?_);first|(with_reducible assumption)|omega)|((with_reducible refine decide_eq_false ?_);first|(with_reducible assumption)|omega)|(with_reducible rfl)) (fun hb=>?_));(try rw[hb]);(try simp only[Aa,Bool.false_eq_true,Bool.true_eq_false]at hb);(try subst hb))
  |((with_reducible refine Aw (by first|(with_reducible assumption)|(with_reducible exact Bool.of_not_eq_false (by assumption))|(with_reducible exact Bool.of_not_eq_true (by assumption))|((with_reducible refine decide_eq_true ?_);first|(with_reducible assumption)|omega)|((with_reducible refine decide_eq_false ?_);first|(with_reducible assumption)|omega)|(with_reducible rfl)) (fun hb=>?_));(try rw[hb]);(try simp only[Aa,Bool.false_eq_true,Bool.true_eq_false]at hb);(try subst hb))
  |((with_reducible refine And.intro (fun hb=>?_) (fun hb=>?_))<;>first|(with_reducible exact absurd hb (by assumption))|(exact absurd hb (by decide))|(with_reducible exact absurd hb Bool.false_ne_true)|(with_reducible exact absurd hb.symm Bool.false_ne_true)|(exfalso;first|(simp only[Aj]at hb<;>omega)|omega)|((try rw[hb]);(try simp only[Aa,Bool.false_eq_true,Bool.true_eq_false]at hb);(try subst hb)))
  |((with_reducible refine Exists.intro ?_ ?_);focus (and_intros<;>first|omega|(with_reducible assumption)|(with_reducible rfl)|kernel_rfl|exact rfl|assumption|(intro _ hh;cases hh;done)|exact Ah (by rfl)|exact size_map (fun _=>rfl)|exact Ai rfl|exact take_size (fun _=>rfl)|exact Ag rfl|exact Af (fun _=>rfl)|exact Ae (fun _=>rfl)|(simp only[Aj];omega)|(simp;done)|decide))
  |(with_reducible intro hfact)
  |((with_reducible refine And.intro ?_ ?_);focus (first|(with_reducible rfl)|(exact rfl)|decide))
  |((with_reducible apply Drawn.by0);(focus kernel_rfl);intro hfact;(try simp only[dRS]at hfact))
  |((refine Au ?_)))
 all_goals(try(conv=>whnf))
 (apply dKq<;>kernel_rfl)
theorem Ad8 (n:Az):Fn Tryd.prog Ec [.v .nilp,.v (.str n)] (Is (.v (ti 16)) [.no,.no]):=by
 refine Fz ?_ (by simp)
 repeat'((conv=>whnf);first
  |((with_reducible refine Ax (by first|(with_reducible assumption)|(with_reducible exact Bool.of_not_eq_false (by assumption))|(with_reducible exact Bool.of_not_eq_true (by assumption))|((with_reducible refine decide_eq_true ?_);first|(with_reducible assumption)|omega)|((with_reducible refine decide_eq_false ?_);first|(with_reducible assumption)|omega)|(with_reducible rfl)) (fun hb=>?_));(try rw[hb]);(try simp only[Aa,Bool.false_eq_true,Bool.true_eq_false]at hb);(try subst hb))
  |((with_reducible refine Aw (by first|(with_reducible assumption)|(with_reducible exact Bool.of_not_eq_false (by assumption))|(with_reducible exact Bool.of_not_eq_true (by assumption))|((with_reducible refine decide_eq_true ?_);first|(with_reducible assumption)|omega)|((with_reducible refine decide_eq_false ?_);first|(with_reducible assumption)|omega)|(with_reducible rfl)) (fun hb=>?_));(try rw[hb]);(try simp only[Aa,Bool.false_eq_true,Bool.true_eq_false]at hb);(try subst hb))
  |((with_reducible refine And.intro (fun hb=>?_) (fun hb=>?_))<;>first|(with_reducible exact absurd hb (by assumption))|(exact absurd hb (by decide))|(with_reducible exact absurd hb Bool.false_ne_true)|(with_reducible exact absurd hb.symm Bool.false_ne_true)|(exfalso;first|(simp only[Aj]at hb<;>omega)|omega)|((try rw[hb]);(try simp only[Aa,Bool.false_eq_true,Bool.true_eq_false]at hb);(try subst hb)))
  |((with_reducible refine Exists.intro ?_ ?_);focus (and_intros<;>first|omega|(with_reducible assumption)|(with_reducible rfl)|kernel_rfl|exact rfl|assumption|(intro _ hh;cases hh;done)|exact Ah (by rfl)|exact size_map (fun _=>rfl)|exact Ai rfl|exact take_size (fun _=>rfl)|exact Ag rfl|exact Af (fun _=>rfl)|exact Ae (fun _=>rfl)|(simp only[Aj];omega)|(simp;done)|decide))
  |(with_reducible intro hfact)
  |((with_reducible refine And.intro ?_ ?_);focus (first|(with_reducible rfl)|(exact rfl)|decide))
  |((refine Au ?_)))
 all_goals(try(conv=>whnf))
 (apply dKq<;>kernel_rfl)
theorem Q7:Fn Tryd.prog Kx [.v .nilp] (Is (.v (.list [])) [.no]):=by
 refine Km ?_ (by simp)
 repeat'((conv=>whnf);first
  |((with_reducible refine Ax (by first|(with_reducible assumption)|(with_reducible exact Bool.of_not_eq_false (by assumption))|(with_reducible exact Bool.of_not_eq_true (by assumption))|((with_reducible refine decide_eq_true ?_);first|(with_reducible assumption)|omega)|((with_reducible refine decide_eq_false ?_);first|(with_reducible assumption)|omega)|(with_reducible rfl)) (fun hb=>?_));(try rw[hb]);(try simp only[Aa,Bool.false_eq_true,Bool.true_eq_false]at hb);(try subst hb))
  |((with_reducible refine Aw (by first|(with_reducible assumption)|(with_reducible exact Bool.of_not_eq_false (by assumption))|(with_reducible exact Bool.of_not_eq_true (by assumption))|((with_reducible refine decide_eq_true ?_);first|(with_reducible assumption)|omega)|((with_reducible refine decide_eq_false ?_);first|(with_reducible assumption)|omega)|(with_reducible rfl)) (fun hb=>?_));(try rw[hb]);(try simp only[Aa,Bool.false_eq_true,Bool.true_eq_false]at hb);(try subst hb))
  |((with_reducible refine And.intro (fun hb=>?_) (fun hb=>?_))<;>first|(with_reducible exact absurd hb (by assumption))|(exact absurd hb (by decide))|(with_reducible exact absurd hb Bool.false_ne_true)|(with_reducible exact absurd hb.symm Bool.false_ne_true)|(exfalso;first|(simp only[Aj]at hb<;>omega)|omega)|((try rw[hb]);(try simp only[Aa,Bool.false_eq_true,Bool.true_eq_false]at hb);(try subst hb)))
  |((with_reducible refine Exists.intro ?_ ?_);focus (and_intros<;>first|omega|(with_reducible assumption)|(with_reducible rfl)|kernel_rfl|exact rfl|assumption|(intro _ hh;cases hh;done)|exact Ah (by rfl)|exact size_map (fun _=>rfl)|exact Ai rfl|exact take_size (fun _=>rfl)|exact Ag rfl|exact Af (fun _=>rfl)|exact Ae (fun _=>rfl)|(simp only[Aj];omega)|(simp;done)|decide))
  |(with_reducible intro hfact)
  |((with_reducible refine And.intro ?_ ?_);focus (first|(with_reducible rfl)|(exact rfl)|decide)))
 all_goals(try(conv=>whnf))
 (apply dKq<;>kernel_rfl)
theorem Ad6:Fn Tryd.prog Ms [.v .nilp] (Is (.v (.list [])) [.no]):=by
 refine Lr ?_ (by simp)
 repeat'((conv=>whnf);first
  |((with_reducible refine Ax (by first|(with_reducible assumption)|(with_reducible exact Bool.of_not_eq_false (by assumption))|(with_reducible exact Bool.of_not_eq_true (by assumption))|((with_reducible refine decide_eq_true ?_);first|(with_reducible assumption)|omega)|((with_reducible refine decide_eq_false ?_);first|(with_reducible assumption)|omega)|(with_reducible rfl)) (fun hb=>?_));(try rw[hb]);(try simp only[Aa,Bool.false_eq_true,Bool.true_eq_false]at hb);(try subst hb))
  |((with_reducible refine Aw (by first|(with_reducible assumption)|(with_reducible exact Bool.of_not_eq_false (by assumption))|(with_reducible exact Bool.of_not_eq_true (by assumption))|((with_reducible refine decide_eq_true ?_);first|(with_reducible assumption)|omega)|((with_reducible refine decide_eq_false ?_);first|(with_reducible assumption)|omega)|(with_reducible rfl)) (fun hb=>?_));(try rw[hb]);(try simp only[Aa,Bool.false_eq_true,Bool.true_eq_false]at hb);(try subst hb))
  |((with_reducible refine And.intro (fun hb=>?_) (fun hb=>?_))<;>first|(with_reducible exact absurd hb (by assumption))|(exact absurd hb (by decide))|(with_reducible exact absurd hb Bool.false_ne_true)|(with_reducible exact absurd hb.symm Bool.false_ne_true)|(exfalso;first|(simp only[Aj]at hb<;>omega)|omega)|((try rw[hb]);(try simp only[Aa,Bool.false_eq_true,Bool.true_eq_false]at hb);(try subst hb)))
  |((with_reducible refine Exists.intro ?_ ?_);focus (and_intros<;>first|omega|(with_reducible assumption)|(with_reducible rfl)|kernel_rfl|exact rfl|assumption|(intro _ hh;cases hh;done)|exact Ah (by rfl)|exact size_map (fun _=>rfl)|exact Ai rfl|exact take_size (fun _=>rfl)|exact Ag rfl|exact Af (fun _=>rfl)|exact Ae (fun _=>rfl)|(simp only[Aj];omega)|(simp;done)|decide))
  |(with_reducible intro hfact)
  |((with_reducible refine And.intro ?_ ?_);focus (first|(with_reducible rfl)|(exact rfl)|decide))
  |((with_reducible apply Drawn.by0);(focus kernel_rfl);intro hfact;(try simp only[dRS]at hfact))
  |((with_reducible refine CallWp.mk ?_);refine⟨_,Q7,?_⟩;rintro _ _ ⟨rfl,rfl⟩))
 all_goals(try(conv=>whnf))
 refine LoopWq.by (X:=Unit) (fun _=>[]) (fun _=>True) (fun _=>0) () (by kernel_rfl) trivial ?_
 rintro _ _
 repeat'((conv=>whnf);first
  |((with_reducible refine Ax (by first|(with_reducible assumption)|(with_reducible exact Bool.of_not_eq_false (by assumption))|(with_reducible exact Bool.of_not_eq_true (by assumption))|((with_reducible refine decide_eq_true ?_);first|(with_reducible assumption)|omega)|((with_reducible refine decide_eq_false ?_);first|(with_reducible assumption)|omega)|(with_reducible rfl)) (fun hb=>?_));(try rw[hb]);(try simp only[Aa,Bool.false_eq_true,Bool.true_eq_false]at hb);(try subst hb))
  |((with_reducible refine Aw (by first|(with_reducible assumption)|(with_reducible exact Bool.of_not_eq_false (by assumption))|(with_reducible exact Bool.of_not_eq_true (by assumption))|((with_reducible refine decide_eq_true ?_);first|(with_reducible assumption)|omega)|((with_reducible refine decide_eq_false ?_);first|(with_reducible assumption)|omega)|(with_reducible rfl)) (fun hb=>?_));(try rw[hb]);(try simp only[Aa,Bool.false_eq_true,Bool.true_eq_false]at hb);(try subst hb))
  |((with_reducible refine And.intro (fun hb=>?_) (fun hb=>?_))<;>first|(with_reducible exact absurd hb (by assumption))|(exact absurd hb (by decide))|(with_reducible exact absurd hb Bool.false_ne_true)|(with_reducible exact absurd hb.symm Bool.false_ne_true)|(exfalso;first|(simp only[Aj]at hb<;>omega)|omega)|((try rw[hb]);(try simp only[Aa,Bool.false_eq_true,Bool.true_eq_false]at hb);(try subst hb)))
  |((with_reducible refine Exists.intro ?_ ?_);focus (and_intros<;>first|omega|(with_reducible assumption)|(with_reducible rfl)|kernel_rfl|exact rfl|assumption|(intro _ hh;cases hh;done)|exact Ah (by rfl)|exact size_map (fun _=>rfl)|exact Ai rfl|exact take_size (fun _=>rfl)|exact Ag rfl|exact Af (fun _=>rfl)|exact Ae (fun _=>rfl)|(simp only[Aj];omega)|(simp;done)|decide))
  |(with_reducible intro hfact)
  |((with_reducible refine And.intro ?_ ?_);focus (first|(with_reducible rfl)|(exact rfl)|decide))
  |((with_reducible apply Drawn.by0);(focus kernel_rfl);intro hfact;(try simp only[dRS]at hfact)))
 all_goals(try(conv=>whnf))
 (apply dKq<;>kernel_rfl)

open Go.Proofs
theorem Ad3 (kd:Int) (n:Az) (l:List I) (x:Sp) (rev most:Int):Fn Tryd.prog Gs [.v (.agg [ti kd,.str n,.list l,x.toI,ti rev,ti most])] (Is (.v (.bool true)) [.no]):=by
 refine F9 ?_ (by simp)
 have a1:=Ab1 n l
 have a2:=Ab0 n x rev most
 have a3:=Xn n rev
 have a4:=Ad8 n
 have a5:=Aff n
 have a6:=Abz n
 have a7:=Aby n
 have a8:=Ad7 n
 have a9:=Vi n
 repeat'((conv=>whnf);first
  |((with_reducible refine Ax (by first|(with_reducible assumption)|(with_reducible exact Bool.of_not_eq_false (by assumption))|(with_reducible exact Bool.of_not_eq_true (by assumption))|((with_reducible refine decide_eq_true ?_);first|(with_reducible assumption)|omega)|((with_reducible refine decide_eq_false ?_);first|(with_reducible assumption)|omega)|(with_reducible rfl)) (fun hb=>?_));(try rw[hb]);(try simp only[Aa,Bool.false_eq_true,Bool.true_eq_false]at hb);(try subst hb))
  |((with_reducible refine Aw (by first|(with_reducible assumption)|(with_reducible exact Bool.of_not_eq_false (by assumption))|(with_reducible exact Bool.of_not_eq_true (by assumption))|((with_reducible refine decide_eq_true ?_);first|(with_reducible assumption)|omega)|((with_reducible refine decide_eq_false ?_);first|(with_reducible assumption)|omega)|(with_reducible rfl)) (fun hb=>?_));(try rw[hb]);(try simp only[Aa,Bool.false_eq_true,Bool.true_eq_false]at hb);(try subst hb))
  |((with_reducible refine And.intro (fun hb=>?_) (fun hb=>?_))<;>first|(with_reducible exact absurd hb (by assumption))|(exact absurd hb (by decide))|(with_reducible exact absurd hb Bool.false_ne_true)|(with_reducible exact absurd hb.symm Bool.false_ne_true)|(exfalso;first|(simp only[Aj]at hb<;>omega)|omega)|((try rw[hb]);(try simp only[Aa,Bool.false_eq_true,Bool.true_eq_false]at hb);(try subst hb)))
  |((with_reducible refine Exists.intro ?_ ?_);focus (and_intros<;>first|omega|(with_reducible assumption)|(with_reducible rfl)|kernel_rfl|exact rfl|assumption|(intro _ hh;cases hh;done)|exact Ah (by rfl)|exact size_map (fun _=>rfl)|exact Ai rfl|exact take_size (fun _=>rfl)|exact Ag rfl|exact Af (fun _=>rfl)|exact Ae (fun _=>rfl)|(simp only[Aj];omega)|(simp;done)|decide))
  |(with_reducible intro hfact)
  |((with_reducible refine And.intro ?_ ?_);focus (first|(with_reducible rfl)|(exact rfl)|decide))
  |((with_reducible apply Drawn.by0);(focus kernel_rfl);intro hfact;(try simp only[dRS]at hfact))
  |((with_reducible refine CallWp.mk ?_);refine⟨_,Wv,?_⟩;rintro _ _ ⟨rfl,rfl⟩)
  |((with_reducible refine CallWp.mk ?_);refine⟨_,a1,?_⟩;rintro _ _ ⟨rfl,rfl⟩)
  |((with_reducible refine CallWp.mk ?_);refine⟨_,a2,?_⟩;rintro _ _ ⟨rfl,rfl⟩)
  |((with_reducible refine CallWp.mk ?_);refine⟨_,a3,?_⟩;rintro _ _ ⟨rfl,rfl⟩)
  |((with_reducible refine CallWp.mk ?_);refine⟨_,a4,?_⟩;rintro _ _ ⟨rfl,rfl⟩)
  |((with_reducible refine CallWp.mk ?_);refine⟨_,a5,?_⟩;rintro _ _ ⟨rfl,rfl⟩)
  |((with_reducible refine CallWp.mk ?_);refine⟨_,a6,?_⟩;rintro _ _ ⟨rfl,rfl⟩)
  |((with_reducible refine CallWp.mk ?_);refine⟨_,a7,?_⟩;rintro _ _ ⟨rfl,rfl⟩)
  |((with_reducible refine CallWp.mk ?_);refine⟨_,a8,?_⟩;rintro _ _ ⟨rfl,rfl⟩)
  |((with_reducible refine CallWp.mk ?_);refine⟨_,a9,?_⟩;rintro _ _ ⟨rfl,rfl⟩)
  |((with_reducible refine CallWp.mk ?_);refine⟨_,Q7,?_⟩;rintro _ _ ⟨rfl,rfl⟩)
  |((with_reducible refine CallWp.mk ?_);refine⟨_,Ad6,?_⟩;rintro _ _ ⟨rfl,rfl⟩))
 all_goals(try(conv=>whnf))
 all_goals((apply dKq<;>kernel_rfl))
end Go.Ab
