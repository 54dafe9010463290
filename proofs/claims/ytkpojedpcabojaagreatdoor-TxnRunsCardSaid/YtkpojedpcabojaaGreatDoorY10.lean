/- Lemmas -/
import Derived.Test.YtkpojedpcabojaaGreatDoorY8
set_option linter.unusedVariables false
set_option linter.unusedSimpArgs false
set_option maxRecDepth 100000
namespace Go.Ab
open Go.Proofs
def Aw8:Stm:=(sO [gA 6 (cI 0)] (sO [gM 15 0,gM 16 1,gC 17 35 [(true,15),nL 16],gA 7 17] (.seq (sO [gM 18 7,gB 19 .lss 18 (cI 0)] (cR 19 [gA 6 (cI 16)])) (sO [gM 20 0,O1 (.Ami 21 20),gF 22 21 0,gL 23 22,gM 24 7,gI 25 4 23 24,gU 26 4 25,O1 (.A0e 8 (.st [(.it (.str [])),(.it (.int .i64 0)),(.it (.int .i64 0)),(.vec 55 2 [])])),gS 4 8 26] (.seq (sO [gM 27 2,gB 28 .lss 27 (cI 0)] (cR 28 [gA 6 (cI 1)])) (.seq (sO [gM 29 2,gF 30 8 1,gL 31 30,gB 32 .gtr 29 31] (cR 32 [gA 6 (cI 13)])) (.seq (sO [gM 33 2,gF 34 8 2,gL 35 34,gB 36 .lss 33 35] (cR 36 [gA 6 (cI 14)])) (sO [O1 (.empty 37 55 2),gA 9 37] (.seq (sO [gA 10 (cI 0)] (.block 0 (.loop [11,12,13,14,38,39,40,41,42,43,44,45,46,47,48,49,50,51,52,53,54,55,56,57,58,59,60,61,62,63,64,65,66,67,68,69,70,71,72,73,74,75,76,77,78,79,80,81,82,83,84,85,86,87,88,89,90,91,92,93,94,95,96,97,98,99,100,101,102,103,104,105,106,107,108,109,110,111,112,113,114,116] (.seq (sO [gM 38 10,gF 39 8 3,gL 40 39,gN 41 40,gB 42 .lss 38 41] (.cond 42 .skip (.exit 0))) (.seq (.block 1 (sO [gF 45 8 3,gL 46 45,gM 47 10,gI 48 2 46 47,gF 49 48 0,gL 50 49,O1 (.A0g 51 [(.it (.str [])),(.vec 104 4 [])] [(0,50)]),O1 (.A0e 11 (.st [(.it (.str [])),(.vec 104 4 [])])),gS 2 11 51] (sO [gF 53 8 3,gL 54 53,gM 55 10,gI 56 2 54 55,gF 57 56 1,gL 58 57,gM 59 2,gC 60 65 [nL 58,nL 59],gA 52 60,gE 61 52 0,gE 62 52 1,O1 (.alloc 12 (.one (.i (.agg [(.int .i64 0),(.int .i64 0),(.str []),(.bool false)])))),gS 4 12 61,gA 13 62] (.seq (sO [gM 63 13] (.cond 63 (.ops [gF 64 11 1,gL 65 64,gU 66 4 12,O1 (.bsl 67 104 4 (.agg [(.int .i64 0),(.int .i64 0),(.str []),(.bool false)]) 1 [(0,66)]),O1 (.app 68 104 4 40 65 67),gF 69 11 1,gS 1 69 68]) .skip)) (.seq (sO [gA 14 (cI 0)] (.block 2 (.loop [70,71,72,73,74,75,76,77,78,79,80,81,82,83,84,85,86,87,88,89,90,91,92,93,94,95,96,97,98,99,100,101,102,103,104,105,106,111,116] (.seq (sO [gM 70 14,gF 71 8 3,gL 72 71,gM 73 10,gI 74 2 72 73,gF 75 74 1,gL 76 75,gN 77 76,gB 78 .lss 70 77] (.cond 78 .skip (.exit 2))) (.seq (.block 3 (sO [gF 81 8 3,gL 82 81,gM 83 10,gI 84 2 82 83,gF 85 84 1,gL 86 85,gM 87 14,gI 88 4 86 87,gF 89 88 0,gL 90 89,gM 91 2,gB 92 .gtr 90 91] (.cond 92 (.drw [0,1,0,4,0,28,60,124,0,508,1020,2044,4095,8191,16383] [gF 93 11 1,gL 94 93,gF 95 8 3,gL 96 95,gM 97 10,gI 98 2 96 97,gF 99 98 1,gL 100 99,gM 101 14,gI 102 4 100 101,gU 103 4 102,O1 (.bsl 104 104 4 (.agg [(.int .i64 0),(.int .i64 0),(.str []),(.bool false)]) 1 [(0,103)]),O1 (.app 105 104 4 40 94 104),gF 106 11 1,gS 1 106 105]) .skip))) (.ops [gM 79 14,gB 80 .add 79 (cI 1),gA 14 80])))))) (sO [gF 107 11 1,gL 108 107,gN 109 108,gB 110 .gtr 109 (cI 0)] (.cond 110 (.ops [gM 111 9,O1 (.A93 112 true 2 11),O1 (.bsl 113 55 2 (.agg [(.str []),(.list [])]) 1 [(0,112)]),O1 (.app 114 55 2 40 111 113),gA 9 114]) .skip))))))) (.ops [gM 43 10,gB 44 .add 43 (cI 1),gA 10 44])))))) (sO [gM 115 2,gM 116 9,gF 117 8 2,gS 1 117 115,gF 118 8 3,gS 1 118 116] (.seq (.drw [0,1,3,7,0,0,63,127] [gM 119 0,O1 (.Ami 120 119),gF 121 120 0,gL 122 121,gM 123 7,gU 124 4 8,gI 125 4 122 123,gS 4 125 124]) (sO [gA 6 (cI 0)] .ret))))))))))))
theorem Are:OF 29 126 Aw8 [.t 6]:=oF Tryz.func29 rfl Tryz.ntmps29
def Ax6:Stm:=(sO [gA 4 (cI 0)] (.seq (sO [gM 8 1,gC 9 52 [nL 8],gT 10 9] (cR 10 [gA 4 (cI 5)])) (.seq (sO [gM 11 0,gM 12 1,gC 13 35 [(true,11),nL 12],gB 14 .geq 13 (cI 0)] (cR 14 [gA 4 (cI 15)])) (.seq (sO [gM 15 0,O1 (.Ami 16 15),gF 17 16 0,gL 18 17,gN 19 18,gB 20 .geq 19 (cI 8)] (cR 20 [gA 4 (cI 17)])) (sO [O1 (.empty 21 52 4),gA 5 21] (sO [gA 6 cF] (.seq (sO [gA 7 (cI 0)] (.block 0 (.loop [22,23,24,25,26,27,28,29,30,31,32,33,34,35,36,37,38,39,40,41,42,43,44,45,46,47,48,49,50,51,52,53,54,55,56,57,58,59,62,68] (.seq (sO [gM 22 7,gM 23 0,O1 (.Ami 24 23),gF 25 24 0,gL 26 25,gN 27 26,gB 28 .lss 22 27] (.cond 28 .skip (.exit 0))) (.seq (.block 1 (.seq (sO [gM 31 6,gT 32 31,gM 33 32,qt 33 (iM 34 1),qt 33 (iM 35 0),qt 33 (.Ami 36 35),qt 33 (iG 37 36 0 0),qt 33 (iL 38 37),qt 33 (iM 39 7),qt 33 (iI 40 4 38 39),qt 33 (iG 41 40 0 0),qt 33 (iL 42 41),qt 33 (iB 43 .lss 34 42),gP 44 33 43 cF] (.cond 44 (sO [gM 45 5,gM 46 1,O1 (.build 47 [(.str []),(.int .i64 0),(.int .i64 0),(.list [])] [(0,46)]),O1 (.bsl 48 52 4 (.agg [(.str []),(.int .i64 0),(.int .i64 0),(.list [])]) 1 [(0,47)]),O1 (.app 49 52 4 56 45 48),gA 5 49] (.ops [gA 6 cT])) .skip)) (.ops [gM 50 5,gM 51 0,O1 (.Ami 52 51),gF 53 52 0,gL 54 53,gM 55 7,gI 56 4 54 55,gU 57 4 56,O1 (.bsl 58 52 4 (.agg [(.str []),(.int .i64 0),(.int .i64 0),(.list [])]) 1 [(0,57)]),O1 (.app 59 52 4 56 50 58),gA 5 59]))) (.ops [gM 29 7,gB 30 .add 29 (cI 1),gA 7 30])))))) (.seq (sO [gM 60 6,gT 61 60] (.cond 61 (.ops [gM 62 5,gM 63 1,O1 (.build 64 [(.str []),(.int .i64 0),(.int .i64 0),(.list [])] [(0,63)]),O1 (.bsl 65 52 4 (.agg [(.str []),(.int .i64 0),(.int .i64 0),(.list [])]) 1 [(0,64)]),O1 (.app 66 52 4 56 62 65),gA 5 66]) .skip)) (sO [gM 67 0,O1 (.Aru 68 5),O1 (.Ami 69 67),gF 70 69 0,gS 1 70 68] (sO [gA 4 (cI 0)] .ret))))))))))
theorem Ax9:OF 26 71 Ax6 [.t 4]:=oF Tryz.func26 rfl Tryz.ntmps26
set_option maxHeartbeats 40000000

open Go.Proofs
def rcE(p:Spc)(rev:Int):Int:=if rev<0 then 1 else if p.rev<rev then 13 else if rev<p.floor then 14 else 0
def Axj(rev:Int):List Fk→List Fk→List Fk
 | [],out=>out
 |w::r,out=>Axj rev r (if rev<w.rev then out++[w]else out)
def A01(rev:Int)(vs:List Fk):List Fk:=Axj rev vs (if(Aps rev vs Akw).gone=true then[]else[Aps rev vs Akw])
def A00(rev:Int):List Kv→List Kv→List Kv
 | [],out=>out
 |h::r,out=>A00 rev r (if A01 rev h.vs=[]then out else out++[⟨h.key,A01 rev h.vs⟩])
theorem Be9(R:List Spc)(n:Az)(rev:Int)(hl:R.length≤100000)(hf:Aqo n R 0= -1):
 Fn Tryz.prog Apm [rT R,.v (.str n),.v (ti rev)] (Is (.v (ti 16)) [rT R,.no,.no]):=by
 refine Are ?_ (by simp)
 have hfi:=Auo R n hl;rw[hf]at hfi;repeat'((conv=>whnf);first|(with_reducible refine Ax (by first|refine decide_eq_true ?_;omega|rfl) fun hb=>?_);(try rw[hb]);try simp only[Aa]at hb|(with_reducible refine Ac ?_ ?_);focus (and_intros<;>first|kernel_rfl|intro _ hh;cases hh;done|simp;done|decide)|(with_reducible refine Ct.mk ?_);refine⟨_,hfi,?_⟩;rintro _ _ ⟨rfl,rfl⟩)
 all_goals(try(conv=>whnf))
 (apply Dj<;>kernel_rfl)
theorem Bhd(R:List Spc)(n:Az)(rev:Int)(hl:R.length≤100000)(i:Nat)(p:Spc)(hf:Aqo n R 0=(i:Int))(he:R[i]?=some p)(hE:rcE p rev≠0):
 Fn Tryz.prog Apm [rT R,.v (.str n),.v (ti rev)] (Is (.v (ti (rcE p rev))) [rT R,.no,.no]):=by
 refine Are ?_ (by simp)
 have hfi:=Auo R n hl;rw[hf]at hfi;have hil:=(A7.1 he).1;have hlm:((R.map Spc.Bx).map D.it).length=R.length:=by simp
 obtain⟨pn,pr,pf,pk⟩:=p;unfold rcE at hE ⊢;dsimp only at hE ⊢;by_cases h1:rev<0
 ·rw[if_pos h1];repeat'((conv=>whnf);first|(with_reducible first|refine Ax (by first|refine decide_eq_true ?_;assumption|rfl) fun hb=>?_|refine Aw (by first|refine decide_eq_false ?_;omega|rfl) fun hb=>?_);(try rw[hb]);try simp only[Aa]at hb|(with_reducible refine Ac ?_ ?_);focus (and_intros<;>first|omega|with_reducible rfl|kernel_rfl|intro _ hh;cases hh;done|simp;done|decide)|(with_reducible refine Ct.mk ?_);refine⟨_,hfi,?_⟩;rintro _ _ ⟨rfl,rfl⟩|(with_reducible apply A3);(focus rfl);(focus (simp only[D.at,D.put,D.Xw,D.Fh,Mg,Jo,D.Bx,Js,Ad,Af,he,hlm]<;>exact rfl));(try(focus exact rfl)))
  all_goals(try(conv=>whnf))
  all_goals((apply Dj<;>kernel_rfl))
 rw[if_neg h1]at hE ⊢;by_cases h2:pr<rev
 ·rw[if_pos h2];repeat'((conv=>whnf);first|(with_reducible first|refine Ax (by first|refine decide_eq_true ?_;assumption|rfl) fun hb=>?_|refine Aw (by first|((refine decide_eq_false ?_);first|assumption|omega)|rfl) fun hb=>?_);(try rw[hb]);try simp only[Aa]at hb|(with_reducible refine Ac ?_ ?_);focus (and_intros<;>first|omega|with_reducible rfl|kernel_rfl|intro _ hh;cases hh;done|simp;done|decide)|(with_reducible refine Ct.mk ?_);refine⟨_,hfi,?_⟩;rintro _ _ ⟨rfl,rfl⟩|(with_reducible apply A3);(focus rfl);(focus (simp only[D.at,D.put,D.Xw,D.Fh,Mg,Jo,D.Bx,Js,Ad,Af,he,hlm]<;>exact rfl));(try(focus exact rfl)))
  all_goals(try(conv=>whnf))
  all_goals((apply Dj<;>kernel_rfl))
 rw[if_neg h2]at hE ⊢;by_cases h3:rev<pf
 ·rw[if_pos h3];repeat'((conv=>whnf);first|(with_reducible first|refine Ax (by first|refine decide_eq_true ?_;assumption|rfl) fun hb=>?_|refine Aw (by first|((refine decide_eq_false ?_);first|assumption|omega)|rfl) fun hb=>?_);(try rw[hb]);try simp only[Aa]at hb|(with_reducible refine Ac ?_ ?_);focus (and_intros<;>first|omega|with_reducible rfl|kernel_rfl|intro _ hh;cases hh;done|simp;done|decide)|(with_reducible refine Ct.mk ?_);refine⟨_,hfi,?_⟩;rintro _ _ ⟨rfl,rfl⟩|(with_reducible apply A3);(focus rfl);(focus (simp only[D.at,D.put,D.Xw,D.Fh,Mg,Jo,D.Bx,Js,Ad,Af,he,hlm]<;>exact rfl));(try(focus exact rfl)))
  all_goals(try(conv=>whnf))
  all_goals((apply Dj<;>kernel_rfl))
 ·rw[if_neg h3]at hE;exact absurd rfl hE
theorem Bi9(R:List Spc)(n:Az)(rev:Int)(hl:R.length≤100000)(i:Nat)(p:Spc)(hf:Aqo n R 0=(i:Int))(he:R[i]?=some p)(hE:0≤rev∧rev≤p.rev∧p.floor≤rev)(hkl:KL 100000 p.keys):
 Fn Tryz.prog Apm [rT R,.v (.str n),.v (ti rev)] (Is (.v (ti 0)) [rT (R.set i ⟨p.name,p.rev,rev,A00 rev p.keys []⟩),.no,.no]):=by
 refine Are ?_ (by simp)
 have hfi:=Auo R n hl;rw[hf]at hfi;have hil:=(A7.1 he).1;have hlm:((R.map Spc.Bx).map D.it).length=R.length:=by simp
 obtain⟨pn,pr,pf,ks⟩:=p;obtain⟨e1,e2,e3⟩:=hE;dsimp only at e2 e3 hkl ⊢;obtain⟨hk1,hk2⟩:=hkl;obtain⟨C4,Ajz⟩:∃X,A00 rev ks []=X:=⟨_,rfl⟩;rw[Ajz];have hks:(ks.map Kv.Bx).length=ks.length:=Bh _;repeat'((conv=>whnf);first|(with_reducible refine Aw (by first|refine decide_eq_false ?_;omega|rfl) fun hb=>?_);(try rw[hb]);try simp only[Aa]at hb|((with_reducible refine A5 (fun hb=>?_) fun hb=>?_)<;>first|exfalso;((simp only[An]at hb<;>omega))|(try rw[hb]);try simp only[Aa]at hb)|(with_reducible refine Ac ?_ ?_);focus (and_intros<;>first|omega|with_reducible rfl|kernel_rfl|intro _ hh;cases hh;done|simp;done|decide)|(with_reducible refine Ct.mk ?_);refine⟨_,hfi,?_⟩;rintro _ _ ⟨rfl,rfl⟩|(with_reducible apply A3);(focus rfl);(focus (simp only[D.at,D.put,D.Xw,D.Fh,Mg,Jo,D.Bx,Js,Ad,Af,he,hlm]<;>exact rfl));(try(focus exact rfl)))
 all_goals(try(conv=>whnf))
 refine Afm.by (X:=Nat × List Kv) (fun y=>[(10,.v (ti (y.1:Int))),(9,.vec 55 2 (y.2.map Kv.Bx))]) (fun y=>y.1≤ks.length∧y.2.length≤y.1∧A00 rev (ks.drop y.1) y.2=C4) (fun y=>ks.length - y.1) (0,[]) (by kernel_rfl) ⟨Cr _,Cr _,Ajz⟩ ?_
 rintro⟨j,out⟩ ⟨hj,hol,hR⟩;dsimp only at hj hol hR ⊢;have hw:=zwj (j:=j) (by omega)
 have Boj:(out.map Kv.Bx).length≤100000:=by rw[Bh];omega
 by_cases hjl:j<ks.length
 case neg=>
  have h3:¬decide ((j:Int)<((ks.map Kv.Bx).length:Int))=true:=by simp;omega
  have h4:¬decide ((j:Int)<(ks.length:Int))=true:=by simp;omega
  rw[Db (by omega)]at hR
  have hR:out=C4:=hR;subst hR;have Au1:rT (R.set i ⟨pn,pr,rev,out⟩)= .own [] (.ptr (.st [.vec 52 4 (((R.map Spc.Bx).map D.it).set i (.it (Spc.mk pn pr rev out).Bx))])):=by simp only[rT,Amd]
  rw[Au1];repeat'((conv=>whnf);first|(with_reducible refine Aw (by exact Ak (by assumption)) fun hb=>?_);(try rw[hb]);try simp only[Aa]at hb|(with_reducible refine Ac ?_ ?_);focus (and_intros<;>first|omega|with_reducible rfl|kernel_rfl|simp;done)|with_reducible intro Cq|(with_reducible refine Ai2.mkV ?_ ?_ ?_ fun Cq=>?_);(iterate 3 focus (as_aux_lemma=>kernel_rfl));try simp only[zRL]at Cq|(with_reducible apply Ba);(focus (simp only[D.at,D.put,D.Xw,D.Fh,Mg,Jo,D.Bx,Js,Ad,Af,he,hlm]<;>exact rfl)))
  all_goals(try(conv=>whnf))
  (apply Dj<;>kernel_rfl)
 obtain⟨h,hh⟩:∃x,ks[j]?=some x:=⟨_,Ae hjl⟩;have h3:¬decide ((j:Int)<((ks.map Kv.Bx).length:Int))=false:=by simp;omega
 have h4:¬decide ((j:Int)<(ks.length:Int))=false:=by simp;omega
 have hdr:ks.drop j=h::ks.drop (j+1):=by rw[Cc hjl];rw[Ae hjl]at hh;cases hh;rfl
 rw[hdr]at hR;simp only[A00]at hR;have hvl:=hk2 h (Cb hh);have C3:=Bdu h.vs rev hvl;obtain⟨hk,vs⟩:=h;dsimp only at hR hvl C3;unfold A01 at hR;have hvs:(vs.map Fk.Bx).length=vs.length:=Bh _;generalize Aps rev vs Akw=v0 at C3 hR;obtain⟨vr,vm,vv,vg⟩:=v0;obtain⟨RV,hRV⟩:∃X,Axj rev vs (if vg=true then[]else[⟨vr,vm,vv,vg⟩])=X:=⟨_,rfl⟩
 rw[hRV]at hR;cases vg with
 |true=>
  simp only[if_true]at hRV;repeat'((conv=>whnf);first|(with_reducible refine Ax (by exact Ai (by assumption)) fun hb=>?_);(try rw[hb]);try simp only[Aa]at hb|(with_reducible refine A5 (fun hb=>?_) fun hb=>?_)<;>(((try rw[hb]);(try simp only[Aa]at hb)))|(with_reducible refine Ac ?_ ?_);focus (and_intros<;>first|omega|with_reducible rfl|kernel_rfl|intro _ hh;cases hh;done|simp;done|decide)|with_reducible intro Cq|(try dsimp only);rw[B6 hh]|(with_reducible refine Ct.mk ?_);refine⟨_,C3,?_⟩;rintro _ _ ⟨rfl,rfl⟩)
  all_goals(try(conv=>whnf))
  refine Afm.by (X:=Nat × List Fk) (fun y=>[(14,.v (ti (y.1:Int))),(11,.own [] (.ptr (.st [.it (.str hk),.vec 104 4 ((y.2.map Fk.Bx).map D.it)])))]) (fun y=>y.1≤vs.length∧y.2.length≤y.1+1∧Axj rev (vs.drop y.1) y.2=RV) (fun y=>vs.length - y.1) (0,[]) (by kernel_rfl) ⟨Cr _,by simp,hRV⟩ ?_
  rintro⟨q,acc⟩ ⟨hq,hql,hQ⟩;dsimp only at hq hql hQ ⊢;have hwq:=zwj (j:=q) (by omega)
  have Bd7:(((acc.map Fk.Bx).map D.it).length)=acc.length:=by simp
  by_cases hqv:q<vs.length
  ·obtain⟨w,hwv⟩:∃x,vs[q]?=some x:=⟨_,Ae hqv⟩;have h5:¬decide ((q:Int)<((vs.map Fk.Bx).length:Int))=false:=by simp;omega
   have h6:¬decide ((q:Int)<(vs.length:Int))=false:=by simp;omega
   have hdq:vs.drop q=w::vs.drop (q+1):=by rw[Cc hqv];rw[Ae hqv]at hwv;cases hwv;rfl
   rw[hdq]at hQ;simp only[Axj]at hQ;obtain⟨wr,wm,wv,wg⟩:=w;dsimp only at hQ;by_cases Ze:rev<wr
   ·rw[if_pos Ze]at hQ;have e7:¬decide (rev<wr)=false:=by simpa using Ze
    repeat'((conv=>whnf);first|(with_reducible refine Ax (by exact Ai (by assumption)) fun hb=>?_);(try rw[hb]);try simp only[Aa]at hb|(with_reducible refine Ac ?_ ?_);focus (and_intros<;>first|omega|with_reducible rfl|kernel_rfl|exact Ah (by rfl)|exact Ag rfl|simp only[An];omega|simp;done)|with_reducible intro Cq|(with_reducible refine Ai2.mkV ?_ ?_ ?_ fun Cq=>?_);(iterate 3 focus (as_aux_lemma=>kernel_rfl));try simp only[zRL]at Cq|(try dsimp only);(first|rw[B6 hh]|rw[B6 hwv])|skip;rw[hwq])
    all_goals(try(conv=>whnf))
    refine Round.by (q+1,acc++[⟨wr,wm,wv,wg⟩]) ?_ ⟨by omega,by simp;omega,hQ⟩ (by dsimp only;omega)
    try dsimp only
    simp only[F5,Cy,Kc];show norm _ _=Cx _ _
    kernel_rfl
   ·rw[if_neg Ze]at hQ;have e7:¬decide (rev<wr)=true:=by simpa using Ze
    repeat'((conv=>whnf);first|(with_reducible first|refine Ax (by exact Ai (by assumption)) fun hb=>?_|refine Aw (by exact Ak (by assumption)) fun hb=>?_);(try rw[hb]);try simp only[Aa]at hb|(with_reducible refine Ac ?_ ?_);focus (and_intros<;>first|omega|with_reducible rfl|kernel_rfl|simp;done)|with_reducible intro Cq|(try dsimp only);(first|rw[B6 hh]|rw[B6 hwv]|rw[hwq]))
    all_goals(try(conv=>whnf))
    refine Round.by (q+1,acc) ?_ ⟨by omega,by dsimp only;omega,hQ⟩ (by dsimp only;omega)
    try dsimp only
    show norm _ _=Cx _ _
    kernel_rfl
  have h5:¬decide ((q:Int)<((vs.map Fk.Bx).length:Int))=true:=by simp;omega
  have h6:¬decide ((q:Int)<(vs.length:Int))=true:=by simp;omega
  rw[Db (by omega)]at hQ
  have hQ:acc=RV:=hQ;subst hQ;have hti:Js ((acc.map Fk.Bx).map D.it)=some (acc.map Fk.Bx):=Ad _;cases acc with
  |nil=>
   rw[if_pos rfl]at hR;repeat'((conv=>whnf);first|(with_reducible refine Aw (by exact Ak (by assumption)) fun hb=>?_);(try rw[hb]);try simp only[Aa]at hb|((with_reducible refine A5 (fun hb=>?_) fun hb=>?_)<;>first|exact absurd hb (by decide)|(try rw[hb]);try simp only[Aa]at hb)|(with_reducible refine Ac ?_ ?_);focus (and_intros<;>first|omega|with_reducible rfl|kernel_rfl|simp;done)|with_reducible intro Cq|(try dsimp only);(first|rw[B6 hh]|rw[hw]))
   all_goals(try(conv=>whnf))
   refine Round.by (j+1,out) ?_ ⟨by omega,by dsimp only;omega,hR⟩ (by dsimp only;omega)
   try dsimp only
   show norm _ _=Cx _ _
   kernel_rfl
  |cons a0 ar=>
   rw[if_neg (by simp)]at hR
   have h7:¬decide ((0:Int)<(((((a0::ar).map Fk.Bx).map D.it).length:Nat):Int))=false:=by first|(simp;done)|(simp;omega)
   have h8:¬decide ((0:Int)<(((a0::ar).length:Nat):Int))=false:=by first|(simp;done)|(simp;omega)
   repeat'((conv=>whnf);first|(with_reducible first|refine Ax (by exact Ai (by assumption)) fun hb=>?_|refine Aw (by exact Ak (by assumption)) fun hb=>?_);(try rw[hb]);try simp only[Aa]at hb|(with_reducible refine Ac ?_ ?_);focus (and_intros<;>first|omega|with_reducible rfl|kernel_rfl|exact Ah (by rfl)|simp only[An];omega|simp;done)|with_reducible intro Cq|(try dsimp only);(first|rw[B6 hh]|rw[hw])|(with_reducible apply A9);(focus (simp only[D.at,D.put,D.Xw,D.Fh,Mg,Jo,D.Bx,Js,Ad,Af,Bd7,hti]<;>exact rfl)))
   all_goals(try(conv=>whnf))
   refine Round.by (j+1,out++[⟨hk,a0::ar⟩]) ?_ ⟨by omega,by simp;omega,hR⟩ (by dsimp only;omega)
   try dsimp only
   simp only[F5,Cy,Kc];show norm _ _=Cx _ _
   kernel_rfl
 |false=>
  simp only[Ado,if_false]at hRV;repeat'((conv=>whnf);first|(with_reducible refine Ax (by exact Ai (by assumption)) fun hb=>?_);(try rw[hb]);try simp only[Aa]at hb|(with_reducible refine A5 (fun hb=>?_) fun hb=>?_)<;>(((try rw[hb]);(try simp only[Aa]at hb)))|(with_reducible refine Ac ?_ ?_);focus (and_intros<;>first|omega|with_reducible rfl|kernel_rfl|intro _ hh;cases hh;done|exact Ah (by rfl)|exact Ag rfl|simp only[An];omega|simp;done|decide)|with_reducible intro Cq|(try dsimp only);rw[B6 hh]|(with_reducible refine Ct.mk ?_);refine⟨_,C3,?_⟩;rintro _ _ ⟨rfl,rfl⟩)
  all_goals(try(conv=>whnf))
  refine Afm.by (X:=Nat × List Fk) (fun y=>[(14,.v (ti (y.1:Int))),(11,.own [] (.ptr (.st [.it (.str hk),.vec 104 4 ((y.2.map Fk.Bx).map D.it)])))]) (fun y=>y.1≤vs.length∧y.2.length≤y.1+1∧Axj rev (vs.drop y.1) y.2=RV) (fun y=>vs.length - y.1) (0,[⟨vr,vm,vv,false⟩]) (by kernel_rfl) ⟨Cr _,by simp,hRV⟩ ?_
  rintro⟨q,acc⟩ ⟨hq,hql,hQ⟩;dsimp only at hq hql hQ ⊢;have hwq:=zwj (j:=q) (by omega)
  have Bd7:(((acc.map Fk.Bx).map D.it).length)=acc.length:=by simp
  by_cases hqv:q<vs.length
  ·obtain⟨w,hwv⟩:∃x,vs[q]?=some x:=⟨_,Ae hqv⟩;have h5:¬decide ((q:Int)<((vs.map Fk.Bx).length:Int))=false:=by simp;omega
   have h6:¬decide ((q:Int)<(vs.length:Int))=false:=by simp;omega
   have hdq:vs.drop q=w::vs.drop (q+1):=by rw[Cc hqv];rw[Ae hqv]at hwv;cases hwv;rfl
   rw[hdq]at hQ;simp only[Axj]at hQ;obtain⟨wr,wm,wv,wg⟩:=w;dsimp only at hQ;by_cases Ze:rev<wr
   ·rw[if_pos Ze]at hQ;have e7:¬decide (rev<wr)=false:=by simpa using Ze
    repeat'((conv=>whnf);first|(with_reducible refine Ax (by exact Ai (by assumption)) fun hb=>?_);(try rw[hb]);try simp only[Aa]at hb|(with_reducible refine Ac ?_ ?_);focus (and_intros<;>first|omega|with_reducible rfl|kernel_rfl|exact Ah (by rfl)|exact Ag rfl|simp only[An];omega|simp;done)|with_reducible intro Cq|(with_reducible refine Ai2.mkV ?_ ?_ ?_ fun Cq=>?_);(iterate 3 focus (as_aux_lemma=>kernel_rfl));try simp only[zRL]at Cq|(try dsimp only);(first|rw[B6 hh]|rw[B6 hwv])|skip;rw[hwq])
    all_goals(try(conv=>whnf))
    refine Round.by (q+1,acc++[⟨wr,wm,wv,wg⟩]) ?_ ⟨by omega,by simp;omega,hQ⟩ (by dsimp only;omega)
    try dsimp only
    simp only[F5,Cy,Kc];show norm _ _=Cx _ _
    kernel_rfl
   ·rw[if_neg Ze]at hQ;have e7:¬decide (rev<wr)=true:=by simpa using Ze
    repeat'((conv=>whnf);first|(with_reducible first|refine Ax (by exact Ai (by assumption)) fun hb=>?_|refine Aw (by exact Ak (by assumption)) fun hb=>?_);(try rw[hb]);try simp only[Aa]at hb|(with_reducible refine Ac ?_ ?_);focus (and_intros<;>first|omega|with_reducible rfl|kernel_rfl|simp;done)|with_reducible intro Cq|(try dsimp only);(first|rw[B6 hh]|rw[B6 hwv]|rw[hwq]))
    all_goals(try(conv=>whnf))
    refine Round.by (q+1,acc) ?_ ⟨by omega,by dsimp only;omega,hQ⟩ (by dsimp only;omega)
    try dsimp only
    show norm _ _=Cx _ _
    kernel_rfl
  have h5:¬decide ((q:Int)<((vs.map Fk.Bx).length:Int))=true:=by simp;omega
  have h6:¬decide ((q:Int)<(vs.length:Int))=true:=by simp;omega
  rw[Db (by omega)]at hQ
  have hQ:acc=RV:=hQ;subst hQ;have hti:Js ((acc.map Fk.Bx).map D.it)=some (acc.map Fk.Bx):=Ad _;cases acc with
  |nil=>
   rw[if_pos rfl]at hR;repeat'((conv=>whnf);first|(with_reducible refine Aw (by exact Ak (by assumption)) fun hb=>?_);(try rw[hb]);try simp only[Aa]at hb|((with_reducible refine A5 (fun hb=>?_) fun hb=>?_)<;>first|exact absurd hb (by decide)|(try rw[hb]);try simp only[Aa]at hb)|(with_reducible refine Ac ?_ ?_);focus (and_intros<;>first|omega|with_reducible rfl|kernel_rfl|simp;done)|with_reducible intro Cq|(try dsimp only);(first|rw[B6 hh]|rw[hw]))
   all_goals(try(conv=>whnf))
   refine Round.by (j+1,out) ?_ ⟨by omega,by dsimp only;omega,hR⟩ (by dsimp only;omega)
   try dsimp only
   show norm _ _=Cx _ _
   kernel_rfl
  |cons a0 ar=>
   rw[if_neg (by simp)]at hR
   have h7:¬decide ((0:Int)<(((((a0::ar).map Fk.Bx).map D.it).length:Nat):Int))=false:=by first|(simp;done)|(simp;omega)
   have h8:¬decide ((0:Int)<(((a0::ar).length:Nat):Int))=false:=by first|(simp;done)|(simp;omega)
   repeat'((conv=>whnf);first|(with_reducible first|refine Ax (by exact Ai (by assumption)) fun hb=>?_|refine Aw (by exact Ak (by assumption)) fun hb=>?_);(try rw[hb]);try simp only[Aa]at hb|(with_reducible refine Ac ?_ ?_);focus (and_intros<;>first|omega|with_reducible rfl|kernel_rfl|exact Ah (by rfl)|simp only[An];omega|simp;done)|with_reducible intro Cq|(try dsimp only);(first|rw[B6 hh]|rw[hw])|(with_reducible apply A9);(focus (simp only[D.at,D.put,D.Xw,D.Fh,Mg,Jo,D.Bx,Js,Ad,Af,Bd7,hti]<;>exact rfl)))
   all_goals(try(conv=>whnf))
   refine Round.by (j+1,out++[⟨hk,a0::ar⟩]) ?_ ⟨by omega,by simp;omega,hR⟩ (by dsimp only;omega)
   try dsimp only
   simp only[F5,Cy,Kc];show norm _ _=Cx _ _
   kernel_rfl

def G3(n:Az)(h:Zk):Option Kv:=if(C1 h.at_).1=n then some ⟨(C1 h.at_).2.1,h.vs⟩else none
def keysOf(n:Az)(l:List Zk):List Kv:=l.filterMap (G3 n)
theorem Bay{n:Az}:∀{d:List Zk} {out:List Kv},(d.Pairwise fun a b=>(C1 b.at_).1=n→(C1 a.at_).1=n)→Awt n d out=out++keysOf n d
 | [],out,_=>by simp[Awt,keysOf]
 |h::r,out,hp=>by
  obtain⟨h1,h2⟩:=Gr.1 hp;unfold Awt keysOf;rw[Fp];by_cases hn:(C1 h.at_).1=n
  ·rw[if_neg (by simpa using hn),Bay h2,show G3 n h=some ⟨(C1 h.at_).2.1,h.vs⟩by unfold G3;rw[if_pos hn]]
   simp[keysOf]
  ·rw[if_pos hn,show G3 n h=none by unfold G3;rw[if_neg hn]]
   have:r.filterMap (G3 n)=[]:=by
    rw[List.filterMap_eq_nil_iff];intro a ha;unfold G3;rw[if_neg (fun e=>hn (h1 a ha e))]
   simp[this]
theorem Bmm{l:List Zk}{n:Az}(hn:n.length<256)(hl:LSo l)(hv:∀h∈l,Avh h.at_):∀a∈l.take (Km (Kh (B7 n [])) l),(C1 a.at_).1≠n:=by
 rw[LSo,List.pairwise_map]at hl;obtain⟨h1,_⟩:=Aho (lt:=Kh (B7 n [])) (l:=l) (hl.imp fun {a b} hab hb=>by simp only[Kh,decide_eq_true_eq]at*;exact Amg hab hb)
 intro a ha e;have h3:=(hv a (P2 ha)).A4t.1;have h4:=h1 a ha;simp only[Kh,decide_eq_true_eq]at h4;rw[e]at h3;rw[h3,Ahd]at h4;exact absurd h4 (List.not_lt.2 (List.IsPrefix.le (List.prefix_append (B7 n []) (C1 a.at_).2.1)))
theorem Bg8{l:List Zk}{n:Az}(hn:n.length<256)(hl:LSo l)(hv:∀h∈l,Avh h.at_):Awt n (l.drop (Km (Kh (B7 n [])) l)) []=keysOf n l:=by
 rw[Bay (Aio (rev:=0) hn hl hv).2,H4]
 conv=>rhs;rw[←Fj (Km (Kh (B7 n [])) l) l]
 unfold keysOf;rw[Ama,show(l.take (Km (Kh (B7 n [])) l)).filterMap (G3 n)=[]from List.filterMap_eq_nil_iff.2 fun a ha=>by unfold G3;rw[if_neg (Bmm hn hl hv a ha)]]
 rfl
theorem D7{rev:Int}:∀{vs:List Fk} {v:Fk},Aps rev vs v=((vs.filter fun w=>decide (w.rev≤rev)).getLast?).getD v
 | [],v=>rfl
 |w::r,v=>by
  unfold Aps;rw[D7,Aiw];by_cases h:w.rev≤rev
  ·rw[if_pos h,if_pos (by simpa using h),List.getLast?_cons]
   rfl
  ·rw[if_neg h,if_neg (by simpa using h)]
theorem Aq1{vs:List Fk}(h:VSo vs)(rev:Int):D1 vs rev=if(Aps rev vs Akw).gone=true then(A11,false)else(Aps rev vs Akw,true):=by
 rw[Aix h,D7];cases (vs.filter fun w=>decide (w.rev≤rev)).getLast? with
 |none=>rfl
 |some v=>rfl
def Ax1(x:Sp)(rev:Int)(h:Kv):Option Pr:=if(Aps rev h.vs Akw).gone=false∧Bw x h.key then some ⟨h.key,(Aps rev h.vs Akw).val,(Aps rev h.vs Akw).made,(Aps rev h.vs Akw).rev⟩else none
theorem A09{x:Sp}{rev:Int}:∀{ks:List Kv} {out:List Pr},Ara x rev ks out=out++ks.filterMap (Ax1 x rev)
 | [],out=>by simp[Ara]
 |h::r,out=>by
  unfold Ara;rw[Fp];by_cases hc:(Aps rev h.vs Akw).gone=false∧Bw x h.key
  ·rw[if_pos hc,A09,show Ax1 x rev h=some ⟨h.key,(Aps rev h.vs Akw).val,(Aps rev h.vs Akw).made,(Aps rev h.vs Akw).rev⟩by unfold Ax1;rw[if_pos hc]]
   simp
  ·rw[if_neg hc,A09,show Ax1 x rev h=none by unfold Ax1;rw[if_neg hc]]
theorem Ajx{x:Sp}{m:Nat}:∀{V:List (Az × Fk)} {out:List Pr},out.length≤m→
 Ee x (m:Int) V out=(out++(((V.filter fun p=>decide (Bw x p.1)).map Ayx).take (m - out.length)),decide (m - out.length<(V.filter fun p=>decide (Bw x p.1)).length))
 | [],out,_=>by simp[Ee]
 |p::V,out,ho=>by
  unfold Ee;by_cases h:Bw x p.1
  ·have hf:(p::V).filter (fun p=>decide (Bw x p.1))=p::V.filter (fun p=>decide (Bw x p.1)):=by rw[Aiw,if_pos (by simpa using h)]
   rw[if_neg (fun c=>c h),hf]
   by_cases e:out.length=m
   ·rw[if_pos (by omega),e,Nat.sub_self]
    simp
   ·rw[if_neg (by omega),Ajx (by simp;omega)]
    have:m - out.length=(m - (out++[Ayx p]).length)+1:=by simp;omega
    rw[this,Cy,List.take_succ_cons];simp only[Df,List.singleton_append,Ho,Nat.add_lt_add_iff_right]
  ·have hf:(p::V).filter (fun p=>decide (Bw x p.1))=V.filter (fun p=>decide (Bw x p.1)):=by rw[Aiw,if_neg (by simpa using h)]
   rw[if_pos h,hf];exact Ajx ho
theorem Ape{n:Az}{x:Sp}{rev:Int}:∀{l:List Zk},(∀h∈l,VSo h.vs)→((Lh n rev l).filter fun p=>decide (Bw x p.1)).map Ayx=(keysOf n l).filterMap (Ax1 x rev)
 | [],_=>rfl
 |h::r,hv=>by
  have ih:=Ape (n:=n) (x:=x) (rev:=rev) (l:=r) fun y hy=>hv y (B4 _ hy)
  have ha:=Aq1 (hv h (B2 ..)) rev;unfold Lh keysOf at ih ⊢;rw[Fp,Fp];by_cases hn:(C1 h.at_).1=n
  ·rw[show G3 n h=some ⟨(C1 h.at_).2.1,h.vs⟩by unfold G3;rw[if_pos hn]]
   dsimp only;rw[Fp];cases hg:(Aps rev h.vs Akw).gone with
   |true=>
    rw[hg,if_pos rfl]at ha;rw[show gV n rev h=none by unfold gV;rw[ha,if_neg (fun c=>by cases c.2)],show Ax1 x rev ⟨(C1 h.at_).2.1,h.vs⟩=none by unfold Ax1;rw[if_neg (fun c=>by rw[hg]at c;cases c.1)]]
    exact ih
   |false=>
    rw[hg,if_neg (by simp)]at ha
    rw[show gV n rev h=some ((C1 h.at_).2.1,Aps rev h.vs Akw)by unfold gV;rw[ha,if_pos ⟨hn,rfl⟩]]
    dsimp only;rw[Aiw];by_cases hs:Bw x (C1 h.at_).2.1
    ·rw[if_pos (by simpa using hs),show Ax1 x rev ⟨(C1 h.at_).2.1,h.vs⟩=some (Ayx ((C1 h.at_).2.1,Aps rev h.vs Akw))by unfold Ax1;rw[if_pos ⟨hg,hs⟩];rfl]
     rw[Cy,ih]
    ·rw[if_neg (by simpa using hs),show Ax1 x rev ⟨(C1 h.at_).2.1,h.vs⟩=none by unfold Ax1;rw[if_neg (fun c=>hs c.2)]]
     exact ih
  ·rw[Ar0 hn,show G3 n h=none by unfold G3;rw[if_neg hn]]
   exact ih
theorem Axk{rev:Int}:∀{vs out:List Fk},Axj rev vs out=out++vs.filter fun w=>decide (rev<w.rev)
 | [],out=>by simp[Axj]
 |w::r,out=>by
  unfold Axj;rw[Axk,Aiw];by_cases h:rev<w.rev
  ·rw[if_pos h,if_pos (by simpa using h)];simp
  ·rw[if_neg h,if_neg (by simpa using h)]
theorem Bez{rev:Int}{v w:Fk}{t:List Fk}(h:w.rev≤rev):Lm rev (v::w::t)=Lm rev (w::t)+1:=by
 have hk:Eo rev (v::w::t)=Eo rev (w::t)+1:=by conv=>lhs;unfold Eo;rw[if_pos h]
 unfold Lm;rw[hk,Du];cases (w::t)[Eo rev (w::t)]? with
 |none=>rfl
 |some u=>dsimp only;split<;>rfl
theorem Bby{rev:Int}:∀{vs:List Fk},VSo vs→vs≠[]→vs.drop (Lm rev vs)=A01 rev vs
 | [],_,h=>absurd rfl h
 | [v],hs,_=>by
   unfold A01 Lm Eo;simp only[Fa,Aps,Axj];by_cases h1:v.rev≤rev
   ·have h2:¬rev<v.rev:=by omega
    cases hg:v.gone<;>simp[h1,h2,hg]
   ·have h2:rev<v.rev:=by omega
    simp[h1,h2,Akw]
 |v::w::t,hs,_=>by
  obtain⟨s1,s2⟩:=Gr.1 hs;by_cases hw:w.rev≤rev
  ·rw[Bez hw,List.drop_succ_cons,Bby s2 (by simp)]
   have hv:¬rev<v.rev:=by have:=s1 w (B2 ..);omega
   unfold A01;rw[show Aps rev (v::w::t) Akw=Aps rev (w::t) Akw by simp only[Aps,if_pos hw]]
   have hf:(v::w::t).filter (fun u=>decide (rev<u.rev))=(w::t).filter (fun u=>decide (rev<u.rev)):=by rw[Aiw,if_neg (by simpa using hv)]
   rw[Axk,Axk,hf]
  ·have Anw:∀u∈w::t,rev<u.rev:=fun u hu=>by
    rcases Bg.1 hu with rfl|hu
    ·omega
    ·have:=(Gr.1 s2).1 u hu;omega
   have hft:(w::t).filter (fun u=>decide (rev<u.rev))=w::t:=List.filter_eq_self.2 fun u hu=>by simpa using Anw u hu
   have hfn:(w::t).filter (fun u=>decide (u.rev≤rev))=[]:=List.filter_eq_nil_iff.2 fun u hu=>by have:=Anw u hu;simp;omega
   have hk:Eo rev (v::w::t)=0:=by unfold Eo;rw[if_neg hw]
   unfold A01;rw[Axk,D7,Aiw (x:=v),Aiw (x:=v),hft,hfn];unfold Lm;rw[hk];simp only[Fa];by_cases h1:v.rev≤rev
   ·have h2:¬rev<v.rev:=by omega
    cases hg:v.gone<;>simp[h1,h2,hg]
   ·have h2:rev<v.rev:=by omega
    simp[h1,h2,Akw]

open Go.Proofs
def Avr(n:Az):List Spc→List Spc→Bool→List Spc
 | [],out,d=>if d=true then out else out++[⟨n,0,0,[]⟩]
 |p::r,out,d=>Avr n r ((if d=false∧n<p.name then out++[⟨n,0,0,[]⟩]else out)++[p]) (if d=false∧n<p.name then true else d)
def A1k(R:List Spc)(n:Az):List Spc × Int:=if D9 n=false then(R,5)else if 0≤Aqo n R 0 then(R,15)else if 8≤R.length then(R,17)else(Avr n R [] false,0)
theorem Spc.Bkz(n:Az):Spc.Bx ⟨n,0,0,[]⟩= .agg [.str n,ti 0,ti 0,.list []]:=rfl
theorem Bcy(R:List Spc)(n:Az)(hl:R.length≤100000):Fn Tryz.prog As3 [rT R,.v (.str n)] (Is (.v (ti (A1k R n).2)) [rT (A1k R n).1,.no]):=by
 refine Ax9 ?_ (by simp)
 have hfi:=Auo R n hl;have hnm:=Bhj n;have hlm:((R.map Spc.Bx).map D.it).length=R.length:=by simp
 unfold A1k;generalize D9 n=nm at hnm ⊢;generalize Aqo n R 0=f at hfi ⊢;cases nm with
 |false=>
  simp only[if_true];repeat'((conv=>whnf);first|((with_reducible refine A5 (fun hb=>?_) fun hb=>?_)<;>first|exact absurd hb (by decide)|(try rw[hb]);try simp only[Aa]at hb)|(with_reducible refine Ac ?_ ?_);focus (and_intros<;>first|intro _ hh;cases hh;done|simp;done|decide)|(with_reducible refine Ct.mk ?_);refine⟨_,hnm,?_⟩;rintro _ _ ⟨rfl,rfl⟩)
  all_goals(try(conv=>whnf))
  (apply Dj<;>kernel_rfl)
 |true=>
 simp only[Bool.true_eq_false,if_false];by_cases hf:0≤f
 ·rw[if_pos hf];have g1:¬decide (0≤f)=false:=by simpa using hf
  repeat'((conv=>whnf);first|(with_reducible refine Ax (by exact Ai (by assumption)) fun hb=>?_);(try rw[hb]);try simp only[Aa]at hb|((with_reducible refine A5 (fun hb=>?_) fun hb=>?_)<;>first|exact absurd hb (by decide)|(try rw[hb]);try simp only[Aa]at hb)|(with_reducible refine Ac ?_ ?_);focus (and_intros<;>first|kernel_rfl|intro _ hh;cases hh;done|simp;done|decide)|(with_reducible refine Ct.mk ?_);(first|refine⟨_,hnm,?_⟩|refine⟨_,hfi,?_⟩);rintro _ _ ⟨rfl,rfl⟩)
  all_goals(try(conv=>whnf))
  (apply Dj<;>kernel_rfl)
 rw[if_neg hf];have g1:¬decide (0≤f)=true:=by simpa using hf
 by_cases h8:8≤R.length
 ·rw[if_pos h8];have g2:¬decide ((8:Int)≤(R.length:Int))=false:=by simp;omega
  repeat'((conv=>whnf);first|(with_reducible first|refine Ax (by first|exact Ai (by assumption)|refine decide_eq_true ?_;omega) fun hb=>?_|refine Aw (by exact Ak (by assumption)) fun hb=>?_);(try rw[hb]);try simp only[Aa]at hb|((with_reducible refine A5 (fun hb=>?_) fun hb=>?_)<;>first|exact absurd hb (by decide)|(try rw[hb]);try simp only[Aa]at hb)|(with_reducible refine Ac ?_ ?_);focus (and_intros<;>first|omega|with_reducible rfl|kernel_rfl|intro _ hh;cases hh;done|simp;done|decide)|with_reducible intro Cq|(with_reducible refine Ct.mk ?_);(first|refine⟨_,hnm,?_⟩|refine⟨_,hfi,?_⟩);rintro _ _ ⟨rfl,rfl⟩)
  all_goals(try(conv=>whnf))
  (apply Dj<;>kernel_rfl)
 rw[if_neg h8];have g2:¬decide ((8:Int)≤(R.length:Int))=true:=by simp;omega
 obtain⟨C4,Ajz⟩:∃X,Avr n R [] false=X:=⟨_,rfl⟩;rw[Ajz];repeat'((conv=>whnf);first|(with_reducible refine Aw (by first|exact Ak (by assumption)|refine decide_eq_false ?_;omega) fun hb=>?_);(try rw[hb]);try simp only[Aa]at hb|((with_reducible refine A5 (fun hb=>?_) fun hb=>?_)<;>first|exact absurd hb (by decide)|(try rw[hb]);try simp only[Aa]at hb)|(with_reducible refine Ac ?_ ?_);focus (and_intros<;>first|omega|with_reducible rfl|kernel_rfl|intro _ hh;cases hh;done|simp;done|decide)|with_reducible intro Cq|(with_reducible refine Ct.mk ?_);(first|refine⟨_,hnm,?_⟩|refine⟨_,hfi,?_⟩);rintro _ _ ⟨rfl,rfl⟩)
 all_goals(try(conv=>whnf))
 refine Afm.by (X:=Nat × List Spc × Bool) (fun y=>[(7,.v (ti (y.1:Int))),(5,.vec 52 4 (y.2.1.map Spc.Bx)),(6,.v (.bool y.2.2))]) (fun y=>y.1≤R.length∧y.2.1.length≤2*y.1∧Avr n (R.drop y.1) y.2.1 y.2.2=C4) (fun y=>R.length - y.1) (0,[],false) (by kernel_rfl) ⟨Cr _,Cr _,Ajz⟩ ?_
 rintro⟨j,out,d⟩ ⟨hj,hol,hR⟩;dsimp only at hj hol hR ⊢;have hw:=zwj (j:=j) (by omega)
 have Boj:(out.map Spc.Bx).length≤200000:=by rw[Bh];omega
 by_cases hjl:j<R.length
 case neg=>
  have h4:¬decide ((j:Int)<(R.length:Int))=true:=by simp;omega
  rw[Db (by omega)]at hR
  cases d with
  |true=>
   have hR:out=C4:=hR;subst hR;repeat'((conv=>whnf);first|(with_reducible refine Aw (by first|exact Ak (by assumption)|refine decide_eq_false ?_;omega) fun hb=>?_);(try rw[hb]);try simp only[Aa]at hb|((with_reducible refine A5 (fun hb=>?_) fun hb=>?_)<;>first|exact absurd hb (by decide)|(try rw[hb]);try simp only[Aa]at hb)|(with_reducible refine Ac ?_ ?_);focus (and_intros<;>first|omega|with_reducible rfl|kernel_rfl|simp;done)|with_reducible intro Cq)
   all_goals(try(conv=>whnf))
   (apply Dj<;>kernel_rfl)
  |false=>
   have hR:out++[⟨n,0,0,[]⟩]=C4:=hR;subst hR;have Au1:rT (out++[⟨n,0,0,[]⟩])= .own [] (.ptr (.st [.vec 52 4 ((out.map Spc.Bx++[I.agg [.str n,ti 0,ti 0,.list []]]).map D.it)])):=by simp only[rT,F5,Cy,Kc,Spc.Bkz]
   (try dsimp only)
   rw[Au1];repeat'((conv=>whnf);first|(with_reducible refine Aw (by first|exact Ak (by assumption)|refine decide_eq_false ?_;omega) fun hb=>?_);(try rw[hb]);try simp only[Aa]at hb|((with_reducible refine A5 (fun hb=>?_) fun hb=>?_)<;>first|exact absurd hb (by decide)|(try rw[hb]);try simp only[Aa]at hb)|(with_reducible refine Ac ?_ ?_);focus (and_intros<;>first|omega|with_reducible rfl|kernel_rfl|exact Ah (by rfl)|simp only[An];omega|simp;done)|with_reducible intro Cq)
   all_goals(try(conv=>whnf))
   (apply Dj<;>kernel_rfl)
 obtain⟨p,he⟩:∃x,R[j]?=some x:=⟨_,Ae hjl⟩;have h4:¬decide ((j:Int)<(R.length:Int))=false:=by simp;omega
 have hdr:R.drop j=p::R.drop (j+1):=by rw[Cc hjl];rw[Ae hjl]at he;cases he;rfl
 rw[hdr]at hR;simp only[Avr]at hR;obtain⟨pn,pr,pf,pk⟩:=p;dsimp only at hR;by_cases Ze:n<pn
 ·have c1:¬Op.bytesLess n pn=false:=by rw[Kz];simpa using Ze
  cases d with
  |true=>
   rw[if_neg (fun c=>by cases c.1),if_neg (fun c=>by cases c.1)]at hR
   repeat'((conv=>whnf);first|(with_reducible first|refine Ax (by first|exact Ai (by assumption)|refine decide_eq_true ?_;omega) fun hb=>?_|refine Aw (by first|exact Ak (by assumption)|rfl) fun hb=>?_);(try rw[hb]);try simp only[Aa]at hb|((with_reducible refine A5 (fun hb=>?_) fun hb=>?_)<;>first|exact absurd hb (by decide)|(try rw[hb]);try simp only[Aa]at hb)|(with_reducible refine Ac ?_ ?_);focus (and_intros<;>first|omega|with_reducible rfl|kernel_rfl|exact Ah (by rfl)|simp only[An];omega|simp;done)|with_reducible intro Cq|(try dsimp only);rw[hw]|(with_reducible apply A3);(focus rfl);(focus (simp only[D.at,D.put,D.Xw,D.Fh,Mg,Jo,D.Bx,Js,Ad,Af,he,hlm]<;>exact rfl));(try(focus exact rfl)))
   all_goals(try(conv=>whnf))
   refine Round.by (j+1,out++[⟨pn,pr,pf,pk⟩],true) ?_ ⟨by omega,by simp;omega,hR⟩ (by dsimp only;omega)
   try dsimp only
   simp only[F5,Cy,Kc];show norm _ _=Cx _ _
   kernel_rfl
  |false=>
   rw[if_pos ⟨rfl,Ze⟩,if_pos ⟨rfl,Ze⟩]at hR;repeat'((conv=>whnf);first|(with_reducible refine Ax (by first|exact Ai (by assumption)|refine decide_eq_true ?_;omega|rfl) fun hb=>?_);(try rw[hb]);try simp only[Aa]at hb|((with_reducible refine A5 (fun hb=>?_) fun hb=>?_)<;>first|exact absurd hb (by decide)|(try rw[hb]);try simp only[Aa]at hb)|(with_reducible refine Ac ?_ ?_);focus (and_intros<;>first|omega|with_reducible rfl|kernel_rfl|exact Ah (by rfl)|simp only[An];omega|simp;done)|with_reducible intro Cq|(try dsimp only);rw[hw]|(with_reducible apply A3);(focus rfl);(focus (simp only[D.at,D.put,D.Xw,D.Fh,Mg,Jo,D.Bx,Js,Ad,Af,he,hlm]<;>exact rfl));(try(focus exact rfl)))
   all_goals(try(conv=>whnf))
   refine Round.by (j+1,out++[⟨n,0,0,[]⟩]++[⟨pn,pr,pf,pk⟩],true) ?_ ⟨by omega,by simp;omega,hR⟩ (by dsimp only;omega)
   try dsimp only
   simp only[F5,Cy,Kc,Spc.Bkz];show norm _ _=Cx _ _
   kernel_rfl
 ·have c1:¬Op.bytesLess n pn=true:=by rw[Kz];simpa using Ze
  rw[if_neg (fun c=>Ze c.2),if_neg (fun c=>Ze c.2)]at hR
  cases d with
  |true=>
   repeat'((conv=>whnf);first|(with_reducible first|refine Ax (by first|exact Ai (by assumption)|refine decide_eq_true ?_;omega) fun hb=>?_|refine Aw (by first|exact Ak (by assumption)|rfl) fun hb=>?_);(try rw[hb]);try simp only[Aa]at hb|((with_reducible refine A5 (fun hb=>?_) fun hb=>?_)<;>first|exact absurd hb (by decide)|(try rw[hb]);try simp only[Aa]at hb)|(with_reducible refine Ac ?_ ?_);focus (and_intros<;>first|omega|with_reducible rfl|kernel_rfl|exact Ah (by rfl)|simp only[An];omega|simp;done)|with_reducible intro Cq|(try dsimp only);rw[hw]|(with_reducible apply A3);(focus rfl);(focus (simp only[D.at,D.put,D.Xw,D.Fh,Mg,Jo,D.Bx,Js,Ad,Af,he,hlm]<;>exact rfl));(try(focus exact rfl)))
   all_goals(try(conv=>whnf))
   refine Round.by (j+1,out++[⟨pn,pr,pf,pk⟩],true) ?_ ⟨by omega,by simp;omega,hR⟩ (by dsimp only;omega)
   try dsimp only
   simp only[F5,Cy,Kc];show norm _ _=Cx _ _
   kernel_rfl
  |false=>
   repeat'((conv=>whnf);first|(with_reducible first|refine Ax (by first|exact Ai (by assumption)|refine decide_eq_true ?_;omega|rfl) fun hb=>?_|refine Aw (by exact Ak (by assumption)) fun hb=>?_);(try rw[hb]);try simp only[Aa]at hb|((with_reducible refine A5 (fun hb=>?_) fun hb=>?_)<;>first|exact absurd hb (by decide)|(try rw[hb]);try simp only[Aa]at hb)|(with_reducible refine Ac ?_ ?_);focus (and_intros<;>first|omega|with_reducible rfl|kernel_rfl|exact Ah (by rfl)|simp only[An];omega|simp;done)|with_reducible intro Cq|(try dsimp only);rw[hw]|(with_reducible apply A3);(focus rfl);(focus (simp only[D.at,D.put,D.Xw,D.Fh,Mg,Jo,D.Bx,Js,Ad,Af,he,hlm]<;>exact rfl));(try(focus exact rfl)))
   all_goals(try(conv=>whnf))
   refine Round.by (j+1,out++[⟨pn,pr,pf,pk⟩],false) ?_ ⟨by omega,by simp;omega,hR⟩ (by dsimp only;omega)
   try dsimp only
   simp only[F5,Cy,Kc];show norm _ _=Cx _ _
   kernel_rfl
end Go.Ab
