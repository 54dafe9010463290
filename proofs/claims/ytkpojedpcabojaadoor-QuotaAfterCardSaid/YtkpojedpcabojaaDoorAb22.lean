/- Lemmas -/
import Derived.Test.YtkpojedpcabojaaDoorU1
import Derived.Deep.Slices
import Derived.ChangeSame
import Derived.ChangeArms
import Derived.ProofKit
import Derived.OpenShut
set_option linter.unusedVariables false
set_option linter.unusedSimpArgs false
set_option maxRecDepth 100000
set_option maxHeartbeats 40000000
namespace Go.Ab
open Go.Proofs
def Sto.afterM(s:Sto)(n:Az)(cs:List Chg):Int × Int:=(((s.writeM n cs).1.tal n).bytes,((s.writeM n cs).1.tal n).keys)
theorem Wb{m:Nat}{s:Sto}(hI:SInv m s)(hm:m≤80000)(n:Az)(hn:n.length≤1000)(cs:List Chg)(hcs:cs.length≤1000):
 Fn Tryd.prog Ez [sP s,.v (.str n),.v (.list (cs.map Chg.toI))] (Is (.tup [.i (ti (s.afterM n cs).1),.i (ti (s.afterM n cs).2)]) [sP s,.no,.no]):=by
 cases hF:K6 cs []with
 |none=>
  unfold Sto.afterM;rw[Lr (.inr hF)];exact Wc s n cs hcs none rfl hF
 |some FF=>
  cases hf:s.fi n with
  |none=>
   unfold Sto.afterM;rw[Lr (.inl hf)];exact Vu s n cs hcs hn hI hm hf FF _ rfl hF
  |some q=>
   obtain⟨h1,h2⟩:=Mb hI hf hF;unfold Sto.afterM;dsimp only;rw[h1,h2];exact Vt s n cs hcs hn hI hm q hf FF _ rfl hF _ _ _ _ rfl rfl (by rw[Q0]) (by rw[Q0])
def tenI(n:Az)(b k:Int):I:=.agg [.str n,ti b,ti k]
def Sto.fitsM(s:Sto)(n:Az)(mb mk:Int)(cs:List Chg):Bool:=decide ((s.afterM n cs).1≤max mb (s.tal n).bytes)&&decide ((s.afterM n cs).2≤max mk (s.tal n).keys)
theorem Lu{m:Nat}{s:Sto}(hI:SInv m s)(hm:m≤80000)(n:Az)(hn:n.length≤1000)(mb mk:Int)(cs:List Chg)(hcs:cs.length≤1000):
 Fn Tryd.prog Jj [sP s,.v (tenI n mb mk),.v (.list (cs.map Chg.toI))] (Is (.v (.bool (s.fitsM n mb mk cs))) [sP s,.no,.no]):=by
 have ha:=Wb hI hm n hn cs hcs;have hb:=Aj6 s n;have hk:=Akb s n;unfold Sto.fitsM;generalize s.afterM n cs=A at*;generalize (s.tal n).bytes=B at*;generalize (s.tal n).keys=K at*;obtain⟨a1,a2⟩:=A;dsimp only at ha ⊢;refine Sk ?_ (by simp)
 cases c1:decide (a1≤max mb B)with
 |false=>
  repeat'((conv=>whnf);first|((with_reducible refine Aw (by first|(with_reducible assumption)|(with_reducible rfl)) (fun hb=>?_));(try rw[hb]);(try simp only[Aa]at hb))|((with_reducible refine Exists.intro ?_ ?_);focus (and_intros<;>first|omega|(with_reducible rfl)|kernel_rfl|(intro _ hh;cases hh;done)|(simp;done)|decide))|((with_reducible refine Drawn.mkV ?_ ?_ ?_ (fun hfact=>?_));(focus (as_aux_lemma=>kernel_rfl));(focus (as_aux_lemma=>kernel_rfl));(focus (as_aux_lemma=>kernel_rfl));(try simp only[dRS]at hfact))|((with_reducible refine CallWp.mk ?_);refine⟨_,ha,?_⟩;rintro _ _ ⟨rfl,rfl⟩)|((with_reducible refine CallIs.mk ?_);refine⟨_,_,hb,?_⟩))
  all_goals(try(conv=>whnf))
  all_goals((apply dKq<;>kernel_rfl))
 |true=>
  repeat'((conv=>whnf);first|((with_reducible refine Ax (by first|(with_reducible assumption)|(with_reducible rfl)) (fun hb=>?_));(try rw[hb]);(try simp only[Aa]at hb))|((with_reducible refine Exists.intro ?_ ?_);focus (and_intros<;>first|omega|(with_reducible rfl)|kernel_rfl|(intro _ hh;cases hh;done)|(simp;done)|decide))|((with_reducible refine Drawn.mkV ?_ ?_ ?_ (fun hfact=>?_));(focus (as_aux_lemma=>kernel_rfl));(focus (as_aux_lemma=>kernel_rfl));(focus (as_aux_lemma=>kernel_rfl));(try simp only[dRS]at hfact))|((with_reducible refine CallWp.mk ?_);refine⟨_,ha,?_⟩;rintro _ _ ⟨rfl,rfl⟩)|((with_reducible refine CallIs.mk ?_);refine⟨_,_,hb,?_⟩)|((with_reducible refine CallIs.mk ?_);refine⟨_,_,hk,?_⟩))
  all_goals(try(conv=>whnf))
  all_goals((apply dKq<;>kernel_rfl))
def gtGo:List (List Chg)→Bool
 | []=>false
 |l::r=>if 100<l.length then true else if cGo l=true then true else gtGo r
def F9(w:List (List Chg)):Bool:=if 60<w.length then true else gtGo w
theorem X0:∀{w:List (List Chg)},gtGo w=false→∀l∈w,l.length≤100
 | [],_=>by simp
 |l::r,h=>by
  unfold gtGo at h;split at h
  ·cases h
  ·split at h
   ·cases h
   ·intro x hx;rcases List.mem_cons.1 hx with rfl|hx
    ·omega
    ·exact X0 h x hx
theorem Wv{w:List (List Chg)}(h:F9 w=false):w.length≤60∧∀l∈w,l.length≤100:=by
 unfold F9 at h;split at h
 ·cases h
 ·exact⟨by omega,X0 h⟩
theorem L6(w:List (List Chg)):Fn Tryd.prog Lf [.v (.list (w.map fun l=>I.list (l.map Chg.toI)))] (Is (.v (.bool (F9 w))) [.no]):=by
 refine Ko ?_ (by simp)
 have hwl:(w.map fun l=>I.list (l.map Chg.toI)).length=w.length:=List.length_map _
 unfold F9;by_cases h60:60<w.length
 ·rw[if_pos h60];repeat'((conv=>whnf);first|((with_reducible refine Ax (by first|((with_reducible refine decide_eq_true ?_);omega)|(with_reducible rfl)) (fun hb=>?_));(try rw[hb]);(try simp only[Aa]at hb))|((with_reducible refine Exists.intro ?_ ?_);focus (and_intros<;>(with_reducible rfl)))|(with_reducible intro hfact))
  all_goals(try(conv=>whnf))
  all_goals first
   |(exfalso;omega)
   |(apply dKq<;>kernel_rfl)
 rw[if_neg h60];obtain⟨RES,hRES⟩:∃R,gtGo w=R:=⟨_,rfl⟩;rw[hRES];repeat'((conv=>whnf);first|((with_reducible refine Aw (by first|((with_reducible refine decide_eq_false ?_);omega)|(with_reducible rfl)) (fun hb=>?_));(try rw[hb]);(try simp only[Aa]at hb))|((with_reducible refine Exists.intro ?_ ?_);focus (and_intros<;>(with_reducible rfl)))|(with_reducible intro hfact))
 all_goals(try(conv=>whnf))
 refine LoopWq.by (X:=Nat) (fun j=>[(12,.v (ti (j:Int)))]) (fun j=>j≤w.length∧gtGo (w.drop j)=RES) (fun j=>w.length - j) 0 (by kernel_rfl) ⟨Nat.zero_le _,hRES⟩ ?_
 rintro j ⟨hj,hR⟩
 (try dsimp only at hj hR ⊢)
 by_cases hjl:j<w.length
 case neg=>
  have h3:¬decide ((j:Int)<((w.map fun l=>I.list (l.map Chg.toI)).length:Int))=true:=by simp;omega
  have h4:¬decide ((j:Int)<(w.length:Int))=true:=by simp;omega
  rw[List.drop_eq_nil_of_le (by omega)]at hR
  have hR:false=RES:=hR;subst hR;repeat'((conv=>whnf);((with_reducible refine Aw (by first|(with_reducible assumption)|(with_reducible exact Bool.of_not_eq_true (by assumption))) (fun hb=>?_));(try rw[hb]);(try simp only[Aa]at hb)))
  all_goals(try(conv=>whnf))
  (apply dKq<;>kernel_rfl)
 have hw:IntKind.i64.wrap ((j:Int)+1)=((j+1:Nat):Int):=(Bf (by omega)).trans (by omega)
 obtain⟨l,hl⟩:∃x,w[j]?=some x:=⟨_,List.getElem?_eq_getElem hjl⟩;have h3:¬decide ((j:Int)<((w.map fun l=>I.list (l.map Chg.toI)).length:Int))=false:=by simp;omega
 have h4:¬decide ((j:Int)<(w.length:Int))=false:=by simp;omega
 have hdr:w.drop j=l::w.drop (j+1):=by rw[List.drop_eq_getElem_cons hjl];rw[List.getElem?_eq_getElem hjl]at hl;cases hl;rfl
 rw[hdr]at hR;unfold gtGo at hR;have hcl:(l.map Chg.toI).length=l.length:=List.length_map _;by_cases hd:100<l.length
 ·rw[if_pos hd]at hR;subst hR;repeat'((conv=>whnf);first|((with_reducible refine Ax (by first|(with_reducible assumption)|(with_reducible exact Bool.of_not_eq_false (by assumption))|((with_reducible refine decide_eq_true ?_);omega)) (fun hb=>?_));(try rw[hb]);(try simp only[Aa]at hb))|((with_reducible refine Exists.intro ?_ ?_);focus (and_intros<;>first|omega|(with_reducible rfl)|kernel_rfl))|(with_reducible intro hfact)|((try dsimp only);(rw[B6 hl]))|(skip;rw[hcl]))
  all_goals(try(conv=>whnf))
  all_goals first
   |(exfalso;omega)
   |(apply dKq<;>kernel_rfl)
 rw[if_neg hd]at hR;repeat'((conv=>whnf);first|((with_reducible refine Ax (by(with_reducible exact Bool.of_not_eq_false (by assumption))) (fun hb=>?_));(try rw[hb]);(try simp only[Aa]at hb))|((with_reducible refine Aw (by first|((with_reducible refine decide_eq_false ?_);omega)|(with_reducible rfl)) (fun hb=>?_));(try rw[hb]);(try simp only[Aa]at hb))|((with_reducible refine Exists.intro ?_ ?_);focus (and_intros<;>first|omega|(with_reducible rfl)|kernel_rfl))|(with_reducible intro hfact)|((try dsimp only);(rw[B6 hl]))|((try dsimp only);rw[hcl]))
 all_goals(try(conv=>whnf))
 refine LoopWq.by (X:=Nat) (fun q=>[(21,.v (ti (q:Int)))]) (fun q=>q≤l.length∧(if cGo (l.drop q)=true then true else gtGo (w.drop (j+1)))=RES) (fun q=>l.length - q) 0 (by kernel_rfl) ⟨Nat.zero_le _,hR⟩ ?_
 rintro q ⟨hq,hQ⟩
 (try dsimp only at hq hQ ⊢)
 have hw2:IntKind.i64.wrap ((q:Int)+1)=((q+1:Nat):Int):=(Bf (by omega)).trans (by omega)
 by_cases hql:q<l.length
 case neg=>
  have h5:¬decide ((q:Int)<((l.map Chg.toI).length:Int))=true:=by simp;omega
  have h6:¬decide ((q:Int)<(l.length:Int))=true:=by simp;omega
  rw[List.drop_eq_nil_of_le (by omega)]at hQ
  have hQ:gtGo (w.drop (j+1))=RES:=hQ;repeat'((conv=>whnf);first|((with_reducible refine Aw (by(with_reducible exact Bool.of_not_eq_true (by assumption))) (fun hb=>?_));(try rw[hb]);(try simp only[Aa]at hb))|(skip;rw[hw]))
  all_goals(try(conv=>whnf))
  refine Round.by (j+1) ?_ ⟨by omega,hQ⟩ (by omega)
  try dsimp only
  show norm _ _=upd _ _
  kernel_rfl
 obtain⟨c,hc⟩:∃x,l[q]?=some x:=⟨_,List.getElem?_eq_getElem hql⟩;have h5:¬decide ((q:Int)<((l.map Chg.toI).length:Int))=false:=by simp;omega
 have h6:¬decide ((q:Int)<(l.length:Int))=false:=by simp;omega
 have hdq:l.drop q=c::l.drop (q+1):=by rw[List.drop_eq_getElem_cons hql];rw[List.getElem?_eq_getElem hql]at hc;cases hc;rfl
 rw[hdq]at hQ;unfold cGo at hQ;obtain⟨ck,cv,cg⟩:=c;by_cases hb:(Chg.mk ck cv cg).big
 ·rw[if_pos hb]at hQ;have hQ:true=RES:=hQ;subst hQ;unfold Chg.big at hb
  (try dsimp only at hb)
  repeat'((conv=>whnf);first|((with_reducible refine Ax (by first|(with_reducible assumption)|(with_reducible exact Bool.of_not_eq_false (by assumption))|(with_reducible rfl)) (fun hb=>?_));(try rw[hb]);(try simp only[Aa]at hb))|((with_reducible refine Aw (by(with_reducible rfl)) (fun hb=>?_));(try rw[hb]);(try simp only[Aa]at hb))|((with_reducible refine And.intro (fun hb=>?_) (fun hb=>?_))<;>first|(exfalso;((simp only[Bu]at hb<;>omega)))|((try rw[hb]);(try simp only[Aa]at hb)))|((with_reducible refine Exists.intro ?_ ?_);focus (and_intros<;>first|omega|(with_reducible rfl)|kernel_rfl|(simp;done)))|(with_reducible intro hfact)|((try dsimp only);(rw[B6 hc])))
  all_goals(try(conv=>whnf))
  all_goals((apply dKq<;>kernel_rfl))
 ·rw[if_neg hb]at hQ;unfold Chg.big at hb
  (try dsimp only at hb)
  repeat'((conv=>whnf);first|((with_reducible refine Ax (by(with_reducible exact Bool.of_not_eq_false (by assumption))) (fun hb=>?_));(try rw[hb]);(try simp only[Aa]at hb))|((with_reducible refine Aw (by(with_reducible rfl)) (fun hb=>?_));(try rw[hb]);(try simp only[Aa]at hb))|((with_reducible refine And.intro (fun hb=>?_) (fun hb=>?_))<;>first|(exfalso;((simp only[Bu]at hb<;>omega)))|((try rw[hb]);(try simp only[Aa]at hb)))|((with_reducible refine Exists.intro ?_ ?_);focus (and_intros<;>first|omega|(with_reducible rfl)|kernel_rfl|(simp;done)))|(with_reducible intro hfact)|((try dsimp only);(rw[B6 hc]))|((try dsimp only);rw[hw2]))
  all_goals(try(conv=>whnf))
  refine Round.by (q+1) ?_ ⟨by omega,hQ⟩ (by omega)
  try dsimp only
  show norm _ _=upd _ _
  kernel_rfl

open Go.Proofs
def Na:Stm:=(sO [gA 4 cF] (.seq (sO [gC 16 17 [],gT 17 16] (cR 17 [gA 4 cF])) (.seq (sO [gM 18 1,O1 (.bsl 19 31 1 (.list []) 1 [(0,18)]),gM 20 0,O1 (.app 21 31 1 24 19 20),gC 22 18 [nL 21]] (cR 22 [gA 4 cT])) (sO [gC 23 19 [],O1 (.buildD 24 [(.vec 50 4 [])] []),O1 (.boxD 25 24),O1 (.movD 5 23),O1 (.movD 6 25)] (sO [gM 26 5,gC 27 20 [(true,26),nL (cS [116])]] (sO [gM 28 6,gC 29 25 [(true,28),nL (cS [116])]] (.seq (sO [gM 30 0,gN 31 30,gM 32 (cI 0)] (.block 0 (.loop [8,18,20,33,34,35,36,37,38,39,40,41,42,45,51,57,64] (sO [gB 33 .lss 32 31] (.seq (.cond 33 .skip (.exit 0)) (.seq (.block 1 (sO [gI 34 1 30 32,gL 35 34,gA 8 35] (sO [gM 36 5,gM 37 8,gC 38 24 [(true,36),nL (cS [116]),nL 37]] (.ops [gM 39 6,gM 40 8,gC 41 26 [(true,39),nL (cS [116]),nL 40]])))) (.ops [gB 42 .add 32 (cI 1),gM 32 42]))))))) (sO [gM 44 5,gM 45 1,gC 46 27 [(true,44),nL (cS [116]),nL 45],gA 43 46,gE 47 43 0,gE 48 43 1,gA 9 47,gA 10 48] (sO [gM 50 6,gM 51 1,gC 52 28 [(true,50),nL (cS [116]),nL 51],gA 49 52,gE 53 49 0,gE 54 49 1,gA 11 53,gA 12 54] (sO [gM 56 5,gM 57 1,gC 58 27 [(true,56),nL (cS [117]),nL 57],gA 55 58,gE 59 55 0,gE 60 55 1,gA 13 59,gA 14 60] (sO [gM 61 5,gC 62 29 [(true,61),nL (cS [116])],gA 15 62] (sO [gM 63 5,gM 64 1,gC 65 24 [(true,63),nL (cS [116]),nL 64]] (sO [gM 66 9,gM 67 11,gB 68 .eql 66 67,gM 69 68,qt 69 (iM 70 10),qt 69 (iM 71 12),qt 69 (iB 72 .eql 70 71),gP 73 69 72 cF,gM 74 73,qt 74 (iM 75 9),qt 74 (iM 76 5),.call (some (74,true)) (some 77) 22 [(true,76),nL (cS [116])],qt 74 (iB 78 .eql 75 77),gP 79 74 78 cF,gM 80 79,qt 80 (iM 81 10),qt 80 (iM 82 5),.call (some (80,true)) (some 83) 23 [(true,82),nL (cS [116])],qt 80 (iB 84 .eql 81 83),gP 85 80 84 cF,gM 86 85,qt 86 (iM 87 13),qt 86 (iB 88 .eql 87 (cI 0)),gP 89 86 88 cF,gM 90 89,qt 90 (iM 91 14),qt 90 (iB 92 .eql 91 (cI 0)),gP 93 90 92 cF,gM 94 93,qt 94 (iM 95 15),qt 94 (iM 96 6),qt 94 (.nchk 97 96),qt 94 (iG 98 97 0 0),qt 94 (iL 99 98),qt 94 (iI 100 4 99 (cI 0)),qt 94 (iG 101 100 1 1),qt 94 (iL 102 101),qt 94 (iB 103 .eql 95 102),gP 104 94 103 cF,gA 4 104] .ret)))))))))))))
theorem Jg:OF 5 105 Na [.t 4]:=oF Tryd.func5 rfl Tryd.ntmps5 (by kernel_rfl) (by kernel_rfl)
def Ac2:Stm:=(sO [gA 6 (cI 0),gA 7 (cI 0)] (sO [O1 (.empty 9 50 4),gM 10 0,O1 (.nchk 11 10),gF 12 11 0,O1 (.loadF 13 false 1 12),O1 (.app 14 50 4 56 9 13),O1 (.buildD 15 [(.vec 50 4 [])] [(0,14)]),O1 (.boxD 16 15),O1 (.movD 8 16)] (sO [gM 17 8,gM 18 1,gM 19 2,gC 20 26 [(true,17),nL 18,nL 19]] (sO [gM 21 8,gM 22 1,gC 23 78 [(true,21),nL 22],gE 24 23 0,gE 25 23 1,gA 6 24,gA 7 25] .ret))))
theorem Ac8:OF 28 26 Ac2 [.t 6,.t 7]:=oF Tryd.func28 rfl Tryd.ntmps28 (by kernel_rfl) (by kernel_rfl)

open Go.Proofs
theorem Anf(R:List Spc)(n:Az)(hl:R.length≤100000)(hf:Ev n R 0= -1):
 Fn Tryd.prog Zs [rT R,.v (.str n)] (Is (.tup [.i (ti 0),.i (ti 0)]) [rT R,.no]):=by
 refine Aam ?_ (by simp)
 have hfi:=Z3 R n hl;rw[hf]at hfi;repeat'((conv=>whnf);first|((with_reducible refine Ax (by first|((with_reducible refine decide_eq_true ?_);omega)|(with_reducible rfl)) (fun hb=>?_));(try rw[hb]);(try simp only[Aa]at hb))|((with_reducible refine Exists.intro ?_ ?_);focus (and_intros<;>first|kernel_rfl|(intro _ hh;cases hh;done)|(simp;done)|decide))|((with_reducible refine CallWp.mk ?_);refine⟨_,hfi,?_⟩;rintro _ _ ⟨rfl,rfl⟩))
 all_goals(try(conv=>whnf))
 all_goals((apply dKq<;>kernel_rfl))
theorem Ana(R:List Spc)(n:Az)(hl:R.length≤100000)(i:Nat)(p:Spc)(hf:Ev n R 0=(i:Int))(he:R[i]?=some p)(hb:KvBd p.keys)(K B V:Int)
 (hK:((Ls ⟨[],[]⟩ p.rev p.keys []).length:Int)=K) (hB:prsB (Ls ⟨[],[]⟩ p.rev p.keys []) 0=B) (hV:Ag4 p.keys 0=V):
 Fn Tryd.prog Zs [rT R,.v (.str n)] (Is (.tup [.i (ti B),.i (ti K)]) [rT R,.no]):=by
 refine Aam ?_ (by simp)
 have hfi:=Z3 R n hl;rw[hf]at hfi;have hil:=(List.getElem?_eq_some_iff.1 he).1;have hlm:((R.map Spc.toI).map D.it).length=R.length:=by simp
 have hco:=Akp p hb;rw[hK,hB,hV]at hco;obtain⟨pn,pr,pf,pk⟩:=p
 (try dsimp only at hco)
 clear hK hB hV hb;repeat'((conv=>whnf);first|((with_reducible refine Aw (by first|((with_reducible refine decide_eq_false ?_);omega)|(with_reducible rfl)) (fun hb=>?_));(try rw[hb]);(try simp only[Aa]at hb))|((with_reducible refine Exists.intro ?_ ?_);focus (and_intros<;>first|omega|(with_reducible rfl)|kernel_rfl|(intro _ hh;cases hh;done)|(simp;done)|decide))|((with_reducible refine CallWp.mk ?_);refine⟨_,hfi,?_⟩;rintro _ _ ⟨rfl,rfl⟩)|((with_reducible refine CallWp.mk ?_);refine⟨_,hco,?_⟩;rintro _ _ ⟨rfl,rfl⟩)|(((with_reducible apply A3));(focus rfl);(focus (simp only[D.at,D.put,D.kid,D.setKid,mkSt,Ap,D.toI,toIs,Ak,Af,he,hlm]<;>exact rfl));(try(focus exact rfl))))
 all_goals(try(conv=>whnf))
 all_goals((apply dKq<;>kernel_rfl))
theorem Aka{m:Nat}{s:Sto}(h:SInv m s)(hm:m≤80000)(hl:s.sp.length≤8)(hc:CInv s)(hv:VInv s)(n:Az):
 Fn Tryd.prog Zs [rT s.ref,.v (.str n)] (Is (.tup [.i (ti (s.tal n).bytes),.i (ti (s.tal n).keys)]) [rT s.ref,.no]):=by
 have hl2:=Af9 s;cases hf:s.fi n with
 |none=>
  rw[(Sto.fi_none hf).2];exact Anf s.ref n (by omega) (Aju hf)
 |some j=>
  obtain⟨i,h1,h2,_⟩:=Aii (s:=s) (n:=n) (by rw[hf];rfl)
  obtain⟨v1,v2,_⟩:=Ahg (n:=n) (R:=(s.tal n).rev) (l:=s.l) (fun y hy=>by
   have h3:=h.wi.2 y hy;refine⟨h3.1,h3.2.1,(h.lb.held y hy).2.1,fun e v hv'=>?_⟩
   have h4:=(h3.2.2 v hv').2;dsimp only at h4;rw[e]at h4;exact h4) h.wi.1 hc.vk
  have hall:Ls ⟨[],[]⟩ (s.tal n).rev (keysOf n s.l) []=(Lh n (s.tal n).rev s.l).map prOf:=by
   rw[Agn,List.nil_append, ←Ajh fun y hy=>(h.wi.2 y hy).2.1,List.filter_eq_self.2]
   intro p _;simp only[decide_eq_true_eq];exact⟨List.not_lt.1 (List.not_lt_nil _),.inl rfl⟩
  have hcn:=hc.cnt n;refine Ana s.ref n (by omega) i (s.spcS n) h1 h2 (Aie h hm hc n).1 (s.tal n).keys (s.tal n).bytes _ ?_ ?_ rfl
  ·show((Ls ⟨[],[]⟩ (s.tal n).rev (keysOf n s.l) []).length:Int)=_;rw[hall,List.length_map,v1,hcn.1]
  ·show prsB (Ls ⟨[],[]⟩ (s.tal n).rev (keysOf n s.l) []) 0=_;rw[hall,Ajn,v2,hcn.2];omega
abbrev rF(R:List Spc):SV:=.own [] (.ptr (.it (.agg [.list (R.map Spc.toI)])))
theorem Amf{s:Sto}(n:Az)(cs:List Chg):(s.writeM n cs).1.sp.length=s.sp.length:=by
 unfold Sto.writeM;split
 ·rfl
 ·split
  ·rfl
  ·dsimp only;rw[List.length_set]
theorem Aj8{m:Nat}{s:Sto}(h:SInv m s)(hl:s.sp.length≤8)(hc:CInv s)(hv:VInv s)(n:Az)(cs:List Chg)(hcs:cs.length≤1000)(hm:m+cs.length+1≤80000):
 Fn Tryd.prog Ad6 [rT s.ref,.v (.str n),.v (.list (cs.map Chg.toI))] (Is (.tup [.i (ti (s.afterM n cs).1),.i (ti (s.afterM n cs).2)]) [rF s.ref,.no,.no]):=by
 have hl2:=Af9 s;have hw:=Am8 h (by omega) hl hc n cs hcs
 have hn:=Aka (h.write n cs) hm (by rw[Amf];exact hl) (hc.write h n cs) (hv.write h n cs) n
 unfold Sto.afterM;generalize s.writeM n cs=Z at*;obtain⟨s',r1,r2⟩:=Z;dsimp only at hw hn ⊢;generalize (s'.tal n).bytes=B at*;generalize (s'.tal n).keys=K at*;generalize s.ref=R at*;have hlm:(R.map Spc.toI).length=R.length:=List.length_map _;refine Ac8 ?_ (by simp)
 repeat'((conv=>whnf);first|((with_reducible refine Exists.intro ?_ ?_);focus (and_intros<;>first|omega|(with_reducible rfl)|kernel_rfl|(intro _ hh;cases hh;done)|exact size_map (fun _=>rfl)|(simp only[Bu];omega)|(simp;done)|decide))|((with_reducible refine CallWp.mk ?_);refine⟨_,hw,?_⟩;rintro _ _ ⟨rfl,rfl⟩)|((with_reducible refine CallWp.mk ?_);refine⟨_,hn,?_⟩;rintro _ _ ⟨rfl,rfl⟩)|(((with_reducible apply A9));(focus (simp only[D.at,D.put,D.kid,D.setKid,mkSt,Ap,D.toI,toIs,Ak,Af,hlm]<;>exact rfl))))
 all_goals(try(conv=>whnf))
 all_goals((apply dKq<;>kernel_rfl))

open Go.Proofs
def aw5:Sto:=⟨[([116],⟨1,0,10,1,1⟩)],[⟨[1,116,97],[⟨1,1,[49,50,51,52,53,54,55,56,57],false⟩]⟩]⟩
theorem We:aw1.writeM [116] [⟨[97],[49,50,51,52,53,54,55,56,57],false⟩]=(aw5,1,0):=by
 have h1:aw1.fi [116]=some 0:=by rfl
 have h2:K6 [⟨[97],[49,50,51,52,53,54,55,56,57],false⟩] []=some [⟨[97],[49,50,51,52,53,54,55,56,57],false⟩]:=by rfl
 have h3:Dc (([⟨[97],[49,50,51,52,53,54,55,56,57],false⟩]:List Chg).map Chg.key)=[[97]]:=by simp[Dc]
 unfold Sto.writeM;simp only[h1,h2,h3];rfl
theorem inv1:SInv 0 aw1:=by
 have h1:=Ajr.open (nm:=D9 [116]) [116] Aha;rw[Ai9]at h1;exact h1
theorem inv5:SInv 2 aw5:=by
 have h1:=inv1.write [116] [⟨[97],[49,50,51,52,53,54,55,56,57],false⟩];rw[We]at h1;exact h1
theorem Xs:aw5.fitsM [116] 8 2 [⟨[97],[49,50,51,52,53,54,55,56],false⟩]=true:=by
 obtain⟨h1,h2⟩:=Mb inv5 (n:=[116]) (i:=0) (cs:=[⟨[97],[49,50,51,52,53,54,55,56],false⟩]) (F:=[⟨[97],[49,50,51,52,53,54,55,56],false⟩]) (by rfl) (by rfl)
 unfold Sto.fitsM Sto.afterM;dsimp only;rw[h1,h2];rfl
theorem Xu:aw5.fitsM [116] 8 2 [⟨[98],[],false⟩]=false:=by
 obtain⟨h1,h2⟩:=Mb inv5 (n:=[116]) (i:=0) (cs:=[⟨[98],[],false⟩]) (F:=[⟨[98],[],false⟩]) (by rfl) (by rfl)
 unfold Sto.fitsM Sto.afterM;dsimp only;rw[h1,h2];rfl
theorem Yy:Fn Tryd.prog Da [sP aw1,.v (.str [116]),.v (.list [(Chg.mk [97] [49,50,51,52,53,54,55,56,57] false).toI])] (Is (.tup [.i (ti 1),.i (ti 0)]) [sP aw5,.no,.no]):=by
 have hw:=Air inv1 (by omega) [116] [⟨[97],[49,50,51,52,53,54,55,56,57],false⟩] (by decide) (by decide)
 rw[We]at hw;exact hw
theorem Yo:Fn Tryd.prog Jj [sP aw5,.v (.agg [.str [116],ti 8,ti 2]),.v (.list [(Chg.mk [97] [49,50,51,52,53,54,55,56] false).toI])] (Is (.v (.bool true)) [sP aw5,.no,.no]):=by
 have h1:=Lu inv5 (by omega) [116] (by decide) 8 2 [⟨[97],[49,50,51,52,53,54,55,56],false⟩] (by decide)
 rw[Xs]at h1;exact h1
theorem Ys:Fn Tryd.prog Jj [sP aw5,.v (.agg [.str [116],ti 8,ti 2]),.v (.list [(Chg.mk [98] [] false).toI])] (Is (.v (.bool false)) [sP aw5,.no,.no]):=by
 have h2:=Lu inv5 (by omega) [116] (by decide) 8 2 [⟨[98],[],false⟩] (by decide)
 rw[Xu]at h2;exact h2
theorem Jt:Fn Tryd.prog Kx [] (Is (.v (.bool true)) []):=by
 refine Kc ?_ (by simp)
 repeat'((conv=>whnf);((with_reducible refine Exists.intro ?_ ?_);focus (and_intros<;>decide)))
 all_goals(try(conv=>whnf))
 generalize hKK:F7 Tryd.prog _ _=KK;as_aux_lemma=>
  repeat'((conv=>whnf);first|((with_reducible refine Exists.intro ?_ ?_);focus (and_intros<;>first|omega|(intro _ hh;cases hh;done)))|((with_reducible refine CallWp.mk ?_);refine⟨_,Adg,?_⟩;rintro _ _ ⟨rfl,rfl⟩))
  all_goals(try(conv=>whnf))
  rw[←hKK];clear hKK;as_aux_lemma=>
   repeat'((conv=>whnf);((with_reducible refine Exists.intro ?_ ?_);focus (and_intros<;>first|kernel_rfl|(simp;done)|decide)))
   all_goals(try(conv=>whnf))
   generalize hKK:F7 Tryd.prog _ _=KK;as_aux_lemma=>
    repeat'((conv=>whnf);first|((with_reducible refine Exists.intro ?_ ?_);focus (and_intros<;>first|(intro _ hh;cases hh;done)|(simp;done)))|((with_reducible refine CallWp.mk ?_);refine⟨_,Ae1,?_⟩;rintro _ _ ⟨rfl,rfl⟩))
    all_goals(try(conv=>whnf))
    rw[←hKK];clear hKK;as_aux_lemma=>
     repeat'((conv=>whnf);((with_reducible refine Exists.intro ?_ ?_);focus (and_intros<;>first|kernel_rfl|exact Ah (by rfl)|(simp;done)|decide)))
     all_goals(try(conv=>whnf))
     generalize hKK:F7 Tryd.prog _ _=KK;as_aux_lemma=>
      repeat'((conv=>whnf);first|((with_reducible refine Exists.intro ?_ ?_);focus (and_intros<;>first|(intro _ hh;cases hh;done)|(simp;done)))|((with_reducible refine CallWp.mk ?_);refine⟨_,Yy,?_⟩;rintro _ _ ⟨rfl,rfl⟩))
      all_goals(try(conv=>whnf))
      rw[←hKK];clear hKK;as_aux_lemma=>
       repeat'((conv=>whnf);first|((with_reducible refine Ax (by(with_reducible rfl)) (fun hb=>?_));(try rw[hb]);(try simp only[Aa]at hb))|((with_reducible refine Exists.intro ?_ ?_);focus (and_intros<;>first|omega|kernel_rfl|(intro _ hh;cases hh;done)|exact Ah (by rfl)|(simp;done)|decide))|((with_reducible refine CallWp.mk ?_);refine⟨_,Yo,?_⟩;rintro _ _ ⟨rfl,rfl⟩)|((with_reducible refine CallWp.mk ?_);refine⟨_,Ys,?_⟩;rintro _ _ ⟨rfl,rfl⟩))
       all_goals(try(conv=>whnf))
       (apply dKq<;>kernel_rfl)

open Go.Proofs
abbrev tQ:Az:=[116]

open Go.Proofs
structure QInv(j:Nat)(s:Sto):Prop where
 inv:SInv (101*j) s
 c:CInv s
 v:VInv s
 nm:s.sp.map (·.1)=[tQ]
theorem QInv.len{j:Nat}{s:Sto}(h:QInv j s):s.sp.length=1:=by
 have:=congrArg List.length h.nm;simpa using this
theorem QInv.write{j:Nat}{s:Sto}(h:QInv j s){cs:List Chg}(hcs:cs.length≤100):QInv (j+1) (s.writeM tQ cs).1:=by
 refine⟨(h.inv.write tQ cs).mono (by omega),h.c.write h.inv tQ cs,h.v.write h.inv tQ cs,?_⟩
 rw[←h.nm];unfold Sto.writeM;split
 ·rfl
 ·rename_i i hi;split
  ·rfl
  ·exact Agj hi
theorem QInv.t{j:Nat}{s:Sto}(h:QInv j s):∃i,s.fi tQ=some i:=by
 have:s.fi tQ=(aw1).fi tQ:=Ajf (s:=aw1) (s':=s) (by rw[h.nm];rfl) tQ
 exact⟨0,this⟩
theorem QInv.u{j:Nat}{s:Sto}(h:QInv j s):s.fi [117]=none:=Ajf (s:=aw1) (s':=s) (by rw[h.nm];rfl) [117]
theorem QInv.ref{j:Nat}{s:Sto}(h:QInv j s):s.ref=[s.spcS tQ]:=by
 unfold Sto.ref Sto.names;rw[h.nm];simp[Dc]
theorem Anh:QInv 0 aw1:=by
 have hc:CInv ⟨[],[]⟩:=⟨fun n=>⟨rfl,rfl⟩,by intro h hh;cases hh⟩
 have hv:VInv ⟨[],[]⟩:=fun n=>rfl
 have h1:=hc.open (D9 tQ) tQ;have h2:=hv.open (D9 tQ) tQ;rw[Ai9]at h1 h2;exact⟨inv1,h1,h2,rfl⟩
theorem Amr:Fn Tryd.prog Mg [rT [],.v (.str [116])] (Is (.v (ti 0)) [rT aw1.ref,.no]):=by
 have h:=Ani Ajr (by simp) [116]
 rw[Ai9]at h;rw[show(Sto.mk [] []).ref=[]by unfold Sto.ref Sto.names;simp[Dc]]at h
 exact h
theorem Aax(w:List (List Chg))(l:List Chg)(hG:F9 (l::w)=true)(hwb:w.length*24≤140737488351232):
 Fn Tryd.prog Hr [.v (.list (w.map fun l=>I.list (l.map Chg.toI))),.v (.list (l.map Chg.toI))] (Is (.v (.bool true)) [.no,.no]):=by
 refine Jg ?_ (by simp)
 have hwl:(w.map fun l=>I.list (l.map Chg.toI)).length=w.length:=List.length_map _
 have hg:=L6 (l::w);rw[hG]at hg;repeat'((conv=>whnf);first|((with_reducible refine Ax (by first|(with_reducible assumption)|(with_reducible rfl)) (fun hb=>?_));(try rw[hb]);(try simp only[Aa]at hb))|((with_reducible refine And.intro (fun hb=>?_) (fun hb=>?_))<;>first|(exact absurd hb (by decide))|((try rw[hb]);(try simp only[Aa]at hb)))|((with_reducible refine Exists.intro ?_ ?_);focus (and_intros<;>first|omega|(with_reducible rfl)|kernel_rfl|(intro _ hh;cases hh;done)|exact Ah (by rfl)|exact size_map (fun _=>rfl)|(simp only[Bu];omega)|(simp;done)|decide))|((with_reducible refine CallWp.mk ?_);refine⟨_,Jt,?_⟩;rintro _ _ ⟨rfl,rfl⟩)|((with_reducible refine CallWp.mk ?_);refine⟨_,hg,?_⟩;rintro _ _ ⟨rfl,rfl⟩))
 all_goals(try(conv=>whnf))
 all_goals((apply dKq<;>kernel_rfl))
theorem Aaw(w:List (List Chg))(l:List Chg)(hG:F9 (l::w)=false)(hwb:w.length*24≤140737488351232):
 Fn Tryd.prog Hr [.v (.list (w.map fun l=>I.list (l.map Chg.toI))),.v (.list (l.map Chg.toI))] (Is (.v (.bool true)) [.no,.no]):=by
 refine Jg ?_ (by simp)
 have hg:=L6 (l::w);rw[hG]at hg;obtain⟨g1,g2⟩:=Wv hG;rw[List.length_cons]at g1;have hwl:(w.map fun l=>I.list (l.map Chg.toI)).length=w.length:=List.length_map _
 repeat'((conv=>whnf);first|((with_reducible refine Aw (by first|(with_reducible assumption)|(with_reducible rfl)) (fun hb=>?_));(try rw[hb]);(try simp only[Aa]at hb))|((with_reducible refine And.intro (fun hb=>?_) (fun hb=>?_))<;>first|(exact absurd hb (by decide))|((try rw[hb]);(try simp only[Aa]at hb)))|((with_reducible refine Exists.intro ?_ ?_);focus (and_intros<;>first|omega|(with_reducible rfl)|kernel_rfl|(intro _ hh;cases hh;done)|exact Ah (by rfl)|exact size_map (fun _=>rfl)|(simp only[Bu];omega)|(simp;done)|decide))|((with_reducible refine CallWp.mk ?_);refine⟨_,Jt,?_⟩;rintro _ _ ⟨rfl,rfl⟩)|((with_reducible refine CallWp.mk ?_);refine⟨_,hg,?_⟩;rintro _ _ ⟨rfl,rfl⟩))
 all_goals(try(conv=>whnf))
 generalize hKK:F7 Tryd.prog _ _=KK;as_aux_lemma=>
  repeat'((conv=>whnf);first|((with_reducible refine Exists.intro ?_ ?_);focus (and_intros<;>((intro _ hh;cases hh;done))))|((with_reducible refine CallWp.mk ?_);refine⟨_,Adg,?_⟩;rintro _ _ ⟨rfl,rfl⟩))
  all_goals(try(conv=>whnf))
  rw[←hKK];clear hKK;as_aux_lemma=>
   repeat'((conv=>whnf);((with_reducible refine Exists.intro ?_ ?_);focus (and_intros<;>first|kernel_rfl|(simp;done)|decide)))
   all_goals(try(conv=>whnf))
   generalize hKK:F7 Tryd.prog _ _=KK;as_aux_lemma=>
    repeat'((conv=>whnf);first|((with_reducible refine Exists.intro ?_ ?_);focus (and_intros<;>first|(intro _ hh;cases hh;done)|(simp;done)))|((with_reducible refine CallWp.mk ?_);refine⟨_,Ae1,?_⟩;rintro _ _ ⟨rfl,rfl⟩))
    all_goals(try(conv=>whnf))
    rw[←hKK];clear hKK;as_aux_lemma=>
     repeat'((conv=>whnf);((with_reducible refine Exists.intro ?_ ?_);focus (and_intros<;>first|kernel_rfl|(simp;done)|decide)))
     all_goals(try(conv=>whnf))
     generalize hKK:F7 Tryd.prog _ _=KK;as_aux_lemma=>
      repeat'((conv=>whnf);first|((with_reducible refine Exists.intro ?_ ?_);focus (and_intros<;>first|(intro _ hh;cases hh;done)|(simp;done)))|((with_reducible refine CallWp.mk ?_);refine⟨_,Amr,?_⟩;rintro _ _ ⟨rfl,rfl⟩))
      all_goals(try(conv=>whnf))
      rw[←hKK];clear hKK;as_aux_lemma=>
       repeat'((conv=>whnf);first|((with_reducible refine Exists.intro ?_ ?_);focus (and_intros<;>(with_reducible rfl)))|(with_reducible intro hfact))
       all_goals(try(conv=>whnf))
       refine LoopWq.by (X:=Nat × Sto) (fun y=>[(32,.v (ti (y.1:Int))),(5,sP y.2),(6,rT y.2.ref)]) (fun y=>y.1≤w.length∧QInv y.1 y.2) (fun y=>w.length - y.1) (0,aw1) (by kernel_rfl) ⟨Nat.zero_le _,Anh⟩ ?_
       rintro⟨j,s⟩ ⟨hj,hI⟩;dsimp only at hj hI ⊢;have hw:IntKind.i64.wrap ((j:Int)+1)=((j+1:Nat):Int):=(Bf (by omega)).trans (by omega)
       have h8:=hI.len;by_cases hjl:j<w.length
       ·obtain⟨x,hx⟩:∃x,w[j]?=some x:=⟨_,List.getElem?_eq_getElem hjl⟩;have h3:¬decide ((j:Int)<((w.map fun l=>I.list (l.map Chg.toI)).length:Int))=false:=by simp;omega
        have h4:¬decide ((j:Int)<(w.length:Int))=false:=by simp;omega
        have hxl:=g2 x (List.mem_cons_of_mem _ (List.mem_of_getElem? hx));have hwt:=Air hI.inv (by omega) tQ x (by decide) (by omega)
        have hwr:=Am8 hI.inv (by omega) (by omega) hI.c tQ x (by omega)
        have hI2:=hI.write hxl;generalize s.writeM tQ x=Z at*;obtain⟨s',r1,r2⟩:=Z;dsimp only at hwt hwr hI2;generalize s.ref=R at*;repeat'((conv=>whnf);first|((with_reducible refine Ax (by(with_reducible exact Bool.of_not_eq_false (by assumption))) (fun hb=>?_));(try rw[hb]);(try simp only[Aa]at hb))|((with_reducible refine Exists.intro ?_ ?_);focus (and_intros<;>first|omega|kernel_rfl|(intro _ hh;cases hh;done)|(simp;done)|decide))|((try dsimp only);(rw[B6 hx]))|((with_reducible refine CallWp.mk ?_);refine⟨_,hwt,?_⟩;rintro _ _ ⟨rfl,rfl⟩))
        all_goals(try(conv=>whnf))
        generalize hKK:F7 Tryd.prog _ _=KK;as_aux_lemma=>
         repeat'((conv=>whnf);first|((with_reducible refine Exists.intro ?_ ?_);focus (and_intros<;>first|(intro _ hh;cases hh;done)|(simp;done)))|((with_reducible refine CallWp.mk ?_);refine⟨_,hwr,?_⟩;rintro _ _ ⟨rfl,rfl⟩))
         all_goals(try(conv=>whnf))
         rw[←hKK];clear hKK;as_aux_lemma=>
          repeat'((conv=>whnf);(skip;rw[hw]))
          all_goals(try(conv=>whnf))
          refine Round.by (j+1,s') ?_ ⟨by omega,hI2⟩ (by dsimp only;omega)
          try dsimp only
          show norm _ _=upd _ _
          kernel_rfl
       have h3:¬decide ((j:Int)<((w.map fun l=>I.list (l.map Chg.toI)).length:Int))=true:=by simp;omega
       have h4:¬decide ((j:Int)<(w.length:Int))=true:=by simp;omega
       have hl0:=g2 l (List.mem_cons_self ..);have hcl:(l.map Chg.toI).length=l.length:=List.length_map _;have ha1:=Wb hI.inv (by omega) tQ (by decide) l (by omega)
       have ha2:=Aj8 hI.inv (by omega) hI.c hI.v tQ l (by omega) (by omega)
       have ha3:=Wb hI.inv (by omega) [117] (by decide) l (by omega)
       rw[show s.afterM [117] l=(0,0)by unfold Sto.afterM;rw[Lr (.inl hI.u),(Sto.fi_none hI.u).2];rfl]at ha3
       have hrv:=Aci s tQ;have hwt:=Air hI.inv (by omega) tQ l (by decide) (by omega)
       have hby2:=Aj6 (s.writeM tQ l).1 tQ;have hke2:=Akb (s.writeM tQ l).1 tQ;unfold Sto.afterM at ha1 ha2;generalize s.writeM tQ l=Z at*;obtain⟨s',r1,r2⟩:=Z;dsimp only at ha1 ha2 ha3 hwt hby2 hke2;generalize (s'.tal tQ).bytes=B at*;generalize (s'.tal tQ).keys=K at*;rw[hI.ref]at ha2 ⊢;have hpr:(s.spcS tQ).rev=(s.tal tQ).rev:=rfl;generalize (s.tal tQ).rev=rev at*;generalize s.spcS tQ=p at*;obtain⟨pn,pr,pf,pk⟩:=p;dsimp only at hpr;subst hpr;have gB:¬decide (B=B)=false:=by simp
       have gK:¬decide (K=K)=false:=by simp
       have gR:¬decide (pr=pr)=false:=by simp
       have gZ:¬decide ((0:Int)=0)=false:=by simp
       repeat'((conv=>whnf);first|((with_reducible refine Aw (by first|(with_reducible assumption)|(with_reducible exact Bool.of_not_eq_true (by assumption))) (fun hb=>?_));(try rw[hb]);(try simp only[Aa]at hb))|((with_reducible refine Exists.intro ?_ ?_);focus (and_intros<;>first|kernel_rfl|(simp;done)|decide)))
       all_goals(try(conv=>whnf))
       generalize hKK:F7 Tryd.prog _ _=KK;as_aux_lemma=>
        repeat'((conv=>whnf);first|((with_reducible refine Exists.intro ?_ ?_);focus (and_intros<;>first|omega|(intro _ hh;cases hh;done)|(simp;done)))|((with_reducible refine CallWp.mk ?_);refine⟨_,ha1,?_⟩;rintro _ _ ⟨rfl,rfl⟩))
        all_goals(try(conv=>whnf))
        rw[←hKK];clear hKK;as_aux_lemma=>
         repeat'((conv=>whnf);((with_reducible refine Exists.intro ?_ ?_);focus (and_intros<;>first|kernel_rfl|(simp;done)|decide)))
         all_goals(try(conv=>whnf))
         generalize hKK:F7 Tryd.prog _ _=KK;as_aux_lemma=>
          repeat'((conv=>whnf);first|((with_reducible refine Exists.intro ?_ ?_);focus (and_intros<;>first|omega|(intro _ hh;cases hh;done)|(simp;done)))|((with_reducible refine CallWp.mk ?_);refine⟨_,ha2,?_⟩;rintro _ _ ⟨rfl,rfl⟩))
          all_goals(try(conv=>whnf))
          rw[←hKK];clear hKK;as_aux_lemma=>
           repeat'((conv=>whnf);((with_reducible refine Exists.intro ?_ ?_);focus (and_intros<;>first|kernel_rfl|(simp;done)|decide)))
           all_goals(try(conv=>whnf))
           generalize hKK:F7 Tryd.prog _ _=KK;as_aux_lemma=>
            repeat'((conv=>whnf);first|((with_reducible refine Exists.intro ?_ ?_);focus (and_intros<;>first|omega|(intro _ hh;cases hh;done)|(simp;done)))|((with_reducible refine CallWp.mk ?_);refine⟨_,ha3,?_⟩;rintro _ _ ⟨rfl,rfl⟩))
            all_goals(try(conv=>whnf))
            rw[←hKK];clear hKK;as_aux_lemma=>
             repeat'((conv=>whnf);((with_reducible refine Exists.intro ?_ ?_);focus (and_intros<;>first|kernel_rfl|(simp;done)|decide)))
             all_goals(try(conv=>whnf))
             generalize hKK:F7 Tryd.prog _ _=KK;as_aux_lemma=>
              repeat'((conv=>whnf);first|((with_reducible refine Exists.intro ?_ ?_);focus (and_intros<;>first|(intro _ hh;cases hh;done)|(simp;done)))|((with_reducible refine CallWp.mk ?_);refine⟨_,hrv,?_⟩;rintro _ _ ⟨rfl,rfl⟩))
              all_goals(try(conv=>whnf))
              rw[←hKK];clear hKK;as_aux_lemma=>
               repeat'((conv=>whnf);((with_reducible refine Exists.intro ?_ ?_);focus (and_intros<;>first|kernel_rfl|(simp;done)|decide)))
               all_goals(try(conv=>whnf))
               generalize hKK:F7 Tryd.prog _ _=KK;as_aux_lemma=>
                repeat'((conv=>whnf);first|((with_reducible refine Exists.intro ?_ ?_);focus (and_intros<;>first|(intro _ hh;cases hh;done)|(simp;done)))|((with_reducible refine CallWp.mk ?_);refine⟨_,hwt,?_⟩;rintro _ _ ⟨rfl,rfl⟩))
                all_goals(try(conv=>whnf))
                rw[←hKK];clear hKK;as_aux_lemma=>
                 repeat'((conv=>whnf);first|((with_reducible refine Ax (by first|(with_reducible exact Bool.of_not_eq_false (by assumption))|(with_reducible rfl)) (fun hb=>?_));(try rw[hb]);(try simp only[Aa]at hb))|((with_reducible refine Exists.intro ?_ ?_);focus (and_intros<;>first|omega|kernel_rfl|(intro _ hh;cases hh;done)|(simp;done)|decide))|((with_reducible refine CallWp.mk ?_);refine⟨_,hby2,?_⟩;rintro _ _ ⟨rfl,rfl⟩)|((with_reducible refine CallWp.mk ?_);refine⟨_,hke2,?_⟩;rintro _ _ ⟨rfl,rfl⟩))
                 all_goals(try(conv=>whnf))
                 all_goals(refine Done.mk ⟨?_,by kernel_rfl⟩ (by kernel_rfl))
                 all_goals exact SV.bool_congr (by simp)
theorem Ab0(w:List (List Chg))(l:List Chg)(hwb:w.length*24≤140737488351232):
 Fn Tryd.prog Hr [.v (.list (w.map fun l=>I.list (l.map Chg.toI))),.v (.list (l.map Chg.toI))] (Is (.v (.bool true)) [.no,.no]):=by
 cases hG:F9 (l::w)with
 |true=>exact Aax w l hG hwb
 |false=>exact Aaw w l hG hwb

open Go.ChangeShapes Go.Deep
inductive Sh where
 |int (k:IntKind)
 |bool
 |str
 |st (l:List Sh)
 |sl (sz:Nat) (e:Sh)
 |ar (sz n:Nat) (e:Sh)
 deriving Inhabited
mutual
def Sh.ok(P:Program):TypeId→Sh→Bool
 |t,.int k=>match P.underlying t with
  |some (.int k')=>k==k'
  |_=>false
 |t,.bool=>match P.underlying t with
  |some .bool=>true
  |_=>false
 |t,.str=>match P.underlying t with
  |some .string=>true
  |_=>false
 |t,.st l=>match P.underlying t with
  |some (.struct fs)=>Sh.oks P 0 (P.cellsOf t) fs.toList l
  |_=>false
 |t,.sl sz e=>match P.underlying t with
  |some (.slice e')=>P.cellsOf e'==sz&&sz != 0&&Sh.ok P e' e
  |_=>false
 |t,.ar sz n e=>match P.underlying t with
  |some (.array m e')=>P.cellsOf e'==sz&&m==n&&P.cellsOf t==n*sz&&Sh.ok P e' e
  |_=>false
def Sh.oks(P:Program):Nat→Nat→List Field→List Sh→Bool
 |off,tot,[],[]=>off==tot
 |off,tot,f::fs,s::l=>f.offset==off&&Sh.ok P f.type s&&Sh.oks P (off+P.cellsOf f.type) tot fs l
 |_,_,_,_=>false
end
mutual
def Fits:Sh→I→Prop
 | .int k,x=>∃n,x= .int k n∧(Lit.int k n).wf=true
 | .bool,x=>∃b,x= .bool b
 | .str,x=>∃s,x= .str s
 | .st l,x=>∃xs,x= .agg xs∧FitsL l xs
 | .sl sz e,x=>∃xs,x= .list xs∧∀y∈xs,Fits e y∧y.size=sz
 | .ar sz n e,x=>∃xs,x= .arr sz xs∧xs.length=n∧∀y∈xs,Fits e y∧y.size=sz
def FitsL:List Sh→List I→Prop
 | [],xs=>xs=[]
 |s::l,xs=>∃y ys,xs=y::ys∧Fits s y∧FitsL l ys
end
def De(w:World):Mem:=fun b=>w.heap[b]?
section
variable{H:Type}{enc:TypeId × Value → H}{P:Program}{w:World}{base:Nat}{sp:Nat → Bool}{held:Bool}
theorem Su{a:Addr}{n:Nat}{cs:List Value}(h:w.cells? base a n=some cs)(h0:0<n):∃bl ty fz,a=⟨a.block,a.off,none⟩∧w.heap[a.block]?=some (.cells bl ty fz)∧a.off+n≤bl.size∧(bl.toList.drop a.off).take n=cs:=by
 obtain⟨_,hl,hc⟩:=World.cells?_some h;have hget:∀i,i<n→∃v,w.cell? (a.add i)=some v:=fun i hi=>⟨cs[i]'(by omega),by rw[hc i hi,List.getElem?_eq_getElem]⟩
 obtain⟨v,hv⟩:=hget 0 h0;unfold World.cell? at hv;rw[show a.add 0=a from by simp[Addr.add]]at hv
 split at hv
 ·rename_i bl ty fz hb;split at hv
  ·cases hv
  ·rename_i hs;have hspot:a.spot=none:=by cases hsp:a.spot<;>simp[hsp]at hs ⊢
   have hadd:∀i,w.cell? (a.add i)=bl[a.off+i]?:=by
    intro i;unfold World.cell? Addr.add;by_cases hi:i=0
    ·simp[hi,hb,hspot]
    ·simp[hi,hb]
   have hsz:a.off+n≤bl.size:=by
    obtain⟨v',hv'⟩:=hget (n - 1) (by omega)
    rw[hadd]at hv';have:=(Array.getElem?_eq_some_iff.1 hv').1;omega
   refine⟨bl,ty,fz,?_,hb,hsz,?_⟩
   ·cases a;simp at hspot;simp[hspot]
   ·apply List.ext_getElem?;intro i;by_cases hi:i<n
    ·rw[List.getElem?_take,if_pos hi,List.getElem?_drop, ←hc i hi,hadd];simp
    ·rw[List.getElem?_eq_none (by simp;omega),List.getElem?_eq_none (by omega)]
 ·cases hv
theorem RepIs.of_rows{G:Mem}{sz:Nat}:∀{n:Nat} {cells:List Value} {p:I→Prop},n*sz≤cells.length→(∀i,i<n→∃x,RepI G x ((cells.drop (i*sz)).take sz)∧p x)→∃xs,xs.length=n∧RepIs G xs (cells.take (n*sz))∧∀x∈xs,p x
 |0,cells,p,_,_=>⟨[],rfl,by simp[RepIs],by simp⟩
 |n+1,cells,p,hl,h=>by
  have hm:(n+1)*sz=sz+n*sz:=by rw[Nat.add_mul];omega
  obtain⟨x,h1,h2⟩:=h 0 (by omega)
  simp only[Nat.zero_mul,List.drop_zero]at h1;obtain⟨xs,h3,h4,h5⟩:=RepIs.of_rows (sz:=sz) (n:=n) (cells:=cells.drop sz) (p:=p) (by rw[List.length_drop];omega) fun i hi=>by
   obtain⟨y,g1,g2⟩:=h (i+1) (by omega)
   refine⟨y,?_,g2⟩;rw[List.drop_drop,show sz+i*sz=(i+1)*sz by rw[Nat.add_mul];omega]
   exact g1
  refine⟨x::xs,by simp[h3],?_,?_⟩
  ·rw[hm,List.take_add];simp only[RepIs];exact⟨_,_,rfl,h1,h4⟩
  ·intro y hy;rcases List.mem_cons.mp hy with rfl|hy
   ·exact h2
   ·exact h5 y hy
theorem Ab4:∀{l:List Sh} {fs:List Field} {off tot:Nat},Sh.oks P off tot fs l=true→off≤tot
 | [],[],_,_,h=>by simp only[Sh.oks,beq_iff_eq]at h;omega
 |s::l,f::fs,off,tot,h=>by
  simp only[Sh.oks,Bool.and_eq_true]at h;have:=Ab4 h.2;omega
 | [],_::_,_,_,h=>by simp[Sh.oks]at h
 |_::_,[],_,_,h=>by simp[Sh.oks]at h
mutual
theorem trod_item:∀(sh:Sh) {t:TypeId} {fuel:Nat} {cs:List Value} {x:DataW H × List MemPlace},sh.ok P t=true→DataW.trod enc P w base (fun _=>sp 0) held fuel t cs=some x→
 ∃y,RepI (De w) y cs∧Fits sh y
 | .int k,t,fuel,cs,x,ho,h=>by
   simp only[Sh.ok]at ho;split at ho
   ·rename_i k' ht;rw[beq_iff_eq]at ho;subst ho;obtain⟨n,rfl,_,hw⟩:=DataW.trod_int ht h;exact⟨.int k n,by simp[RepI],n,rfl,hw⟩
   ·cases ho
 | .bool,t,fuel,cs,x,ho,h=>by
   simp only[Sh.ok]at ho;split at ho
   ·rename_i ht;obtain⟨b,rfl,_⟩:=DataW.trod_bool ht h;exact⟨.bool b,by simp[RepI],b,rfl⟩
   ·cases ho
 | .str,t,fuel,cs,x,ho,h=>by
   simp only[Sh.ok]at ho;split at ho
   ·rename_i ht;obtain⟨s,rfl,_,hs⟩:=DataW.trod_string ht h;obtain⟨⟨s⟩⟩:=s;exact⟨.str s,by simp only[RepI];exact⟨trivial,hs⟩,s,rfl⟩
   ·cases ho
 | .st l,t,fuel,cs,x,ho,h=>by
   simp only[Sh.ok]at ho;split at ho
   ·rename_i fs ht;cases fuel with
    |zero=>simp[DataW.trod]at h
    |succ fuel=>
     simp only[DataW.trod,ht]at h;split at h
     ·rename_i hl;obtain⟨xs,h1,_⟩:=Option.map_eq_some_iff.1 h;obtain⟨ys,h2,h3⟩:=trod_items l (off:=0) ho h1;refine⟨.agg ys,?_,ys,rfl,h3⟩;simp only[RepI];simpa[←hl]using h2
     ·cases h
   ·cases ho
 | .sl sz e,t,fuel,cs,x,ho,h=>by
   simp only[Sh.ok]at ho;split at ho
   ·rename_i e' ht;simp only[Bool.and_eq_true,beq_iff_eq,bne_iff_ne,ne_eq]at ho;obtain⟨⟨hsz,hz⟩,he⟩:=ho;rcases open_slice ht h with⟨rfl,_⟩|⟨a,len,cap,m,n,D,Pl,rfl,_,hlc,hcm,hm,_,hx⟩
    ·exact⟨.list [],by simp only[RepI];exact⟨none,0,rfl,Nat.le_refl _,Nat.zero_le _,.inl trivial⟩,[],rfl,by simp⟩
    ·by_cases h0:len=0
     ·subst h0;exact⟨.list [],by simp only[RepI];exact⟨some a,cap,rfl,Nat.zero_le _,hcm,.inl trivial⟩,[],rfl,by simp⟩
     ·have hmm:len≤m:=by subst hm;split<;>omega
      have hrow:∀i,i<len→∃cs' y,w.cells? base (a.add (i*sz)) sz=some cs'∧RepI (De w) y cs'∧Fits e y∧y.size=sz:=by
       intro i hi;obtain⟨cs',g1,g2⟩:=hx i (by omega)
       obtain⟨y,g3,g4⟩:=trod_item e he g2;rw[hsz]at g1;have hlen:=(World.cells?_some g1).2.1;exact⟨cs',y,g1,g3,g4,by rw[←RepI.length _ _ g3,hlen]⟩
      obtain⟨cs0,_,c1,_⟩:=hrow 0 (by omega)
      rw[Nat.zero_mul,show a.add 0=a by simp[Addr.add]]at c1
      obtain⟨bl,ty,fz,ha,hb,hs0,_⟩:=Su c1 (by omega)
      have hat:∀i,i<len→a.off+i*sz+sz≤bl.size∧∃y,RepI (De w) y (((bl.toList.drop a.off).drop (i*sz)).take sz)∧Fits e y∧y.size=sz:=by
       intro i hi;obtain⟨cs',y,g1,g2,g3,g4⟩:=hrow i hi;obtain⟨bl',ty',fz',k1,k2,k3,k4⟩:=Su g1 (by omega)
       have e1:(a.add (i*sz)).block=a.block:=by unfold Addr.add;split<;>rfl
       have e2:(a.add (i*sz)).off=a.off+i*sz:=by unfold Addr.add;split<;>rename_i hh<;>simp[hh]
       rw[e1,hb]at k2;cases k2;rw[e2]at k3 k4;refine⟨k3,y,?_,g3,g4⟩;rw[List.drop_drop,k4];exact g2
      have hlast:=(hat (len - 1) (by omega)).1
      have hmul:(len - 1)*sz+sz=len*sz:=by
       obtain⟨q,rfl⟩:∃q,len=q+1:=⟨len - 1,by omega⟩
       rw[Nat.add_sub_cancel,Nat.add_mul,Nat.one_mul]
      obtain⟨xs,x1,x2,x3⟩:=RepIs.of_rows (G:=De w) (sz:=sz) (n:=len) (cells:=bl.toList.drop a.off) (p:=fun y=>Fits e y∧y.size=sz) (by simp;omega) fun i hi=>(hat i hi).2
      refine⟨.list xs,?_,xs,rfl,x3⟩;simp only[RepI];refine⟨some a,cap,by rw[x1],by omega,hcm,.inr ⟨a.block,a.off,bl,ty,fz,sz,by rw[←ha],hb,fun y hy=>(x3 y hy).2,by rw[x1];omega,by rw[x1];exact x2⟩⟩
   ·cases ho
 | .ar sz n e,t,fuel,cs,x,ho,h=>by
   simp only[Sh.ok]at ho;split at ho
   ·rename_i m e' ht;simp only[Bool.and_eq_true,beq_iff_eq]at ho;obtain⟨⟨⟨hsz,rfl⟩,htot⟩,he⟩:=ho;obtain⟨xs,fu,rfl,_,hl,hxl,hx⟩:=DataW.trod_array ht h;rw[htot]at hl;rw[hsz]at hx;obtain⟨ys,y1,y2,y3⟩:=RepIs.of_rows (G:=De w) (sz:=sz) (n:=m) (cells:=cs) (p:=fun y=>Fits e y∧y.size=sz) (by omega) fun i hi=>by
     obtain⟨d,hd⟩:∃d,xs[i]?=some d:=⟨_,List.getElem?_eq_getElem (by omega)⟩
     have h1:=hx i hi;rw[hd]at h1;obtain⟨y,g1,g2⟩:=trod_item e he h1;refine⟨y,g1,g2,?_⟩;rw[←RepI.length _ _ g1,List.length_take,List.length_drop];have:(i+1)*sz≤m*sz:=Nat.mul_le_mul_right _ (by omega)
     rw[Nat.add_mul,Nat.one_mul]at this;omega
    refine⟨.arr sz ys,?_,ys,rfl,y1,y3⟩;rw[List.take_of_length_le (by omega)]at y2
    simp only[RepI];exact⟨y2,fun y hy=>(y3 y hy).2⟩
   ·cases ho
theorem trod_items:∀(l:List Sh) {fs:List Field} {off tot fuel:Nat} {cs:List Value} {xs:List (DataW H × List MemPlace)},Sh.oks P off tot fs l=true→
 (fs.mapM fun f=>DataW.trod enc P w base (fun _=>sp 0) held fuel f.type ((cs.drop f.offset).take (P.cellsOf f.type)))=some xs→∃ys,RepIs (De w) ys ((cs.take tot).drop off)∧FitsL l ys
 | [],fs,off,tot,fuel,cs,xs,ho,h=>by
   cases fs with
   |nil=>
    simp only[Sh.oks,beq_iff_eq]at ho;subst ho;exact⟨[],by simp[RepIs],rfl⟩
   |cons f fs=>simp[Sh.oks]at ho
 |s::l,fs,off,tot,fuel,cs,xs,ho,h=>by
  cases fs with
  |nil=>simp[Sh.oks]at ho
  |cons f fs=>
   simp only[Sh.oks,Bool.and_eq_true,beq_iff_eq]at ho;obtain⟨⟨rfl,h1⟩,h2⟩:=ho;simp only[List.mapM_cons]at h;obtain⟨y,g1,g2⟩:=Option.bind_eq_some_iff.1 h;obtain⟨z,g3,g4⟩:=Option.bind_eq_some_iff.1 g2;obtain⟨u,g5,g6⟩:=trod_item s h1 g1;obtain⟨us,g7,g8⟩:=trod_items l (cs:=cs) h2 g3;refine⟨u::us,?_,u,us,rfl,g6,g8⟩;simp only[RepIs];have hle:=Ab4 h2;refine⟨_,_,?_,g5,g7⟩;have e1:(cs.drop f.offset).take (P.cellsOf f.type)=((cs.take tot).drop f.offset).take (P.cellsOf f.type):=by
    rw[List.drop_take,List.take_take,Nat.min_eq_left (by omega)]
   rw[e1, ←List.drop_drop,List.take_append_drop]
end
end
end Go.Ab
