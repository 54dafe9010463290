/- Lemmas -/
import Derived.Test.YtkpojedpcabojaaDoorWBD
set_option linter.unusedVariables false
set_option linter.unusedSimpArgs false
set_option maxRecDepth 100000
set_option maxHeartbeats 40000000
namespace Go.Ab
open Go.Proofs
def Ta(n:Az):List Hld→List Kv→List Kv
 | [],out=>out
 |h::r,out=>if(C1 h.at_).1≠n then out else Ta n r (out++[⟨(C1 h.at_).2.1,h.vs⟩])
def Sto.dumpS(s:Sto)(n:Az):Spc:=⟨n,(s.tal n).rev,(s.tal n).floor,Ta n (s.l.drop (Km (Kh (B7 n [])) s.l)) []⟩
def Kv.toD(h:Kv):D:=.st [.it (.str h.key),.vec Bb 4 ((h.vs.map Ver.toI).map D.it)]
theorem Kv.toD_I(h:Kv):h.toD.toI=some h.toI:=by
 simp only[Kv.toD,Kv.toI,D.toI,toIs,Ak]
theorem Anm(l:List Kv):toIs (l.map Kv.toD)=some (l.map Kv.toI):=Wz Kv.toD_I l
theorem Aiv:∀l:List Ver,strips (l.map Ver.toI)=l.map Ver.toI
 | []=>rfl
 |x::l=>by simp only[List.map_cons,strips,Aiv l];rfl
theorem Amz(hof:Zb)(s:Sto)(hB:s.Bd)(NM:List Az)(hnm:∀n∈NM,n.length≤1000∧(s.fi n).isSome=true)(hNl:NM.length≤1000)
 (hsp:Fn Tryd.prog N2 [sP s] (Is (.v (.list (NM.map I.str))) [sP s])):
 Fn Tryd.prog We [sP s] (Is (.v (.list ((NM.map s.dumpS).map Spc.toI))) [sP s]):=by
 obtain⟨T1,T2,hof⟩:=hof;refine Adf ?_ (by simp)
 repeat'((conv=>whnf);first|((with_reducible refine Exists.intro ?_ ?_);focus (and_intros<;>first|omega|(with_reducible rfl)|kernel_rfl|(intro _ hh;cases hh;done)|(simp;done)|decide))|(with_reducible intro hfact)|((with_reducible refine CallWp.mk ?_);refine⟨_,hsp,?_⟩;rintro _ _ ⟨rfl,rfl⟩))
 all_goals(try(conv=>whnf))
 refine LoopWq.by (X:=Nat × List I) (fun y=>[(13,.v (ti (y.1:Int))),(3,.vec 50 4 y.2)]) (fun y=>y.1≤NM.length∧y.2=((NM.take y.1).map s.dumpS).map Spc.toI) (fun y=>NM.length - y.1) (0,[]) (by kernel_rfl) ⟨Nat.zero_le _,rfl⟩ ?_
 rintro⟨j,OUT⟩ ⟨hj,hO⟩;dsimp only at hj hO ⊢;have hw:IntKind.i64.wrap ((j:Int)+1)=((j+1:Nat):Int):=(Bf (by omega)).trans (by omega)
 have hOl:OUT.length≤1000:=by rw[hO];simp;omega
 by_cases hjl:j<NM.length
 case neg=>
  have hlt:¬decide ((j:Int)<((NM.map I.str).length:Int))=true:=by simp;omega
  have hlt2:¬decide ((j:Int)<(NM.length:Int))=true:=by simp;omega
  rw[List.take_of_length_le (by omega)]at hO
  rw[←hO];repeat'((conv=>whnf);first|((with_reducible refine Aw (by(with_reducible exact Bool.of_not_eq_true (by assumption))) (fun hb=>?_));(try rw[hb]);(try simp only[Aa]at hb))|((with_reducible refine Exists.intro ?_ ?_);focus (and_intros<;>first|omega|(with_reducible rfl)|(simp;done))))
  all_goals(try(conv=>whnf))
  (apply dKq<;>kernel_rfl)
 obtain⟨n,hn⟩:∃x,NM[j]?=some x:=⟨_,List.getElem?_eq_getElem hjl⟩;have hlt:¬decide ((j:Int)<((NM.map I.str).length:Int))=false:=by simp;omega
 have hlt2:¬decide ((j:Int)<(NM.length:Int))=false:=by simp;omega
 obtain⟨hn1,hn2⟩:=hnm n (List.mem_of_getElem? hn);obtain⟨i,hi⟩:=Option.isSome_iff_exists.1 hn2;obtain⟨h1,h2,h3⟩:=Sto.fi_some hi;have hI:=U8 s.l;have hwh:=L1 n [] (by omega) (by simp)
 have hbs:=L0 s.l (B7 n []) (by have:=hB.len;omega)
 obtain⟨A,hA⟩:∃A,A=Km (Kh (B7 n [])) s.l:=⟨_,rfl⟩;obtain⟨B,hB'⟩:∃B,B=bsF (Kh (B7 n [])) (eqH (B7 n [])) s.l:=⟨_,rfl⟩;rw[←hA, ←hB']at hbs;repeat'((conv=>whnf);first|((with_reducible refine Ax (by first|(with_reducible assumption)|(with_reducible exact Bool.of_not_eq_false (by assumption))) (fun hb=>?_));(try rw[hb]);(try simp only[Aa]at hb))|((with_reducible refine Exists.intro ?_ ?_);focus (and_intros<;>first|omega|(with_reducible rfl)|kernel_rfl|(intro _ hh;cases hh;done)|(simp;done)|decide))|(with_reducible intro hfact)|((with_reducible refine And.intro ?_ ?_);focus (first|(with_reducible rfl)|decide))|((with_reducible refine Drawn.mkV ?_ ?_ ?_ (fun hfact=>?_));(focus (as_aux_lemma=>kernel_rfl));(focus (as_aux_lemma=>kernel_rfl));(focus (as_aux_lemma=>kernel_rfl));(try simp only[dRS]at hfact))|((try dsimp only);(rw[B6 hn]))|((refine Abo hof ?_))|((with_reducible refine CallWp.mk ?_);refine⟨_,hwh,?_⟩;rintro _ _ ⟨rfl,rfl⟩)|((refine Bj ?_ (by decide)))|((with_reducible refine CallWp.mk ?_);refine⟨_,hbs,?_⟩;rintro _ _ ⟨rfl,rfl⟩)|(((with_reducible apply A9));(focus (simp only[D.at,D.put,D.kid,D.setKid,mkSt,Ap,D.toI,toIs,Ak,Af,h1,h3,hI,Sto.toD,Tal.toI]<;>exact rfl)))|(((with_reducible apply A3));(focus rfl);(focus (simp only[D.at,D.put,D.kid,D.setKid,mkSt,Ap,D.toI,toIs,Ak,Af,h1,h3,hI,Sto.toD,Tal.toI]<;>exact rfl));(try(focus exact rfl))))
 all_goals(try(conv=>whnf))
 have hAl:A≤s.l.length:=by rw[hA];exact Hp _ _
 obtain⟨RES,hRES⟩:∃R,Ta n (s.l.drop A) []=R:=⟨_,rfl⟩;have hDS:s.dumpS n=⟨n,(s.tal n).rev,(s.tal n).floor,RES⟩:=by unfold Sto.dumpS;rw[←hA,hRES]
 refine LoopWq.by (X:=Nat × List Kv) (fun y=>[(5,.v (ti (y.1:Int))),(57,.own [] (.ptr (.st [.it (.str n),.it (ti (s.tal n).rev),.it (ti (s.tal n).floor),.vec 130 2 (y.2.map Kv.toD)])))]) (fun y=>y.1≤s.l.length∧y.2.length≤y.1∧Ta n (s.l.drop y.1) y.2=RES) (fun y=>s.l.length - y.1) (A,[]) (by kernel_rfl) ⟨hAl,Nat.zero_le _,hRES⟩ ?_
 rintro⟨q,KV⟩ ⟨hq,hkl,hR⟩;dsimp only at hq hkl hR ⊢;have hlen:=hB.len;have hlm:(s.l.map Hld.toD).length=s.l.length:=List.length_map _;have hwq:IntKind.i64.wrap ((q:Int)+1)=((q+1:Nat):Int):=(Bf (by omega)).trans (by omega)
 by_cases hql:q<s.l.length
 case neg=>
  have hlt:¬decide ((q:Int)<(s.l.length:Int))=true:=by simp;omega
  rw[List.drop_eq_nil_of_le (by omega)]at hR
  have hR:KV=RES:=hR;subst hR;have hKI:=Anm KV;repeat'((conv=>whnf);first|((with_reducible refine Aw (by first|(with_reducible exact Bool.of_not_eq_true (by assumption))|((with_reducible refine decide_eq_false ?_);omega)) (fun hb=>?_));(try rw[hb]);(try simp only[Aa]at hb))|((with_reducible refine Exists.intro ?_ ?_);focus (and_intros<;>first|omega|(with_reducible rfl)|kernel_rfl|exact Ah (by rfl)|(simp only[Bu];omega)|(simp;done)))|(with_reducible intro hfact)|((with_reducible refine And.intro ?_ ?_);focus ((with_reducible rfl)))|((try dsimp only);rw[hw])|(((with_reducible apply A9));(focus (simp only[D.at,D.put,D.kid,D.setKid,mkSt,Ap,D.toI,toIs,Ak,Af,Sto.toD,hlm,hKI]<;>exact rfl))))
  all_goals(try(conv=>whnf))
  have hRND:OUT++[Spc.toI ⟨n,(s.tal n).rev,(s.tal n).floor,KV⟩]=((NM.take (j+1)).map s.dumpS).map Spc.toI:=by
   rw[List.take_add_one,hn,hO, ←hDS];simp
  refine Round.by (j+1,OUT++[Spc.toI ⟨n,(s.tal n).rev,(s.tal n).floor,KV⟩]) ?_ ⟨by omega,hRND⟩ (by dsimp only;omega)
  try dsimp only
  show norm _ _=upd _ _
  kernel_rfl
 obtain⟨h,he⟩:∃h,s.l[q]?=some h:=⟨_,List.getElem?_eq_getElem hql⟩;have hlt:¬decide ((q:Int)<(s.l.length:Int))=false:=by simp;omega
 obtain⟨hb1,hb2,hb3⟩:=hB.held h (List.mem_of_getElem? he);have hwho:=L2 h.at_ hb1;have hdr:s.l.drop q=h::s.l.drop (q+1):=by rw[List.drop_eq_getElem_cons hql];rw[List.getElem?_eq_getElem hql]at he;cases he;rfl
 rw[hdr]at hR;simp only[Ta]at hR;generalize C1 h.at_=wk at hwho hR;obtain⟨w,k,z⟩:=wk;dsimp only at hwho hR;by_cases hwn:w=n
 case neg=>
  have hnb:¬(!decide (w=n))=false:=by simpa using hwn
  have hnb2:¬decide (w=n)=true:=by simpa using hwn
  rw[if_pos hwn]at hR;subst hR;have hKI:=Anm KV;repeat'((conv=>whnf);first|((with_reducible refine Ax (by first|(with_reducible assumption)|(with_reducible exact Bool.of_not_eq_false (by assumption))|((with_reducible refine decide_eq_true ?_);omega)|(with_reducible rfl)) (fun hb=>?_));(try rw[hb]);(try simp only[Aa]at hb))|((with_reducible refine Exists.intro ?_ ?_);focus (and_intros<;>first|omega|(with_reducible rfl)|kernel_rfl|(intro _ hh;cases hh;done)|exact Ah (by rfl)|(simp only[Bu];omega)|(simp;done)|decide))|(with_reducible intro hfact)|((with_reducible refine And.intro ?_ ?_);focus ((with_reducible rfl)))|((with_reducible refine CallWp.mk ?_);refine⟨_,hwho,?_⟩;rintro _ _ ⟨rfl,rfl⟩)|((try dsimp only);rw[hw])|(((with_reducible apply A9));(focus (simp only[D.at,D.put,D.kid,D.setKid,mkSt,Ap,D.toI,toIs,Ak,Af,Sto.toD,hlm,he,hKI]<;>exact rfl)))|(((with_reducible apply A3));(focus rfl);(focus (simp only[D.at,D.put,D.kid,D.setKid,mkSt,Ap,D.toI,toIs,Ak,Af,Sto.toD,hlm,he,hKI]<;>exact rfl));(try(focus exact rfl))))
  all_goals(try(conv=>whnf))
  have hRND:OUT++[Spc.toI ⟨n,(s.tal n).rev,(s.tal n).floor,KV⟩]=((NM.take (j+1)).map s.dumpS).map Spc.toI:=by
   rw[List.take_add_one,hn,hO, ←hDS];simp
  refine Round.by (j+1,OUT++[Spc.toI ⟨n,(s.tal n).rev,(s.tal n).floor,KV⟩]) ?_ ⟨by omega,hRND⟩ (by dsimp only;omega)
  try dsimp only
  show norm _ _=upd _ _
  kernel_rfl
 subst hwn;rw[if_neg (by simp)]at hR
 have hnb:¬(!decide (w=w))=true:=by simp
 have hnb2:¬decide (w=w)=false:=by simp
 have hcl:=Mb (h.vs.map Ver.toI) (fun u hu=>by obtain⟨v,_,rfl⟩:=List.mem_map.1 hu;rfl) (by simp;omega)
 obtain⟨a,vs⟩:=h;dsimp only at hcl hR hb3;repeat'((conv=>whnf);first|((with_reducible refine Ax (by first|(with_reducible assumption)|((with_reducible refine decide_eq_true ?_);omega)) (fun hb=>?_));(try rw[hb]);(try simp only[Aa]at hb))|((with_reducible refine Aw (by first|(with_reducible exact Bool.of_not_eq_true (by assumption))|(with_reducible rfl)) (fun hb=>?_));(try rw[hb]);(try simp only[Aa]at hb))|((with_reducible refine And.intro (fun hb=>?_) (fun hb=>?_))<;>first|(exact absurd hb (by decide))|((try rw[hb]);(try simp only[Aa]at hb)))|((with_reducible refine Exists.intro ?_ ?_);focus (and_intros<;>first|omega|(with_reducible rfl)|kernel_rfl|(intro _ hh;cases hh;done)|exact Ag rfl|(simp only[Bu];omega)|(simp;done)|decide))|(with_reducible intro hfact)|((with_reducible refine And.intro ?_ ?_);focus (first|(with_reducible rfl)|(exact rfl)))|((with_reducible refine Drawn.mkV ?_ ?_ ?_ (fun hfact=>?_));(focus (as_aux_lemma=>kernel_rfl));(focus (as_aux_lemma=>kernel_rfl));(focus (as_aux_lemma=>kernel_rfl));(try simp only[dRS]at hfact))|((with_reducible refine CallWp.mk ?_);refine⟨_,hwho,?_⟩;rintro _ _ ⟨rfl,rfl⟩)|((with_reducible refine CallIs.mk ?_);refine⟨_,_,hcl,?_⟩)|((try dsimp only);rw[hwq])|(((with_reducible apply Ba));(focus (simp only[D.at,D.put,D.kid,D.setKid,mkSt,Ap,D.toI,toIs,Ak,Af,Sto.toD,Hld.toD,hlm,he]<;>exact rfl)))|(((with_reducible apply A3));(focus rfl);(focus (simp only[D.at,D.put,D.kid,D.setKid,mkSt,Ap,D.toI,toIs,Ak,Af,Sto.toD,Hld.toD,hlm,he]<;>exact rfl));(try(focus exact rfl))))
 all_goals(try(conv=>whnf))
 refine Round.by (q+1,KV++[⟨k,vs⟩]) ?_ ⟨by omega,by simp;omega,hR⟩ (by dsimp only;omega)
 try dsimp only
 have hap:(KV++[(⟨k,vs⟩:Kv)]).map Kv.toD=KV.map Kv.toD++[.st [.it (.str k),.vec Bb 4 ((vs.map Ver.toI).map D.it)]]:=by simp[Kv.toD]
 rw[hap];simp only[Aiv];show norm _ _=upd _ _
 kernel_rfl

open Go.Proofs
def Hr(rev:Int):List Ver→Ver→Ver
 | [],v=>v
 |w::r,v=>Hr rev r (if w.rev≤rev then w else v)
theorem Akh(vs:List Ver)(rev:Int)(hl:vs.length≤100000):Fn Tryd.prog Ae5 [.v (.list (vs.map Ver.toI)),.v (ti rev)] (Is (.tup [.i (Hr rev vs Aj).toI,.i (.bool (!(Hr rev vs Aj).gone))]) [.no,.no]):=by
 refine Ade ?_ (by simp)
 obtain⟨RES,hRES⟩:∃R,Hr rev vs Aj=R:=⟨_,rfl⟩;rw[hRES];repeat'((conv=>whnf);((with_reducible refine Exists.intro ?_ ?_);focus (and_intros<;>first|omega|kernel_rfl)))
 all_goals(try(conv=>whnf))
 refine LoopWq.by (X:=Nat × Ver) (fun y=>[(7,.v (ti (y.1:Int))),(6,.box (T.one (F.i y.2.toI)))]) (fun y=>y.1≤vs.length∧Hr rev (vs.drop y.1) y.2=RES) (fun y=>vs.length - y.1) (0,Aj) (by kernel_rfl) ⟨Nat.zero_le _,hRES⟩ ?_
 rintro⟨j,v⟩ ⟨hj,hR⟩;dsimp only at hj hR ⊢;have hw:IntKind.i64.wrap ((j:Int)+1)=((j+1:Nat):Int):=(Bf (by omega)).trans (by omega)
 by_cases hjl:j<vs.length
 case neg=>
  have h3:¬decide ((j:Int)<((vs.map Ver.toI).length:Int))=true:=by simp;omega
  have h4:¬decide ((j:Int)<(vs.length:Int))=true:=by simp;omega
  rw[List.drop_eq_nil_of_le (by omega)]at hR
  have hR:v=RES:=hR;subst hR;obtain⟨vr,vm,vv,vg⟩:=v;repeat'((conv=>whnf);first|((with_reducible refine Aw (by(with_reducible exact Bool.of_not_eq_true (by assumption))) (fun hb=>?_));(try rw[hb]);(try simp only[Aa]at hb))|((with_reducible refine Exists.intro ?_ ?_);focus (and_intros<;>first|omega|(with_reducible rfl)|kernel_rfl|(simp;done)))|(with_reducible intro hfact)|((with_reducible refine Drawn.mkV ?_ ?_ ?_ (fun hfact=>?_));(focus (as_aux_lemma=>kernel_rfl));(focus (as_aux_lemma=>kernel_rfl));(focus (as_aux_lemma=>kernel_rfl));(try simp only[dRS]at hfact)))
  all_goals(try(conv=>whnf))
  (apply dKq<;>kernel_rfl)
 obtain⟨w,hwv⟩:∃x,vs[j]?=some x:=⟨_,List.getElem?_eq_getElem hjl⟩;have h3:¬decide ((j:Int)<((vs.map Ver.toI).length:Int))=false:=by simp;omega
 have h4:¬decide ((j:Int)<(vs.length:Int))=false:=by simp;omega
 have hdr:vs.drop j=w::vs.drop (j+1):=by rw[List.drop_eq_getElem_cons hjl];rw[List.getElem?_eq_getElem hjl]at hwv;cases hwv;rfl
 rw[hdr]at hR;simp only[Hr]at hR;by_cases hle:w.rev≤rev
 ·rw[if_pos hle]at hR;have hb:¬decide (w.rev≤rev)=false:=by simpa using hle
  repeat'((conv=>whnf);first|((with_reducible refine Ax (by(with_reducible exact Bool.of_not_eq_false (by assumption))) (fun hb=>?_));(try rw[hb]);(try simp only[Aa]at hb))|((with_reducible refine Exists.intro ?_ ?_);focus (and_intros<;>first|omega|(with_reducible rfl)|kernel_rfl))|(with_reducible intro hfact)|((try dsimp only);(rw[B6 hwv]))|(skip;rw[hw]))
  all_goals(try(conv=>whnf))
  refine Round.by (j+1,w) ?_ ⟨by omega,hR⟩ (by dsimp only;omega)
  try dsimp only
  show norm _ _=upd _ _
  kernel_rfl
 ·rw[if_neg hle]at hR;have hb:¬decide (w.rev≤rev)=true:=by simpa using hle
  repeat'((conv=>whnf);first|((with_reducible refine Ax (by(with_reducible exact Bool.of_not_eq_false (by assumption))) (fun hb=>?_));(try rw[hb]);(try simp only[Aa]at hb))|((with_reducible refine Aw (by(with_reducible exact Bool.of_not_eq_true (by assumption))) (fun hb=>?_));(try rw[hb]);(try simp only[Aa]at hb))|((with_reducible refine Exists.intro ?_ ?_);focus (and_intros<;>first|omega|(with_reducible rfl)|kernel_rfl))|(with_reducible intro hfact)|((try dsimp only);(rw[B6 hwv]))|(skip;rw[hw]))
  all_goals(try(conv=>whnf))
  refine Round.by (j+1,v) ?_ ⟨by omega,hR⟩ (by dsimp only;omega)
  try dsimp only
  show norm _ _=upd _ _
  kernel_rfl
def Jw(x:Sp)(rev:Int):List Kv→List Pr→List Pr
 | [],out=>out
 |h::r,out=>if(Hr rev h.vs Aj).gone=false∧SpH x h.key then Jw x rev r (out++[⟨h.key,(Hr rev h.vs Aj).val,(Hr rev h.vs Aj).made,(Hr rev h.vs Aj).rev⟩])else Jw x rev r out
theorem Ak3(p:Spc)(x:Sp)(rev:Int)(hl:p.keys.length≤100000)(hv:∀h∈p.keys,h.vs.length≤100000):Fn Tryd.prog Ac5 [.v p.toI,.v x.toI,.v (ti rev)] (Is (.v (.list ((Jw x rev p.keys []).map Pr.toI))) [.no,.no,.no]):=by
 refine Acj ?_ (by simp)
 obtain⟨RES,hRES⟩:∃R,Jw x rev p.keys []=R:=⟨_,rfl⟩;rw[hRES];obtain⟨pn,prv,pfl,ks⟩:=p;dsimp only at hl hv hRES;repeat'((conv=>whnf);((with_reducible refine Exists.intro ?_ ?_);focus (and_intros<;>omega)))
 all_goals(try(conv=>whnf))
 refine LoopWq.by (X:=Nat × List Pr) (fun y=>[(8,.v (ti (y.1:Int))),(7,.vec 67 4 (y.2.map Pr.toI))]) (fun y=>y.1≤ks.length∧y.2.length≤y.1∧Jw x rev (ks.drop y.1) y.2=RES) (fun y=>ks.length - y.1) (0,[]) (by kernel_rfl) ⟨Nat.zero_le _,Nat.zero_le _,hRES⟩ ?_
 rintro⟨j,out⟩ ⟨hj,hol,hR⟩;dsimp only at hj hol hR ⊢;have hw:IntKind.i64.wrap ((j:Int)+1)=((j+1:Nat):Int):=(Bf (by omega)).trans (by omega)
 have hol2:(out.map Pr.toI).length≤100000:=by rw[List.length_map];omega
 have hks:(ks.map Kv.toI).length=ks.length:=List.length_map _;by_cases hjl:j<ks.length
 case neg=>
  have h3:¬decide ((j:Int)<((ks.map Kv.toI).length:Int))=true:=by simp;omega
  have h4:¬decide ((j:Int)<(ks.length:Int))=true:=by simp;omega
  rw[List.drop_eq_nil_of_le (by omega)]at hR
  have hR:out=RES:=hR;subst hR;repeat'((conv=>whnf);first|((with_reducible refine Aw (by(with_reducible exact Bool.of_not_eq_true (by assumption))) (fun hb=>?_));(try rw[hb]);(try simp only[Aa]at hb))|((with_reducible refine Exists.intro ?_ ?_);focus (and_intros<;>first|omega|(with_reducible rfl)|kernel_rfl|(simp;done)))|(with_reducible intro hfact))
  all_goals(try(conv=>whnf))
  (apply dKq<;>kernel_rfl)
 obtain⟨h,he⟩:∃x,ks[j]?=some x:=⟨_,List.getElem?_eq_getElem hjl⟩;have h3:¬decide ((j:Int)<((ks.map Kv.toI).length:Int))=false:=by simp;omega
 have h4:¬decide ((j:Int)<(ks.length:Int))=false:=by simp;omega
 have hdr:ks.drop j=h::ks.drop (j+1):=by rw[List.drop_eq_getElem_cons hjl];rw[List.getElem?_eq_getElem hjl]at he;cases he;rfl
 rw[hdr]at hR;simp only[Jw]at hR;have hat:=Akh h.vs rev (hv h (List.mem_of_getElem? he));have hsh:=Amv x h.key;generalize Hr rev h.vs Aj=v at hat hR;obtain⟨vr,vm,vv,vg⟩:=v;obtain⟨hk,hvs⟩:=h;dsimp only at hat hsh hR;by_cases hx:SpH x hk
 ·rw[decide_eq_true hx]at hsh;cases vg with
  |false=>
   rw[if_pos ⟨rfl,hx⟩]at hR;repeat'((conv=>whnf);first|((with_reducible refine Ax (by first|(with_reducible exact Bool.of_not_eq_false (by assumption))|(with_reducible rfl)) (fun hb=>?_));(try rw[hb]);(try simp only[Aa]at hb))|((with_reducible refine And.intro (fun hb=>?_) (fun hb=>?_))<;>first|(exact absurd hb (by decide))|((try rw[hb]);(try simp only[Aa]at hb)))|((with_reducible refine Exists.intro ?_ ?_);focus (and_intros<;>first|omega|(with_reducible rfl)|kernel_rfl|(intro _ hh;cases hh;done)|exact Ah (by rfl)|(simp only[Bu];omega)|(simp;done)|decide))|(with_reducible intro hfact)|((with_reducible refine Drawn.mkV ?_ ?_ ?_ (fun hfact=>?_));(focus (as_aux_lemma=>kernel_rfl));(focus (as_aux_lemma=>kernel_rfl));(focus (as_aux_lemma=>kernel_rfl));(try simp only[dRS]at hfact))|((try dsimp only);(rw[B6 he]))|((with_reducible refine CallWp.mk ?_);refine⟨_,hat,?_⟩;rintro _ _ ⟨rfl,rfl⟩)|((with_reducible refine CallIs.mk ?_);refine⟨_,_,hsh,?_⟩)|((try dsimp only);rw[hw]))
   all_goals(try(conv=>whnf))
   refine Round.by (j+1,out++[⟨hk,vv,vm,vr⟩]) ?_ ⟨by omega,by simp;omega,hR⟩ (by dsimp only;omega)
   try dsimp only
   simp only[List.map_append,List.map_cons,List.map_nil];show norm _ _=upd _ _
   kernel_rfl
  |true=>
   rw[if_neg (fun c=>by cases c.1)]at hR
   repeat'((conv=>whnf);first|((with_reducible refine Ax (by(with_reducible exact Bool.of_not_eq_false (by assumption))) (fun hb=>?_));(try rw[hb]);(try simp only[Aa]at hb))|((with_reducible refine Aw (by(with_reducible rfl)) (fun hb=>?_));(try rw[hb]);(try simp only[Aa]at hb))|((with_reducible refine And.intro (fun hb=>?_) (fun hb=>?_))<;>first|(exact absurd hb (by decide))|((try rw[hb]);(try simp only[Aa]at hb)))|((with_reducible refine Exists.intro ?_ ?_);focus (and_intros<;>first|omega|(with_reducible rfl)|kernel_rfl|(intro _ hh;cases hh;done)|(simp;done)|decide))|(with_reducible intro hfact)|((with_reducible refine Drawn.mkV ?_ ?_ ?_ (fun hfact=>?_));(focus (as_aux_lemma=>kernel_rfl));(focus (as_aux_lemma=>kernel_rfl));(focus (as_aux_lemma=>kernel_rfl));(try simp only[dRS]at hfact))|((try dsimp only);(rw[B6 he]))|((with_reducible refine CallWp.mk ?_);refine⟨_,hat,?_⟩;rintro _ _ ⟨rfl,rfl⟩)|((try dsimp only);rw[hw]))
   all_goals(try(conv=>whnf))
   refine Round.by (j+1,out) ?_ ⟨by omega,by dsimp only;omega,hR⟩ (by dsimp only;omega)
   try dsimp only
   show norm _ _=upd _ _
   kernel_rfl
 ·rw[decide_eq_false hx]at hsh;rw[if_neg (fun c=>hx c.2)]at hR
  cases vg with
  |false=>
   repeat'((conv=>whnf);first|((with_reducible refine Ax (by first|(with_reducible exact Bool.of_not_eq_false (by assumption))|(with_reducible rfl)) (fun hb=>?_));(try rw[hb]);(try simp only[Aa]at hb))|((with_reducible refine Aw (by(with_reducible rfl)) (fun hb=>?_));(try rw[hb]);(try simp only[Aa]at hb))|((with_reducible refine And.intro (fun hb=>?_) (fun hb=>?_))<;>first|(exact absurd hb (by decide))|((try rw[hb]);(try simp only[Aa]at hb)))|((with_reducible refine Exists.intro ?_ ?_);focus (and_intros<;>first|omega|(with_reducible rfl)|kernel_rfl|(intro _ hh;cases hh;done)|(simp;done)|decide))|(with_reducible intro hfact)|((with_reducible refine Drawn.mkV ?_ ?_ ?_ (fun hfact=>?_));(focus (as_aux_lemma=>kernel_rfl));(focus (as_aux_lemma=>kernel_rfl));(focus (as_aux_lemma=>kernel_rfl));(try simp only[dRS]at hfact))|((try dsimp only);(rw[B6 he]))|((with_reducible refine CallWp.mk ?_);refine⟨_,hat,?_⟩;rintro _ _ ⟨rfl,rfl⟩)|((with_reducible refine CallIs.mk ?_);refine⟨_,_,hsh,?_⟩)|((try dsimp only);rw[hw]))
   all_goals(try(conv=>whnf))
   refine Round.by (j+1,out) ?_ ⟨by omega,by dsimp only;omega,hR⟩ (by dsimp only;omega)
   try dsimp only
   show norm _ _=upd _ _
   kernel_rfl
  |true=>
   repeat'((conv=>whnf);first|((with_reducible refine Ax (by(with_reducible exact Bool.of_not_eq_false (by assumption))) (fun hb=>?_));(try rw[hb]);(try simp only[Aa]at hb))|((with_reducible refine Aw (by(with_reducible rfl)) (fun hb=>?_));(try rw[hb]);(try simp only[Aa]at hb))|((with_reducible refine And.intro (fun hb=>?_) (fun hb=>?_))<;>first|(exact absurd hb (by decide))|((try rw[hb]);(try simp only[Aa]at hb)))|((with_reducible refine Exists.intro ?_ ?_);focus (and_intros<;>first|omega|(with_reducible rfl)|kernel_rfl|(intro _ hh;cases hh;done)|(simp;done)|decide))|(with_reducible intro hfact)|((with_reducible refine Drawn.mkV ?_ ?_ ?_ (fun hfact=>?_));(focus (as_aux_lemma=>kernel_rfl));(focus (as_aux_lemma=>kernel_rfl));(focus (as_aux_lemma=>kernel_rfl));(try simp only[dRS]at hfact))|((try dsimp only);(rw[B6 he]))|((with_reducible refine CallWp.mk ?_);refine⟨_,hat,?_⟩;rintro _ _ ⟨rfl,rfl⟩)|((try dsimp only);rw[hw]))
   all_goals(try(conv=>whnf))
   refine Round.by (j+1,out) ?_ ⟨by omega,by dsimp only;omega,hR⟩ (by dsimp only;omega)
   try dsimp only
   show norm _ _=upd _ _
   kernel_rfl

open Go.Proofs
def prsB:List Pr→Int→Int
 | [],a=>a
 |p::r,a=>prsB r (a+(p.key.length:Int)+(p.val.length:Int))
def V2:List Kv→Int→Int
 | [],a=>a
 |h::r,a=>V2 r (a+(h.vs.length:Int))
def KvBd(ks:List Kv):Prop:=ks.length≤100000∧∀h∈ks,h.key.length≤1000∧h.vs.length≤100000∧∀v∈h.vs,v.val.length≤1000
theorem Aiy{rev:Int}:∀{vs:List Ver} {v:Ver},Hr rev vs v=v∨Hr rev vs v∈vs
 | [],v=>.inl rfl
 |w::r,v=>by
  unfold Hr;split
  ·rcases Aiy (rev:=rev) (vs:=r) (v:=w)with h|h
   ·rw[h];exact .inr (List.mem_cons_self ..)
   ·exact .inr (List.mem_cons_of_mem _ h)
  ·rcases Aiy (rev:=rev) (vs:=r) (v:=v)with h|h
   ·exact .inl h
   ·exact .inr (List.mem_cons_of_mem _ h)
theorem Aix{x:Sp}{rev:Int}:∀{ks:List Kv} {out:List Pr},(∀h∈ks,h.key.length≤1000∧h.vs.length≤100000∧∀v∈h.vs,v.val.length≤1000)→(∀p∈out,p.key.length≤1000∧p.val.length≤1000)→
 (∀p∈Jw x rev ks out,p.key.length≤1000∧p.val.length≤1000)∧(Jw x rev ks out).length≤out.length+ks.length
 | [],out,_,h=>⟨h,by simp[Jw]⟩
 |h::r,out,hk,ho=>by
  obtain⟨a1,a2,a3⟩:=hk h (List.mem_cons_self ..);have hk':=fun x hx=>hk x (List.mem_cons_of_mem _ hx)
  unfold Jw;split
  ·rename_i hc;obtain⟨i1,i2⟩:=Aix (x:=x) (rev:=rev) (ks:=r) (out:=out++[⟨h.key,(Hr rev h.vs Aj).val,(Hr rev h.vs Aj).made,(Hr rev h.vs Aj).rev⟩]) hk' (fun p hp=>by
    rcases List.mem_append.1 hp with hp|hp
    ·exact ho p hp
    ·simp only[List.mem_singleton]at hp;subst hp;refine⟨a1,?_⟩;rcases Aiy (rev:=rev) (vs:=h.vs) (v:=Aj)with e|e
     ·dsimp only;rw[e];simp[Aj]
     ·exact a3 _ e)
   refine⟨i1,?_⟩;simp only[List.length_append,List.length_cons,List.length_nil]at i2 ⊢;omega
  ·obtain⟨i1,i2⟩:=Aix (x:=x) (rev:=rev) (ks:=r) (out:=out) hk' ho;refine⟨i1,?_⟩;simp only[List.length_cons];omega
theorem Amc(p:Spc)(hb:KvBd p.keys):Fn Tryd.prog Ys [.v p.toI] (Is (.tup [.i (ti ((Jw ⟨[],[]⟩ p.rev p.keys []).length:Int)),.i (ti (prsB (Jw ⟨[],[]⟩ p.rev p.keys []) 0)),.i (ti (V2 p.keys 0))]) [.no]):=by
 refine Ym ?_ (by simp)
 have hal:=Ak3 p ⟨[],[]⟩ p.rev hb.1 fun h hh=>(hb.2 h hh).2.1
 obtain⟨q1,q2⟩:=Aix (x:=⟨[],[]⟩) (rev:=p.rev) (ks:=p.keys) (out:=[]) hb.2 (by intro p hp;cases hp)
 obtain⟨hk1,hk2⟩:=hb;simp only[List.length_nil,Nat.zero_add]at q2;generalize Jw ⟨[],[]⟩ p.rev p.keys []=l at*;obtain⟨pn,prv,pfl,ks⟩:=p;dsimp only at hk1 hk2 q2 hal ⊢;obtain⟨R1,hR1⟩:∃R,prsB l 0=R:=⟨_,rfl⟩;obtain⟨R2,hR2⟩:∃R,V2 ks 0=R:=⟨_,rfl⟩;rw[hR1,hR2];have hll:(l.map Pr.toI).length=l.length:=List.length_map _;have hkk:(ks.map Kv.toI).length=ks.length:=List.length_map _;repeat'((conv=>whnf);first|((with_reducible refine Exists.intro ?_ ?_);focus (and_intros<;>first|omega|kernel_rfl|(intro _ hh;cases hh;done)|(simp;done)|decide))|((with_reducible refine CallWp.mk ?_);refine⟨_,hal,?_⟩;rintro _ _ ⟨rfl,rfl⟩))
 all_goals(try(conv=>whnf))
 refine LoopWq.by (X:=Nat × Int) (fun y=>[(8,.v (ti (y.1:Int))),(6,.v (ti y.2))]) (fun y=>y.1≤l.length∧(0≤y.2∧y.2≤3000*(y.1:Int))∧prsB (l.drop y.1) y.2=R1) (fun y=>l.length - y.1) (0,0) (by kernel_rfl) ⟨Nat.zero_le _,⟨by decide,by decide⟩,hR1⟩ ?_
 rintro⟨j,a⟩ ⟨hj,ha,hR⟩;dsimp only at hj ha hR ⊢;have hw:IntKind.i64.wrap ((j:Int)+1)=((j+1:Nat):Int):=(Bf (by omega)).trans (by omega)
 by_cases hjl:j<l.length
 ·obtain⟨e,he⟩:∃x,l[j]?=some x:=⟨_,List.getElem?_eq_getElem hjl⟩;have h3:¬decide ((j:Int)<((l.map Pr.toI).length:Int))=false:=by simp;omega
  have h4:¬decide ((j:Int)<(l.length:Int))=false:=by simp;omega
  have hdr:l.drop j=e::l.drop (j+1):=by rw[List.drop_eq_getElem_cons hjl];rw[List.getElem?_eq_getElem hjl]at he;cases he;rfl
  rw[hdr]at hR;simp only[prsB]at hR;obtain⟨b1,b2⟩:=q1 e (List.mem_of_getElem? he);obtain⟨pk,pv,pm,pr⟩:=e;dsimp only at b1 b2 hR;have hwb1:IntKind.i64.wrap (a+(pk.length:Int))=a+(pk.length:Int):=Bf (by omega)
  have hwb2:IntKind.i64.wrap (a+(pk.length:Int)+(pv.length:Int))=a+(pk.length:Int)+(pv.length:Int):=Bf (by omega)
  repeat'((conv=>whnf);first|((with_reducible refine Ax (by(with_reducible exact Bool.of_not_eq_false (by assumption))) (fun hb=>?_));(try rw[hb]);(try simp only[Aa]at hb))|((with_reducible refine Exists.intro ?_ ?_);focus (and_intros<;>first|omega|(with_reducible rfl)|kernel_rfl))|(with_reducible intro hfact)|((with_reducible refine Drawn.mkV ?_ ?_ ?_ (fun hfact=>?_));(focus (as_aux_lemma=>kernel_rfl));(focus (as_aux_lemma=>kernel_rfl));(focus (as_aux_lemma=>kernel_rfl));(try simp only[dRS]at hfact))|((try dsimp only);(rw[B6 he]))|((try dsimp only);rw[hwb1])|(skip;rw[hwb2])|(skip;rw[hw]))
  all_goals(try(conv=>whnf))
  refine Round.by (j+1,a+(pk.length:Int)+(pv.length:Int)) ?_ ⟨by omega,⟨by dsimp only;omega,by dsimp only;omega⟩,hR⟩ (by dsimp only;omega)
  try dsimp only
  show norm _ _=upd _ _
  kernel_rfl
 have h3:¬decide ((j:Int)<((l.map Pr.toI).length:Int))=true:=by simp;omega
 have h4:¬decide ((j:Int)<(l.length:Int))=true:=by simp;omega
 rw[List.drop_eq_nil_of_le (by omega)]at hR
 have hR:a=R1:=hR;subst hR;repeat'((conv=>whnf);first|((with_reducible refine Aw (by(with_reducible exact Bool.of_not_eq_true (by assumption))) (fun hb=>?_));(try rw[hb]);(try simp only[Aa]at hb))|((with_reducible refine Exists.intro ?_ ?_);focus (and_intros<;>(with_reducible rfl)))|(with_reducible intro hfact))
 all_goals(try(conv=>whnf))
 refine LoopWq.by (X:=Nat × Int) (fun y=>[(9,.v (ti (y.1:Int))),(7,.v (ti y.2))]) (fun y=>y.1≤ks.length∧(0≤y.2∧y.2≤100000*(y.1:Int))∧V2 (ks.drop y.1) y.2=R2) (fun y=>ks.length - y.1) (0,0) (by kernel_rfl) ⟨Nat.zero_le _,⟨by decide,by decide⟩,hR2⟩ ?_
 rintro⟨q,c⟩ ⟨hq,hc,hQ⟩;dsimp only at hq hc hQ ⊢;have hw2:IntKind.i64.wrap ((q:Int)+1)=((q+1:Nat):Int):=(Bf (by omega)).trans (by omega)
 by_cases hql:q<ks.length
 ·obtain⟨h,he⟩:∃x,ks[q]?=some x:=⟨_,List.getElem?_eq_getElem hql⟩;have h5:¬decide ((q:Int)<((ks.map Kv.toI).length:Int))=false:=by simp;omega
  have h6:¬decide ((q:Int)<(ks.length:Int))=false:=by simp;omega
  have hdq:ks.drop q=h::ks.drop (q+1):=by rw[List.drop_eq_getElem_cons hql];rw[List.getElem?_eq_getElem hql]at he;cases he;rfl
  rw[hdq]at hQ;simp only[V2]at hQ;obtain⟨_,b2,_⟩:=hk2 h (List.mem_of_getElem? he);obtain⟨hk,hvs⟩:=h;dsimp only at b2 hQ;have hvl:(hvs.map Ver.toI).length=hvs.length:=List.length_map _;have hwc:IntKind.i64.wrap (c+(((hvs.map Ver.toI).length:Nat):Int))=c+(hvs.length:Int):=by rw[hvl];exact Bf (by omega)
  have hwc2:IntKind.i64.wrap (c+(hvs.length:Int))=c+(hvs.length:Int):=Bf (by omega)
  repeat'((conv=>whnf);first|((with_reducible refine Ax (by(with_reducible exact Bool.of_not_eq_false (by assumption))) (fun hb=>?_));(try rw[hb]);(try simp only[Aa]at hb))|((with_reducible refine Exists.intro ?_ ?_);focus (and_intros<;>first|omega|(with_reducible rfl)|kernel_rfl|(simp;done)))|(with_reducible intro hfact)|((try dsimp only);(rw[B6 he]))|((try dsimp only);rw[hwc])|(skip;rw[hw2]))
  all_goals(try(conv=>whnf))
  refine Round.by (q+1,c+(hvs.length:Int)) ?_ ⟨by omega,⟨by dsimp only;omega,by dsimp only;omega⟩,hQ⟩ (by dsimp only;omega)
  try dsimp only
  show norm _ _=upd _ _
  kernel_rfl
 have h5:¬decide ((q:Int)<((ks.map Kv.toI).length:Int))=true:=by simp;omega
 have h6:¬decide ((q:Int)<(ks.length:Int))=true:=by simp;omega
 rw[List.drop_eq_nil_of_le (by omega)]at hQ
 have hQ:c=R2:=hQ;subst hQ;repeat'((conv=>whnf);first|((with_reducible refine Aw (by(with_reducible exact Bool.of_not_eq_true (by assumption))) (fun hb=>?_));(try rw[hb]);(try simp only[Aa]at hb))|((with_reducible refine Exists.intro ?_ ?_);focus (and_intros<;>first|omega|(with_reducible rfl)|kernel_rfl|(simp;done)))|(with_reducible intro hfact))
 all_goals(try(conv=>whnf))
 exact Done.mk ⟨by rw[←hll];kernel_rfl,by kernel_rfl⟩ (by kernel_rfl)

open Go.Proofs
def Mv(key:Az)(v:Ver):List Kv→List Kv→Bool→List Kv
 | [],out,d=>if d=true then out else out++[⟨key,[v]⟩]
 |h::r,out,d=>
  if h.key=key then Mv key v r ((if d=false∧key<h.key then out++[⟨key,[v]⟩]else out)++[⟨h.key,h.vs++[v]⟩]) true
  else Mv key v r ((if d=false∧key<h.key then out++[⟨key,[v]⟩]else out)++[h]) (if d=false∧key<h.key then true else d)
theorem Kv.one_I(key:Az)(v:Ver):Kv.toI ⟨key,[v]⟩= .agg [.str key,.list [v.toI]]:=rfl
theorem Kv.snoc_I(key:Az)(vs:List Ver)(v:Ver):Kv.toI ⟨key,vs++[v]⟩= .agg [.str key,.list (vs.map Ver.toI++[v.toI])]:=by simp[Kv.toI]
theorem Amu(p:Spc)(key:Az)(v:Ver)(hl:p.keys.length≤100000)(hv:∀h∈p.keys,h.vs.length≤100000):
 Fn Tryd.prog Ac6 [.v p.toI,.v (.str key),.v v.toI] (Is (.v (⟨p.name,p.rev,p.floor,Mv key v p.keys [] false⟩:Spc).toI) [.no,.no,.no]):=by
 refine Acm ?_ (by simp)
 obtain⟨pn,prv,pfl,ks⟩:=p;dsimp only at hl hv ⊢;obtain⟨RES,hRES⟩:∃R,Mv key v ks [] false=R:=⟨_,rfl⟩;rw[hRES];have hks:(ks.map Kv.toI).length=ks.length:=List.length_map _;repeat'((conv=>whnf);((with_reducible refine Exists.intro ?_ ?_);focus (and_intros<;>omega)))
 all_goals(try(conv=>whnf))
 refine LoopWq.by (X:=Nat × List Kv × Bool) (fun y=>[(9,.v (ti (y.1:Int))),(7,.vec 130 2 (y.2.1.map Kv.toI)),(8,.v (.bool y.2.2))]) (fun y=>y.1≤ks.length∧y.2.1.length≤2*y.1∧Mv key v (ks.drop y.1) y.2.1 y.2.2=RES) (fun y=>ks.length - y.1) (0,[],false) (by kernel_rfl) ⟨Nat.zero_le _,Nat.zero_le _,hRES⟩ ?_
 rintro⟨j,out,d⟩ ⟨hj,hol,hR⟩;dsimp only at hj hol hR ⊢;have hw:IntKind.i64.wrap ((j:Int)+1)=((j+1:Nat):Int):=(Bf (by omega)).trans (by omega)
 have hol2:(out.map Kv.toI).length≤200000:=by rw[List.length_map];omega
 by_cases hjl:j<ks.length
 case neg=>
  have h3:¬decide ((j:Int)<((ks.map Kv.toI).length:Int))=true:=by simp;omega
  have h4:¬decide ((j:Int)<(ks.length:Int))=true:=by simp;omega
  rw[List.drop_eq_nil_of_le (by omega)]at hR
  cases d with
  |true=>
   have hR:out=RES:=hR;subst hR;repeat'((conv=>whnf);first|((with_reducible refine Aw (by(with_reducible exact Bool.of_not_eq_true (by assumption))) (fun hb=>?_));(try rw[hb]);(try simp only[Aa]at hb))|((with_reducible refine And.intro (fun hb=>?_) (fun hb=>?_))<;>first|(exact absurd hb (by decide))|((try rw[hb]);(try simp only[Aa]at hb)))|((with_reducible refine Exists.intro ?_ ?_);focus (and_intros<;>first|omega|(with_reducible rfl)|kernel_rfl|(simp;done)))|(with_reducible intro hfact))
   all_goals(try(conv=>whnf))
   (apply dKq<;>kernel_rfl)
  |false=>
   have hR:out++[⟨key,[v]⟩]=RES:=hR;subst hR;repeat'((conv=>whnf);first|((with_reducible refine Aw (by(with_reducible exact Bool.of_not_eq_true (by assumption))) (fun hb=>?_));(try rw[hb]);(try simp only[Aa]at hb))|((with_reducible refine And.intro (fun hb=>?_) (fun hb=>?_))<;>first|(exact absurd hb (by decide))|((try rw[hb]);(try simp only[Aa]at hb)))|((with_reducible refine Exists.intro ?_ ?_);focus (and_intros<;>first|omega|(with_reducible rfl)|kernel_rfl|exact Ah (by rfl)|(simp only[Bu];omega)|(simp;done)))|(with_reducible intro hfact))
   all_goals(try(conv=>whnf))
   refine Done.mk ⟨?_,by kernel_rfl⟩ (by kernel_rfl)
   simp only[Spc.toI,List.map_append,List.map_cons,List.map_nil,Kv.one_I]
   kernel_rfl
 obtain⟨h,he⟩:∃x,ks[j]?=some x:=⟨_,List.getElem?_eq_getElem hjl⟩;have h3:¬decide ((j:Int)<((ks.map Kv.toI).length:Int))=false:=by simp;omega
 have h4:¬decide ((j:Int)<(ks.length:Int))=false:=by simp;omega
 have hdr:ks.drop j=h::ks.drop (j+1):=by rw[List.drop_eq_getElem_cons hjl];rw[List.getElem?_eq_getElem hjl]at he;cases he;rfl
 rw[hdr]at hR;simp only[Mv]at hR;have hvl:=hv h (List.mem_of_getElem? he);obtain⟨hk,hvs⟩:=h;dsimp only at hR hvl;have hvl2:(hvs.map Ver.toI).length≤100000:=by rw[List.length_map];exact hvl
 by_cases heq:hk=key
 ·rw[if_pos heq]at hR;have hnl:¬key<hk:=by rw[heq];exact List.lt_irrefl _
  rw[if_neg (fun c=>hnl c.2)]at hR
  have e1:¬decide (hk=key)=false:=by simpa using heq
  have c1:¬Op.bytesLess key hk=true:=by rw[Kz];simpa using hnl
  cases d with
  |true=>
   repeat'((conv=>whnf);first|((with_reducible refine Ax (by(with_reducible exact Bool.of_not_eq_false (by assumption))) (fun hb=>?_));(try rw[hb]);(try simp only[Aa]at hb);(try subst hb))|((with_reducible refine Aw (by first|(with_reducible exact Bool.of_not_eq_true (by assumption))|(with_reducible rfl)) (fun hb=>?_));(try rw[hb]);(try simp only[Aa]at hb))|((with_reducible refine And.intro (fun hb=>?_) (fun hb=>?_))<;>first|(exact absurd hb (by decide))|((try rw[hb]);(try simp only[Aa]at hb)))|((with_reducible refine Exists.intro ?_ ?_);focus (and_intros<;>first|omega|(with_reducible rfl)|kernel_rfl|exact Ah (by rfl)|exact size_map (fun _=>rfl)|(simp only[Bu];omega)|(simp;done)))|(with_reducible intro hfact)|((with_reducible refine Drawn.mkV ?_ ?_ ?_ (fun hfact=>?_));(focus (as_aux_lemma=>kernel_rfl));(focus (as_aux_lemma=>kernel_rfl));(focus (as_aux_lemma=>kernel_rfl));(try simp only[dRS]at hfact))|((try dsimp only);(rw[B6 he]))|((try dsimp only);rw[hw]))
   all_goals(try(conv=>whnf))
   refine Round.by (j+1,out++[⟨hk,hvs++[v]⟩],true) ?_ ⟨by omega,by simp;omega,hR⟩ (by dsimp only;omega)
   try dsimp only
   simp only[List.map_append,List.map_cons,List.map_nil,Kv.one_I,Kv.snoc_I];show norm _ _=upd _ _
   kernel_rfl
  |false=>
   repeat'((conv=>whnf);first|((with_reducible refine Ax (by first|(with_reducible exact Bool.of_not_eq_false (by assumption))|(with_reducible rfl)) (fun hb=>?_));(try rw[hb]);(try simp only[Aa]at hb);(try subst hb))|((with_reducible refine Aw (by(with_reducible exact Bool.of_not_eq_true (by assumption))) (fun hb=>?_));(try rw[hb]);(try simp only[Aa]at hb))|((with_reducible refine And.intro (fun hb=>?_) (fun hb=>?_))<;>first|(exact absurd hb (by decide))|((try rw[hb]);(try simp only[Aa]at hb)))|((with_reducible refine Exists.intro ?_ ?_);focus (and_intros<;>first|omega|(with_reducible rfl)|kernel_rfl|exact Ah (by rfl)|exact size_map (fun _=>rfl)|(simp only[Bu];omega)|(simp;done)))|(with_reducible intro hfact)|((with_reducible refine Drawn.mkV ?_ ?_ ?_ (fun hfact=>?_));(focus (as_aux_lemma=>kernel_rfl));(focus (as_aux_lemma=>kernel_rfl));(focus (as_aux_lemma=>kernel_rfl));(try simp only[dRS]at hfact))|((try dsimp only);(rw[B6 he]))|((try dsimp only);rw[hw]))
   all_goals(try(conv=>whnf))
   refine Round.by (j+1,out++[⟨hk,hvs++[v]⟩],true) ?_ ⟨by omega,by simp;omega,hR⟩ (by dsimp only;omega)
   try dsimp only
   simp only[List.map_append,List.map_cons,List.map_nil,Kv.one_I,Kv.snoc_I];show norm _ _=upd _ _
   kernel_rfl
 ·rw[if_neg heq]at hR;have e1:¬decide (hk=key)=true:=by simpa using heq
  by_cases hlt:key<hk
  ·have c1:¬Op.bytesLess key hk=false:=by rw[Kz];simpa using hlt
   cases d with
   |true=>
    rw[if_neg (fun c=>by cases c.1),if_neg (fun c=>by cases c.1)]at hR
    repeat'((conv=>whnf);first|((with_reducible refine Ax (by(with_reducible exact Bool.of_not_eq_false (by assumption))) (fun hb=>?_));(try rw[hb]);(try simp only[Aa]at hb))|((with_reducible refine Aw (by first|(with_reducible exact Bool.of_not_eq_true (by assumption))|(with_reducible rfl)) (fun hb=>?_));(try rw[hb]);(try simp only[Aa]at hb))|((with_reducible refine And.intro (fun hb=>?_) (fun hb=>?_))<;>first|(exact absurd hb (by decide))|((try rw[hb]);(try simp only[Aa]at hb)))|((with_reducible refine Exists.intro ?_ ?_);focus (and_intros<;>first|omega|(with_reducible rfl)|kernel_rfl|exact Ah (by rfl)|(simp only[Bu];omega)|(simp;done)))|(with_reducible intro hfact)|((try dsimp only);(rw[B6 he]))|((try dsimp only);rw[hw]))
    all_goals(try(conv=>whnf))
    refine Round.by (j+1,out++[⟨hk,hvs⟩],true) ?_ ⟨by omega,by simp;omega,hR⟩ (by dsimp only;omega)
    try dsimp only
    simp only[List.map_append,List.map_cons,List.map_nil,Kv.one_I,Kv.snoc_I];show norm _ _=upd _ _
    kernel_rfl
   |false=>
    rw[if_pos ⟨rfl,hlt⟩,if_pos ⟨rfl,hlt⟩]at hR;repeat'((conv=>whnf);first|((with_reducible refine Ax (by first|(with_reducible exact Bool.of_not_eq_false (by assumption))|(with_reducible rfl)) (fun hb=>?_));(try rw[hb]);(try simp only[Aa]at hb))|((with_reducible refine Aw (by(with_reducible exact Bool.of_not_eq_true (by assumption))) (fun hb=>?_));(try rw[hb]);(try simp only[Aa]at hb))|((with_reducible refine And.intro (fun hb=>?_) (fun hb=>?_))<;>first|(exact absurd hb (by decide))|((try rw[hb]);(try simp only[Aa]at hb)))|((with_reducible refine Exists.intro ?_ ?_);focus (and_intros<;>first|omega|(with_reducible rfl)|kernel_rfl|exact Ah (by rfl)|(simp only[Bu];omega)|(simp;done)))|(with_reducible intro hfact)|((try dsimp only);(rw[B6 he]))|((try dsimp only);rw[hw]))
    all_goals(try(conv=>whnf))
    refine Round.by (j+1,out++[⟨key,[v]⟩]++[⟨hk,hvs⟩],true) ?_ ⟨by omega,by simp;omega,hR⟩ (by dsimp only;omega)
    try dsimp only
    simp only[List.map_append,List.map_cons,List.map_nil,Kv.one_I,Kv.snoc_I];show norm _ _=upd _ _
    kernel_rfl
  ·have c1:¬Op.bytesLess key hk=true:=by rw[Kz];simpa using hlt
   rw[if_neg (fun c=>hlt c.2),if_neg (fun c=>hlt c.2)]at hR
   cases d with
   |true=>
    repeat'((conv=>whnf);first|((with_reducible refine Ax (by(with_reducible exact Bool.of_not_eq_false (by assumption))) (fun hb=>?_));(try rw[hb]);(try simp only[Aa]at hb))|((with_reducible refine Aw (by first|(with_reducible exact Bool.of_not_eq_true (by assumption))|(with_reducible rfl)) (fun hb=>?_));(try rw[hb]);(try simp only[Aa]at hb))|((with_reducible refine And.intro (fun hb=>?_) (fun hb=>?_))<;>first|(exact absurd hb (by decide))|((try rw[hb]);(try simp only[Aa]at hb)))|((with_reducible refine Exists.intro ?_ ?_);focus (and_intros<;>first|omega|(with_reducible rfl)|kernel_rfl|exact Ah (by rfl)|(simp only[Bu];omega)|(simp;done)))|(with_reducible intro hfact)|((try dsimp only);(rw[B6 he]))|((try dsimp only);rw[hw]))
    all_goals(try(conv=>whnf))
    refine Round.by (j+1,out++[⟨hk,hvs⟩],true) ?_ ⟨by omega,by simp;omega,hR⟩ (by dsimp only;omega)
    try dsimp only
    simp only[List.map_append,List.map_cons,List.map_nil,Kv.one_I,Kv.snoc_I];show norm _ _=upd _ _
    kernel_rfl
   |false=>
    repeat'((conv=>whnf);first|((with_reducible refine Ax (by first|(with_reducible exact Bool.of_not_eq_false (by assumption))|(with_reducible rfl)) (fun hb=>?_));(try rw[hb]);(try simp only[Aa]at hb))|((with_reducible refine Aw (by(with_reducible exact Bool.of_not_eq_true (by assumption))) (fun hb=>?_));(try rw[hb]);(try simp only[Aa]at hb))|((with_reducible refine And.intro (fun hb=>?_) (fun hb=>?_))<;>first|(exact absurd hb (by decide))|((try rw[hb]);(try simp only[Aa]at hb)))|((with_reducible refine Exists.intro ?_ ?_);focus (and_intros<;>first|omega|(with_reducible rfl)|kernel_rfl|exact Ah (by rfl)|(simp only[Bu];omega)|(simp;done)))|(with_reducible intro hfact)|((try dsimp only);(rw[B6 he]))|((try dsimp only);rw[hw]))
    all_goals(try(conv=>whnf))
    refine Round.by (j+1,out++[⟨hk,hvs⟩],false) ?_ ⟨by omega,by simp;omega,hR⟩ (by dsimp only;omega)
    try dsimp only
    simp only[List.map_append,List.map_cons,List.map_nil,Kv.one_I,Kv.snoc_I];show norm _ _=upd _ _
    kernel_rfl
end Go.Ab
