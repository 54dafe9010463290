/- Lemmas -/
import Derived.Test.YtkpojedpcabojaaDoorWLQ
import Derived.Deep.Slices
import Derived.ChangeSame
import Derived.ChangeArms
import Derived.ProofKit
import Derived.OpenShut
set_option linter.unusedVariables false
set_option linter.unusedSimpArgs false
set_option maxRecDepth 100000
set_option maxHeartbeats 40000000
namespace Go.Ab
open Go.Proofs
theorem Anf(R:List Spc)(n:Az)(hl:R.length≤100000)(hf:Ev n R 0= -1):
 Fn Tryd.prog Zs [rT R,.v (.str n)] (Is (.tup [.i (ti 0),.i (ti 0)]) [rT R,.no]):=by
 refine Aam ?_ (by simp)
 have hfi:=Z3 R n hl;rw[hf]at hfi;repeat'((conv=>whnf);first|((with_reducible refine Ax (by first|((with_reducible refine decide_eq_true ?_);omega)|(with_reducible rfl)) (fun hb=>?_));(try rw[hb]);(try simp only[Aa]at hb))|((with_reducible refine Exists.intro ?_ ?_);focus (and_intros<;>first|kernel_rfl|(intro _ hh;cases hh;done)|(simp;done)|decide))|((with_reducible refine CallWp.mk ?_);refine⟨_,hfi,?_⟩;rintro _ _ ⟨rfl,rfl⟩))
 all_goals(try(conv=>whnf))
 all_goals((apply dKq<;>kernel_rfl))
theorem Ana(R:List Spc)(n:Az)(hl:R.length≤100000)(i:Nat)(p:Spc)(hf:Ev n R 0=(i:Int))(he:R[i]?=some p)(hb:KvBd p.keys)(K B V:Int)
 (hK:((Ls ⟨[],[]⟩ p.rev p.keys []).length:Int)=K) (hB:prsB (Ls ⟨[],[]⟩ p.rev p.keys []) 0=B) (hV:Ag4 p.keys 0=V):
 Fn Tryd.prog Zs [rT R,.v (.str n)] (Is (.tup [.i (ti B),.i (ti K)]) [rT R,.no]):=by
 refine Aam ?_ (by simp)
 have hfi:=Z3 R n hl;rw[hf]at hfi;have hil:=(List.getElem?_eq_some_iff.1 he).1;have hlm:((R.map Spc.toI).map D.it).length=R.length:=by simp
 have hco:=Akp p hb;rw[hK,hB,hV]at hco;obtain⟨pn,pr,pf,pk⟩:=p
 (try dsimp only at hco)
 clear hK hB hV hb;repeat'((conv=>whnf);first|((with_reducible refine Aw (by first|((with_reducible refine decide_eq_false ?_);omega)|(with_reducible rfl)) (fun hb=>?_));(try rw[hb]);(try simp only[Aa]at hb))|((with_reducible refine Exists.intro ?_ ?_);focus (and_intros<;>first|omega|(with_reducible rfl)|kernel_rfl|(intro _ hh;cases hh;done)|(simp;done)|decide))|((with_reducible refine CallWp.mk ?_);refine⟨_,hfi,?_⟩;rintro _ _ ⟨rfl,rfl⟩)|((with_reducible refine CallWp.mk ?_);refine⟨_,hco,?_⟩;rintro _ _ ⟨rfl,rfl⟩)|(((with_reducible apply A3));(focus rfl);(focus (simp only[D.at,D.put,D.kid,D.setKid,mkSt,Ap,D.toI,toIs,Ak,Af,he,hlm]<;>exact rfl));(try(focus exact rfl))))
 all_goals(try(conv=>whnf))
 all_goals((apply dKq<;>kernel_rfl))
theorem Aka{m:Nat}{s:Sto}(h:SInv m s)(hm:m≤80000)(hl:s.sp.length≤8)(hc:CInv s)(hv:VInv s)(n:Az):
 Fn Tryd.prog Zs [rT s.ref,.v (.str n)] (Is (.tup [.i (ti (s.tal n).bytes),.i (ti (s.tal n).keys)]) [rT s.ref,.no]):=by
 have hl2:=Af9 s;cases hf:s.fi n with
 |none=>
  rw[(Sto.fi_none hf).2];exact Anf s.ref n (by omega) (Aju hf)
 |some j=>
  obtain⟨i,h1,h2,_⟩:=Aii (s:=s) (n:=n) (by rw[hf];rfl)
  obtain⟨v1,v2,_⟩:=Ahg (n:=n) (R:=(s.tal n).rev) (l:=s.l) (fun y hy=>by
   have h3:=h.wi.2 y hy;refine⟨h3.1,h3.2.1,(h.lb.held y hy).2.1,fun e v hv'=>?_⟩
   have h4:=(h3.2.2 v hv').2;dsimp only at h4;rw[e]at h4;exact h4) h.wi.1 hc.vk
  have hall:Ls ⟨[],[]⟩ (s.tal n).rev (keysOf n s.l) []=(Lh n (s.tal n).rev s.l).map prOf:=by
   rw[Agn,List.nil_append, ←Ajh fun y hy=>(h.wi.2 y hy).2.1,List.filter_eq_self.2]
   intro p _;simp only[decide_eq_true_eq];exact⟨List.not_lt.1 (List.not_lt_nil _),.inl rfl⟩
  have hcn:=hc.cnt n;refine Ana s.ref n (by omega) i (s.spcS n) h1 h2 (Aie h hm hc n).1 (s.tal n).keys (s.tal n).bytes _ ?_ ?_ rfl
  ·show((Ls ⟨[],[]⟩ (s.tal n).rev (keysOf n s.l) []).length:Int)=_;rw[hall,List.length_map,v1,hcn.1]
  ·show prsB (Ls ⟨[],[]⟩ (s.tal n).rev (keysOf n s.l) []) 0=_;rw[hall,Ajn,v2,hcn.2];omega
abbrev rF(R:List Spc):SV:=.own [] (.ptr (.it (.agg [.list (R.map Spc.toI)])))
theorem Amf{s:Sto}(n:Az)(cs:List Chg):(s.writeM n cs).1.sp.length=s.sp.length:=by
 unfold Sto.writeM;split
 ·rfl
 ·split
  ·rfl
  ·dsimp only;rw[List.length_set]
theorem Aj8{m:Nat}{s:Sto}(h:SInv m s)(hl:s.sp.length≤8)(hc:CInv s)(hv:VInv s)(n:Az)(cs:List Chg)(hcs:cs.length≤1000)(hm:m+cs.length+1≤80000):
 Fn Tryd.prog Ad6 [rT s.ref,.v (.str n),.v (.list (cs.map Chg.toI))] (Is (.tup [.i (ti (s.afterM n cs).1),.i (ti (s.afterM n cs).2)]) [rF s.ref,.no,.no]):=by
 have hl2:=Af9 s;have hw:=Am8 h (by omega) hl hc n cs hcs
 have hn:=Aka (h.write n cs) hm (by rw[Amf];exact hl) (hc.write h n cs) (hv.write h n cs) n
 unfold Sto.afterM;generalize s.writeM n cs=Z at*;obtain⟨s',r1,r2⟩:=Z;dsimp only at hw hn ⊢;generalize (s'.tal n).bytes=B at*;generalize (s'.tal n).keys=K at*;generalize s.ref=R at*;have hlm:(R.map Spc.toI).length=R.length:=List.length_map _;refine Ac8 ?_ (by simp)
 repeat'((conv=>whnf);first|((with_reducible refine Exists.intro ?_ ?_);focus (and_intros<;>first|omega|(with_reducible rfl)|kernel_rfl|(intro _ hh;cases hh;done)|exact size_map (fun _=>rfl)|(simp only[Bu];omega)|(simp;done)|decide))|((with_reducible refine CallWp.mk ?_);refine⟨_,hw,?_⟩;rintro _ _ ⟨rfl,rfl⟩)|((with_reducible refine CallWp.mk ?_);refine⟨_,hn,?_⟩;rintro _ _ ⟨rfl,rfl⟩)|(((with_reducible apply A9));(focus (simp only[D.at,D.put,D.kid,D.setKid,mkSt,Ap,D.toI,toIs,Ak,Af,hlm]<;>exact rfl))))
 all_goals(try(conv=>whnf))
 all_goals((apply dKq<;>kernel_rfl))

open Go.Proofs
def aw5:Sto:=⟨[([116],⟨1,0,10,1,1⟩)],[⟨[1,116,97],[⟨1,1,[49,50,51,52,53,54,55,56,57],false⟩]⟩]⟩
theorem We:aw1.writeM [116] [⟨[97],[49,50,51,52,53,54,55,56,57],false⟩]=(aw5,1,0):=by
 have h1:aw1.fi [116]=some 0:=by rfl
 have h2:K6 [⟨[97],[49,50,51,52,53,54,55,56,57],false⟩] []=some [⟨[97],[49,50,51,52,53,54,55,56,57],false⟩]:=by rfl
 have h3:Dc (([⟨[97],[49,50,51,52,53,54,55,56,57],false⟩]:List Chg).map Chg.key)=[[97]]:=by simp[Dc]
 unfold Sto.writeM;simp only[h1,h2,h3];rfl
theorem inv1:SInv 0 aw1:=by
 have h1:=Ajr.open (nm:=D9 [116]) [116] Aha;rw[Ai9]at h1;exact h1
theorem inv5:SInv 2 aw5:=by
 have h1:=inv1.write [116] [⟨[97],[49,50,51,52,53,54,55,56,57],false⟩];rw[We]at h1;exact h1
theorem Xs:aw5.fitsM [116] 8 2 [⟨[97],[49,50,51,52,53,54,55,56],false⟩]=true:=by
 obtain⟨h1,h2⟩:=Mb inv5 (n:=[116]) (i:=0) (cs:=[⟨[97],[49,50,51,52,53,54,55,56],false⟩]) (F:=[⟨[97],[49,50,51,52,53,54,55,56],false⟩]) (by rfl) (by rfl)
 unfold Sto.fitsM Sto.afterM;dsimp only;rw[h1,h2];rfl
theorem Xu:aw5.fitsM [116] 8 2 [⟨[98],[],false⟩]=false:=by
 obtain⟨h1,h2⟩:=Mb inv5 (n:=[116]) (i:=0) (cs:=[⟨[98],[],false⟩]) (F:=[⟨[98],[],false⟩]) (by rfl) (by rfl)
 unfold Sto.fitsM Sto.afterM;dsimp only;rw[h1,h2];rfl
theorem Yy:Fn Tryd.prog Da [sP aw1,.v (.str [116]),.v (.list [(Chg.mk [97] [49,50,51,52,53,54,55,56,57] false).toI])] (Is (.tup [.i (ti 1),.i (ti 0)]) [sP aw5,.no,.no]):=by
 have hw:=Air inv1 (by omega) [116] [⟨[97],[49,50,51,52,53,54,55,56,57],false⟩] (by decide) (by decide)
 rw[We]at hw;exact hw
theorem Yo:Fn Tryd.prog Jj [sP aw5,.v (.agg [.str [116],ti 8,ti 2]),.v (.list [(Chg.mk [97] [49,50,51,52,53,54,55,56] false).toI])] (Is (.v (.bool true)) [sP aw5,.no,.no]):=by
 have h1:=Lu inv5 (by omega) [116] (by decide) 8 2 [⟨[97],[49,50,51,52,53,54,55,56],false⟩] (by decide)
 rw[Xs]at h1;exact h1
theorem Ys:Fn Tryd.prog Jj [sP aw5,.v (.agg [.str [116],ti 8,ti 2]),.v (.list [(Chg.mk [98] [] false).toI])] (Is (.v (.bool false)) [sP aw5,.no,.no]):=by
 have h2:=Lu inv5 (by omega) [116] (by decide) 8 2 [⟨[98],[],false⟩] (by decide)
 rw[Xu]at h2;exact h2
theorem Jt:Fn Tryd.prog Kx [] (Is (.v (.bool true)) []):=by
 refine Kc ?_ (by simp)
 repeat'((conv=>whnf);((with_reducible refine Exists.intro ?_ ?_);focus (and_intros<;>decide)))
 all_goals(try(conv=>whnf))
 generalize hKK:F7 Tryd.prog _ _=KK;as_aux_lemma=>
  repeat'((conv=>whnf);first|((with_reducible refine Exists.intro ?_ ?_);focus (and_intros<;>first|omega|(intro _ hh;cases hh;done)))|((with_reducible refine CallWp.mk ?_);refine⟨_,Adg,?_⟩;rintro _ _ ⟨rfl,rfl⟩))
  all_goals(try(conv=>whnf))
  rw[←hKK];clear hKK;as_aux_lemma=>
   repeat'((conv=>whnf);((with_reducible refine Exists.intro ?_ ?_);focus (and_intros<;>first|kernel_rfl|(simp;done)|decide)))
   all_goals(try(conv=>whnf))
   generalize hKK:F7 Tryd.prog _ _=KK;as_aux_lemma=>
    repeat'((conv=>whnf);first|((with_reducible refine Exists.intro ?_ ?_);focus (and_intros<;>first|(intro _ hh;cases hh;done)|(simp;done)))|((with_reducible refine CallWp.mk ?_);refine⟨_,Ae1,?_⟩;rintro _ _ ⟨rfl,rfl⟩))
    all_goals(try(conv=>whnf))
    rw[←hKK];clear hKK;as_aux_lemma=>
     repeat'((conv=>whnf);((with_reducible refine Exists.intro ?_ ?_);focus (and_intros<;>first|kernel_rfl|exact Ah (by rfl)|(simp;done)|decide)))
     all_goals(try(conv=>whnf))
     generalize hKK:F7 Tryd.prog _ _=KK;as_aux_lemma=>
      repeat'((conv=>whnf);first|((with_reducible refine Exists.intro ?_ ?_);focus (and_intros<;>first|(intro _ hh;cases hh;done)|(simp;done)))|((with_reducible refine CallWp.mk ?_);refine⟨_,Yy,?_⟩;rintro _ _ ⟨rfl,rfl⟩))
      all_goals(try(conv=>whnf))
      rw[←hKK];clear hKK;as_aux_lemma=>
       repeat'((conv=>whnf);first|((with_reducible refine Ax (by(with_reducible rfl)) (fun hb=>?_));(try rw[hb]);(try simp only[Aa]at hb))|((with_reducible refine Exists.intro ?_ ?_);focus (and_intros<;>first|omega|kernel_rfl|(intro _ hh;cases hh;done)|exact Ah (by rfl)|(simp;done)|decide))|((with_reducible refine CallWp.mk ?_);refine⟨_,Yo,?_⟩;rintro _ _ ⟨rfl,rfl⟩)|((with_reducible refine CallWp.mk ?_);refine⟨_,Ys,?_⟩;rintro _ _ ⟨rfl,rfl⟩))
       all_goals(try(conv=>whnf))
       (apply dKq<;>kernel_rfl)

open Go.Proofs
abbrev tQ:Az:=[116]

open Go.Proofs
theorem Ams{m:Nat}{s:Sto}(h:SInv m s)(hm:m≤80000)(h8:s.sp.length≤8):Fn Tryd.prog Aci [sP s] (Is (.v (.list (s.ref.map Spc.toI))) [sP s]):=by
 have hsp:=Akw s h.nd (by omega)
 have hin:∀n∈s.names,n.length≤1000∧(s.fi n).isSome=true:=fun n hn=>by
  have hf:=Agp.1 hn;refine⟨?_,hf⟩;obtain⟨i,hi⟩:=Option.isSome_iff_exists.1 hf;have:=h.name hi;omega
 have hd:=Ak9 ofC s (h.bd (by omega)) s.names hin (by unfold Sto.names;rw[Ajd,List.length_map];omega) hsp
 rw[show s.names.map s.dumpS=s.ref from List.map_congr_left fun n hn=>by
  unfold Sto.dumpS Sto.spcS;obtain⟨i,hi⟩:=Option.isSome_iff_exists.1 (hin n hn).2;rw[Ak8 (h.name hi) h.wi.1 fun y hy=>(h.wi.2 y hy).1]]at hd
 exact hd
theorem Ami{m:Nat}{s:Sto}(h:SInv m s)(hm:m≤80000)(h8:s.sp.length≤8)(hc:CInv s):Ak1 s.ref:=by
 have hlr:=Af9 s;refine⟨by omega,fun p hp=>?_⟩
 obtain⟨n,_,rfl⟩:=List.mem_map.1 hp;have hk:=(Aie h (by omega) hc n).2
 exact⟨Nat.le_trans hk.1 (by omega),fun x hx=>Nat.le_trans (hk.2 x hx) (by omega)⟩
structure QInv(j:Nat)(s:Sto):Prop where
 inv:SInv (101*j) s
 c:CInv s
 v:VInv s
 nm:s.sp.map (·.1)=[tQ]
theorem QInv.len{j:Nat}{s:Sto}(h:QInv j s):s.sp.length=1:=by
 have:=congrArg List.length h.nm;simpa using this
theorem QInv.write{j:Nat}{s:Sto}(h:QInv j s){cs:List Chg}(hcs:cs.length≤100):QInv (j+1) (s.writeM tQ cs).1:=by
 refine⟨(h.inv.write tQ cs).mono (by omega),h.c.write h.inv tQ cs,h.v.write h.inv tQ cs,?_⟩
 rw[←h.nm];unfold Sto.writeM;split
 ·rfl
 ·rename_i i hi;split
  ·rfl
  ·exact Agj hi
theorem QInv.t{j:Nat}{s:Sto}(h:QInv j s):∃i,s.fi tQ=some i:=by
 have:s.fi tQ=(aw1).fi tQ:=Ajf (s:=aw1) (s':=s) (by rw[h.nm];rfl) tQ
 exact⟨0,this⟩
theorem QInv.u{j:Nat}{s:Sto}(h:QInv j s):s.fi [117]=none:=Ajf (s:=aw1) (s':=s) (by rw[h.nm];rfl) [117]
theorem QInv.ref{j:Nat}{s:Sto}(h:QInv j s):s.ref=[s.spcS tQ]:=by
 unfold Sto.ref Sto.names;rw[h.nm];simp[Dc]
theorem Anh:QInv 0 aw1:=by
 have hc:CInv ⟨[],[]⟩:=⟨fun n=>⟨rfl,rfl⟩,by intro h hh;cases hh⟩
 have hv:VInv ⟨[],[]⟩:=fun n=>rfl
 have h1:=hc.open (D9 tQ) tQ;have h2:=hv.open (D9 tQ) tQ;rw[Ai9]at h1 h2;exact⟨inv1,h1,h2,rfl⟩
theorem Amr:Fn Tryd.prog Mg [rT [],.v (.str [116])] (Is (.v (ti 0)) [rT aw1.ref,.no]):=by
 have h:=Ani Ajr (by simp) [116]
 rw[Ai9]at h;rw[show(Sto.mk [] []).ref=[]by unfold Sto.ref Sto.names;simp[Dc]]at h
 exact h

open Go.Proofs
theorem Akq{m:Nat}{s:Sto}(h:SInv m s)(hl:s.sp.length≤8)(hc:CInv s)(hv:VInv s)(n:Az)(mb mk:Int)(cs:List Chg)(hcs:cs.length≤1000)(hm:m+cs.length+1≤80000):
 Fn Tryd.prog Afk [rT s.ref,.v (tenI n mb mk),.v (.list (cs.map Chg.toI))] (Is (.v (.bool (s.fitsM n mb mk cs))) [rF s.ref,.no,.no]):=by
 have ha:=Aj8 h hl hc hv n cs hcs hm;have hn:=Aka h (by omega) hl hc hv n
 unfold Sto.fitsM;generalize s.afterM n cs=A at*;generalize (s.tal n).bytes=B at*;generalize (s.tal n).keys=K at*;generalize s.ref=R at*;obtain⟨a1,a2⟩:=A;dsimp only at ha ⊢;refine Ae2 ?_ (by simp)
 repeat'((conv=>whnf);first|((with_reducible refine Ax (by(with_reducible rfl)) (fun hb=>?_));(try rw[hb]);(try simp only[Aa]at hb))|((with_reducible refine Aw (by(with_reducible rfl)) (fun hb=>?_));(try rw[hb]);(try simp only[Aa]at hb))|((with_reducible refine And.intro (fun hb=>?_) (fun hb=>?_))<;>(((try rw[hb]);(try simp only[Aa]at hb))))|((with_reducible refine Exists.intro ?_ ?_);focus (and_intros<;>first|omega|kernel_rfl|(intro _ hh;cases hh;done)|(simp;done)|decide))|((with_reducible refine CallWp.mk ?_);refine⟨_,ha,?_⟩;rintro _ _ ⟨rfl,rfl⟩)|((with_reducible refine CallWp.mk ?_);refine⟨_,hn,?_⟩;rintro _ _ ⟨rfl,rfl⟩))
 all_goals(try(conv=>whnf))
 all_goals(refine Done.mk ⟨?_,by kernel_rfl⟩ (by kernel_rfl))
 all_goals(refine SV.bool_congr ?_)
 all_goals(rw[Bool.eq_iff_iff];simp only[Bool.and_eq_true,decide_eq_true_eq,Bool.false_eq_true,true_iff,false_iff,iff_true,iff_false];omega)
theorem Akg(w:List (List Chg))(l:List Chg)(n:Az)(mb mk:Int)(h:F9 (l::w)=true∨1000<n.length)(hwb:w.length*24≤140737488351232):
 Fn Tryd.prog Sg [.v (.list (w.map fun l=>I.list (l.map Chg.toI))),.v (.list (l.map Chg.toI)),.v (.agg [.str n,ti mb,ti mk])] (Is (.v (.bool true)) [.no,.no,.no]):=by
 refine Y5 ?_ (by simp)
 have hwl:(w.map fun l=>I.list (l.map Chg.toI)).length=w.length:=List.length_map _
 have hg:=L6 (l::w);cases hG:F9 (l::w)with
 |true=>
  rw[hG]at hg;repeat'((conv=>whnf);first|((with_reducible refine Ax (by first|(with_reducible assumption)|(with_reducible rfl)) (fun hb=>?_));(try rw[hb]);(try simp only[Aa]at hb))|((with_reducible refine And.intro (fun hb=>?_) (fun hb=>?_))<;>first|(exact absurd hb (by decide))|((try rw[hb]);(try simp only[Aa]at hb)))|((with_reducible refine Exists.intro ?_ ?_);focus (and_intros<;>first|omega|(with_reducible rfl)|kernel_rfl|(intro _ hh;cases hh;done)|exact Ah (by rfl)|exact size_map (fun _=>rfl)|(simp only[Bu];omega)|(simp;done)|decide))|((with_reducible refine CallWp.mk ?_);refine⟨_,Jt,?_⟩;rintro _ _ ⟨rfl,rfl⟩)|((with_reducible refine CallWp.mk ?_);refine⟨_,hg,?_⟩;rintro _ _ ⟨rfl,rfl⟩))
  all_goals(try(conv=>whnf))
  all_goals((apply dKq<;>kernel_rfl))
 |false=>
  rw[hG]at hg h;have h:1000<n.length:=by simpa using h
  repeat'((conv=>whnf);first|((with_reducible refine Ax (by first|((with_reducible refine decide_eq_true ?_);omega)|(with_reducible rfl)) (fun hb=>?_));(try rw[hb]);(try simp only[Aa]at hb))|((with_reducible refine Aw (by first|(with_reducible assumption)|(with_reducible rfl)) (fun hb=>?_));(try rw[hb]);(try simp only[Aa]at hb))|((with_reducible refine And.intro (fun hb=>?_) (fun hb=>?_))<;>first|(exact absurd hb (by decide))|((try rw[hb]);(try simp only[Aa]at hb)))|((with_reducible refine Exists.intro ?_ ?_);focus (and_intros<;>first|omega|(with_reducible rfl)|kernel_rfl|(intro _ hh;cases hh;done)|exact Ah (by rfl)|exact size_map (fun _=>rfl)|(simp only[Bu];omega)|(simp;done)|decide))|(with_reducible intro hfact)|((with_reducible refine CallWp.mk ?_);refine⟨_,Jt,?_⟩;rintro _ _ ⟨rfl,rfl⟩)|((with_reducible refine CallWp.mk ?_);refine⟨_,hg,?_⟩;rintro _ _ ⟨rfl,rfl⟩))
  all_goals(try(conv=>whnf))
  all_goals first
   |(exfalso;omega)
   |(apply dKq<;>kernel_rfl)
theorem Ajk(w:List (List Chg))(l:List Chg)(n:Az)(mb mk:Int)(hG:F9 (l::w)=false)(hn:n.length≤1000)(hwb:w.length*24≤140737488351232):
 Fn Tryd.prog Sg [.v (.list (w.map fun l=>I.list (l.map Chg.toI))),.v (.list (l.map Chg.toI)),.v (.agg [.str n,ti mb,ti mk])] (Is (.v (.bool true)) [.no,.no,.no]):=by
 refine Y5 ?_ (by simp)
 have hg:=L6 (l::w);rw[hG]at hg;obtain⟨g1,g2⟩:=Wv hG;rw[List.length_cons]at g1;have hwl:(w.map fun l=>I.list (l.map Chg.toI)).length=w.length:=List.length_map _
 repeat'((conv=>whnf);first|((with_reducible refine Aw (by first|(with_reducible assumption)|((with_reducible refine decide_eq_false ?_);omega)|(with_reducible rfl)) (fun hb=>?_));(try rw[hb]);(try simp only[Aa]at hb))|((with_reducible refine And.intro (fun hb=>?_) (fun hb=>?_))<;>first|(exact absurd hb (by decide))|((try rw[hb]);(try simp only[Aa]at hb)))|((with_reducible refine Exists.intro ?_ ?_);focus (and_intros<;>first|omega|(with_reducible rfl)|kernel_rfl|(intro _ hh;cases hh;done)|exact Ah (by rfl)|exact size_map (fun _=>rfl)|(simp only[Bu];omega)|(simp;done)|decide))|(with_reducible intro hfact)|((with_reducible refine CallWp.mk ?_);refine⟨_,Jt,?_⟩;rintro _ _ ⟨rfl,rfl⟩)|((with_reducible refine CallWp.mk ?_);refine⟨_,hg,?_⟩;rintro _ _ ⟨rfl,rfl⟩))
 all_goals(try(conv=>whnf))
 generalize hKK:F7 Tryd.prog _ _=KK;as_aux_lemma=>
  repeat'((conv=>whnf);first|((with_reducible refine Exists.intro ?_ ?_);focus (and_intros<;>((intro _ hh;cases hh;done))))|((with_reducible refine CallWp.mk ?_);refine⟨_,Adg,?_⟩;rintro _ _ ⟨rfl,rfl⟩))
  all_goals(try(conv=>whnf))
  rw[←hKK];clear hKK;as_aux_lemma=>
   repeat'((conv=>whnf);((with_reducible refine Exists.intro ?_ ?_);focus (and_intros<;>first|kernel_rfl|(simp;done)|decide)))
   all_goals(try(conv=>whnf))
   generalize hKK:F7 Tryd.prog _ _=KK;as_aux_lemma=>
    repeat'((conv=>whnf);first|((with_reducible refine Exists.intro ?_ ?_);focus (and_intros<;>first|(intro _ hh;cases hh;done)|(simp;done)))|((with_reducible refine CallWp.mk ?_);refine⟨_,Ae1,?_⟩;rintro _ _ ⟨rfl,rfl⟩))
    all_goals(try(conv=>whnf))
    rw[←hKK];clear hKK;as_aux_lemma=>
     repeat'((conv=>whnf);((with_reducible refine Exists.intro ?_ ?_);focus (and_intros<;>first|kernel_rfl|(simp;done)|decide)))
     all_goals(try(conv=>whnf))
     generalize hKK:F7 Tryd.prog _ _=KK;as_aux_lemma=>
      repeat'((conv=>whnf);first|((with_reducible refine Exists.intro ?_ ?_);focus (and_intros<;>first|(intro _ hh;cases hh;done)|(simp;done)))|((with_reducible refine CallWp.mk ?_);refine⟨_,Amr,?_⟩;rintro _ _ ⟨rfl,rfl⟩))
      all_goals(try(conv=>whnf))
      rw[←hKK];clear hKK;as_aux_lemma=>
       repeat'((conv=>whnf);first|((with_reducible refine Exists.intro ?_ ?_);focus (and_intros<;>(with_reducible rfl)))|(with_reducible intro hfact))
       all_goals(try(conv=>whnf))
       refine LoopWq.by (X:=Nat × Sto) (fun y=>[(33,.v (ti (y.1:Int))),(7,sP y.2),(8,rT y.2.ref)]) (fun y=>y.1≤w.length∧QInv y.1 y.2) (fun y=>w.length - y.1) (0,aw1) (by kernel_rfl) ⟨Nat.zero_le _,Anh⟩ ?_
       rintro⟨j,s⟩ ⟨hj,hI⟩;dsimp only at hj hI ⊢;have hw:IntKind.i64.wrap ((j:Int)+1)=((j+1:Nat):Int):=(Bf (by omega)).trans (by omega)
       have h8:=hI.len;by_cases hjl:j<w.length
       ·obtain⟨x,hx⟩:∃x,w[j]?=some x:=⟨_,List.getElem?_eq_getElem hjl⟩;have h3:¬decide ((j:Int)<((w.map fun l=>I.list (l.map Chg.toI)).length:Int))=false:=by simp;omega
        have h4:¬decide ((j:Int)<(w.length:Int))=false:=by simp;omega
        have hxl:=g2 x (List.mem_cons_of_mem _ (List.mem_of_getElem? hx));have hwt:=Air hI.inv (by omega) tQ x (by decide) (by omega)
        have hwr:=Am8 hI.inv (by omega) (by omega) hI.c tQ x (by omega)
        have hI2:=hI.write hxl;generalize s.writeM tQ x=Z at*;obtain⟨s',r1,r2⟩:=Z;dsimp only at hwt hwr hI2;generalize s.ref=R at*;repeat'((conv=>whnf);first|((with_reducible refine Ax (by(with_reducible exact Bool.of_not_eq_false (by assumption))) (fun hb=>?_));(try rw[hb]);(try simp only[Aa]at hb))|((with_reducible refine Exists.intro ?_ ?_);focus (and_intros<;>first|omega|kernel_rfl|(intro _ hh;cases hh;done)|(simp;done)|decide))|((try dsimp only);(rw[B6 hx]))|((with_reducible refine CallWp.mk ?_);refine⟨_,hwt,?_⟩;rintro _ _ ⟨rfl,rfl⟩))
        all_goals(try(conv=>whnf))
        generalize hKK:F7 Tryd.prog _ _=KK;as_aux_lemma=>
         repeat'((conv=>whnf);first|((with_reducible refine Exists.intro ?_ ?_);focus (and_intros<;>first|(intro _ hh;cases hh;done)|(simp;done)))|((with_reducible refine CallWp.mk ?_);refine⟨_,hwr,?_⟩;rintro _ _ ⟨rfl,rfl⟩))
         all_goals(try(conv=>whnf))
         rw[←hKK];clear hKK;as_aux_lemma=>
          repeat'((conv=>whnf);(skip;rw[hw]))
          all_goals(try(conv=>whnf))
          refine Round.by (j+1,s') ?_ ⟨by omega,hI2⟩ (by dsimp only;omega)
          try dsimp only
          show norm _ _=upd _ _
          kernel_rfl
       have h3:¬decide ((j:Int)<((w.map fun l=>I.list (l.map Chg.toI)).length:Int))=true:=by simp;omega
       have h4:¬decide ((j:Int)<(w.length:Int))=true:=by simp;omega
       have hl0:=g2 l (List.mem_cons_self ..);have hcl:(l.map Chg.toI).length=l.length:=List.length_map _;have hf1:=Lu hI.inv (by omega) n hn mb mk l (by omega)
       have hf2:=Akq hI.inv (by omega) hI.c hI.v n mb mk l (by omega) (by omega)
       have hdu:=Ams hI.inv (by omega) (by omega)
       have hsa:=Akt s.ref s.ref (Ami hI.inv (by omega) (by omega) hI.c) (Ami hI.inv (by omega) (by omega) hI.c)
       rw[show decide (s.ref=s.ref)=true by simp]at hsa
       generalize s.ref=R at*;generalize s.fitsM n mb mk l=F at*;have gF:¬decide (F=F)=false:=by simp
       repeat'((conv=>whnf);first|((with_reducible refine Ax (by first|(with_reducible exact Bool.of_not_eq_false (by assumption))|(with_reducible rfl)) (fun hb=>?_));(try rw[hb]);(try simp only[Aa]at hb))|((with_reducible refine Aw (by first|(with_reducible assumption)|(with_reducible exact Bool.of_not_eq_true (by assumption))) (fun hb=>?_));(try rw[hb]);(try simp only[Aa]at hb))|((with_reducible refine Exists.intro ?_ ?_);focus (and_intros<;>first|omega|kernel_rfl|(intro _ hh;cases hh;done)|(simp;done)|decide))|((with_reducible refine Drawn.mkV ?_ ?_ ?_ (fun hfact=>?_));(focus (as_aux_lemma=>kernel_rfl));(focus (as_aux_lemma=>kernel_rfl));(focus (as_aux_lemma=>kernel_rfl));(try simp only[dRS]at hfact))|((with_reducible refine CallIs.mk ?_);refine⟨_,_,hf1,?_⟩)|((with_reducible refine CallIs.mk ?_);refine⟨_,_,hf2,?_⟩)|((with_reducible refine CallIs.mk ?_);refine⟨_,_,hdu,?_⟩)|((with_reducible refine CallIs.mk ?_);refine⟨_,_,hsa,?_⟩))
       all_goals(try(conv=>whnf))
       all_goals((apply dKq<;>kernel_rfl))
theorem Amv(w:List (List Chg))(l:List Chg)(n:Az)(mb mk:Int)(hwb:w.length*24≤140737488351232):
 Fn Tryd.prog Sg [.v (.list (w.map fun l=>I.list (l.map Chg.toI))),.v (.list (l.map Chg.toI)),.v (.agg [.str n,ti mb,ti mk])] (Is (.v (.bool true)) [.no,.no,.no]):=by
 by_cases h:F9 (l::w)=true∨1000<n.length
 ·exact Akg w l n mb mk h hwb
 ·exact Ajk w l n mb mk (by cases hG:F9 (l::w)with|false=>rfl|true=>exact absurd (.inl hG) h) (by omega) hwb

open Go.ChangeShapes Go.Deep
inductive Sh where
 |int (k:IntKind)
 |bool
 |str
 |st (l:List Sh)
 |sl (sz:Nat) (e:Sh)
 |ar (sz n:Nat) (e:Sh)
 deriving Inhabited
mutual
def Sh.ok(P:Program):TypeId→Sh→Bool
 |t,.int k=>match P.underlying t with
  |some (.int k')=>k==k'
  |_=>false
 |t,.bool=>match P.underlying t with
  |some .bool=>true
  |_=>false
 |t,.str=>match P.underlying t with
  |some .string=>true
  |_=>false
 |t,.st l=>match P.underlying t with
  |some (.struct fs)=>Sh.oks P 0 (P.cellsOf t) fs.toList l
  |_=>false
 |t,.sl sz e=>match P.underlying t with
  |some (.slice e')=>P.cellsOf e'==sz&&sz != 0&&Sh.ok P e' e
  |_=>false
 |t,.ar sz n e=>match P.underlying t with
  |some (.array m e')=>P.cellsOf e'==sz&&m==n&&P.cellsOf t==n*sz&&Sh.ok P e' e
  |_=>false
def Sh.oks(P:Program):Nat→Nat→List Field→List Sh→Bool
 |off,tot,[],[]=>off==tot
 |off,tot,f::fs,s::l=>f.offset==off&&Sh.ok P f.type s&&Sh.oks P (off+P.cellsOf f.type) tot fs l
 |_,_,_,_=>false
end
mutual
def Fits:Sh→I→Prop
 | .int k,x=>∃n,x= .int k n∧(Lit.int k n).wf=true
 | .bool,x=>∃b,x= .bool b
 | .str,x=>∃s,x= .str s
 | .st l,x=>∃xs,x= .agg xs∧FitsL l xs
 | .sl sz e,x=>∃xs,x= .list xs∧∀y∈xs,Fits e y∧y.size=sz
 | .ar sz n e,x=>∃xs,x= .arr sz xs∧xs.length=n∧∀y∈xs,Fits e y∧y.size=sz
def FitsL:List Sh→List I→Prop
 | [],xs=>xs=[]
 |s::l,xs=>∃y ys,xs=y::ys∧Fits s y∧FitsL l ys
end
def De(w:World):Mem:=fun b=>w.heap[b]?
section
variable{H:Type}{enc:TypeId × Value → H}{P:Program}{w:World}{base:Nat}{sp:Nat → Bool}{held:Bool}
theorem Su{a:Addr}{n:Nat}{cs:List Value}(h:w.cells? base a n=some cs)(h0:0<n):∃bl ty fz,a=⟨a.block,a.off,none⟩∧w.heap[a.block]?=some (.cells bl ty fz)∧a.off+n≤bl.size∧(bl.toList.drop a.off).take n=cs:=by
 obtain⟨_,hl,hc⟩:=World.cells?_some h;have hget:∀i,i<n→∃v,w.cell? (a.add i)=some v:=fun i hi=>⟨cs[i]'(by omega),by rw[hc i hi,List.getElem?_eq_getElem]⟩
 obtain⟨v,hv⟩:=hget 0 h0;unfold World.cell? at hv;rw[show a.add 0=a from by simp[Addr.add]]at hv
 split at hv
 ·rename_i bl ty fz hb;split at hv
  ·cases hv
  ·rename_i hs;have hspot:a.spot=none:=by cases hsp:a.spot<;>simp[hsp]at hs ⊢
   have hadd:∀i,w.cell? (a.add i)=bl[a.off+i]?:=by
    intro i;unfold World.cell? Addr.add;by_cases hi:i=0
    ·simp[hi,hb,hspot]
    ·simp[hi,hb]
   have hsz:a.off+n≤bl.size:=by
    obtain⟨v',hv'⟩:=hget (n - 1) (by omega)
    rw[hadd]at hv';have:=(Array.getElem?_eq_some_iff.1 hv').1;omega
   refine⟨bl,ty,fz,?_,hb,hsz,?_⟩
   ·cases a;simp at hspot;simp[hspot]
   ·apply List.ext_getElem?;intro i;by_cases hi:i<n
    ·rw[List.getElem?_take,if_pos hi,List.getElem?_drop, ←hc i hi,hadd];simp
    ·rw[List.getElem?_eq_none (by simp;omega),List.getElem?_eq_none (by omega)]
 ·cases hv
theorem RepIs.of_rows{G:Mem}{sz:Nat}:∀{n:Nat} {cells:List Value} {p:I→Prop},n*sz≤cells.length→(∀i,i<n→∃x,RepI G x ((cells.drop (i*sz)).take sz)∧p x)→∃xs,xs.length=n∧RepIs G xs (cells.take (n*sz))∧∀x∈xs,p x
 |0,cells,p,_,_=>⟨[],rfl,by simp[RepIs],by simp⟩
 |n+1,cells,p,hl,h=>by
  have hm:(n+1)*sz=sz+n*sz:=by rw[Nat.add_mul];omega
  obtain⟨x,h1,h2⟩:=h 0 (by omega)
  simp only[Nat.zero_mul,List.drop_zero]at h1;obtain⟨xs,h3,h4,h5⟩:=RepIs.of_rows (sz:=sz) (n:=n) (cells:=cells.drop sz) (p:=p) (by rw[List.length_drop];omega) fun i hi=>by
   obtain⟨y,g1,g2⟩:=h (i+1) (by omega)
   refine⟨y,?_,g2⟩;rw[List.drop_drop,show sz+i*sz=(i+1)*sz by rw[Nat.add_mul];omega]
   exact g1
  refine⟨x::xs,by simp[h3],?_,?_⟩
  ·rw[hm,List.take_add];simp only[RepIs];exact⟨_,_,rfl,h1,h4⟩
  ·intro y hy;rcases List.mem_cons.mp hy with rfl|hy
   ·exact h2
   ·exact h5 y hy
theorem Ab4:∀{l:List Sh} {fs:List Field} {off tot:Nat},Sh.oks P off tot fs l=true→off≤tot
 | [],[],_,_,h=>by simp only[Sh.oks,beq_iff_eq]at h;omega
 |s::l,f::fs,off,tot,h=>by
  simp only[Sh.oks,Bool.and_eq_true]at h;have:=Ab4 h.2;omega
 | [],_::_,_,_,h=>by simp[Sh.oks]at h
 |_::_,[],_,_,h=>by simp[Sh.oks]at h
mutual
theorem trod_item:∀(sh:Sh) {t:TypeId} {fuel:Nat} {cs:List Value} {x:DataW H × List MemPlace},sh.ok P t=true→DataW.trod enc P w base (fun _=>sp 0) held fuel t cs=some x→
 ∃y,RepI (De w) y cs∧Fits sh y
 | .int k,t,fuel,cs,x,ho,h=>by
   simp only[Sh.ok]at ho;split at ho
   ·rename_i k' ht;rw[beq_iff_eq]at ho;subst ho;obtain⟨n,rfl,_,hw⟩:=DataW.trod_int ht h;exact⟨.int k n,by simp[RepI],n,rfl,hw⟩
   ·cases ho
 | .bool,t,fuel,cs,x,ho,h=>by
   simp only[Sh.ok]at ho;split at ho
   ·rename_i ht;obtain⟨b,rfl,_⟩:=DataW.trod_bool ht h;exact⟨.bool b,by simp[RepI],b,rfl⟩
   ·cases ho
 | .str,t,fuel,cs,x,ho,h=>by
   simp only[Sh.ok]at ho;split at ho
   ·rename_i ht;obtain⟨s,rfl,_,hs⟩:=DataW.trod_string ht h;obtain⟨⟨s⟩⟩:=s;exact⟨.str s,by simp only[RepI];exact⟨trivial,hs⟩,s,rfl⟩
   ·cases ho
 | .st l,t,fuel,cs,x,ho,h=>by
   simp only[Sh.ok]at ho;split at ho
   ·rename_i fs ht;cases fuel with
    |zero=>simp[DataW.trod]at h
    |succ fuel=>
     simp only[DataW.trod,ht]at h;split at h
     ·rename_i hl;obtain⟨xs,h1,_⟩:=Option.map_eq_some_iff.1 h;obtain⟨ys,h2,h3⟩:=trod_items l (off:=0) ho h1;refine⟨.agg ys,?_,ys,rfl,h3⟩;simp only[RepI];simpa[←hl]using h2
     ·cases h
   ·cases ho
 | .sl sz e,t,fuel,cs,x,ho,h=>by
   simp only[Sh.ok]at ho;split at ho
   ·rename_i e' ht;simp only[Bool.and_eq_true,beq_iff_eq,bne_iff_ne,ne_eq]at ho;obtain⟨⟨hsz,hz⟩,he⟩:=ho;rcases open_slice ht h with⟨rfl,_⟩|⟨a,len,cap,m,n,D,Pl,rfl,_,hlc,hcm,hm,_,hx⟩
    ·exact⟨.list [],by simp only[RepI];exact⟨none,0,rfl,Nat.le_refl _,Nat.zero_le _,.inl trivial⟩,[],rfl,by simp⟩
    ·by_cases h0:len=0
     ·subst h0;exact⟨.list [],by simp only[RepI];exact⟨some a,cap,rfl,Nat.zero_le _,hcm,.inl trivial⟩,[],rfl,by simp⟩
     ·have hmm:len≤m:=by subst hm;split<;>omega
      have hrow:∀i,i<len→∃cs' y,w.cells? base (a.add (i*sz)) sz=some cs'∧RepI (De w) y cs'∧Fits e y∧y.size=sz:=by
       intro i hi;obtain⟨cs',g1,g2⟩:=hx i (by omega)
       obtain⟨y,g3,g4⟩:=trod_item e he g2;rw[hsz]at g1;have hlen:=(World.cells?_some g1).2.1;exact⟨cs',y,g1,g3,g4,by rw[←RepI.length _ _ g3,hlen]⟩
      obtain⟨cs0,_,c1,_⟩:=hrow 0 (by omega)
      rw[Nat.zero_mul,show a.add 0=a by simp[Addr.add]]at c1
      obtain⟨bl,ty,fz,ha,hb,hs0,_⟩:=Su c1 (by omega)
      have hat:∀i,i<len→a.off+i*sz+sz≤bl.size∧∃y,RepI (De w) y (((bl.toList.drop a.off).drop (i*sz)).take sz)∧Fits e y∧y.size=sz:=by
       intro i hi;obtain⟨cs',y,g1,g2,g3,g4⟩:=hrow i hi;obtain⟨bl',ty',fz',k1,k2,k3,k4⟩:=Su g1 (by omega)
       have e1:(a.add (i*sz)).block=a.block:=by unfold Addr.add;split<;>rfl
       have e2:(a.add (i*sz)).off=a.off+i*sz:=by unfold Addr.add;split<;>rename_i hh<;>simp[hh]
       rw[e1,hb]at k2;cases k2;rw[e2]at k3 k4;refine⟨k3,y,?_,g3,g4⟩;rw[List.drop_drop,k4];exact g2
      have hlast:=(hat (len - 1) (by omega)).1
      have hmul:(len - 1)*sz+sz=len*sz:=by
       obtain⟨q,rfl⟩:∃q,len=q+1:=⟨len - 1,by omega⟩
       rw[Nat.add_sub_cancel,Nat.add_mul,Nat.one_mul]
      obtain⟨xs,x1,x2,x3⟩:=RepIs.of_rows (G:=De w) (sz:=sz) (n:=len) (cells:=bl.toList.drop a.off) (p:=fun y=>Fits e y∧y.size=sz) (by simp;omega) fun i hi=>(hat i hi).2
      refine⟨.list xs,?_,xs,rfl,x3⟩;simp only[RepI];refine⟨some a,cap,by rw[x1],by omega,hcm,.inr ⟨a.block,a.off,bl,ty,fz,sz,by rw[←ha],hb,fun y hy=>(x3 y hy).2,by rw[x1];omega,by rw[x1];exact x2⟩⟩
   ·cases ho
 | .ar sz n e,t,fuel,cs,x,ho,h=>by
   simp only[Sh.ok]at ho;split at ho
   ·rename_i m e' ht;simp only[Bool.and_eq_true,beq_iff_eq]at ho;obtain⟨⟨⟨hsz,rfl⟩,htot⟩,he⟩:=ho;obtain⟨xs,fu,rfl,_,hl,hxl,hx⟩:=DataW.trod_array ht h;rw[htot]at hl;rw[hsz]at hx;obtain⟨ys,y1,y2,y3⟩:=RepIs.of_rows (G:=De w) (sz:=sz) (n:=m) (cells:=cs) (p:=fun y=>Fits e y∧y.size=sz) (by omega) fun i hi=>by
     obtain⟨d,hd⟩:∃d,xs[i]?=some d:=⟨_,List.getElem?_eq_getElem (by omega)⟩
     have h1:=hx i hi;rw[hd]at h1;obtain⟨y,g1,g2⟩:=trod_item e he h1;refine⟨y,g1,g2,?_⟩;rw[←RepI.length _ _ g1,List.length_take,List.length_drop];have:(i+1)*sz≤m*sz:=Nat.mul_le_mul_right _ (by omega)
     rw[Nat.add_mul,Nat.one_mul]at this;omega
    refine⟨.arr sz ys,?_,ys,rfl,y1,y3⟩;rw[List.take_of_length_le (by omega)]at y2
    simp only[RepI];exact⟨y2,fun y hy=>(y3 y hy).2⟩
   ·cases ho
theorem trod_items:∀(l:List Sh) {fs:List Field} {off tot fuel:Nat} {cs:List Value} {xs:List (DataW H × List MemPlace)},Sh.oks P off tot fs l=true→
 (fs.mapM fun f=>DataW.trod enc P w base (fun _=>sp 0) held fuel f.type ((cs.drop f.offset).take (P.cellsOf f.type)))=some xs→∃ys,RepIs (De w) ys ((cs.take tot).drop off)∧FitsL l ys
 | [],fs,off,tot,fuel,cs,xs,ho,h=>by
   cases fs with
   |nil=>
    simp only[Sh.oks,beq_iff_eq]at ho;subst ho;exact⟨[],by simp[RepIs],rfl⟩
   |cons f fs=>simp[Sh.oks]at ho
 |s::l,fs,off,tot,fuel,cs,xs,ho,h=>by
  cases fs with
  |nil=>simp[Sh.oks]at ho
  |cons f fs=>
   simp only[Sh.oks,Bool.and_eq_true,beq_iff_eq]at ho;obtain⟨⟨rfl,h1⟩,h2⟩:=ho;simp only[List.mapM_cons]at h;obtain⟨y,g1,g2⟩:=Option.bind_eq_some_iff.1 h;obtain⟨z,g3,g4⟩:=Option.bind_eq_some_iff.1 g2;obtain⟨u,g5,g6⟩:=trod_item s h1 g1;obtain⟨us,g7,g8⟩:=trod_items l (cs:=cs) h2 g3;refine⟨u::us,?_,u,us,rfl,g6,g8⟩;simp only[RepIs];have hle:=Ab4 h2;refine⟨_,_,?_,g5,g7⟩;have e1:(cs.drop f.offset).take (P.cellsOf f.type)=((cs.take tot).drop f.offset).take (P.cellsOf f.type):=by
    rw[List.drop_take,List.take_take,Nat.min_eq_left (by omega)]
   rw[e1, ←List.drop_drop,List.take_append_drop]
end
end

open Go.ChangeShapes Go.Deep
theorem Fm{α β:Type}{f g:α→Option β}:∀{l:List α} {xs:List β},l.mapM f=some xs→(∀a∈l,∀y∈xs,f a=some y→g a=some y)→l.mapM g=some xs
 | [],xs,h,_=>by simpa using h
 |a::l,xs,h,hg=>by
  simp only[List.mapM_cons]at h ⊢;obtain⟨y,g1,g2⟩:=Option.bind_eq_some_iff.1 h;obtain⟨z,g3,g4⟩:=Option.bind_eq_some_iff.1 g2;cases g4;rw[hg a (List.mem_cons_self ..) y (List.mem_cons_self ..) g1];have:=Fm (l:=l) g3 fun b hb x hx=>hg b (List.mem_cons_of_mem _ hb) x (List.mem_cons_of_mem _ hx)
  simp[this]
section
variable{H:Type}{enc:TypeId × Value → H}{P:Program}{W W':World}{sp':Nat → Bool}{held:Bool}
theorem Zg(hk:∀(b:Nat) (o:Obj),W.heap[b]?=some o→W'.heap[b]?=some o){a:Addr}{v:Value}(h:W.cell? a=some v):W'.cell? a=some v:=by
 unfold World.cell? at h ⊢;split at h
 ·rename_i bl ty fz hb;rw[hk _ _ hb];exact h
 ·cases h
theorem Xa(hk:∀(b:Nat) (o:Obj),W.heap[b]?=some o→W'.heap[b]?=some o){a:Addr}{n:Nat}{cs:List Value}(h:W.cells? 0 a n=some cs):W'.cells? 0 a n=some cs:=by
 unfold World.cells? at h ⊢;split at h
 ·rename_i h0;rw[if_pos h0];exact Fm h fun i _ y _ hy=>Zg hk hy
 ·cases h
theorem Hc(hk:∀(b:Nat) (o:Obj),W.heap[b]?=some o→W'.heap[b]?=some o):∀(fuel:Nat) (sh:Sh) {t:TypeId} {cs:List Value} {x:DataW H × List MemPlace},sh.ok P t=true→
 DataW.trod enc P W 0 (fun _=>true) held fuel t cs=some x→(∀p∈x.2,sp' p.block=true)→DataW.trod enc P W' 0 sp' held fuel t cs=some x
 |0,sh,t,cs,x,ho,h,hp=>by simp[DataW.trod]at h
 |fuel+1,.int k,t,cs,x,ho,h,hp=>by
  simp only[Sh.ok]at ho;split at ho
  ·rename_i k' ht;obtain⟨n,rfl,rfl,hw⟩:=DataW.trod_int ht h;simp[DataW.trod,ht,hw]
  ·cases ho
 |fuel+1,.bool,t,cs,x,ho,h,hp=>by
  simp only[Sh.ok]at ho;split at ho
  ·rename_i ht;obtain⟨b,rfl,rfl⟩:=DataW.trod_bool ht h;simp[DataW.trod,ht]
  ·cases ho
 |fuel+1,.str,t,cs,x,ho,h,hp=>by
  simp only[Sh.ok]at ho;split at ho
  ·rename_i ht;obtain⟨s,rfl,rfl,hs⟩:=DataW.trod_string ht h;simp[DataW.trod,ht,hs]
  ·cases ho
 |fuel+1,.st l,t,cs,x,ho,h,hp=>by
  simp only[Sh.ok]at ho;split at ho
  ·rename_i fs ht;simp only[DataW.trod,ht]at h ⊢;split at h
   ·rename_i hl;rw[if_pos hl];obtain⟨xs,h1,rfl⟩:=Option.map_eq_some_iff.1 h;have fld:∀(l:List Sh) (fs:List Field) (off tot:Nat) (xs:List (DataW H × List MemPlace)),Sh.oks P off tot fs l=true→
     (fs.mapM fun f=>DataW.trod enc P W 0 (fun _=>true) held fuel f.type ((cs.drop f.offset).take (P.cellsOf f.type)))=some xs→(∀y∈xs,∀p∈y.2,sp' p.block=true)→
     (fs.mapM fun f=>DataW.trod enc P W' 0 sp' held fuel f.type ((cs.drop f.offset).take (P.cellsOf f.type)))=some xs:=by
     intro l;induction l with
     |nil=>
      intro fs off tot xs ho h hp;cases fs with
      |nil=>simpa using h
      |cons f fs=>simp[Sh.oks]at ho
     |cons s l ih=>
      intro fs off tot xs ho h hp;cases fs with
      |nil=>simp[Sh.oks]at ho
      |cons f fs=>
       simp only[Sh.oks,Bool.and_eq_true,beq_iff_eq]at ho;simp only[List.mapM_cons]at h ⊢;obtain⟨y,g1,g2⟩:=Option.bind_eq_some_iff.1 h;obtain⟨z,g3,g4⟩:=Option.bind_eq_some_iff.1 g2;cases g4;rw[Hc hk fuel s ho.1.2 g1 (hp y (List.mem_cons_self ..))];have:=ih fs _ _ z ho.2 g3 fun y hy=>hp y (List.mem_cons_of_mem _ hy)
       simp[this]
    rw[fld l fs.toList 0 _ xs ho h1 fun y hy p hp'=>hp p (List.mem_flatMap.2 ⟨y,hy,hp'⟩)]
    rfl
   ·cases h
  ·cases ho
 |fuel+1,.ar sz n e,t,cs,x,ho,h,hp=>by
  simp only[Sh.ok]at ho;split at ho
  ·rename_i m e' ht;simp only[Bool.and_eq_true,beq_iff_eq]at ho;simp only[DataW.trod,ht]at h ⊢;split at h
   ·rename_i hl;rw[if_pos hl];obtain⟨xs,h1,rfl⟩:=Option.map_eq_some_iff.1 h;rw[Fm h1 fun i _ y hy h2=>Hc hk fuel e ho.2 h2 fun p hp'=>hp p (List.mem_flatMap.2 ⟨y,hy,hp'⟩)]
    rfl
   ·cases h
  ·cases ho
 |fuel+1,.sl sz e,t,cs,x,ho,h,hp=>by
  simp only[Sh.ok]at ho;split at ho
  ·rename_i e' ht;simp only[Bool.and_eq_true,beq_iff_eq,bne_iff_ne,ne_eq]at ho;obtain⟨⟨hsz,hz⟩,he⟩:=ho;have elem:∀{a:Addr} {i:Nat} {y:DataW H × List MemPlace},(∀p∈y.2,sp' p.block=true)→((W.cells? 0 (a.add (i*P.cellsOf e')) (P.cellsOf e')).bind (DataW.trod enc P W 0 (fun _=>true) held fuel e'))=some y→
    ((W'.cells? 0 (a.add (i*P.cellsOf e')) (P.cellsOf e')).bind (DataW.trod enc P W' 0 sp' held fuel e'))=some y:=by
    intro a i y hy h;obtain⟨cs',g1,g2⟩:=Option.bind_eq_some_iff.1 h;rw[Xa hk g1];exact Hc hk fuel e he g2 hy
   have hcs:cs=[.slice none 0 0]∨∃a len cap,cs=[.slice (some a) len cap]:=by
    rcases open_slice ht h with⟨h1,_⟩|⟨a,len,cap,_,_,_,_,h1,_⟩
    ·exact .inl h1
    ·exact .inr ⟨a,len,cap,h1⟩
   rcases hcs with rfl|⟨a,len,cap,rfl⟩
   ·simp only[DataW.trod,ht]at h ⊢;exact h
   ·simp only[DataW.trod,ht]at h ⊢;split at h
    ·rename_i hc;rw[if_pos hc];obtain⟨elems,g1,g2⟩:=Option.bind_eq_some_iff.1 h;obtain⟨rest,g3,rfl⟩:=Option.map_eq_some_iff.1 g2;have hrow:0<elems.length+rest.length→sp' a.block=true:=by
      intro h0;refine hp (.cell a.block (a.off+0)) (List.mem_append_left _ ?_);unfold MemPlace.row;refine List.mem_map.2 ⟨0,List.mem_range.2 (Nat.mul_pos h0 (by omega)),rfl⟩
     have hel:∀y∈elems++rest,∀p∈y.2,sp' p.block=true:=fun y hy p hp'=>hp p (List.mem_append_right _ (List.mem_flatMap.2 ⟨y,hy,hp'⟩))
     have k1:=Fm g1 fun i _ y hy h=>elem (hel y (List.mem_append_left _ hy)) h
     rw[k1];simp only[if_true]at g3;have k2:(if sp' a.block=true then(List.range (cap - len)).mapM fun j=>((W'.cells? 0 (a.add ((len+j)*P.cellsOf e')) (P.cellsOf e')).bind (DataW.trod enc P W' 0 sp' held fuel e'))else some [])=some rest:=by
      have k3:=Fm g3 fun j _ y hy h=>elem (hel y (List.mem_append_right _ hy)) h
      cases hs:sp' a.block with
      |true=>rw[if_pos rfl];exact k3
      |false=>
       rw[if_neg (by decide)]
       have hr0:rest=[]:=by
        cases rest with
        |nil=>rfl
        |cons r rs=>
         have:=hrow (by simp;omega)
         rw[hs]at this;cases this
       rw[hr0]
     simp only[Option.bind_some];rw[k2];rfl
    ·cases h
  ·cases ho
end

open Go.ChangeShapes Go.Deep Go.WideShapes Go.ChangeAt Go.RowKit
def oksT(P:Program):List TypeId→List Sh→Bool
 | [],[]=>true
 |t::ts,s::l=>s.ok P t&&oksT P ts l
 |_,_=>false
section
variable{H:Type}{enc:TypeId × Value → H}{P:Program}{W W':World}
theorem Aeb{sh:Sh}{t:TypeId}{x:I}{v:Value}{G:Mem}{b0:Nat}(ho:sh.ok P t=true)(hv:Value.okWide P W .any b0 t v)(hr:RepI G x v.cells.toList)(hf:Fits sh x):RepV G x v:=by
 unfold RepV;cases sh with
 |st l=>
  simp only[Sh.ok]at ho;split at ho
  ·rename_i fs ht;obtain⟨xs,rfl,_⟩:=hf;rw[if_pos (show(I.agg xs).isAgg=true from rfl)];unfold Value.okWide at hv;rw[ht]at hv;obtain⟨cs,rfl,_⟩:=hv;exact⟨cs,rfl,hr⟩
  ·cases ho
 |ar sz n e=>
  simp only[Sh.ok]at ho;split at ho
  ·rename_i m e' ht;obtain⟨xs,rfl,_⟩:=hf;rw[if_pos (show(I.arr sz xs).isAgg=true from rfl)];unfold Value.okWide at hv;rw[ht]at hv;obtain⟨cs,rfl,_⟩:=hv;exact⟨cs,rfl,hr⟩
  ·cases ho
 |_=>
  simp only[Sh.ok]at ho;split at ho<;>try(cases ho;done)
  rename_i ht;have hx:x.isAgg=false:=by
   obtain⟨_,rfl,_⟩:=hf;rfl
  rw[if_neg (by rw[hx];decide)]
  unfold Value.okWide at hv;rw[ht]at hv;cases v<;>first|exact hr|(exact absurd hv (by simp[Cell.okWide,Cell.ok,ht]))
theorem Me{b0:Nat}:∀{shs:List Sh} {ts:List TypeId} {vs:List Value} {ds:List (DataW H)} {p:List MemPlace},oksT P ts shs=true→DataW.TrodAll enc P W 0 (fun _=>true) true ts vs ds p→
 (∀(j:Nat) t v,ts[j]?=some t→vs[j]?=some v→Value.okWide P W .any b0 t v)→∃xs:List I,FitsL shs xs∧xs.length=vs.length∧∀(i:Nat) x v,xs[i]?=some x→vs[i]?=some v→RepV (De W) x v
 | [],[],[],[],p,_,_,_=>⟨[],rfl,rfl,by simp⟩
 |s::shs,t::ts,v::vs,d::ds,p,ho,h,hv=>by
  simp only[oksT,Bool.and_eq_true]at ho;obtain⟨p1,q,⟨fuel,h1⟩,h2,_⟩:=h;obtain⟨x,g1,g2⟩:=trod_item (sp:=fun _=>true) s ho.1 h1
  obtain⟨xs,g3,g4,g5⟩:=Me ho.2 h2 fun j t' v' a b=>hv (j+1) t' v' a b
  refine⟨x::xs,⟨x,xs,rfl,g2,g3⟩,by simp[g4],?_⟩
  intro i x' v' a b;cases i with
  |zero=>cases a;cases b;exact Aeb ho.1 (hv 0 t v rfl rfl) g1 g2
  |succ i=>exact g5 i x' v' a b
 | [],_::_,_,_,_,ho,_,_=>by cases ho
 |_::_,[],_,_,_,ho,_,_=>by simp[oksT]at ho
 | [],[],_::_,_,_,_,h,_=>by simp[DataW.TrodAll]at h
 | [],[],[],_::_,_,_,h,_=>by simp[DataW.TrodAll]at h
 |_::_,_::_,[],_,_,_,h,_=>by simp[DataW.TrodAll]at h
 |_::_,_::_,_::_,[],_,_,h,_=>by simp[DataW.TrodAll]at h
theorem Md{sp':Nat→Bool}(hk:∀(b:Nat) (o:Obj),W.heap[b]?=some o→W'.heap[b]?=some o):∀{shs:List Sh} {ts:List TypeId} {vs:List Value} {ds:List (DataW H)} {p:List MemPlace},oksT P ts shs=true→
 DataW.TrodAll enc P W 0 (fun _=>true) true ts vs ds p→(∀q∈p,sp' q.block=true)→DataW.TrodAll enc P W' 0 sp' true ts vs ds p
 | [],[],[],[],p,_,h,_=>h
 |s::shs,t::ts,v::vs,d::ds,p,ho,h,hp=>by
  simp only[oksT,Bool.and_eq_true]at ho;obtain⟨p1,q,⟨fuel,h1⟩,h2,rfl⟩:=h;exact⟨p1,q,⟨fuel,Hc hk fuel s ho.1 h1 fun y hy=>hp y (List.mem_append_left _ hy)⟩,Md hk ho.2 h2 fun y hy=>hp y (List.mem_append_right _ hy),rfl⟩
 | [],_::_,_,_,_,ho,_,_=>by cases ho
 |_::_,[],_,_,_,ho,_,_=>by simp[oksT]at ho
 | [],[],_::_,_,_,_,h,_=>by simp[DataW.TrodAll]at h
 | [],[],[],_::_,_,_,h,_=>by simp[DataW.TrodAll]at h
 |_::_,_::_,[],_,_,_,h,_=>by simp[DataW.TrodAll]at h
 |_::_,_::_,_::_,[],_,_,h,_=>by simp[DataW.TrodAll]at h
theorem Ad2{f:FuncId}{xs:List I}{args:Array Value}(hl:xs.length=args.toList.length)(hrep:∀(i:Nat) x v,xs[i]?=some x→args.toList[i]?=some v→RepV (De W) x v){outs:List SV}
 (h:Fn P f (xs.map SV.v) (Is (.v (.bool true)) outs)) (hamb:Amb.p (De W)):
 Calls P f args W fun e W'=>e= .returned (.bool true)∧(∀(b:Nat) (o:Obj),W.heap[b]?=some o→W'.heap[b]?=some o)∧W'.os=W.os∧W'.output=W.output∧W.heap.size≤W'.heap.size:=by
 have:=h (De W) (fun _=>none) (fun _=>none) W args ⟨fun b o hb=>hb,fun b lab hb=>(by cases hb),fun b b' lab hb _=>(by cases hb),fun b o hb=>(by cases hb),rfl,rfl,rfl,Nat.le_refl _,fun b o hb=>(by cases hb),hamb⟩
  (by simp[hl]) (by
    intro i sv hi;rw[List.getElem?_map]at hi;obtain⟨x,h1,rfl⟩:=Option.map_eq_some_iff.1 hi;refine⟨rfl,?_⟩;have hlt:i<args.toList.length:=by rw[←hl];exact(List.getElem?_eq_some_iff.1 h1).1
    have h2:args.toList[i]?=some (args.getD i undef):=by
     rw[List.getElem?_eq_getElem hlt];have hlt':i<args.size:=by simpa using hlt
     simp[Array.getD,hlt']
    exact hrep i x _ h1 h2)
 refine this.mono ?_;rintro e w' ⟨r,zs,c,G',σ',rfl,⟨rfl,_⟩,hG,hok,_,hr,_⟩;refine⟨?_,fun b o hb=>hok.fixed b o (hG b o hb),hok.os,hok.output,hok.size⟩
 have hr':RepV G' (.bool true) c:=hr;rw[RepV.bool]at hr';rw[hr']
theorem Ad4{f:Func}{s:ChangeSpec}{fresh handsOn again:Bool}{args:Array Value}{ds gs:List (DataW H)}{before:List MemPlace}{shs:List Sh}{tb:TypeId}
 (hvars:s.vars=[]) (hsp:∀ds:List (DataW H),ds.length=f.params.toList.length→s.fn H ds= {results:=[.lit (.bool true)],args:=ds}) (hres:f.resultTypes= #[tb]) (hb:P.underlying tb=some .bool)
 (ho:oksT P f.params.toList shs=true) (hW:DataW.Whole enc P f.params.toList s.vars false W args.toList ds gs before)
 (hk:∀(b:Nat) (o:Obj),W.heap[b]?=some o→W'.heap[b]?=some o) (hos:W'.os=W.os) (hout:W'.output=W.output):
 s.post enc P f false fresh handsOn again W args (.bool true) W':=by
 have hW0:=hW;obtain⟨p,q,hA,hV,rfl,hz,hn⟩:=hW;rw[hvars]at hV;have hgs:gs=[]∧q=[]:=by
  cases gs with
  |nil=>exact⟨rfl,hV⟩
  |cons g gs=>exact hV.elim
 obtain⟨rfl,rfl⟩:=hgs;have hlen:ds.length=f.params.toList.length:=by
  have aux:∀(ts:List TypeId) (vs:List Value) (ds:List (DataW H)) (p:List MemPlace),DataW.TrodAll enc P W 0 (fun _=>true) true ts vs ds p→ds.length=ts.length:=by
   intro ts;induction ts with
   |nil=>intro vs ds p h;cases vs<;>cases ds<;>first|rfl|exact h.elim
   |cons t ts ih=>
    intro vs ds p h;cases vs with
    |nil=>cases ds<;>exact h.elim
    |cons v vs=>
     cases ds with
     |nil=>exact h.elim
     |cons d ds=>
      obtain⟨_,_,_,h2,_⟩:=h;simp[ih _ _ _ h2]
  exact aux _ _ _ _ hA
 have hfn:=hsp ds hlen;have hag:∀sp':Nat→Bool,(∀x∈p,sp' x.block=true)→DataW.TrodAll enc P W' 0 sp' true f.params.toList args.toList ds p:=fun sp' h=>Md hk ho hA h
 have hold:∀x∈p,x.block<W.heap.size:=fun x hx=>hW0.lt x (List.mem_append_left _ hx)
 have hat:∀b,b<W.heap.size→∃o,W.heap[b]?=some o∧W'.heap[b]?=some o:=fun b hb'=>⟨_,Array.getElem?_eq_getElem hb',hk b _ (Array.getElem?_eq_getElem hb')⟩
 have hr:∀(b:Nat) (sp':Nat→Bool) (hd:Bool),DataW.TrodAll enc P W' b sp' hd f.resultTypes.toList ((Value.bool true).resultList f.resultTypes.size) [.lit (.bool true)] []:=by
  intro b sp' hd;rw[hres];exact trodAll_cons_mk (shut_bool hb true) trodAll_mk0
 have hkept:W.keptBut W' fun _=>False:=by
  refine⟨hos,hout,fun i hi=>?_⟩
  obtain⟨o,h1,h2⟩:=hat i hi;rw[h1,h2];cases o<;>simp
 refine⟨ds,[],p++[],[],p,[],hW0,?_,?_,?_,World.keptBut_mono (fun _ h=>h.elim) hkept,fun _=>?_⟩
 ·rw[List.append_nil,hfn];exact hr _ _ _
 ·rw[List.append_nil,hfn];exact hag _ fun x hx=>by simpa using hold x hx
 ·rw[List.append_nil,hfn,hvars];rfl
 ·refine⟨?_,_,[],([]++p)++[],⟨[]++p,[],trodAll_append (hag _ (fun _ _=>rfl)) (hr 0 _ _),by rw[hvars];rfl,rfl,?_,?_⟩,?_⟩
  ·intro j t r h1 h2;rw[hres]at h1 h2;cases j with
   |zero=>
    cases h1;have:r= .bool true:=by
     have h3:[Value.bool true][0]?=some r:=h2;simpa using h3.symm
    subst this;exact okWide_bool_mk hb _
   |succ j=>simp at h1
  ·intro b off hp;have hp':MemPlace.cell b off∈p:=by simpa using hp
   have h0:=hz b off (by simpa using hp')
   obtain⟨o,h1,h2⟩:=hat b (hold _ hp');unfold World.frozen? at h0 ⊢;rw[h2];rw[h1]at h0;exact h0
  ·intro ha;cases ha
  ·intro x hx _;simpa using hx
end
end Go.Ab
