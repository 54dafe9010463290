/- Lemmas -/
import Derived.Test.YtkpojedpcabojaaGreatDoorX9
set_option linter.unusedVariables false
set_option linter.unusedSimpArgs false
set_option maxRecDepth 100000
namespace Go.Ab
open Go.Proofs
def A4p:Stm:=(sO [O1 (.box 1 0),gA 2 (.Ahc 52 4)] (sO [gA 3 (.Ahc 52 4)] (.seq (sO [gL 10 1,gC 11 31 [(true,10)],gN 12 11,gM 13 (cI 0)] (.block 0 (.loop [0,4,5,6,7,10,14,15,16,17,18,19,20,21,22,23,24,25,26,27,28,29,30,31,32,33,34,35,54,55,56,57,58,59] (sO [gB 14 .lss 13 12] (.seq (.cond 14 .skip (.exit 0)) (.seq (.block 1 (sO [gI 15 1 11 13,gL 16 15,gA 5 16] (sO [gL 17 1,O1 (.Ami 18 17),gF 19 18 0,gL 20 19,gM 21 5,O1 (.Bbz 22 .Aw9 false 20 21),gA 6 22] (.seq (.drw [0,0,2,6,14,0,32,96,224,511,0,2047] [gM 23 5,gM 24 6,O1 (.Ami 25 24),gF 26 25 0,gL 27 26,gM 28 6,O1 (.Ami 29 28),gF 30 29 1,gL 31 30,O1 (.A0g 32 [(.it (.str [])),(.it (.int .i64 0)),(.it (.int .i64 0)),(.vec 55 2 [])] [(0,23),(1,27),(2,31)]),O1 (.A0e 7 (.st [(.it (.str [])),(.it (.int .i64 0)),(.it (.int .i64 0)),(.vec 55 2 [])])),gS 4 7 32]) (.seq (sO [gL 33 1,gM 34 5,.inl none (some 35) 60 42 [33,34]] (.block 2 (.A5a 35 82 50 60 [36,37] Fy (sO [gA 8 36] (.ops [gA 9 37])) (.block 3 (.drw [0,1,0,0,8,24,56,0,248,504,1016,2040,4092,8188,16383,32767,65535] [gF 38 7 3,gL 39 38,gM 40 9,gL 41 1,O1 (.Ami 42 41),gF 43 42 1,gL 44 43,gM 45 8,gI 46 2 44 45,gF 47 46 1,gL 48 47,.A45 none (some 49) 43 [nL 48],O1 (.A0g 50 [(.it (.str [])),(.vec 104 4 [])] [(0,40),(1,49)]),O1 (.Bag 51 55 2 (.agg [(.str []),(.list [])]) 1 [(0,50)]),O1 (.app 52 55 2 40 39 51),gF 53 7 3,gS 1 53 52]))))) (.ops [gM 54 3,O1 (.A93 55 true 4 7),O1 (.bsl 56 52 4 (.agg [(.str []),(.int .i64 0),(.int .i64 0),(.list [])]) 1 [(0,55)]),O1 (.app 57 52 4 56 54 56),gA 3 57])))))) (.ops [gB 58 .add 13 (cI 1),gM 13 58]))))))) (sO [gM 59 3,O1 (.mov 2 52 4 59)] .ret))))
theorem A4q:OF 15 60 A4p [.t 2]:=oF Tryz.func15 rfl Tryz.ntmps15
set_option maxHeartbeats 40000000

open Go.Proofs
def Awt(n:Az):List Zk→List Kv→List Kv
 | [],out=>out
 |h::r,out=>if(C1 h.at_).1≠n then out else Awt n r (out++[⟨(C1 h.at_).2.1,h.vs⟩])
def Cn.A1a(s:Cn)(n:Az):Spc:=⟨n,(s.Zp n).rev,(s.Zp n).floor,Awt n (s.l.drop (Km (Kh (B7 n [])) s.l)) []⟩
def Kv.toD(h:Kv):D:=.st [.it (.str h.key),.vec Bb 4 ((h.vs.map Fk.Bx).map D.it)]
theorem Kv.A96(h:Kv):h.toD.Bx=some h.Bx:=by
 simp only[Kv.toD,Kv.Bx,D.Bx,Js,Ad]
theorem Boa(l:List Kv):Js (l.map Kv.toD)=some (l.map Kv.Bx):=Vg Kv.A96 l
theorem A80:∀l:List Fk,Akg (l.map Fk.Bx)=l.map Fk.Bx
 | []=>rfl
 |x::l=>by simp only[Cy,Akg,A80 l];rfl
theorem Bhb(hof:Zb)(s:Cn)(hB:s.Bd)(NM:List Az)(hnm:∀n∈NM,n.length≤1000∧(s.fi n).isSome=true)(hNl:NM.length≤1000)
 (hsp:Fn Tryz.prog Bs [sP s] (Is (.v (.list (NM.map I.str))) [sP s])):
 Fn Tryz.prog Ayb [sP s] (Is (.v (.list ((NM.map s.A1a).map Spc.Bx))) [sP s]):=by
 obtain⟨T1,T2,hof⟩:=hof;refine A4q ?_ (by simp)
 repeat'((conv=>whnf);first|(with_reducible refine Ac ?_ ?_);focus (and_intros<;>first|omega|with_reducible rfl|kernel_rfl|intro _ hh;cases hh;done|simp;done|decide)|with_reducible intro Cq|(with_reducible refine Ct.mk ?_);refine⟨_,hsp,?_⟩;rintro _ _ ⟨rfl,rfl⟩)
 all_goals(try(conv=>whnf))
 refine Afm.by (X:=Nat × List I) (fun y=>[(13,.v (ti (y.1:Int))),(3,.vec 52 4 y.2)]) (fun y=>y.1≤NM.length∧y.2=((NM.take y.1).map s.A1a).map Spc.Bx) (fun y=>NM.length - y.1) (0,[]) (by kernel_rfl) ⟨Cr _,rfl⟩ ?_
 rintro⟨j,OUT⟩ ⟨hj,hO⟩;dsimp only at hj hO ⊢;have hw:=zwj (j:=j) (by omega)
 have hOl:OUT.length≤1000:=by rw[hO];simp;omega
 by_cases hjl:j<NM.length
 case neg=>
  have Ze:¬decide ((j:Int)<((NM.map I.str).length:Int))=true:=by simp;omega
  have Bem:¬decide ((j:Int)<(NM.length:Int))=true:=by simp;omega
  rw[Am2 (by omega)]at hO
  rw[←hO];repeat'((conv=>whnf);first|(with_reducible refine Aw (by exact Ak (by assumption)) fun hb=>?_);(try rw[hb]);try simp only[Aa]at hb|(with_reducible refine Ac ?_ ?_);focus (and_intros<;>first|omega|with_reducible rfl|simp;done))
  all_goals(try(conv=>whnf))
  (apply Dj<;>kernel_rfl)
 obtain⟨n,hn⟩:∃x,NM[j]?=some x:=⟨_,Ae hjl⟩;have Ze:¬decide ((j:Int)<((NM.map I.str).length:Int))=false:=by simp;omega
 have Bem:¬decide ((j:Int)<(NM.length:Int))=false:=by simp;omega
 obtain⟨hn1,hn2⟩:=hnm n (Cb hn);obtain⟨i,hi⟩:=Asz.1 hn2;obtain⟨h1,h2,h3⟩:=Cn.Ari hi;have hI:=U8 s.l;have hwh:=L1 n [] (by omega) (by simp)
 have hbs:=L0 s.l (B7 n []) (by have:=hB.len;omega)
 obtain⟨A,hA⟩:∃A,A=Km (Kh (B7 n [])) s.l:=⟨_,rfl⟩;obtain⟨B,hB'⟩:∃B,B=bsF (Kh (B7 n [])) (eqH (B7 n [])) s.l:=⟨_,rfl⟩;rw[←hA, ←hB']at hbs;repeat'((conv=>whnf);first|(with_reducible refine Ax (by first|assumption|exact Ai (by assumption)) fun hb=>?_);(try rw[hb]);try simp only[Aa]at hb|(with_reducible refine Ac ?_ ?_);focus (and_intros<;>first|omega|with_reducible rfl|kernel_rfl|intro _ hh;cases hh;done|simp;done|decide)|with_reducible intro Cq|(with_reducible refine A5 ?_ ?_);focus (first|with_reducible rfl|decide)|(with_reducible refine Ai2.mkV ?_ ?_ ?_ fun Cq=>?_);(iterate 3 focus (as_aux_lemma=>kernel_rfl));try simp only[zRL]at Cq|(try dsimp only);rw[B6 hn]|refine Abo hof ?_|(with_reducible refine Ct.mk ?_);refine⟨_,hwh,?_⟩;rintro _ _ ⟨rfl,rfl⟩|refine Bj ?_ (by decide)|(with_reducible refine Ct.mk ?_);refine⟨_,hbs,?_⟩;rintro _ _ ⟨rfl,rfl⟩|(with_reducible apply A9);(focus (simp only[D.at,D.put,D.Xw,D.Fh,Mg,Jo,D.Bx,Js,Ad,Af,h1,h3,hI,Cn.toD,Tal.Bx]<;>exact rfl))|(with_reducible apply A3);(focus rfl);(focus (simp only[D.at,D.put,D.Xw,D.Fh,Mg,Jo,D.Bx,Js,Ad,Af,h1,h3,hI,Cn.toD,Tal.Bx]<;>exact rfl));(try(focus exact rfl)))
 all_goals(try(conv=>whnf))
 have hAl:A≤s.l.length:=by rw[hA];exact Hp _ _
 obtain⟨C4,Ajz⟩:∃R,Awt n (s.l.drop A) []=R:=⟨_,rfl⟩;have hDS:s.A1a n=⟨n,(s.Zp n).rev,(s.Zp n).floor,C4⟩:=by unfold Cn.A1a;rw[←hA,Ajz]
 refine Afm.by (X:=Nat × List Kv) (fun y=>[(5,.v (ti (y.1:Int))),(57,.own [] (.ptr (.st [.it (.str n),.it (ti (s.Zp n).rev),.it (ti (s.Zp n).floor),.vec 55 2 (y.2.map Kv.toD)])))]) (fun y=>y.1≤s.l.length∧y.2.length≤y.1∧Awt n (s.l.drop y.1) y.2=C4) (fun y=>s.l.length - y.1) (A,[]) (by kernel_rfl) ⟨hAl,Cr _,Ajz⟩ ?_
 rintro⟨q,KV⟩ ⟨hq,hkl,hR⟩;dsimp only at hq hkl hR ⊢;have hlen:=hB.len;have hlm:(s.l.map Zk.toD).length=s.l.length:=Bh _;have hwq:=zwj (j:=q) (by omega)
 by_cases hql:q<s.l.length
 case neg=>
  have Ze:¬decide ((q:Int)<(s.l.length:Int))=true:=by simp;omega
  rw[Db (by omega)]at hR
  have hR:KV=C4:=hR;subst hR;have hKI:=Boa KV;repeat'((conv=>whnf);first|(with_reducible refine Aw (by first|exact Ak (by assumption)|refine decide_eq_false ?_;omega) fun hb=>?_);(try rw[hb]);try simp only[Aa]at hb|(with_reducible refine Ac ?_ ?_);focus (and_intros<;>first|omega|with_reducible rfl|kernel_rfl|exact Ah (by rfl)|simp only[An];omega|simp;done)|with_reducible intro Cq|(with_reducible refine A5 ?_ ?_);focus ((with_reducible rfl))|(try dsimp only);rw[hw]|(with_reducible apply A9);(focus (simp only[D.at,D.put,D.Xw,D.Fh,Mg,Jo,D.Bx,Js,Ad,Af,Cn.toD,hlm,hKI]<;>exact rfl)))
  all_goals(try(conv=>whnf))
  have Bk3:OUT++[Spc.Bx ⟨n,(s.Zp n).rev,(s.Zp n).floor,KV⟩]=((NM.take (j+1)).map s.A1a).map Spc.Bx:=by
   rw[Amx,hn,hO, ←hDS];simp
  refine Round.by (j+1,OUT++[Spc.Bx ⟨n,(s.Zp n).rev,(s.Zp n).floor,KV⟩]) ?_ ⟨by omega,Bk3⟩ (by dsimp only;omega)
  try dsimp only
  show norm _ _=Cx _ _
  kernel_rfl
 obtain⟨h,he⟩:∃h,s.l[q]?=some h:=⟨_,Ae hql⟩;have Ze:¬decide ((q:Int)<(s.l.length:Int))=false:=by simp;omega
 obtain⟨hb1,hb2,hb3⟩:=hB.held h (Cb he);have Aum:=L2 h.at_ hb1;have hdr:s.l.drop q=h::s.l.drop (q+1):=by rw[Cc hql];rw[Ae hql]at he;cases he;rfl
 rw[hdr]at hR;simp only[Awt]at hR;generalize C1 h.at_=wk at Aum hR;obtain⟨w,k,z⟩:=wk;dsimp only at Aum hR;by_cases hwn:w=n
 case neg=>
  have hnb:¬(!decide (w=n))=false:=by simpa using hwn
  have Bbf:¬decide (w=n)=true:=by simpa using hwn
  rw[if_pos hwn]at hR;subst hR;have hKI:=Boa KV;repeat'((conv=>whnf);first|(with_reducible refine Ax (by first|assumption|exact Ai (by assumption)|refine decide_eq_true ?_;omega|rfl) fun hb=>?_);(try rw[hb]);try simp only[Aa]at hb|(with_reducible refine Ac ?_ ?_);focus (and_intros<;>first|omega|with_reducible rfl|kernel_rfl|intro _ hh;cases hh;done|exact Ah (by rfl)|simp only[An];omega|simp;done|decide)|with_reducible intro Cq|(with_reducible refine A5 ?_ ?_);focus ((with_reducible rfl))|(with_reducible refine Ct.mk ?_);refine⟨_,Aum,?_⟩;rintro _ _ ⟨rfl,rfl⟩|(try dsimp only);rw[hw]|(with_reducible apply A9);(focus (simp only[D.at,D.put,D.Xw,D.Fh,Mg,Jo,D.Bx,Js,Ad,Af,Cn.toD,hlm,he,hKI]<;>exact rfl))|(with_reducible apply A3);(focus rfl);(focus (simp only[D.at,D.put,D.Xw,D.Fh,Mg,Jo,D.Bx,Js,Ad,Af,Cn.toD,hlm,he,hKI]<;>exact rfl));(try(focus exact rfl)))
  all_goals(try(conv=>whnf))
  have Bk3:OUT++[Spc.Bx ⟨n,(s.Zp n).rev,(s.Zp n).floor,KV⟩]=((NM.take (j+1)).map s.A1a).map Spc.Bx:=by
   rw[Amx,hn,hO, ←hDS];simp
  refine Round.by (j+1,OUT++[Spc.Bx ⟨n,(s.Zp n).rev,(s.Zp n).floor,KV⟩]) ?_ ⟨by omega,Bk3⟩ (by dsimp only;omega)
  try dsimp only
  show norm _ _=Cx _ _
  kernel_rfl
 subst hwn;rw[if_neg (by simp)]at hR
 have hnb:¬(!decide (w=w))=true:=by simp
 have Bbf:¬decide (w=w)=false:=by simp
 have hcl:=A36 (h.vs.map Fk.Bx) (fun u hu=>by obtain⟨v,_,rfl⟩:=X4.1 hu;rfl) (by simp;omega)
 obtain⟨a,vs⟩:=h;dsimp only at hcl hR hb3;repeat'((conv=>whnf);first|(with_reducible first|refine Ax (by first|assumption|refine decide_eq_true ?_;omega) fun hb=>?_|refine Aw (by first|exact Ak (by assumption)|rfl) fun hb=>?_);(try rw[hb]);try simp only[Aa]at hb|((with_reducible refine A5 (fun hb=>?_) fun hb=>?_)<;>first|exact absurd hb (by decide)|(try rw[hb]);try simp only[Aa]at hb)|(with_reducible refine Ac ?_ ?_);focus (and_intros<;>first|omega|with_reducible rfl|kernel_rfl|intro _ hh;cases hh;done|exact Ag rfl|simp only[An];omega|simp;done|decide)|with_reducible intro Cq|(with_reducible refine A5 ?_ ?_);focus (first|with_reducible rfl|exact rfl)|(with_reducible refine Ai2.mkV ?_ ?_ ?_ fun Cq=>?_);(iterate 3 focus (as_aux_lemma=>kernel_rfl));try simp only[zRL]at Cq|(with_reducible refine Ct.mk ?_);refine⟨_,Aum,?_⟩;rintro _ _ ⟨rfl,rfl⟩|(with_reducible refine Aq3.mk ?_);refine⟨_,_,hcl,?_⟩|(try dsimp only);rw[hwq]|(with_reducible apply Ba);(focus (simp only[D.at,D.put,D.Xw,D.Fh,Mg,Jo,D.Bx,Js,Ad,Af,Cn.toD,Zk.toD,hlm,he]<;>exact rfl))|(with_reducible apply A3);(focus rfl);(focus (simp only[D.at,D.put,D.Xw,D.Fh,Mg,Jo,D.Bx,Js,Ad,Af,Cn.toD,Zk.toD,hlm,he]<;>exact rfl));(try(focus exact rfl)))
 all_goals(try(conv=>whnf))
 refine Round.by (q+1,KV++[⟨k,vs⟩]) ?_ ⟨by omega,by simp;omega,hR⟩ (by dsimp only;omega)
 try dsimp only
 have hap:(KV++[(⟨k,vs⟩:Kv)]).map Kv.toD=KV.map Kv.toD++[.st [.it (.str k),.vec Bb 4 ((vs.map Fk.Bx).map D.it)]]:=by simp[Kv.toD]
 rw[hap];simp only[A80];show norm _ _=Cx _ _
 kernel_rfl

open Go.Proofs
def Az1:List Ef→Bool
 | []=>true
 |c::r=>if c.ok then Az1 r else false
def Axw(key:Az):List Ef→Bool→Bool
 | [],b=>b
 |c::r,b=>Axw key r (b&& !decide (c.key=key))
def Aw3(key:Az)(rev:Int):List Kv→Fk→Fk
 | [],v=>v
 |h::r,v=>Aw3 key rev r (if h.key=key then Aps rev h.vs Akw else v)
def Az6(p:Spc)(c:Ef)(was:Fk):Fk:=if c.gone=true then⟨p.rev+1,0,[],true⟩else⟨p.rev+1,if was.gone=true then p.rev+1 else was.made,c.val,false⟩
def At0(p:Spc)(c:Ef)(r:List Ef)(nx:Spc):Spc:=
 if Axw c.key r true=false∨(c.gone=true∧(Aw3 c.key p.rev p.keys Akw).gone=true)then nx
 else⟨nx.name,p.rev+1,nx.floor,Ate c.key (Az6 p c (Aw3 c.key p.rev p.keys Akw)) nx.keys [] false⟩
def Asi(p:Spc):List Ef→Spc→Spc
 | [],nx=>nx
 |c::r,nx=>Asi p r (At0 p c r nx)
def KL(m:Nat)(ks:List Kv):Prop:=ks.length≤m∧∀h∈ks,h.vs.length≤m
theorem A46{key:Az}{v:Fk}{m:Nat}(hm:1≤m):∀{r out:List Kv} {d:Bool},(∀h∈r,h.vs.length+1≤m)→(∀h∈out,h.vs.length≤m)→
 (Ate key v r out d).length≤out.length+r.length+(if d=true then 0 else 1)∧∀h∈Ate key v r out d,h.vs.length≤m
 | [],out,d,_,ho=>by
   unfold Ate;split
   ·rename_i hd;subst hd;exact⟨by simp,ho⟩
   ·rename_i hd;refine⟨by simp[hd],fun h hh=>?_⟩
    rcases Bv.1 hh with hh|hh
    ·exact ho h hh
    ·simp only[Jd]at hh;subst hh;simpa using hm
 |h::r,out,d,hr,ho=>by
  have h1:=hr h (B2 ..);have Hm:=fun x hx=>hr x (B4 _ hx)
  have ho':∀(c:Prop) [Decidable c],∀x∈(if c then out++[⟨key,[v]⟩]else out),x.vs.length≤m:=by
   intro c _ x hx;split at hx
   ·rcases Bv.1 hx with hx|hx
    ·exact ho x hx
    ·simp only[Jd]at hx;subst hx;simpa using hm
   ·exact ho x hx
  have hsn:∀(c:Prop) [Decidable c] (y:Kv),y.vs.length≤m→∀x∈(if c then out++[⟨key,[v]⟩]else out)++[y],x.vs.length≤m:=by
   intro c _ y hy x hx;rcases Bv.1 hx with hx|hx
   ·exact ho' c x hx
   ·simp only[Jd]at hx;subst hx;exact hy
  unfold Ate;split
  ·rename_i hk;have hnl:¬(d=false∧key<h.key):=fun c=>by rw[hk]at c;exact absurd c.2 (Af9 _)
   obtain⟨i1,i2⟩:=A46 (key:=key) (v:=v) hm (r:=r) (out:=(if d=false∧key<h.key then out++[⟨key,[v]⟩]else out)++[⟨h.key,h.vs++[v]⟩]) (d:=true) Hm (hsn _ _ (by simp;omega))
   refine⟨?_,i2⟩;rw[if_neg hnl]at i1 ⊢;simp only[Hq,Ho,Ak7,if_true]at i1 ⊢;split<;>omega
  ·obtain⟨i1,i2⟩:=A46 (key:=key) (v:=v) hm (r:=r) (out:=(if d=false∧key<h.key then out++[⟨key,[v]⟩]else out)++[h]) (d:=if d=false∧key<h.key then true else d) Hm (hsn _ _ (by omega))
   refine⟨?_,i2⟩;by_cases hc:d=false∧key<h.key
   ·rw[if_pos hc,if_pos hc]at i1;rw[if_pos hc,if_pos hc,hc.1];simp only[Hq,Ho,Ak7,if_true,Ado,if_false]at i1 ⊢;omega
   ·rw[if_neg hc,if_neg hc]at i1;rw[if_neg hc,if_neg hc];simp only[Hq,Ho,Ak7]at i1 ⊢;omega
theorem Bhh{m:Nat}{p nx:Spc}{c:Ef}{r:List Ef}(h:KL m nx.keys):KL (m+1) (At0 p c r nx).keys:=by
 unfold At0;split
 ·exact⟨by have:=h.1;omega,fun x hx=>by have:=h.2 x hx;omega⟩
 ·obtain⟨i1,i2⟩:=A46 (key:=c.key) (v:=Az6 p c (Aw3 c.key p.rev p.keys Akw)) (m:=m+1) (by omega) (r:=nx.keys) (out:=[]) (d:=false) (fun x hx=>by have:=h.2 x hx;omega) (by intro x hx;cases hx)
  refine⟨?_,i2⟩;simp only[Ak7,Ado,if_false]at i1;have:=h.1;dsimp only;omega
theorem Bcv(R:List Spc)(n:Az)(cs:List I)(hl:R.length≤100000)(hf:Aqo n R 0= -1):
 Fn Tryz.prog Aqi [rT R,.v (.str n),.v (.list cs)] (Is (.tup [.i (ti 0),.i (ti 16)]) [rT R,.no,.no]):=by
 refine Ass ?_ (by simp)
 have hfi:=Auo R n hl;rw[hf]at hfi;repeat'((conv=>whnf);first|(with_reducible refine Ax (by first|refine decide_eq_true ?_;omega|rfl) fun hb=>?_);(try rw[hb]);try simp only[Aa]at hb|(with_reducible refine Ac ?_ ?_);focus (and_intros<;>first|kernel_rfl|intro _ hh;cases hh;done|simp;done|decide)|(with_reducible refine Ct.mk ?_);refine⟨_,hfi,?_⟩;rintro _ _ ⟨rfl,rfl⟩)
 all_goals(try(conv=>whnf))
 (apply Dj<;>kernel_rfl)
theorem Bfc(R:List Spc)(n:Az)(cs:List Ef)(hl:R.length≤100000)(hcs:cs.length≤1000)(i:Nat)(p:Spc)(hf:Aqo n R 0=(i:Int))(he:R[i]?=some p)(C4:Bool)(A5i:C4=false)(Ajz:Az1 cs=C4):
 Fn Tryz.prog Aqi [rT R,.v (.str n),.v (.list (cs.map Ef.Bx))] (Is (.tup [.i (ti 0),.i (ti 1)]) [rT R,.no,.no]):=by
 refine Ass ?_ (by simp)
 have hfi:=Auo R n hl;rw[hf]at hfi;have hil:=(A7.1 he).1;have hlm:((R.map Spc.Bx).map D.it).length=R.length:=by simp
 have hcl:(cs.map Ef.Bx).length=cs.length:=Bh _;repeat'((conv=>whnf);first|(with_reducible refine Aw (by first|assumption|refine decide_eq_false ?_;omega) fun hb=>?_);(try rw[hb]);try simp only[Aa]at hb|(with_reducible refine Ac ?_ ?_);focus (and_intros<;>first|kernel_rfl|intro _ hh;cases hh;done|simp;done|decide)|(with_reducible refine Ct.mk ?_);refine⟨_,hfi,?_⟩;rintro _ _ ⟨rfl,rfl⟩)
 all_goals(try(conv=>whnf))
 refine Afm.by (X:=Nat) (fun j=>[(9,.v (ti (j:Int)))]) (fun j=>j≤cs.length∧Az1 (cs.drop j)=C4) (fun j=>cs.length - j) 0 (by kernel_rfl) ⟨Cr _,Ajz⟩ ?_
 rintro j ⟨hj,hR⟩
 (try dsimp only at hj hR ⊢)
 have hw:=zwj (j:=j) (by omega)
 by_cases hjl:j<cs.length
 case neg=>
  rw[Db (by omega)]at hR
  rw[←hR]at A5i;cases A5i
 obtain⟨c,hc⟩:∃c,cs[j]?=some c:=⟨_,Ae hjl⟩;have h3:¬decide ((j:Int)<(cs.length:Int))=false:=by simp;omega
 have h4:¬decide ((j:Int)<((cs.map Ef.Bx).length:Int))=false:=by simp;omega
 have hdr:cs.drop j=c::cs.drop (j+1):=by rw[Cc hjl];rw[Ae hjl]at hc;cases hc;rfl
 rw[hdr]at hR;simp only[Az1]at hR;obtain⟨ck,cv,cg⟩:=c;by_cases H2:(Ef.mk ck cv cg).ok
 ·rw[if_pos H2]at hR;obtain⟨hk1,hk2⟩:=H2;dsimp only at hk1 hk2;cases cg with
  |true=>
   repeat'((conv=>whnf);first|(with_reducible first|refine Ax (by exact Ai (by assumption)) fun hb=>?_|refine Aw (by first|assumption|rfl) fun hb=>?_);(try rw[hb]);try simp only[Aa]at hb|((with_reducible refine A5 (fun hb=>?_) fun hb=>?_)<;>first|exfalso;((simp only[An]at hb<;>omega))|(try rw[hb]);try simp only[Aa]at hb)|(with_reducible refine Ac ?_ ?_);focus (and_intros<;>first|omega|with_reducible rfl|kernel_rfl)|with_reducible intro Cq|(try dsimp only);(first|rw[B6 hc]|rw[hw]))
   all_goals(try(conv=>whnf))
   refine Round.by (j+1) ?_ ⟨by omega,hR⟩ (by omega)
   try dsimp only
   show norm _ _=Cx _ _
   kernel_rfl
  |false=>
   have hk2:cv.length≤256:=by simpa using hk2
   repeat'((conv=>whnf);first|(with_reducible first|refine Ax (by first|exact Ai (by assumption)|rfl) fun hb=>?_|refine Aw (by first|assumption|rfl) fun hb=>?_);(try rw[hb]);try simp only[Aa]at hb|((with_reducible refine A5 (fun hb=>?_) fun hb=>?_)<;>first|exfalso;((simp only[An]at hb<;>omega))|(try rw[hb]);try simp only[Aa]at hb)|(with_reducible refine Ac ?_ ?_);focus (and_intros<;>first|omega|with_reducible rfl|kernel_rfl)|with_reducible intro Cq|(try dsimp only);(first|rw[B6 hc]|rw[hw]))
   all_goals(try(conv=>whnf))
   refine Round.by (j+1) ?_ ⟨by omega,hR⟩ (by omega)
   try dsimp only
   show norm _ _=Cx _ _
   kernel_rfl
 ·by_cases hk:1≤ck.length∧ck.length≤64
  ·cases cg with
   |true=>exact absurd ⟨hk,.inl rfl⟩ H2
   |false=>
    have hv:¬cv.length≤256:=fun h=>H2 ⟨hk,.inr h⟩
    repeat'((conv=>whnf);first|(with_reducible first|refine Ax (by first|exact Ai (by assumption)|rfl) fun hb=>?_|refine Aw (by first|assumption|rfl) fun hb=>?_);(try rw[hb]);try simp only[Aa]at hb|((with_reducible refine A5 (fun hb=>?_) fun hb=>?_)<;>first|exfalso;((simp only[An]at hb<;>omega))|(try rw[hb]);try simp only[Aa]at hb)|(with_reducible refine Ac ?_ ?_);focus (and_intros<;>first|omega|with_reducible rfl|kernel_rfl)|with_reducible intro Cq|(try dsimp only);rw[B6 hc])
    all_goals(try(conv=>whnf))
    all_goals((apply Dj<;>kernel_rfl))
  ·cases cg with
   |true=>
    repeat'((conv=>whnf);first|(with_reducible first|refine Ax (by first|exact Ai (by assumption)|rfl) fun hb=>?_|refine Aw (by first|assumption|rfl) fun hb=>?_);(try rw[hb]);try simp only[Aa]at hb|((with_reducible refine A5 (fun hb=>?_) fun hb=>?_)<;>first|exfalso;((simp only[An]at hb<;>omega))|(try rw[hb]);try simp only[Aa]at hb)|(with_reducible refine Ac ?_ ?_);focus (and_intros<;>first|omega|with_reducible rfl|kernel_rfl)|with_reducible intro Cq|(try dsimp only);rw[B6 hc])
    all_goals(try(conv=>whnf))
    all_goals((apply Dj<;>kernel_rfl))
   |false=>
    repeat'((conv=>whnf);first|(with_reducible first|refine Ax (by first|exact Ai (by assumption)|rfl) fun hb=>?_|refine Aw (by first|assumption|rfl) fun hb=>?_);(try rw[hb]);try simp only[Aa]at hb|((with_reducible refine A5 (fun hb=>?_) fun hb=>?_)<;>first|exfalso;((simp only[An]at hb<;>omega))|(try rw[hb]);try simp only[Aa]at hb)|(with_reducible refine Ac ?_ ?_);focus (and_intros<;>first|omega|with_reducible rfl|kernel_rfl)|with_reducible intro Cq|(try dsimp only);rw[B6 hc])
    all_goals(try(conv=>whnf))
    all_goals((apply Dj<;>kernel_rfl))

open Go.Proofs
theorem Bhi(R:List Spc)(n:Az)(cs:List Ef)(hl:R.length≤100000)(hcs:cs.length≤1000)(i:Nat)(p:Spc)(hf:Aqo n R 0=(i:Int))(he:R[i]?=some p)(hkl:KL 90000 p.keys)(A26:0≤p.rev∧p.rev≤1000000000000)(C4:Bool)(A5i:C4=true)(Ajz:Az1 cs=C4)(Z:Spc)(hZ:Asi p cs p=Z):
 Fn Tryz.prog Aqi [rT R,.v (.str n),.v (.list (cs.map Ef.Bx))] (Is (.tup [.i (ti Z.rev),.i (ti 0)]) [rT (R.set i Z),.no,.no]):=by
 refine Ass ?_ (by simp)
 have hfi:=Auo R n hl;rw[hf]at hfi;have hil:=(A7.1 he).1;have hlm:((R.map Spc.Bx).map D.it).length=R.length:=by simp
 have hcl:(cs.map Ef.Bx).length=cs.length:=Bh _;repeat'((conv=>whnf);first|(with_reducible refine Aw (by first|refine decide_eq_false ?_;omega|rfl) fun hb=>?_);(try rw[hb]);try simp only[Aa]at hb|(with_reducible refine Ac ?_ ?_);focus (and_intros<;>first|kernel_rfl|intro _ hh;cases hh;done|simp;done|decide)|(with_reducible refine Ct.mk ?_);refine⟨_,hfi,?_⟩;rintro _ _ ⟨rfl,rfl⟩)
 all_goals(try(conv=>whnf))
 refine Afm.by (X:=Nat) (fun j=>[(9,.v (ti (j:Int)))]) (fun j=>j≤cs.length∧Az1 (cs.drop j)=C4) (fun j=>cs.length - j) 0 (by kernel_rfl) ⟨Cr _,Ajz⟩ ?_
 rintro j ⟨hj,hR⟩
 (try dsimp only at hj hR ⊢)
 have hw:=zwj (j:=j) (by omega)
 by_cases hjl:j<cs.length
 ·skip
  obtain⟨c,hc⟩:∃c,cs[j]?=some c:=⟨_,Ae hjl⟩;have h3:¬decide ((j:Int)<(cs.length:Int))=false:=by simp;omega
  have h4:¬decide ((j:Int)<((cs.map Ef.Bx).length:Int))=false:=by simp;omega
  have hdr:cs.drop j=c::cs.drop (j+1):=by rw[Cc hjl];rw[Ae hjl]at hc;cases hc;rfl
  rw[hdr]at hR;simp only[Az1]at hR;obtain⟨ck,cv,cg⟩:=c;by_cases H2:(Ef.mk ck cv cg).ok
  case neg=>
   rw[if_neg H2]at hR;rw[←hR]at A5i;cases A5i
  rw[if_pos H2]at hR;obtain⟨hk1,hk2⟩:=H2;dsimp only at hk1 hk2;cases cg with
  |true=>
   repeat'((conv=>whnf);first|(with_reducible first|refine Ax (by first|assumption|exact Ai (by assumption)) fun hb=>?_|refine Aw (by rfl) fun hb=>?_);(try rw[hb]);try simp only[Aa]at hb|((with_reducible refine A5 (fun hb=>?_) fun hb=>?_)<;>first|exfalso;((simp only[An]at hb<;>omega))|(try rw[hb]);try simp only[Aa]at hb)|(with_reducible refine Ac ?_ ?_);focus (and_intros<;>first|omega|with_reducible rfl|kernel_rfl)|with_reducible intro Cq|(try dsimp only);(first|rw[B6 hc]|rw[hw]))
   all_goals(try(conv=>whnf))
   refine Round.by (j+1) ?_ ⟨by omega,hR⟩ (by omega)
   try dsimp only
   show norm _ _=Cx _ _
   kernel_rfl
  |false=>
   have hk2:cv.length≤256:=by simpa using hk2
   repeat'((conv=>whnf);first|(with_reducible first|refine Ax (by first|assumption|exact Ai (by assumption)|rfl) fun hb=>?_|refine Aw (by rfl) fun hb=>?_);(try rw[hb]);try simp only[Aa]at hb|((with_reducible refine A5 (fun hb=>?_) fun hb=>?_)<;>first|exfalso;((simp only[An]at hb<;>omega))|(try rw[hb]);try simp only[Aa]at hb)|(with_reducible refine Ac ?_ ?_);focus (and_intros<;>first|omega|with_reducible rfl|kernel_rfl)|with_reducible intro Cq|(try dsimp only);(first|rw[B6 hc]|rw[hw]))
   all_goals(try(conv=>whnf))
   refine Round.by (j+1) ?_ ⟨by omega,hR⟩ (by omega)
   try dsimp only
   show norm _ _=Cx _ _
   kernel_rfl
 have h3:¬decide ((j:Int)<(cs.length:Int))=true:=by simp;omega
 have h4:¬decide ((j:Int)<((cs.map Ef.Bx).length:Int))=true:=by simp;omega
 repeat'((conv=>whnf);first|(with_reducible refine Aw (by exact Ak (by assumption)) fun hb=>?_);(try rw[hb]);try simp only[Aa]at hb|(with_reducible refine Ac ?_ ?_);focus (and_intros<;>first|omega|with_reducible rfl|kernel_rfl|simp;done)|with_reducible intro Cq|(with_reducible apply A3);(focus rfl);(focus (simp only[D.at,D.put,D.Xw,D.Fh,Mg,Jo,D.Bx,Js,Ad,Af,he,hlm]<;>exact rfl));(try(focus exact rfl)))
 all_goals(try(conv=>whnf))
 clear hR Ajz A5i;refine Afm.by (X:=Nat × Spc) (fun y=>[(12,.v (ti (y.1:Int))),(11,.box (T.one (F.i y.2.Bx)))]) (fun y=>y.1≤cs.length∧KL (90000+y.1) y.2.keys∧Asi p (cs.drop y.1) y.2=Z) (fun y=>cs.length - y.1) (0,p) (by kernel_rfl) ⟨Cr _,hkl,hZ⟩ ?_
 rintro⟨q,nx⟩ ⟨hq,hkq,hQ⟩;dsimp only at hq hkq hQ ⊢;have hwq:=zwj (j:=q) (by omega)
 by_cases hql:q<cs.length
 case neg=>
  have h5:¬decide ((q:Int)<(cs.length:Int))=true:=by simp;omega
  have h6:¬decide ((q:Int)<((cs.map Ef.Bx).length:Int))=true:=by simp;omega
  rw[Db (by omega)]at hQ
  have hQ:nx=Z:=hQ;subst hQ;obtain⟨nn,nr,nf,nk⟩:=nx;have Au1:rT (R.set i ⟨nn,nr,nf,nk⟩)= .own [] (.ptr (.st [.vec 52 4 (((R.map Spc.Bx).map D.it).set i (.it (Spc.mk nn nr nf nk).Bx))])):=by simp only[rT,Amd]
  rw[Au1];repeat'((conv=>whnf);first|(with_reducible refine Aw (by exact Ak (by assumption)) fun hb=>?_);(try rw[hb]);try simp only[Aa]at hb|(with_reducible refine Ac ?_ ?_);focus (and_intros<;>first|omega|with_reducible rfl|kernel_rfl|simp;done)|with_reducible intro Cq|(with_reducible refine Ai2.mkV ?_ ?_ ?_ fun Cq=>?_);(iterate 3 focus (as_aux_lemma=>kernel_rfl));try simp only[zRL]at Cq|(with_reducible apply Ba);(focus (simp only[D.at,D.put,D.Xw,D.Fh,Mg,Jo,D.Bx,Js,Ad,Af,he,hlm]<;>exact rfl)))
  all_goals(try(conv=>whnf))
  (apply Dj<;>kernel_rfl)
 obtain⟨c,hc⟩:∃c,cs[q]?=some c:=⟨_,Ae hql⟩;have h5:¬decide ((q:Int)<(cs.length:Int))=false:=by simp;omega
 have h6:¬decide ((q:Int)<((cs.map Ef.Bx).length:Int))=false:=by simp;omega
 have hdq:cs.drop q=c::cs.drop (q+1):=by rw[Cc hql];rw[Ae hql]at hc;cases hc;rfl
 rw[hdq]at hQ;simp only[Asi]at hQ;have hkn:KL (90000+(q+1)) (At0 p c (cs.drop (q+1)) nx).keys:=Bhh hkq;have Atc:∀nx',nx'=At0 p c (cs.drop (q+1)) nx→q+1≤cs.length∧KL (90000+(q+1)) nx'.keys∧Asi p (cs.drop (q+1)) nx'=Z:=fun nx' e=>by subst e;exact⟨by omega,hkn,hQ⟩
 clear hQ hkn;obtain⟨LA,hLA⟩:∃b,Axw c.key (cs.drop (q+1)) true=b:=⟨_,rfl⟩;obtain⟨WA,hWA⟩:∃v,Aw3 c.key p.rev p.keys Akw=v:=⟨_,rfl⟩;unfold At0 at Atc;rw[hLA,hWA]at Atc;obtain⟨ck,cv,cg⟩:=c;dsimp only at hLA hWA Atc;repeat'((conv=>whnf);first|(with_reducible refine Ax (by exact Ai (by assumption)) fun hb=>?_);(try rw[hb]);try simp only[Aa]at hb|(with_reducible refine Ac ?_ ?_);focus (and_intros<;>(with_reducible rfl))|with_reducible intro Cq|(try dsimp only);rw[hwq])
 all_goals(try(conv=>whnf))
 refine Afm.by (X:=Nat × Bool) (fun y=>[(14,.v (ti (y.1:Int))),(13,.v (.bool y.2))]) (fun y=>(q+1≤y.1∧y.1≤cs.length)∧Axw ck (cs.drop y.1) y.2=LA) (fun y=>cs.length - y.1) (q+1,true) (by kernel_rfl) ⟨⟨Bz _,by omega⟩,hLA⟩ ?_
 rintro⟨k,b⟩ ⟨⟨hk0,hk⟩,hK⟩;dsimp only at hk0 hk hK ⊢;have hwk:=zwj (j:=k) (by omega)
 by_cases Bic:k<cs.length
 ·obtain⟨e,hke⟩:∃c,cs[k]?=some c:=⟨_,Ae Bic⟩;have h7:¬decide ((k:Int)<(cs.length:Int))=false:=by simp;omega
  have h8:¬decide ((k:Int)<((cs.map Ef.Bx).length:Int))=false:=by simp;omega
  have hdk:cs.drop k=e::cs.drop (k+1):=by rw[Cc Bic];rw[Ae Bic]at hke;cases hke;rfl
  rw[hdk]at hK;simp only[Axw]at hK;obtain⟨ek,ev,eg⟩:=e;dsimp only at hK;cases b with
  |true=>
   repeat'((conv=>whnf);first|(with_reducible refine Ax (by first|exact Ai (by assumption)|rfl) fun hb=>?_);(try rw[hb]);try simp only[Aa]at hb|(with_reducible refine Ac ?_ ?_);focus (and_intros<;>first|omega|with_reducible rfl|kernel_rfl)|with_reducible intro Cq|(with_reducible refine Ai2.mkV ?_ ?_ ?_ fun Cq=>?_);(iterate 3 focus (as_aux_lemma=>kernel_rfl));try simp only[zRL]at Cq|(try dsimp only);(first|rw[B6 hke]|rw[B6 hc]|rw[hwk]))
   all_goals(try(conv=>whnf))
   refine Round.by (k+1,true&& !decide (ek=ck)) ?_ ⟨⟨by omega,by omega⟩,hK⟩ (by dsimp only;omega)
   try dsimp only
   show norm _ _=Cx _ _
   kernel_rfl
  |false=>
   repeat'((conv=>whnf);first|(with_reducible first|refine Ax (by exact Ai (by assumption)) fun hb=>?_|refine Aw (by first|exact Ak (by assumption)|rfl) fun hb=>?_);(try rw[hb]);try simp only[Aa]at hb|(with_reducible refine Ac ?_ ?_);focus (and_intros<;>(with_reducible rfl))|with_reducible intro Cq|(with_reducible refine Ai2.mkV ?_ ?_ ?_ fun Cq=>?_);(iterate 3 focus (as_aux_lemma=>kernel_rfl));try simp only[zRL]at Cq|skip;rw[hwk])
   all_goals(try(conv=>whnf))
   refine Round.by (k+1,false&& !decide (ek=ck)) ?_ ⟨⟨by omega,by omega⟩,hK⟩ (by dsimp only;omega)
   try dsimp only
   show norm _ _=Cx _ _
   kernel_rfl
 have h7:¬decide ((k:Int)<(cs.length:Int))=true:=by simp;omega
 have h8:¬decide ((k:Int)<((cs.map Ef.Bx).length:Int))=true:=by simp;omega
 rw[Db (by omega)]at hK
 have hK:b=LA:=hK;subst hK;repeat'((conv=>whnf);first|(with_reducible refine Aw (by exact Ak (by assumption)) fun hb=>?_);(try rw[hb]);try simp only[Aa]at hb|(with_reducible refine Ac ?_ ?_);focus (and_intros<;>first|omega|with_reducible rfl|kernel_rfl)|with_reducible intro Cq)
 all_goals(try(conv=>whnf))
 obtain⟨pn,pr,pf,pk⟩:=p;dsimp only at hkl A26 hWA Atc;have hpk:(pk.map Kv.Bx).length=pk.length:=Bh _;have Bze:=hkl.1;refine Afm.by (X:=Nat × Fk) (fun y=>[(16,.v (ti (y.1:Int))),(15,.box (T.one (F.i y.2.Bx)))]) (fun y=>y.1≤pk.length∧Aw3 ck pr (pk.drop y.1) y.2=WA) (fun y=>pk.length - y.1) (0,Akw) (by kernel_rfl) ⟨Cr _,hWA⟩ ?_
 rintro⟨m,w⟩ ⟨hm,hM⟩;dsimp only at hm hM ⊢;have hwm:=zwj (j:=m) (by omega)
 by_cases hml:m<pk.length
 ·obtain⟨h,hmh⟩:∃c,pk[m]?=some c:=⟨_,Ae hml⟩;have h9:¬decide ((m:Int)<(pk.length:Int))=false:=by simp;omega
  have h10:¬decide ((m:Int)<((pk.map Kv.Bx).length:Int))=false:=by simp;omega
  have hdm:pk.drop m=h::pk.drop (m+1):=by rw[Cc hml];rw[Ae hml]at hmh;cases hmh;rfl
  rw[hdm]at hM;simp only[Aw3]at hM;have C3:=Bdu h.vs pr (by have:=hkl.2 h (Cb hmh);omega)
  obtain⟨hk',hv'⟩:=h;dsimp only at hM C3;by_cases hkk:hk'=ck
  ·rw[if_pos hkk]at hM;have e1:¬decide (hk'=ck)=false:=by simpa using hkk
   generalize Aps pr hv' Akw=u at C3 hM;repeat'((conv=>whnf);first|(with_reducible refine Ax (by exact Ai (by assumption)) fun hb=>?_);(try rw[hb]);(try simp only[Aa]at hb);try subst hb|(with_reducible refine Ac ?_ ?_);focus (and_intros<;>first|omega|with_reducible rfl|kernel_rfl|intro _ hh;cases hh;done|simp;done|decide)|with_reducible intro Cq|(with_reducible refine Ai2.mkV ?_ ?_ ?_ fun Cq=>?_);(iterate 3 focus (as_aux_lemma=>kernel_rfl));try simp only[zRL]at Cq|(try dsimp only);(first|rw[B6 hmh]|rw[B6 hc])|(with_reducible refine Aq3.mk ?_);refine⟨_,_,C3,?_⟩|(try dsimp only);rw[hwm])
   all_goals(try(conv=>whnf))
   refine Round.by (m+1,u) ?_ ⟨by omega,hM⟩ (by dsimp only;omega)
   try dsimp only
   show norm _ _=Cx _ _
   kernel_rfl
  ·rw[if_neg hkk]at hM;have e1:¬decide (hk'=ck)=true:=by simpa using hkk
   repeat'((conv=>whnf);first|(with_reducible first|refine Ax (by exact Ai (by assumption)) fun hb=>?_|refine Aw (by exact Ak (by assumption)) fun hb=>?_);(try rw[hb]);try simp only[Aa]at hb|(with_reducible refine Ac ?_ ?_);focus (and_intros<;>first|omega|with_reducible rfl|kernel_rfl|simp;done)|with_reducible intro Cq|(with_reducible refine Ai2.mkV ?_ ?_ ?_ fun Cq=>?_);(iterate 3 focus (as_aux_lemma=>kernel_rfl));try simp only[zRL]at Cq|(try dsimp only);(first|rw[B6 hmh]|rw[B6 hc]|rw[hwm]))
   all_goals(try(conv=>whnf))
   refine Round.by (m+1,w) ?_ ⟨by omega,hM⟩ (by dsimp only;omega)
   try dsimp only
   show norm _ _=Cx _ _
   kernel_rfl
 have h9:¬decide ((m:Int)<(pk.length:Int))=true:=by simp;omega
 have h10:¬decide ((m:Int)<((pk.map Kv.Bx).length:Int))=true:=by simp;omega
 rw[Db (by omega)]at hM
 have hM:w=WA:=hM;subst hM;obtain⟨wr,wm,wv,wg⟩:=w;have hpr:IntKind.i64.wrap (pr+1)=pr+1:=Bf (by omega)
 have Aof:=fun v=>Bfj nx ck v (by have:=hkq.1;omega) (fun h hh=>by have:=hkq.2 h hh;omega)
 dsimp only at Atc;obtain⟨nn,nr,nf,nk⟩:=nx;dsimp only at Aof Atc;cases b with
 |false=>
  repeat'((conv=>whnf);first|(with_reducible first|refine Ax (by first|exact Ai (by assumption)|rfl) fun hb=>?_|refine Aw (by first|assumption|exact Ak (by assumption)) fun hb=>?_);(try rw[hb]);try simp only[Aa]at hb|((with_reducible refine A5 (fun hb=>?_) fun hb=>?_)<;>first|exact absurd hb (by decide)|(try rw[hb]);try simp only[Aa]at hb)|(with_reducible refine Ac ?_ ?_);focus (and_intros<;>first|omega|with_reducible rfl|kernel_rfl|simp;done)|with_reducible intro Cq|(try dsimp only);rw[hwq])
  all_goals(try(conv=>whnf))
  refine Round.by (q+1,⟨nn,nr,nf,nk⟩) ?_ (Atc _ (by rw[if_pos (.inl rfl)])) (by dsimp only;omega)
  try dsimp only
  show norm _ _=Cx _ _
  kernel_rfl
 |true=>
  cases cg with
  |true=>
   cases wg with
   |true=>
    repeat'((conv=>whnf);first|(with_reducible first|refine Ax (by first|assumption|rfl) fun hb=>?_|refine Aw (by first|exact Ak (by assumption)|rfl) fun hb=>?_);(try rw[hb]);try simp only[Aa]at hb|((with_reducible refine A5 (fun hb=>?_) fun hb=>?_)<;>first|exact absurd hb (by decide)|(try rw[hb]);try simp only[Aa]at hb)|(with_reducible refine Ac ?_ ?_);focus (and_intros<;>first|omega|with_reducible rfl|kernel_rfl|simp;done)|with_reducible intro Cq|(try dsimp only);rw[B6 hc]|skip;rw[hwq])
    all_goals(try(conv=>whnf))
    refine Round.by (q+1,⟨nn,nr,nf,nk⟩) ?_ (Atc _ (by rw[if_pos (.inr ⟨rfl,rfl⟩)])) (by dsimp only;omega)
    try dsimp only
    show norm _ _=Cx _ _
    kernel_rfl
   |false=>
    have Aof:=Aof ⟨pr+1,0,[],true⟩;repeat'((conv=>whnf);first|(with_reducible first|refine Ax (by first|assumption|rfl) fun hb=>?_|refine Aw (by first|exact Ak (by assumption)|rfl) fun hb=>?_);(try rw[hb]);try simp only[Aa]at hb|((with_reducible refine A5 (fun hb=>?_) fun hb=>?_)<;>first|exact absurd hb (by decide)|(try rw[hb]);try simp only[Aa]at hb)|(with_reducible refine Ac ?_ ?_);focus (and_intros<;>first|omega|with_reducible rfl|kernel_rfl|intro _ hh;cases hh;done|simp;done|decide)|with_reducible intro Cq|(with_reducible refine Ai2.mkV ?_ ?_ ?_ fun Cq=>?_);(iterate 3 focus (as_aux_lemma=>kernel_rfl));try simp only[zRL]at Cq|(try dsimp only);rw[B6 hc]|(with_reducible refine Aq3.mk ?_);refine⟨_,_,Aof,?_⟩|(try dsimp only);rw[hpr]|skip;rw[hwq])
    all_goals(try(conv=>whnf))
    refine Round.by (q+1,⟨nn,pr+1,nf,Ate ck ⟨pr+1,0,[],true⟩ nk [] false⟩) ?_ (Atc _ (by rw[if_neg (by simp)];simp[Az6])) (by dsimp only;omega)
    try dsimp only
    show norm _ _=Cx _ _
    kernel_rfl
  |false=>
   cases wg with
   |true=>
    have Aof:=Aof ⟨pr+1,pr+1,cv,false⟩;repeat'((conv=>whnf);first|(with_reducible refine Aw (by first|exact Ak (by assumption)|rfl) fun hb=>?_);(try rw[hb]);try simp only[Aa]at hb|((with_reducible refine A5 (fun hb=>?_) fun hb=>?_)<;>first|exact absurd hb (by decide)|(try rw[hb]);try simp only[Aa]at hb)|(with_reducible refine Ac ?_ ?_);focus (and_intros<;>first|omega|with_reducible rfl|kernel_rfl|intro _ hh;cases hh;done|simp;done|decide)|with_reducible intro Cq|(with_reducible refine Ai2.mkV ?_ ?_ ?_ fun Cq=>?_);(iterate 3 focus (as_aux_lemma=>kernel_rfl));try simp only[zRL]at Cq|(try dsimp only);rw[B6 hc]|(with_reducible refine Aq3.mk ?_);refine⟨_,_,Aof,?_⟩|(try dsimp only);rw[hpr]|skip;rw[hwq])
    all_goals(try(conv=>whnf))
    refine Round.by (q+1,⟨nn,pr+1,nf,Ate ck ⟨pr+1,pr+1,cv,false⟩ nk [] false⟩) ?_ (Atc _ (by rw[if_neg (by simp)];simp[Az6])) (by dsimp only;omega)
    try dsimp only
    show norm _ _=Cx _ _
    kernel_rfl
   |false=>
    have Aof:=Aof ⟨pr+1,wm,cv,false⟩;repeat'((conv=>whnf);first|(with_reducible refine Aw (by first|exact Ak (by assumption)|rfl) fun hb=>?_);(try rw[hb]);try simp only[Aa]at hb|((with_reducible refine A5 (fun hb=>?_) fun hb=>?_)<;>first|exact absurd hb (by decide)|(try rw[hb]);try simp only[Aa]at hb)|(with_reducible refine Ac ?_ ?_);focus (and_intros<;>first|omega|with_reducible rfl|kernel_rfl|intro _ hh;cases hh;done|simp;done|decide)|with_reducible intro Cq|(with_reducible refine Ai2.mkV ?_ ?_ ?_ fun Cq=>?_);(iterate 3 focus (as_aux_lemma=>kernel_rfl));try simp only[zRL]at Cq|(try dsimp only);rw[B6 hc]|(with_reducible refine Aq3.mk ?_);refine⟨_,_,Aof,?_⟩|(try dsimp only);rw[hpr]|skip;rw[hwq])
    all_goals(try(conv=>whnf))
    refine Round.by (q+1,⟨nn,pr+1,nf,Ate ck ⟨pr+1,wm,cv,false⟩ nk [] false⟩) ?_ (Atc _ (by rw[if_neg (by simp)];simp[Az6])) (by dsimp only;omega)
    try dsimp only
    show norm _ _=Cx _ _
    kernel_rfl
end Go.Ab
