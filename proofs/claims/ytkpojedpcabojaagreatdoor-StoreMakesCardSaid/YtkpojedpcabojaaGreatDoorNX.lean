/- Lemmas -/
import Derived.Test.YtkpojedpcabojaaGreatDoorV5
import Derived.Shelf.Unicode.DecodeAny
set_option linter.unusedVariables false
set_option linter.unusedSimpArgs false
namespace Go.Ab
def Hw(vs:List Bt):Bt:=vs.getLast?.getD Fx
def fK(n a:A1)(v:Bt):Int:=if(Cz a).1=n∧v.gone=false then 1 else 0
def fB(n a:A1)(v:Bt):Int:=if(Cz a).1=n∧v.gone=false then((Cz a).2.1.length:Int)+(v.val.length:Int)else 0
def Gv(f:A1→Bt→Int):List C0→Int
 | []=>0
 |h::r=>f h.at_ (Hw h.vs)+Gv f r
theorem Adc(f:A1→Bt→Int):∀a b:List C0,Gv f (a++b)=Gv f a+Gv f b
 | [],b=>by simp[Gv]
 |h::r,b=>by simp only[C4,Gv,Adc f r b];omega
theorem A5a{f:A1→Bt→Int}{h:C0}:∀{l:List C0} {p:Nat} {e:C0},l[p]?=some e→Gv f (l.set p h)=Gv f l - f e.at_ (Hw e.vs)+f h.at_ (Hw h.vs)
 | [],p,e,he=>by simp at he
 |x::r,0,e,he=>by
  simp only[B9,Af]at he;subst he;simp only[F7,Gv];omega
 |x::r,p+1,e,he=>by
  simp only[Bn]at he;simp only[E9,Gv,A5a he];omega
theorem Baw(vs:List Bt)(v:Bt):Hw (vs++[v])=v:=by simp[Hw]
theorem Ank{l:List C0}{a:A1}{e:C0}(hf:U6 (Fe a) (Su a) l=true)(he:l[Gm (Fe a) l]?=some e):Ni l a=Hw e.vs:=by
 unfold Ni A6.Ais A6.pi A6.pf;dsimp only;rw[he];dsimp only;rw[if_pos hf];rfl
theorem T3{f:A1→Bt→Int}{l:List C0}{a:A1}{v:Bt}(h0:f a Fx=0):Gv f (Pf l a v)=Gv f l - f a (Ni l a)+f a v:=by
 unfold Pf Afx;split
 ·rename_i hf;obtain⟨e,h2,h3⟩:=Ww hf;have h4:e.at_=a:=by simpa[Su]using h3
  rw[Sm h2,A5a h2,Ank hf h2];dsimp only;rw[Baw,h4]
 ·rename_i hf;rw[show Ni l a=Fx from A6.Ait (s:=⟨[],l⟩) (show U6 (Fe a) (Su a) l=false by simpa using hf),h0]
  rw[Adc]
  conv=>rhs;rw[←B3 (Gm (Fe a) l) l,Adc]
  simp only[Gv,Hw,List.getLast?_singleton,Option.getD_some];omega
theorem Aoz{n k:A1}{v:Bt}(hn:n.length<256):fK n (Cp n k) v=if v.gone=false then 1 else 0:=by
 unfold fK;rw[D3 hn];simp
theorem Aoy{n k:A1}{v:Bt}(hn:n.length<256):fB n (Cp n k) v=if v.gone=false then(k.length:Int)+(v.val.length:Int)else 0:=by
 unfold fB;rw[D3 hn];simp
theorem Bk4{n n' k:A1}{v:Bt}(hn:n.length<256)(h:n'≠n):fK n' (Cp n k) v=0:=by
 unfold fK;rw[D3 hn,if_neg (fun c=>h c.1.symm)]
theorem Bk3{n n' k:A1}{v:Bt}(hn:n.length<256)(h:n'≠n):fB n' (Cp n k) v=0:=by
 unfold fB;rw[D3 hn,if_neg (fun c=>h c.1.symm)]
theorem Abo{n a:A1}{v:Bt}(h:v.gone=true):fK n a v=0:=by unfold fK;rw[if_neg (fun c=>by rw[h]at c;cases c.2)]
theorem Abn{n a:A1}{v:Bt}(h:v.gone=true):fB n a v=0:=by unfold fB;rw[if_neg (fun c=>by rw[h]at c;cases c.2)]
theorem Azw{n k:A1}{c:Ce}{x:N0}(hn:n.length<256)(h1:x.t.keys=Gv (fK n) x.l)(h2:x.t.bytes=Gv (fB n) x.l):
 (Dv n k c x).t.keys=Gv (fK n) (Dv n k c x).l∧(Dv n k c x).t.bytes=Gv (fB n) (Dv n k c x).l:=by
 have g0:Fx.gone=true:=rfl;unfold Dv;dsimp only;split
 ·exact⟨h1,h2⟩
 ·rename_i hcw;split
  ·rename_i hc;have hw:(Ni x.l (Cp n k)).gone=false:=by
    cases h:(Ni x.l (Cp n k)).gone with
    |false=>rfl
    |true=>exact absurd ⟨hc,h⟩ hcw
   dsimp only;rw[T3 (Abo g0),T3 (Abn g0),Aoz hn,Aoz hn,Aoy hn,Aoy hn,hw];simp only[if_true,Bool.true_eq_false,if_false];omega
  ·split
   ·rename_i hw;dsimp only;rw[T3 (Abo g0),T3 (Abn g0),Aoz hn,Aoz hn,Aoy hn,Aoy hn,hw];simp only[if_true,Bool.true_eq_false,if_false];omega
   ·rename_i hw;have hw:(Ni x.l (Cp n k)).gone=false:=by simpa using hw
    dsimp only;rw[T3 (Abo g0),T3 (Abn g0),Aoz hn,Aoz hn,Aoy hn,Aoy hn,hw];simp only[if_true,Bool.true_eq_false,if_false];omega
theorem Azx{n k n':A1}{c:Ce}{x:N0}(hn:n.length<256)(h:n'≠n):
 Gv (fK n') (Dv n k c x).l=Gv (fK n') x.l∧Gv (fB n') (Dv n k c x).l=Gv (fB n') x.l:=by
 have g0:Fx.gone=true:=rfl;rcases Pb n k c x with e|⟨v,_,e,_⟩
 ·rw[e];exact⟨rfl,rfl⟩
 ·rw[e,T3 (Abo g0),T3 (Abn g0),Bk4 hn h,Bk4 hn h,Bk3 hn h,Bk3 hn h];omega
def VK(l:List C0):Prop:=∀h∈l,(Cz h.at_).2.1.length≤64∧∀v∈h.vs,v.gone=false→1≤v.made∧v.made≤v.rev
theorem VK.put{l:List C0}{n k:A1}{v:Bt}(h:VK l)(hn:n.length<256)(hk:k.length≤64)(hv:v.gone=false→1≤v.made∧v.made≤v.rev):VK (Pf l (Cp n k) v):=by
 intro x hx;rcases Arw hx with hx|rfl|⟨e,he,_,rfl⟩
 ·exact h x hx
 ·dsimp only;rw[D3 hn];exact⟨hk,fun w hw=>by simp only[Cx]at hw;subst hw;exact hv⟩
 ·dsimp only;rw[D3 hn];refine⟨hk,fun w hw=>?_⟩
  rcases Aj.1 hw with hw|hw
  ·exact(h e he).2 w hw
  ·simp only[Cx]at hw;subst hw;exact hv
theorem Bfp(l:List C0)(a:A1):Ni l a=Fx∨∃e∈l,e.at_=a∧Ni l a∈e.vs:=by
 cases hf:U6 (Fe a) (Su a) l with
 |false=>exact .inl (A6.Ait (s:=⟨[],l⟩) hf)
 |true=>
  obtain⟨e,h2,h3⟩:=Ww hf;rw[Ank hf h2];unfold Hw;cases hl:e.vs.getLast? with
  |none=>exact .inl rfl
  |some v=>exact .inr ⟨e,Aw h2,by simpa[Su]using h3,List.mem_of_getLast? hl⟩
theorem A5i{n k:A1}{c:Ce}{x:N0}{U:A1→Int}(hn:n.length<256)(hk:k.length≤64)(hr:0≤x.t.rev)(h:VK x.l)(hw:Wp U x.l)(hU:U (Cp n k)≤x.t.rev):VK (Dv n k c x).l:=by
 unfold Dv;dsimp only;split
 ·exact h
 ·split
  ·exact h.put hn hk (fun c=>by cases c)
  ·split
   ·exact h.put hn hk (fun _=>by dsimp only;omega)
   ·rename_i hg;refine h.put hn hk (fun _=>?_)
    dsimp only;rcases Bfp x.l (Cp n k)with e|⟨e,he,hea,hm⟩
    ·rw[e]at hg;exact absurd rfl hg
    ·have h3:=(h e he).2 _ hm (by simpa using hg)
     have h4:=((hw.2 e he).2.2 _ hm).2;rw[hea]at h4;omega
theorem Aqt{n:A1}{F:List Ce}{R:A1→Int}{r:Int}(hn:n.length<256)(hr:0≤r):∀{KK:List A1} {x:N0},KK.Nodup→(∀k∈KK,k.length≤64)→x.t.rev=r→Wp (Tm n r R KK) x.l→VK x.l→x.t.keys=Gv (fK n) x.l→x.t.bytes=Gv (fB n) x.l→
 VK (Ea n F KK x).l∧(Ea n F KK x).t.keys=Gv (fK n) (Ea n F KK x).l∧(Ea n F KK x).t.bytes=Gv (fB n) (Ea n F KK x).l∧∀n',n'≠n→Gv (fK n') (Ea n F KK x).l=Gv (fK n') x.l∧Gv (fB n') (Ea n F KK x).l=Gv (fB n') x.l
 | [],x,_,_,_,_,h1,h2,h3=>⟨h1,h2,h3,fun _ _=>⟨rfl,rfl⟩⟩
 |k::KK,x,hd,hk,hx,hw,h1,h2,h3=>by
  obtain⟨d1,d2⟩:=Bs.1 hd;have g1:=Vt (x:=x) (R:=R) (c:=H5 F k) hn d1 (by omega) (by rw[hx];exact hw)
  rw[hx]at g1;have g2:=A5i (c:=H5 F k) hn (hk k (Ar ..)) (by omega) h1 hw (by unfold Tm;rw[D3 hn,if_pos rfl,if_pos (Ar ..)];omega)
  obtain⟨g3,g4⟩:=Azw (k:=k) (c:=H5 F k) hn h2 h3;obtain⟨i1,i2,i3,i4⟩:=Aqt (F:=F) (R:=R) hn hr (KK:=KK) (x:=Dv n k (H5 F k) x) d2 (fun y hy=>hk y (Au _ hy)) ((Zi _ _ _ _).1.trans hx) g1 g2 g3 g4
  refine⟨i1,i2,i3,fun n' Kb=>?_⟩
  obtain⟨j1,j2⟩:=i4 n' Kb;obtain⟨o1,o2⟩:=Azx (k:=k) (c:=H5 F k) (x:=x) hn Kb;exact⟨j1.trans o1,j2.trans o2⟩
structure Ro(s:A6):Prop where
 cnt:∀n,(s.De n).keys=Gv (fK n) s.l∧(s.De n).bytes=Gv (fB n) s.l
 vk:VK s.l
theorem Ro.write{m:Nat}{s:A6}(h:G6 m s)(hc:Ro s)(n:A1)(cs:List Ce):Ro (s.Ja n cs).1:=by
 unfold A6.Ja;split
 ·exact hc
 ·rename_i i hi;split
  ·exact hc
  ·rename_i F hF;obtain⟨f1,f2,_⟩:=T8 hF (by simp) (by simp)
   have hn:=h.name hi;obtain⟨g1,g2,g3,g4⟩:=Aqt (F:=F) (R:=fun n=>(s.De n).rev) (r:=(s.De n).rev) hn (by have:=h.rv n;omega) (KK:=Fz (F.map Ce.key)) (x:=⟨s.De n,s.l,false⟩) (S4 f1) (fun k hk=>(Av3 f2 hk).1) rfl (h.start n _) hc.vk (hc.cnt n).1 (hc.cnt n).2
   generalize Ea n F (Fz (F.map Ce.key)) ⟨s.De n,s.l,false⟩=Z at*;dsimp only at g1 g2 g3 g4;refine⟨fun n'=>?_,g1⟩
   rw[N8 hi];dsimp only;split
   ·rename_i e;subst e;unfold N0.fin;split
    ·exact⟨g2,g3⟩
    ·exact⟨g2,g3⟩
   ·rename_i e;obtain⟨o1,o2⟩:=g4 n' e;rw[o1,o2];exact hc.cnt n'
theorem Bas{r:Int}{vs:List Bt}(h0:vs≠[])(h:vs.length≤Mt r vs):(Hw vs).gone=true:=by
 have h1:=Aro r vs h0;unfold Mt at h;rw[Ac h1]at h;dsimp only at h;split at h
 ·rename_i hg;unfold Hw;rw[List.getLast?_eq_getElem?,show vs.length - 1=Nh r vs by omega,Ac h1]
  exact hg.1
 ·omega
theorem Bav{vs:List Bt}{k:Nat}(h:vs.drop k≠[]):Hw (vs.drop k)=Hw vs:=by
 unfold Hw;rw[List.getLast?_drop,if_neg];intro c;exact h (Bo c)
theorem Aoi{f:A1→Bt→Int}{n:A1}{r:Int}(hg:∀a v,v.gone=true→f a v=0):∀{l:List C0},(∀h∈l,h.vs≠[])→Gv f (l.filterMap (Kz n r))=Gv f l
 | [],_=>rfl
 |h::t,h0=>by
  have ih:=Aoi (n:=n) (r:=r) hg (l:=t) fun x hx=>h0 x (Au _ hx)
  have hv:=h0 h (Ar ..);rw[Cc];cases e:Kz n r h with
  |none=>
   dsimp only;rw[ih,Gv];unfold Kz at e;split at e
   ·split at e
    ·rename_i hk;rw[hg _ _ (Bas hv hk)];omega
    ·cases e
   ·cases e
  |some h'=>
   obtain⟨a1,k,a2,a3⟩:=Si e;dsimp only;have h4:=a3 hv;rw[Gv,Gv,ih,a1,a2,Bav (by rw[←a2];exact h4)]
theorem Ro.comp{m:Nat}{s:A6}(h:G6 m s)(hc:Ro s)(n:A1)(rev:Int):Ro (s.J9 n rev).1:=by
 unfold A6.J9;split
 ·exact hc
 ·rename_i i hi;split
  ·obtain⟨c1,_⟩:=Vv (n:=n) (rev:=rev) (l:=s.l) (x:=⟨[],0⟩);rw[Cu]at c1;generalize Ls n rev s.l ⟨[],0⟩=Z at*;have h0:∀x∈s.l,x.vs≠[]:=fun x hx=>(h.lb.held x hx).2.1
   refine⟨fun n'=>?_,fun x hx=>?_⟩
   ·rw[N8 hi];dsimp only;rw[c1,Aoi (fun a v hg=>Abo hg) h0,Aoi (fun a v hg=>Abn hg) h0]
    split
    ·rename_i e;subst e;exact hc.cnt n'
    ·exact hc.cnt n'
   ·dsimp only at hx;rw[c1]at hx;obtain⟨y,hy,e⟩:=Gp.1 hx;obtain⟨a1,k,a2,_⟩:=Si e;rw[a1,a2];exact⟨(hc.vk y hy).1,fun v hv=>(hc.vk y hy).2 v (Er hv)⟩
  ·exact hc
theorem Ro.open{s:A6}(hc:Ro s)(nm:Bool)(n:A1):Ro (s.J4 nm n).1:=by
 have h2:=(Aeq (s:=s) (nm:=nm) (n:=n) (n':=[])).2;refine⟨fun n'=>?_,?_⟩
 ·rw[h2,Aeq.1];exact hc.cnt n'
 ·rw[h2];exact hc.vk
theorem Ro.step{m:Nat}{s:A6}(h:G6 m s)(hc:Ro s)(o:K6):Ro (s.Nk o):=by
 unfold A6.Nk;split
 ·exact hc.write h _ _
 ·split
  ·exact hc.comp h _ _
  ·split
   ·exact hc.open _ _
   ·exact hc
theorem A0z:∀{p a b:A1},p++a<p++b↔a<b
 | [],a,b=>by simp
 |c::p,a,b=>by
  simp only[C4];rw[List.cons_lt_cons_iff,A0z (p:=p)];have:¬c<c:=X6 c;simp[this]
theorem Bkj{vs:List Bt}{R:Int}(h:U4 vs)(h1:vs≠[])(hR:∀v∈vs,v.rev≤R):Ks vs R=if(Hw vs).gone=true then(Aoo,false)else(Hw vs,true):=by
 rw[Ahi h,K5.2 (fun v hv=>by simpa using hR v hv)]
 unfold Hw;cases hl:vs.getLast? with
 |none=>exact absurd (List.getLast?_eq_none_iff.1 hl) h1
 |some v=>rfl
def Avn:List (A1 × Bt)→Int
 | []=>0
 |p::r=>(p.1.length:Int)+(p.2.val.length:Int)+Avn r
theorem Aqr{n:A1}{R:Int}:∀{l:List C0},(∀h∈l,Sg h.at_∧U4 h.vs∧h.vs≠[]∧((Cz h.at_).1=n→∀v∈h.vs,v.rev≤R))→P6 l→VK l→
 ((N9 n R l).length:Int)=Gv (fK n) l∧Avn (N9 n R l)=Gv (fB n) l∧(N9 n R l).Pairwise (fun a b=>a.1<b.1)∧∀p∈N9 n R l,(p.1.length≤64∧(1≤p.2.made∧p.2.made≤p.2.rev∧p.2.rev≤R))∧∃h∈l,h.at_=Cp n p.1
 | [],_,_,_=>⟨rfl,rfl,List.Pairwise.nil,by intro p hp;cases hp⟩
 |h::r,h0,hs,hk=>by
  rw[P6,A0,B1]at hs;obtain⟨i1,i2,i3,i4⟩:=Aqr (n:=n) (R:=R) (l:=r) (fun x hx=>h0 x (Au _ hx)) hs.2 (fun x hx=>hk x (Au _ hx))
  obtain⟨a1,a2,a3,a4⟩:=h0 h (Ar ..);obtain⟨k1,k2⟩:=hk h (Ar ..);unfold N9 at i1 i2 i3 i4 ⊢;rw[Cc];simp only[Gv];by_cases hn:(Cz h.at_).1=n
  ·have hv:=Bkj a2 a3 (a4 hn);cases hg:(Hw h.vs).gone with
   |true=>
    rw[hg,if_pos rfl]at hv;rw[show gV n R h=none by unfold gV;rw[hv,if_neg (fun c=>by cases c.2)],Abo hg,Abn hg]
    dsimp only;exact⟨by omega,by omega,i3,fun p hp=>⟨(i4 p hp).1,by obtain⟨y,hy,e⟩:=(i4 p hp).2;exact⟨y,Au _ hy,e⟩⟩⟩
   |false=>
    rw[hg,if_neg (by simp)]at hv
    have Dd:h.at_=Cp n (Cz h.at_).2.1:=by rw[←hn];exact a1.whose.1
    rw[show gV n R h=some ((Cz h.at_).2.1,Hw h.vs)by unfold gV;rw[hv,if_pos ⟨hn,rfl⟩]]
    have Fk:Hw h.vs∈h.vs:=by
     unfold Hw;cases hl:h.vs.getLast? with
     |none=>exact absurd (List.getLast?_eq_none_iff.1 hl) a3
     |some v=>exact List.mem_of_getLast? hl
    have hmr:=k2 _ Fk hg;have hrR:=a4 hn _ Fk;refine⟨?_,?_,?_,?_⟩
    ·rw[show fK n h.at_ (Hw h.vs)=1 by unfold fK;rw[if_pos ⟨hn,hg⟩]]
     simp only[Cg];omega
    ·rw[show fB n h.at_ (Hw h.vs)=((Cz h.at_).2.1.length:Int)+((Hw h.vs).val.length:Int)by unfold fB;rw[if_pos ⟨hn,hg⟩]]
     simp only[Avn];omega
    ·rw[B1];refine⟨fun p hp=>?_,i3⟩
     obtain⟨y,hy,e⟩:=(i4 p hp).2;have h5:=hs.1 y.at_ (List.mem_map_of_mem hy);rw[Dd,e,P0 n (Cz h.at_).2.1,P0 n p.1,A0z]at h5;rw[Dd]at h5;rw[P0, ←P0,D3 (by rw[←hn];exact a1.whose.2)]at h5
     exact h5
    ·intro p hp;rcases Ah.1 hp with rfl|hp
     ·exact⟨⟨k1,hmr.1,hmr.2,hrR⟩,h,Ar ..,Dd⟩
     ·exact⟨(i4 p hp).1,by obtain⟨y,hy,e⟩:=(i4 p hp).2;exact⟨y,Au _ hy,e⟩⟩
  ·rw[Bk6 hn,show fK n h.at_ (Hw h.vs)=0 by unfold fK;rw[if_neg (fun c=>hn c.1)],show fB n h.at_ (Hw h.vs)=0 by unfold fB;rw[if_neg (fun c=>hn c.1)]]
   dsimp only;exact⟨by omega,by omega,i3,fun p hp=>⟨(i4 p hp).1,by obtain⟨y,hy,e⟩:=(i4 p hp).2;exact⟨y,Au _ hy,e⟩⟩⟩
set_option maxRecDepth 100000
set_option maxHeartbeats 40000000

open Go.Proofs
abbrev r0:SV:=.own [] (.ptr (.st [.vec 52 4 []]))
abbrev r1(n:A1):SV:=.own [] (.ptr (.it (.agg [.list [.agg [.str n,ti 0,ti 0,.list []]]])))
theorem Awz(a b:List Pr)(ha:a.length≤100000):Fn Tryz.prog Z5 [.v (.list (a.map Pr.Ap)),.v (.list (b.map Pr.Ap))] (Is (.v (.bool (decide (a=b)))) [.no,.no]):=by
 refine Zy ?_ (by simp)
 by_cases hl:a.length=b.length
 case neg=>
  have h1:¬(!decide (((a.map Pr.Ap).length:Int)=((b.map Pr.Ap).length:Int)))=false:=by simp;omega
  have h2:decide (a=b)=false:=decide_eq_false (fun e=>hl (by rw[e]))
  rw[h2];repeat'((conv=>whnf);first|(with_reducible refine Bv (by exact Ae (by assumption)) fun hb=>?_);(try rw[hb]);try simp only[Am]at hb|(with_reducible refine Aa ?_ ?_);focus (and_intros<;>(with_reducible rfl))|with_reducible intro Av)
  all_goals(try(conv=>whnf))
  (apply D6<;>kernel_rfl)
 have h1:¬(!decide (((a.map Pr.Ap).length:Int)=((b.map Pr.Ap).length:Int)))=true:=by simp;omega
 repeat'((conv=>whnf);first|(with_reducible refine Bq (by exact Ag (by assumption)) fun hb=>?_);(try rw[hb]);try simp only[Am]at hb|(with_reducible refine Aa ?_ ?_);focus (and_intros<;>(with_reducible rfl))|with_reducible intro Av)
 all_goals(try(conv=>whnf))
 refine Ep.by (X:=Nat) (fun j=>[(5,.v (ti (j:Int)))]) (fun j=>j≤a.length∧a.take j=b.take j) (fun j=>a.length - j) 0 (by kernel_rfl) ⟨A3 _,rfl⟩ ?_
 rintro j ⟨hj,hp⟩;dsimp only at hj hp ⊢;have hw:=zwj (j:=j) (by omega)
 by_cases E6:j<a.length
 case neg=>
  have h3:¬decide ((j:Int)<((a.map Pr.Ap).length:Int))=true:=by simp;omega
  have h4:¬decide ((j:Int)<(a.length:Int))=true:=by simp;omega
  rw[C9 (by omega),C9 (by omega)]at hp
  rw[decide_eq_true hp];repeat'((conv=>whnf);first|(with_reducible refine Bq (by exact Ag (by assumption)) fun hb=>?_);(try rw[hb]);try simp only[Am]at hb|(with_reducible refine Aa ?_ ?_);focus (and_intros<;>(with_reducible rfl))|with_reducible intro Av)
  all_goals(try(conv=>whnf))
  (apply D6<;>kernel_rfl)
 obtain⟨x,hx⟩:∃x,a[j]?=some x:=⟨_,Ac E6⟩;obtain⟨y,hy⟩:∃y,b[j]?=some y:=⟨_,Ac (by omega)⟩
 have h3:¬decide ((j:Int)<((a.map Pr.Ap).length:Int))=false:=by simp;omega
 have h4:¬decide ((j:Int)<(a.length:Int))=false:=by simp;omega
 obtain⟨xk,xv,xm,xr⟩:=x;obtain⟨yk,yv,ym,yr⟩:=y;have hq:(decide (xk=yk)&&(decide (xv=yv)&&(decide (xm=ym)&&(decide (xr=yr)&&true))))=decide (Pr.mk xk xv xm xr=Pr.mk yk yv ym yr):=by rw[Bool.eq_iff_iff];simp
 have hta:a.take (j+1)=a.take j++[Pr.mk xk xv xm xr]:=by rw[D5,hx];rfl
 have htb:b.take (j+1)=b.take j++[Pr.mk yk yv ym yr]:=by rw[D5,hy];rfl
 by_cases he:Pr.mk xk xv xm xr=Pr.mk yk yv ym yr
 ·have g:¬(!(decide (xk=yk)&&(decide (xv=yv)&&(decide (xm=ym)&&(decide (xr=yr)&&true)))))=true:=by rw[hq];simp[he]
  have Zt:a.take (j+1)=b.take (j+1):=by rw[hta,htb,hp,he]
  repeat'((conv=>whnf);first|(with_reducible first|refine Bv (by first|assumption|exact Ae (by assumption)) fun hb=>?_|refine Bq (by exact Ag (by assumption)) fun hb=>?_);(try rw[hb]);try simp only[Am]at hb|(with_reducible refine Aa ?_ ?_);focus (and_intros<;>first|omega|with_reducible rfl|kernel_rfl)|with_reducible intro Av|(with_reducible refine Dw.Gx ?_ ?_ ?_ fun Av=>?_);(iterate 3 focus kernel_rfl);try simp only[zRL]at Av|(try dsimp only);(first|rw[Be hx]|rw[Be hy])|skip;rw[hw])
  all_goals(try(conv=>whnf))
  refine Round.by (j+1) ?_ ⟨by omega,Zt⟩ (by omega)
  try dsimp only
  show norm _ _=Dy _ _
  kernel_rfl
 ·have g:¬(!(decide (xk=yk)&&(decide (xv=yv)&&(decide (xm=ym)&&(decide (xr=yr)&&true)))))=false:=by rw[hq];simp[he]
  have A2:decide (a=b)=false:=by
   refine decide_eq_false fun e=>he ?_
   rw[e]at hx;exact Cy (hx.symm.trans hy)
  rw[A2];repeat'((conv=>whnf);first|(with_reducible refine Bv (by exact Ae (by assumption)) fun hb=>?_);(try rw[hb]);try simp only[Am]at hb|(with_reducible refine Aa ?_ ?_);focus (and_intros<;>first|omega|with_reducible rfl|kernel_rfl)|with_reducible intro Av|(with_reducible refine Dw.Gx ?_ ?_ ?_ fun Av=>?_);(iterate 3 focus kernel_rfl);try simp only[zRL]at Av|(try dsimp only);(first|rw[Be hx]|rw[Be hy]))
  all_goals(try(conv=>whnf))
  (apply D6<;>kernel_rfl)

def aw1:A6:=⟨[([116],Ny)],[]⟩
def aw2:A6:=⟨[([116],⟨1,0,4,2,2⟩)],[⟨[1,116,97],[⟨1,1,[49],false⟩]⟩,⟨[1,116,98],[⟨1,1,[50],false⟩]⟩]⟩
def aw3:A6:=⟨[([116],⟨2,0,2,1,3⟩)],[⟨[1,116,97],[⟨1,1,[49],false⟩,⟨2,0,[],true⟩]⟩,⟨[1,116,98],[⟨1,1,[50],false⟩]⟩]⟩
def aw4:A6:=⟨[([116],⟨2,2,2,1,1⟩)],[⟨[1,116,98],[⟨1,1,[50],false⟩]⟩]⟩
def Amc:List Ce:=[⟨[97],[49],false⟩,⟨[98],[50],false⟩]
def Amd:List Ce:=[⟨[97],[],true⟩]
theorem Bhi:Fz (Amc.map Ce.key)=[[97],[98]]:=by
 simp[Fz,Amc,List.mergeSort];simp[List.cons_merge_cons];decide
theorem Bhj:Fz (Amd.map Ce.key)=[[97]]:=by
 simp[Fz,Amd]
theorem Bnw:L6 Amc []=some Amc:=by rfl
theorem Bnx:L6 Amd []=some Amd:=by rfl
theorem Boz:Ea [116] Amc [[97],[98]] ⟨Ny,[],false⟩=⟨⟨0,0,4,2,2⟩,aw2.l,true⟩:=by rfl
theorem Bo0:Ea [116] Amd [[97]] ⟨⟨1,0,4,2,2⟩,aw2.l,false⟩=⟨⟨1,0,2,1,3⟩,aw3.l,true⟩:=by rfl
theorem Bnv:Ls [116] 2 aw3.l ⟨[],0⟩=⟨aw4.l,1⟩:=by rfl

open Go.RowKit Go.Maps Go.Sort Go.Shelf Go.Proofs
def Bfk:Go.Shelf.Ren:=⟨fun|7=>62|10=>93|n=>n,fun|23=>128|26=>9|3=>73|28=>131|0=>0|27=>130|33=>117|4=>4|n=>n,fun|n=>n⟩
theorem Bnd:Go.Proofs.SlLaysZ.n7 Tryz.prog Bfk where
 mixed:=by kernel_rfl
 f7:=⟨"maps.Keys[map[string]exchequer/api.Change,string,exchequer/api.Change]",by decide,Tryz.func62.trans (congrArg some (by kernel_rfl))⟩
 f10:=⟨"maps.Keys[map[string]exchequer/api.Change,string,exchequer/api.Change]$1",by decide,Tryz.func93.trans (congrArg some (by kernel_rfl))⟩
 t0:=Tryz.underlying0
 a0:=Tryz.isAgg0
 z0:=Tryz.sizeOf0
 v0:=Tryz.zeroValue0
 t4:=Tryz.underlying4
 a4:=Tryz.isAgg4
 z4:=Tryz.sizeOf4
 v4:=Tryz.zeroValue4
 t23:=Tryz.underlying128
 a23:=Tryz.isAgg128
 z23:=Tryz.sizeOf128
 v23:=Tryz.zeroValue128
 t26:=Tryz.underlying9
 a26:=Tryz.isAgg9
 z26:=Tryz.sizeOf9
 v26:=Tryz.zeroValue9
 t27:=Tryz.underlying130
 a27:=Tryz.isAgg130
 z27:=Tryz.sizeOf130
 v27:=Tryz.zeroValue130
 t28:=Tryz.underlying131
 a28:=Tryz.isAgg131
 z28:=Tryz.sizeOf131
 v28:=Tryz.zeroValue131
 t33:=Tryz.underlying117
 a33:=Tryz.isAgg117
 z33:=Tryz.sizeOf117
 v33:=Tryz.zeroValue117
def Aqh:Go.Shelf.Ren:=⟨fun|6=>61|8=>91|9=>92|11=>115|13=>87|12=>116|23=>111|24=>112|14=>126|15=>127|16=>128|17=>129|18=>130|19=>131|20=>132|21=>133|22=>134|25=>137|26=>122|27=>123|28=>138|29=>139|30=>88|31=>141|n=>n,fun|26=>9|28=>131|24=>88|0=>0|3=>3|37=>156|48=>175|50=>177|4=>4|40=>169|39=>168|45=>149|5=>5|9=>9|51=>184|55=>188|57=>200|58=>82|33=>117|n=>n,fun|n=>n⟩
theorem A8y:Go.Proofs.SlLaysZ.n6 Tryz.prog Aqh where
 mixed:=by kernel_rfl
 f6:=⟨"slices.Sorted[string]",by decide,Tryz.func61.trans (congrArg some (by kernel_rfl))⟩
 f8:=⟨"slices.Collect[string]",by decide,Tryz.func91.trans (congrArg some (by kernel_rfl))⟩
 f11:=⟨"slices.AppendSeq[[]string,string]",by decide,Tryz.func115.trans (congrArg some (by kernel_rfl))⟩
 t0:=Tryz.underlying0
 a0:=Tryz.isAgg0
 z0:=Tryz.sizeOf0
 v0:=Tryz.zeroValue0
 t24:=Tryz.underlying88
 a24:=Tryz.isAgg88
 z24:=Tryz.sizeOf88
 v24:=Tryz.zeroValue88
 t26:=Tryz.underlying9
 a26:=Tryz.isAgg9
 z26:=Tryz.sizeOf9
 v26:=Tryz.zeroValue9
 t28:=Tryz.underlying131
 a28:=Tryz.isAgg131
 z28:=Tryz.sizeOf131
 v28:=Tryz.zeroValue131
 i26:=by kernel_rfl
def Bgo:Go.Shelf.Ren:=⟨fun|6=>92|8=>87|9=>116|19=>111|20=>112|21=>126|22=>127|23=>128|24=>129|25=>130|26=>131|27=>132|28=>133|29=>134|36=>137|31=>122|32=>123|37=>138|38=>139|39=>88|41=>141|n=>n,fun|27=>88|29=>9|3=>3|32=>156|26=>88|0=>0|44=>175|46=>177|4=>4|36=>169|35=>168|41=>149|5=>5|9=>9|53=>184|57=>188|63=>200|64=>82|n=>n,fun|n=>n⟩
theorem Bnt:Go.Proofs.SlLaysM.n6 Tryz.prog Bgo where
 mixed:=by kernel_rfl
 f6:=⟨"slices.Sort[[]string,string]",by decide,Tryz.func92.trans (congrArg some (by kernel_rfl))⟩
 f8:=Tryz.func87.trans (congrArg some (by kernel_rfl))
 f9:=⟨"slices.pdqsortOrdered[string]",by decide,Tryz.func116.trans (congrArg some (by kernel_rfl))⟩
 f19:=Tryz.func111.trans (congrArg some (by kernel_rfl))
 f20:=Tryz.func112.trans (congrArg some (by kernel_rfl))
 f21:=⟨"slices.insertionSortOrdered[string]",by decide,Tryz.func126.trans (congrArg some (by kernel_rfl))⟩
 f22:=⟨"slices.heapSortOrdered[string]",by decide,Tryz.func127.trans (congrArg some (by kernel_rfl))⟩
 f23:=⟨"slices.breakPatternsOrdered[string]",by decide,Tryz.func128.trans (congrArg some (by kernel_rfl))⟩
 f24:=⟨"slices.choosePivotOrdered[string]",by decide,Tryz.func129.trans (congrArg some (by kernel_rfl))⟩
 f25:=⟨"slices.reverseRangeOrdered[string]",by decide,Tryz.func130.trans (congrArg some (by kernel_rfl))⟩
 f26:=⟨"slices.partialInsertionSortOrdered[string]",by decide,Tryz.func131.trans (congrArg some (by kernel_rfl))⟩
 f27:=⟨"cmp.Less[string]",by decide,Tryz.func132.trans (congrArg some (by kernel_rfl))⟩
 f28:=⟨"slices.partitionEqualOrdered[string]",by decide,Tryz.func133.trans (congrArg some (by kernel_rfl))⟩
 f29:=⟨"slices.partitionOrdered[string]",by decide,Tryz.func134.trans (congrArg some (by kernel_rfl))⟩
 f31:=Tryz.func122.trans (congrArg some (by kernel_rfl))
 f32:=Tryz.func123.trans (congrArg some (by kernel_rfl))
 f36:=⟨"slices.siftDownOrdered[string]",by decide,Tryz.func137.trans (congrArg some (by kernel_rfl))⟩
 f37:=⟨"slices.medianAdjacentOrdered[string]",by decide,Tryz.func138.trans (congrArg some (by kernel_rfl))⟩
 f38:=⟨"slices.medianOrdered[string]",by decide,Tryz.func139.trans (congrArg some (by kernel_rfl))⟩
 f39:=⟨"cmp.isNaN[string]",by decide,Tryz.func88.trans (congrArg some (by kernel_rfl))⟩
 f41:=⟨"slices.order2Ordered[string]",by decide,Tryz.func141.trans (congrArg some (by kernel_rfl))⟩
 t0:=Tryz.underlying0
 a0:=Tryz.isAgg0
 z0:=Tryz.sizeOf0
 v0:=Tryz.zeroValue0
 t3:=Tryz.underlying3
 a3:=Tryz.isAgg3
 z3:=Tryz.sizeOf3
 v3:=Tryz.zeroValue3
 t4:=Tryz.underlying4
 a4:=Tryz.isAgg4
 z4:=Tryz.sizeOf4
 v4:=Tryz.zeroValue4
 t5:=Tryz.underlying5
 a5:=Tryz.isAgg5
 z5:=Tryz.sizeOf5
 v5:=Tryz.zeroValue5
 t9:=Tryz.underlying9
 a9:=Tryz.isAgg9
 z9:=Tryz.sizeOf9
 v9:=Tryz.zeroValue9
 t26:=Tryz.underlying88
 a26:=Tryz.isAgg88
 z26:=Tryz.sizeOf88
 v26:=Tryz.zeroValue88
 t27:=Tryz.underlying88
 a27:=Tryz.isAgg88
 z27:=Tryz.sizeOf88
 v27:=Tryz.zeroValue88
 t29:=Tryz.underlying9
 a29:=Tryz.isAgg9
 z29:=Tryz.sizeOf9
 v29:=Tryz.zeroValue9
 t32:=Tryz.underlying156
 a32:=Tryz.isAgg156
 z32:=Tryz.sizeOf156
 v32:=Tryz.zeroValue156
 t35:=Tryz.underlying168
 a35:=Tryz.isAgg168
 z35:=Tryz.sizeOf168
 v35:=Tryz.zeroValue168
 t36:=Tryz.underlying169
 a36:=Tryz.isAgg169
 z36:=Tryz.sizeOf169
 v36:=Tryz.zeroValue169
 t41:=Tryz.underlying149
 a41:=Tryz.isAgg149
 z41:=Tryz.sizeOf149
 v41:=Tryz.zeroValue149
 t44:=Tryz.underlying175
 a44:=Tryz.isAgg175
 z44:=Tryz.sizeOf175
 v44:=Tryz.zeroValue175
 t46:=Tryz.underlying177
 a46:=Tryz.isAgg177
 z46:=Tryz.sizeOf177
 v46:=Tryz.zeroValue177
 t53:=Tryz.underlying184
 a53:=Tryz.isAgg184
 z53:=Tryz.sizeOf184
 v53:=Tryz.zeroValue184
 t57:=Tryz.underlying188
 a57:=Tryz.isAgg188
 z57:=Tryz.sizeOf188
 v57:=Tryz.zeroValue188
 t63:=Tryz.underlying200
 a63:=Tryz.isAgg200
 z63:=Tryz.sizeOf200
 v63:=Tryz.zeroValue200
 t64:=Tryz.underlying82
 a64:=Tryz.isAgg82
 z64:=Tryz.sizeOf82
 v64:=Tryz.zeroValue82
def Bfm:Go.Shelf.Ren:=⟨fun|7=>69|10=>95|n=>n,fun|23=>106|26=>9|3=>105|28=>131|0=>0|27=>130|33=>117|4=>4|n=>n,fun|n=>n⟩
theorem Bne:Go.Proofs.SlLaysZ.n7 Tryz.prog Bfm where
 mixed:=by kernel_rfl
 f7:=⟨"maps.Keys[map[string]*exchequer/store.tally,string,*exchequer/store.tally]",by decide,Tryz.func69.trans (congrArg some (by kernel_rfl))⟩
 f10:=⟨"maps.Keys[map[string]*exchequer/store.tally,string,*exchequer/store.tally]$1",by decide,Tryz.func95.trans (congrArg some (by kernel_rfl))⟩
 t0:=Tryz.underlying0
 a0:=Tryz.isAgg0
 z0:=Tryz.sizeOf0
 v0:=Tryz.zeroValue0
 t4:=Tryz.underlying4
 a4:=Tryz.isAgg4
 z4:=Tryz.sizeOf4
 v4:=Tryz.zeroValue4
 t23:=Tryz.underlying106
 a23:=Tryz.isAgg106
 z23:=Tryz.sizeOf106
 v23:=Tryz.zeroValue106
 t26:=Tryz.underlying9
 a26:=Tryz.isAgg9
 z26:=Tryz.sizeOf9
 v26:=Tryz.zeroValue9
 t27:=Tryz.underlying130
 a27:=Tryz.isAgg130
 z27:=Tryz.sizeOf130
 v27:=Tryz.zeroValue130
 t28:=Tryz.underlying131
 a28:=Tryz.isAgg131
 z28:=Tryz.sizeOf131
 v28:=Tryz.zeroValue131
 t33:=Tryz.underlying117
 a33:=Tryz.isAgg117
 z33:=Tryz.sizeOf117
 v33:=Tryz.zeroValue117
theorem A8z(m:Nat):AnyZ.SortsIn Tryz.prog Aqh Fence.wide m:=
 ⟨fun U5 off cap ss W hH hblk Cq=>callsIn_wide.2 (AnyM.slices_Sort_string Bnt U5 off cap ss W hH hblk Cq),
  fun p cap W=>callsIn_wide.2 (AnyM.slices_Sort_string_none Bnt p cap W)⟩
theorem Bat:A9b 128:=Aht.of Bnd
theorem A1e:∀args w,(callFunc 92 args).run Tryz.prog w= .ok (.enter 92 args) w:=enters_of Tryz.func92 (by kernel_rfl) rfl
theorem Bdq:∀args w,(callFunc 93 args).run Tryz.prog w= .ok (.enter 93 args) w:=enters_of Tryz.func93 (by kernel_rfl) rfl
set_option maxHeartbeats 4000000 in
theorem Bbs:A9e 9:=by
 have h:=Yg.of A8y Bnd A8z A1e Bdq;exact h
set_option maxHeartbeats 4000000 in
theorem ofC:Asm:=by
 refine⟨28,9,fun v1 v2 W h1 h2=>?_⟩
 go_enter Tryz.func42,Tryz.ntmps42
 go_wp2
 all_goals first
  |(go_ret;exact⟨rfl,rfl⟩)
  |(exfalso;simp[Value.oneCell']at h1;done)
  |(exfalso;simp[Value.oneCell']at h2;done)
set_option maxHeartbeats 4000000

open Go.Proofs Go.Shelf
theorem A08:Lays.n197 Tryz.prog ⟨fun n=>if n=197 then 102 else if n=260 then 120 else n,fun n=>if n=46 then 156 else if n=105 then 165 else if n=119 then 196 else if n=138 then 198 else if n=139 then 199 else n,fun n=>if n=3 then 0 else 1⟩ where
 mixed:=by kernel_rfl
 f197:=by kernel_rfl
 f260:=by kernel_rfl
 t0:=by kernel_rfl
 a0:=fun _=>by kernel_rfl
 z0:=fun _=>by kernel_rfl
 v0:=fun _=>by kernel_rfl
 t3:=by kernel_rfl
 a3:=fun _=>by kernel_rfl
 z3:=fun _=>by kernel_rfl
 v3:=fun _=>by kernel_rfl
 t4:=by kernel_rfl
 a4:=fun _=>by kernel_rfl
 z4:=fun _=>by kernel_rfl
 v4:=fun _=>by kernel_rfl
 t5:=by kernel_rfl
 a5:=fun _=>by kernel_rfl
 z5:=fun _=>by kernel_rfl
 v5:=fun _=>by kernel_rfl
 t9:=by kernel_rfl
 a9:=fun _=>by kernel_rfl
 z9:=fun _=>by kernel_rfl
 v9:=fun _=>by kernel_rfl
 t21:=by kernel_rfl
 a21:=fun _=>by kernel_rfl
 z21:=fun _=>by kernel_rfl
 v21:=fun _=>by kernel_rfl
 t46:=by kernel_rfl
 a46:=fun _=>by kernel_rfl
 z46:=fun _=>by kernel_rfl
 v46:=fun _=>by kernel_rfl
 t105:=by kernel_rfl
 a105:=fun _=>by kernel_rfl
 z105:=fun _=>by kernel_rfl
 v105:=fun _=>by kernel_rfl
 t119:=by kernel_rfl
 a119:=fun _=>by kernel_rfl
 z119:=fun _=>by kernel_rfl
 t138:=by kernel_rfl
 a138:=fun _=>by kernel_rfl
 z138:=fun _=>by kernel_rfl
 v138:=fun _=>by kernel_rfl
 t139:=by kernel_rfl
 a139:=fun _=>by kernel_rfl
 z139:=fun _=>by kernel_rfl
 v139:=fun _=>by kernel_rfl
 g3:=by kernel_rfl
 g4:=by kernel_rfl
abbrev U2:FuncId:=102
theorem A6w(s:A1):Fn Tryz.prog U2 [.v (.str s)] (Is (.F4 [.i (.int .i32 (Lib.decodeGo ⟨⟨s⟩⟩).1),.i (.int .i64 (Lib.decodeGo ⟨⟨s⟩⟩).2)]) [.no]):=by
 intro G σ Fr w Fj Dj Eh Ms;have Gq:Bb G (.str s) (Fj.getD 0 undef):=(Ms 0 _ rfl).2;obtain⟨Gq,_⟩:=Bb.str.1 Gq;have hca:Fj= #[.string ⟨⟨s⟩⟩]:=by
  rw[←Gq];apply Array.ext
  ·simpa using Eh
  ·intro j h1 h2;have:j=0:=by simp at h2;omega
   subst this;simp[Array.getD,h1]
 have A93:=Any.utf8_DecodeRuneInString A08 ⟨⟨s⟩⟩ w (Dj.Mv w Dj.fixed);rw[hca];refine Calls.mono A93 ?_;rintro e w' ⟨rfl,hb⟩;have Mk:∀(M:Mem),(∀b o,M b=some o→w.heap[b]?=some o)→∀b o,M b=some o→w'.heap[b]?=some o:=by
  intro M hM b o hm;have h1:=hM b o hm;rw[hb.block b (C3.1 h1).1];exact h1
 refine⟨_,_,_,G,fun _=>none,rfl,⟨rfl,rfl⟩,Mem.le.refl G,⟨Mk G Dj.fixed,fun b Ca h=>by(cases h),fun b b' Ca h=>by(cases h),Mk Fr Dj.frame,hb.os,hb.tape,hb.output,hb.size,Dj.apart,Dj.Mv⟩,rfl,⟨_,rfl,?_⟩,rfl,?_⟩
 ·exact⟨_,_,rfl,Bb.int.2 rfl,_,_,rfl,Bb.int.2 rfl,rfl⟩
 intro i sv hi;have:sv= .no:=by
  have:=Aw hi;simpa using this
 subst this;exact⟨rfl,trivial⟩

open Go
theorem V9(l:A1)(k:Nat):(⟨⟨l⟩⟩:ByteArray).get! k=(l[k]?).getD 0:=by
 show(l.toArray)[k]! =_;rw[List.getElem!_toArray,List.getElem!_eq_getElem?_getD];rfl
theorem Zg(s:A1)(p:Nat):Lw s p=Lw (s.drop p) 0:=by
 have hg:∀k,(⟨⟨s⟩⟩:ByteArray).get! (p+k)=(⟨⟨s.drop p⟩⟩:ByteArray).get! (0+k):=fun k=>by
  rw[V9,V9,Ei,Bm]
 have hs:∀k,decide (p+k<(⟨⟨s⟩⟩:ByteArray).size)=decide (0+k<(⟨⟨s.drop p⟩⟩:ByteArray).size):=fun k=>by
  show decide (p+k<s.length)=decide (0+k<(s.drop p).length);rw[Br]
  congr 1
  rw[eq_iff_iff];omega
 unfold Lw Utf8.decode;simp only[hg,hs]
set_option maxHeartbeats 40000000

open Go.Proofs
def Aab(n:Nat)(b0 b1 b2 b3:Nat):Nat × Nat:=
 if b0<128 then(b0,1)
 else if b0 / 32=6∧1<n∧b1 / 64=2 then
  if b0 % 32*64+b1 % 64≥128 then(b0 % 32*64+b1 % 64,2)else(65533,1)
 else if b0 / 16=14∧1<n∧b1 / 64=2∧2<n∧b2 / 64=2 then
  if b0 % 16*4096+b1 % 64*64+b2 % 64≥2048∧Utf8.valid ((b0 % 16*4096+b1 % 64*64+b2 % 64:Nat):Int)=true then(b0 % 16*4096+b1 % 64*64+b2 % 64,3)else(65533,1)
 else if b0 / 8=30∧1<n∧b1 / 64=2∧2<n∧b2 / 64=2∧3<n∧b3 / 64=2 then
  if b0 % 8*262144+b1 % 64*4096+b2 % 64*64+b3 % 64≥65536∧Utf8.valid ((b0 % 8*262144+b1 % 64*4096+b2 % 64*64+b3 % 64:Nat):Int)=true then(b0 % 8*262144+b1 % 64*4096+b2 % 64*64+b3 % 64,4)else(65533,1)
 else(65533,1)
def L3(l:A1)(k:Nat):Nat:=((l[k]?).getD 0).toNat
theorem Bj6(l:A1):Lw l 0=Aab l.length (L3 l 0) (L3 l 1) (L3 l 2) (L3 l 3):=by
 have hs:(⟨⟨l⟩⟩:ByteArray).size=l.length:=rfl;have h0:((⟨⟨l⟩⟩:ByteArray).get! 0).toNat=L3 l 0:=by rw[V9];rfl
 have h1:((⟨⟨l⟩⟩:ByteArray).get! 1).toNat=L3 l 1:=by rw[V9];rfl
 have h2:((⟨⟨l⟩⟩:ByteArray).get! 2).toNat=L3 l 2:=by rw[V9];rfl
 have h3:((⟨⟨l⟩⟩:ByteArray).get! 3).toNat=L3 l 3:=by rw[V9];rfl
 unfold Lw Utf8.decode;simp only[Bm,hs,h0,h1,h2,h3];generalize L3 l 0=b0;generalize L3 l 1=b1;generalize L3 l 2=b2;generalize L3 l 3=b3;generalize l.length=n;unfold Aab;simp only[Ad,decide_eq_true_eq,beq_iff_eq,and_assoc,ge_iff_le,Utf8.runeError]
def szN(n:Nat)(b0 b1 b2 b3:Nat):Nat:=
 if b0≤127 then 1
 else if(194≤b0∧b0≤223)∧1<n∧128≤b1∧b1≤191 then 2
 else if(1<n∧128≤b1∧b1≤191∧2<n∧128≤b2∧b2≤191)∧((b0=224∧160≤b1)∨(225≤b0∧b0≤236)∨(b0=237∧b1≤159)∨(238≤b0∧b0≤239))then 3
 else if(1<n∧128≤b1∧b1≤191∧2<n∧128≤b2∧b2≤191∧3<n∧128≤b3∧b3≤191)∧((b0=240∧144≤b1)∨(241≤b0∧b0≤243)∨(b0=244∧b1≤143))then 4
 else 0
theorem H9(l:A1)(k:Nat)(lo hi:Nat):Fc l (k:Int) (lo:Int) (hi:Int)=decide (k<l.length∧lo≤L3 l k∧L3 l k≤hi):=by
 unfold Fc L3;rw[Hq];cases h:l[k]? with
 |none=>
  have:=List.getElem?_eq_none_iff.1 h;symm;simp only[decide_eq_false_iff_not];omega
 |some c=>
  have:=(Ak.1 h).1;simp only[Option.getD_some]
  congr 1
  rw[eq_iff_iff];omega
theorem Bkd(l:A1):Q3 l 1 1=decide (1<l.length∧128≤L3 l 1∧L3 l 1≤191):=by
 have h1:=H9 l 1 128 191;simp only[Q3,List.range_succ,List.range_zero,Cu,List.all_cons,List.all_nil,Bool.and_true];exact h1
theorem Bke(l:A1):Q3 l 1 2=decide (1<l.length∧128≤L3 l 1∧L3 l 1≤191∧2<l.length∧128≤L3 l 2∧L3 l 2≤191):=by
 have h1:=H9 l 1 128 191;have h2:=H9 l 2 128 191;have:Q3 l 1 2=(Fc l ((1:Nat):Int) ((128:Nat):Int) ((191:Nat):Int)&&Fc l ((2:Nat):Int) ((128:Nat):Int) ((191:Nat):Int)):=by simp[Q3,List.range_succ]
 rw[this,h1,h2, ←Bool.decide_and]
 congr 1
 rw[eq_iff_iff];omega
theorem Bkf(l:A1):Q3 l 1 3=decide (1<l.length∧128≤L3 l 1∧L3 l 1≤191∧2<l.length∧128≤L3 l 2∧L3 l 2≤191∧3<l.length∧128≤L3 l 3∧L3 l 3≤191):=by
 have h1:=H9 l 1 128 191;have h2:=H9 l 2 128 191;have h3:=H9 l 3 128 191;have:Q3 l 1 3=(Fc l ((1:Nat):Int) ((128:Nat):Int) ((191:Nat):Int)&&(Fc l ((2:Nat):Int) ((128:Nat):Int) ((191:Nat):Int)&&Fc l ((3:Nat):Int) ((128:Nat):Int) ((191:Nat):Int))):=by simp[Q3,List.range_succ]
 rw[this,h1,h2,h3, ←Bool.decide_and, ←Bool.decide_and]
 congr 1
 rw[eq_iff_iff];omega
theorem Bom(l:A1)(hl:0<l.length):Pp l=(szN l.length (L3 l 0) (L3 l 1) (L3 l 2) (L3 l 3):Nat):=by
 have e1:Fc l 0 0 127=_:=H9 l 0 0 127;have e2:Fc l 0 194 223=_:=H9 l 0 194 223;have e3:Fc l 0 224 224=_:=H9 l 0 224 224;have e4:Fc l 1 160 191=_:=H9 l 1 160 191;have e5:Fc l 0 225 236=_:=H9 l 0 225 236;have e6:Fc l 0 237 237=_:=H9 l 0 237 237;have e7:Fc l 1 128 159=_:=H9 l 1 128 159;have e8:Fc l 0 238 239=_:=H9 l 0 238 239;have e9:Fc l 0 240 240=_:=H9 l 0 240 240;have e10:Fc l 1 144 191=_:=H9 l 1 144 191;have e11:Fc l 0 241 243=_:=H9 l 0 241 243;have e12:Fc l 0 244 244=_:=H9 l 0 244 244;have e13:Fc l 1 128 143=_:=H9 l 1 128 143;unfold Pp szN;rw[Bkd,Bke,Bkf,e1,e2,e3,e4,e5,e6,e7,e8,e9,e10,e11,e12,e13];generalize L3 l 0=b0;generalize L3 l 1=b1;generalize L3 l 2=b2;generalize L3 l 3=b3;generalize l.length=n at hl ⊢;simp only[Ad,C1,decide_eq_true_eq];repeat' split
 all_goals first|rfl|(exfalso;omega)
theorem Bo5(l:A1)(k:Nat):L3 l k<256:=UInt8.toNat_lt _
theorem Bg7(n b0 b1 b2 b3:Nat)(h0:b0<256)(hn:0<n):
 (szN n b0 b1 b2 b3=0∧Aab n b0 b1 b2 b3=(65533,1))∨
 (szN n b0 b1 b2 b3=1∧Aab n b0 b1 b2 b3=(b0,1)∧b0<128)∨
 (szN n b0 b1 b2 b3=2∧2≤n∧∃r,Aab n b0 b1 b2 b3=(r,2)∧128≤r∧r≤1114111∧(161≤r↔(b0=194→161≤b1)))∨
 (szN n b0 b1 b2 b3=3∧3≤n∧∃r,Aab n b0 b1 b2 b3=(r,3)∧161≤r∧r≤1114111)∨
 (szN n b0 b1 b2 b3=4∧4≤n∧∃r,Aab n b0 b1 b2 b3=(r,4)∧161≤r∧r≤1114111):=by
 unfold szN;split
 ·rename_i hb;refine .inr (.inl ⟨rfl,?_,by omega⟩)
  unfold Aab;rw[if_pos (show b0<128 by omega)]
 split
 ·refine .inr (.inr (.inl ⟨rfl,by omega,b0 % 32*64+b1 % 64,?_,by omega,by omega,by omega⟩))
  unfold Aab;rw[if_neg (by omega),if_pos (by omega),if_pos (by omega)]
 split
 ·refine .inr (.inr (.inr (.inl ⟨rfl,by omega,b0 % 16*4096+b1 % 64*64+b2 % 64,?_,by omega,by omega⟩)))
  unfold Aab;rw[if_neg (by omega),if_neg (by omega),if_pos (by omega),if_pos ⟨by omega,by simp only[Utf8.valid,C1,Ad,decide_eq_true_eq];omega⟩]
 split
 ·refine .inr (.inr (.inr (.inr ⟨rfl,by omega,b0 % 8*262144+b1 % 64*4096+b2 % 64*64+b3 % 64,?_,by omega,by omega⟩)))
  unfold Aab;rw[if_neg (by omega),if_neg (by omega),if_neg (by omega),if_pos (by omega),if_pos ⟨by omega,by simp only[Utf8.valid,C1,Ad,decide_eq_true_eq];omega⟩]
 ·refine .inl ⟨rfl,?_⟩;unfold Aab;rw[if_neg (by omega)]
  split
  ·rw[if_neg (by omega)]
  split
  ·rw[if_neg];rintro⟨Mi,hv2⟩;simp only[Utf8.valid,C1,Ad,decide_eq_true_eq]at hv2;omega
  split
  ·rw[if_neg];rintro⟨Mi,hv2⟩;simp only[Utf8.valid,C1,Ad,decide_eq_true_eq]at hv2;omega
  rfl
theorem Boh(c d:UInt8):P2 [c,d]=decide (c.toNat=194→161≤d.toNat):=by
 simp only[P2];split
 ·congr 1
  rw[eq_iff_iff];omega
 ·symm;simp only[decide_eq_true_eq];omega
theorem A75(c d e:UInt8)(r:A1):P2 (c::d::e::r)=true:=rfl
theorem Bbi(l:A1)(hl:0<l.length):
 (Pp l=0∧Lw l 0=(65533,1))∨
 (∃c r,l=c::r∧Pp l=1∧Lw l 0=(c.toNat,1)∧c.toNat<128)∨
 (∃k r:Nat,2≤k∧Pp l=(k:Int)∧k≤l.length∧Lw l 0=(r,k)∧128≤r∧r≤1114111∧P2 (l.take k)=decide (161≤r)):=by
 rw[Bom l hl,Bj6];rcases Bg7 l.length (L3 l 0) (L3 l 1) (L3 l 2) (L3 l 3) (Bo5 l 0) hl with⟨h1,h2⟩|⟨h1,h2,h3⟩|⟨h1,h2,r,h3,h4,h5,h6⟩|⟨h1,h2,r,h3,h4,h5⟩|⟨h1,h2,r,h3,h4,h5⟩
 ·rw[h1,h2];exact .inl ⟨rfl,rfl⟩
 ·rw[h1,h2];cases l with
  |nil=>simp at hl
  |cons c r=>exact .inr (.inl ⟨c,r,rfl,rfl,rfl,h3⟩)
 ·rw[h1,h3];rcases l with _|⟨c,_|⟨d,t⟩⟩
  ·simp at hl
  ·simp at h2
  ·refine .inr (.inr ⟨2,r,by omega,rfl,h2,rfl,h4,h5,?_⟩)
   show P2 [c,d]=_;rw[Boh]
   congr 1
   rw[eq_iff_iff];exact h6.symm
 ·rw[h1,h3];rcases l with _|⟨c,_|⟨d,_|⟨e,t⟩⟩⟩
  ·simp at hl
  ·simp at h2
  ·simp at h2
  ·exact .inr (.inr ⟨3,r,by omega,rfl,h2,rfl,by omega,h5,by show P2 [c,d,e]=_;rw[A75];simp[h4]⟩)
 ·rw[h1,h3];rcases l with _|⟨c,_|⟨d,_|⟨e,_|⟨f,t⟩⟩⟩⟩
  ·simp at hl
  ·simp at h2
  ·simp at h2
  ·simp at h2
  ·exact .inr (.inr ⟨4,r,by omega,rfl,h2,rfl,by omega,h5,by show P2 [c,d,e,f]=_;rw[A75];simp[h4]⟩)
end Go.Ab
