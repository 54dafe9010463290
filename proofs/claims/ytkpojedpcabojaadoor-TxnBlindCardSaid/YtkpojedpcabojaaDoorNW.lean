/- Lemmas -/
import Derived.Test.YtkpojedpcabojaaDoorV5
import Derived.Shelf.Unicode.DecodeAny
set_option linter.unusedVariables false
set_option linter.unusedSimpArgs false
namespace Go.Ab
def A1(vs:List Fk):Fk:=vs.getLast?.getD Akw
def fK(n a:Az)(v:Fk):Int:=if(C1 a).1=n∧v.gone=false then 1 else 0
def fB(n a:Az)(v:Fk):Int:=if(C1 a).1=n∧v.gone=false then((C1 a).2.1.length:Int)+(v.val.length:Int)else 0
def Ao7(f:Az→Fk→Int):List Zk→Int
 | []=>0
 |h::r=>f h.at_ (A1 h.vs)+Ao7 f r
theorem Aim(f:Az→Fk→Int):∀a b:List Zk,Ao7 f (a++b)=Ao7 f a+Ao7 f b
 | [],b=>by simp[Ao7]
 |h::r,b=>by simp only[H3,Ao7,Aim f r b];omega
theorem Aj0{f:Az→Fk→Int}{h:Zk}:∀{l:List Zk} {p:Nat} {e:Zk},l[p]?=some e→Ao7 f (l.set p h)=Ao7 f l - f e.at_ (A1 e.vs)+f h.at_ (A1 h.vs)
 | [],p,e,he=>by simp at he
 |x::r,0,e,he=>by
  simp only[Fa,A0]at he;subst he;simp only[Akm,Ao7];omega
 |x::r,p+1,e,he=>by
  simp only[Du]at he;simp only[Ais,Ao7,Aj0 he];omega
theorem Aj4(vs:List Fk)(v:Fk):A1 (vs++[v])=v:=by simp[A1]
theorem Ai4{l:List Zk}{a:Az}{e:Zk}(hf:bsF (Kh a) (eqH a) l=true)(he:l[Km (Kh a) l]?=some e):Q1 l a=A1 e.vs:=by
 unfold Q1 Cn.A29 Cn.pi Cn.pf;dsimp only;rw[he];dsimp only;rw[if_pos hf];rfl
theorem Gs{f:Az→Fk→Int}{l:List Zk}{a:Az}{v:Fk}(h0:f a Akw=0):Ao7 f (Ath l a v)=Ao7 f l - f a (Q1 l a)+f a v:=by
 unfold Ath A1y;split
 ·rename_i hf;obtain⟨e,h2,h3⟩:=Afp hf;have h4:e.at_=a:=by simpa[eqH]using h3
  rw[Zv h2,Aj0 h2,Ai4 hf h2];dsimp only;rw[Aj4,h4]
 ·rename_i hf;rw[show Q1 l a=Akw from Cn.A3a (s:=⟨[],l⟩) (show bsF (Kh a) (eqH a) l=false by simpa using hf),h0]
  rw[Aim]
  conv=>rhs;rw[←Fj (Km (Kh a) l) l,Aim]
  simp only[Ao7,A1,List.getLast?_singleton,Option.getD_some];omega
theorem Ah8{n k:Az}{v:Fk}(hn:n.length<256):fK n (B7 n k) v=if v.gone=false then 1 else 0:=by
 unfold fK;rw[Mt hn];simp
theorem Ah7{n k:Az}{v:Fk}(hn:n.length<256):fB n (B7 n k) v=if v.gone=false then(k.length:Int)+(v.val.length:Int)else 0:=by
 unfold fB;rw[Mt hn];simp
theorem Akf{n n' k:Az}{v:Fk}(hn:n.length<256)(h:n'≠n):fK n' (B7 n k) v=0:=by
 unfold fK;rw[Mt hn,if_neg (fun c=>h c.1.symm)]
theorem Ake{n n' k:Az}{v:Fk}(hn:n.length<256)(h:n'≠n):fB n' (B7 n k) v=0:=by
 unfold fB;rw[Mt hn,if_neg (fun c=>h c.1.symm)]
theorem Af5{n a:Az}{v:Fk}(h:v.gone=true):fK n a v=0:=by unfold fK;rw[if_neg (fun c=>by rw[h]at c;cases c.2)]
theorem Lq{n a:Az}{v:Fk}(h:v.gone=true):fB n a v=0:=by unfold fB;rw[if_neg (fun c=>by rw[h]at c;cases c.2)]
theorem Ajs{n k:Az}{c:Ef}{x:WSt}(hn:n.length<256)(h1:x.t.keys=Ao7 (fK n) x.l)(h2:x.t.bytes=Ao7 (fB n) x.l):
 (Dw n k c x).t.keys=Ao7 (fK n) (Dw n k c x).l∧(Dw n k c x).t.bytes=Ao7 (fB n) (Dw n k c x).l:=by
 have g0:Akw.gone=true:=rfl;unfold Dw;dsimp only;split
 ·exact⟨h1,h2⟩
 ·rename_i hcw;split
  ·rename_i hc;have hw:(Q1 x.l (B7 n k)).gone=false:=by
    cases h:(Q1 x.l (B7 n k)).gone with
    |false=>rfl
    |true=>exact absurd ⟨hc,h⟩ hcw
   dsimp only;rw[Gs (Af5 g0),Gs (Lq g0),Ah8 hn,Ah8 hn,Ah7 hn,Ah7 hn,hw];simp only[if_true,Bool.true_eq_false,if_false];omega
  ·split
   ·rename_i hw;dsimp only;rw[Gs (Af5 g0),Gs (Lq g0),Ah8 hn,Ah8 hn,Ah7 hn,Ah7 hn,hw];simp only[if_true,Bool.true_eq_false,if_false];omega
   ·rename_i hw;have hw:(Q1 x.l (B7 n k)).gone=false:=by simpa using hw
    dsimp only;rw[Gs (Af5 g0),Gs (Lq g0),Ah8 hn,Ah8 hn,Ah7 hn,Ah7 hn,hw];simp only[if_true,Bool.true_eq_false,if_false];omega
theorem Ajy{n k n':Az}{c:Ef}{x:WSt}(hn:n.length<256)(h:n'≠n):
 Ao7 (fK n') (Dw n k c x).l=Ao7 (fK n') x.l∧Ao7 (fB n') (Dw n k c x).l=Ao7 (fB n') x.l:=by
 have g0:Akw.gone=true:=rfl;rcases Q7 n k c x with e|⟨v,_,e,_⟩
 ·rw[e];exact⟨rfl,rfl⟩
 ·rw[e,Gs (Af5 g0),Gs (Lq g0),Akf hn h,Akf hn h,Ake hn h,Ake hn h];omega
def VK(l:List Zk):Prop:=∀h∈l,(C1 h.at_).2.1.length≤64∧∀v∈h.vs,v.gone=false→1≤v.made∧v.made≤v.rev
theorem VK.put{l:List Zk}{n k:Az}{v:Fk}(h:VK l)(hn:n.length<256)(hk:k.length≤64)(hv:v.gone=false→1≤v.made∧v.made≤v.rev):VK (Ath l (B7 n k) v):=by
 intro x hx;rcases Ajm hx with hx|rfl|⟨e,he,_,rfl⟩
 ·exact h x hx
 ·dsimp only;rw[Mt hn];exact⟨hk,fun w hw=>by simp only[Jd]at hw;subst hw;exact hv⟩
 ·dsimp only;rw[Mt hn];refine⟨hk,fun w hw=>?_⟩
  rcases Bv.1 hw with hw|hw
  ·exact(h e he).2 w hw
  ·simp only[Jd]at hw;subst hw;exact hv
theorem Aj9(l:List Zk)(a:Az):Q1 l a=Akw∨∃e∈l,e.at_=a∧Q1 l a∈e.vs:=by
 cases hf:bsF (Kh a) (eqH a) l with
 |false=>exact .inl (Cn.A3a (s:=⟨[],l⟩) hf)
 |true=>
  obtain⟨e,h2,h3⟩:=Afp hf;rw[Ai4 hf h2];unfold A1;cases hl:e.vs.getLast? with
  |none=>exact .inl rfl
  |some v=>exact .inr ⟨e,Cb h2,by simpa[eqH]using h3,List.mem_of_getLast? hl⟩
theorem Aj1{n k:Az}{c:Ef}{x:WSt}{U:Az→Int}(hn:n.length<256)(hk:k.length≤64)(hr:0≤x.t.rev)(h:VK x.l)(hw:Ayn U x.l)(hU:U (B7 n k)≤x.t.rev):VK (Dw n k c x).l:=by
 unfold Dw;dsimp only;split
 ·exact h
 ·split
  ·exact h.put hn hk (fun c=>by cases c)
  ·split
   ·exact h.put hn hk (fun _=>by dsimp only;omega)
   ·rename_i hg;refine h.put hn hk (fun _=>?_)
    dsimp only;rcases Aj9 x.l (B7 n k)with e|⟨e,he,hea,hm⟩
    ·rw[e]at hg;exact absurd rfl hg
    ·have h3:=(h e he).2 _ hm (by simpa using hg)
     have h4:=((hw.2 e he).2.2 _ hm).2;rw[hea]at h4;omega
theorem Aif{n:Az}{F:List Ef}{R:Az→Int}{r:Int}(hn:n.length<256)(hr:0≤r):∀{KK:List Az} {x:WSt},KK.Nodup→(∀k∈KK,k.length≤64)→x.t.rev=r→Ayn (Avw n r R KK) x.l→VK x.l→x.t.keys=Ao7 (fK n) x.l→x.t.bytes=Ao7 (fB n) x.l→
 VK (Ge n F KK x).l∧(Ge n F KK x).t.keys=Ao7 (fK n) (Ge n F KK x).l∧(Ge n F KK x).t.bytes=Ao7 (fB n) (Ge n F KK x).l∧∀n',n'≠n→Ao7 (fK n') (Ge n F KK x).l=Ao7 (fK n') x.l∧Ao7 (fB n') (Ge n F KK x).l=Ao7 (fB n') x.l
 | [],x,_,_,_,_,h1,h2,h3=>⟨h1,h2,h3,fun _ _=>⟨rfl,rfl⟩⟩
 |k::KK,x,hd,hk,hx,hw,h1,h2,h3=>by
  obtain⟨d1,d2⟩:=Hw.1 hd;have g1:=Ag6 (x:=x) (R:=R) (c:=Anv F k) hn d1 (by omega) (by rw[hx];exact hw)
  rw[hx]at g1;have g2:=Aj1 (c:=Anv F k) hn (hk k (B2 ..)) (by omega) h1 hw (by unfold Avw;rw[Mt hn,if_pos rfl,if_pos (B2 ..)];omega)
  obtain⟨g3,g4⟩:=Ajs (k:=k) (c:=Anv F k) hn h2 h3;obtain⟨i1,i2,i3,i4⟩:=Aif (F:=F) (R:=R) hn hr (KK:=KK) (x:=Dw n k (Anv F k) x) d2 (fun y hy=>hk y (B4 _ hy)) ((Agt _ _ _ _).1.trans hx) g1 g2 g3 g4
  refine⟨i1,i2,i3,fun n' hn'=>?_⟩
  obtain⟨j1,j2⟩:=i4 n' hn';obtain⟨o1,o2⟩:=Ajy (k:=k) (c:=Anv F k) (x:=x) hn hn';exact⟨j1.trans o1,j2.trans o2⟩
structure Atm(s:Cn):Prop where
 cnt:∀n,(s.Zp n).keys=Ao7 (fK n) s.l∧(s.Zp n).bytes=Ao7 (fB n) s.l
 vk:VK s.l
theorem Atm.write{m:Nat}{s:Cn}(h:Akb m s)(hc:Atm s)(n:Az)(cs:List Ef):Atm (s.Acg n cs).1:=by
 unfold Cn.Acg;split
 ·exact hc
 ·rename_i i hi;split
  ·exact hc
  ·rename_i F hF;obtain⟨f1,f2,_⟩:=Agz hF (by simp) (by simp)
   have hn:=h.name hi;obtain⟨g1,g2,g3,g4⟩:=Aif (F:=F) (R:=fun n=>(s.Zp n).rev) (r:=(s.Zp n).rev) hn (by have:=h.rv n;omega) (KK:=Dc (F.map Ef.key)) (x:=⟨s.Zp n,s.l,false⟩) (Ahj f1) (fun k hk=>(Ajq f2 hk).1) rfl (h.start n _) hc.vk (hc.cnt n).1 (hc.cnt n).2
   generalize Ge n F (Dc (F.map Ef.key)) ⟨s.Zp n,s.l,false⟩=Z at*;dsimp only at g1 g2 g3 g4;refine⟨fun n'=>?_,g1⟩
   rw[Mi hi];dsimp only;split
   ·rename_i e;subst e;unfold WSt.fin;split
    ·exact⟨g2,g3⟩
    ·exact⟨g2,g3⟩
   ·rename_i e;obtain⟨o1,o2⟩:=g4 n' e;rw[o1,o2];exact hc.cnt n'
theorem Aj2{r:Int}{vs:List Fk}(h0:vs≠[])(h:vs.length≤Lm r vs):(A1 vs).gone=true:=by
 have h1:=Ve r vs h0;unfold Lm at h;rw[Ae h1]at h;dsimp only at h;split at h
 ·rename_i hg;unfold A1;rw[List.getLast?_eq_getElem?,show vs.length - 1=Eo r vs by omega,Ae h1]
  exact hg.1
 ·omega
theorem Aj3{vs:List Fk}{k:Nat}(h:vs.drop k≠[]):A1 (vs.drop k)=A1 vs:=by
 unfold A1;rw[List.getLast?_drop,if_neg];intro c;exact h (Db c)
theorem Ahm{f:Az→Fk→Int}{n:Az}{r:Int}(hg:∀a v,v.gone=true→f a v=0):∀{l:List Zk},(∀h∈l,h.vs≠[])→Ao7 f (l.filterMap (Pf n r))=Ao7 f l
 | [],_=>rfl
 |h::t,h0=>by
  have ih:=Ahm (n:=n) (r:=r) hg (l:=t) fun x hx=>h0 x (B4 _ hx)
  have hv:=h0 h (B2 ..);rw[Fp];cases e:Pf n r h with
  |none=>
   dsimp only;rw[ih,Ao7];unfold Pf at e;split at e
   ·split at e
    ·rename_i hk;rw[hg _ _ (Aj2 hv hk)];omega
    ·cases e
   ·cases e
  |some h'=>
   obtain⟨a1,k,a2,a3⟩:=Agy e;dsimp only;have h4:=a3 hv;rw[Ao7,Ao7,ih,a1,a2,Aj3 (by rw[←a2];exact h4)]
theorem Atm.comp{m:Nat}{s:Cn}(h:Akb m s)(hc:Atm s)(n:Az)(rev:Int):Atm (s.Anu n rev).1:=by
 unfold Cn.Anu;split
 ·exact hc
 ·rename_i i hi;split
  ·obtain⟨c1,_⟩:=Ahp (n:=n) (rev:=rev) (l:=s.l) (x:=⟨[],0⟩);rw[H4]at c1;generalize Mz n rev s.l ⟨[],0⟩=Z at*;have h0:∀x∈s.l,x.vs≠[]:=fun x hx=>(h.lb.held x hx).2.1
   refine⟨fun n'=>?_,fun x hx=>?_⟩
   ·rw[Mi hi];dsimp only;rw[c1,Ahm (fun a v hg=>Af5 hg) h0,Ahm (fun a v hg=>Lq hg) h0]
    split
    ·rename_i e;subst e;exact hc.cnt n'
    ·exact hc.cnt n'
   ·dsimp only at hx;rw[c1]at hx;obtain⟨y,hy,e⟩:=Ajj.1 hx;obtain⟨a1,k,a2,_⟩:=Agy e;rw[a1,a2];exact⟨(hc.vk y hy).1,fun v hv=>(hc.vk y hy).2 v (Agw hv)⟩
  ·exact hc
theorem Atm.open{s:Cn}(hc:Atm s)(nm:Bool)(n:Az):Atm (s.Aqk nm n).1:=by
 have h2:=(Ah4 (s:=s) (nm:=nm) (n:=n) (n':=[])).2;refine⟨fun n'=>?_,?_⟩
 ·rw[h2,Ah4.1];exact hc.cnt n'
 ·rw[h2];exact hc.vk
theorem Atm.step{m:Nat}{s:Cn}(h:Akb m s)(hc:Atm s)(o:Opn):Atm (s.Ay2 o):=by
 unfold Cn.Ay2;split
 ·exact hc.write h _ _
 ·split
  ·exact hc.comp h _ _
  ·split
   ·exact hc.open _ _
   ·exact hc
theorem Aok:∀{p a b:Az},p++a<p++b↔a<b
 | [],a,b=>by simp
 |c::p,a,b=>by
  simp only[H3];rw[List.cons_lt_cons_iff,Aok (p:=p)];have:¬c<c:=Asw c;simp[this]
theorem Apd{vs:List Fk}{R:Int}(h:VSo vs)(h1:vs≠[])(hR:∀v∈vs,v.rev≤R):D1 vs R=if(A1 vs).gone=true then(A11,false)else(A1 vs,true):=by
 rw[Aix h,Aoq.2 (fun v hv=>by simpa using hR v hv)]
 unfold A1;cases hl:vs.getLast? with
 |none=>exact absurd (List.getLast?_eq_none_iff.1 hl) h1
 |some v=>rfl
def Aq2:List (Az × Fk)→Int
 | []=>0
 |p::r=>(p.1.length:Int)+(p.2.val.length:Int)+Aq2 r
theorem Amp{n:Az}{R:Int}:∀{l:List Zk},(∀h∈l,Avh h.at_∧VSo h.vs∧h.vs≠[]∧((C1 h.at_).1=n→∀v∈h.vs,v.rev≤R))→LSo l→VK l→
 ((Lh n R l).length:Int)=Ao7 (fK n) l∧Aq2 (Lh n R l)=Ao7 (fB n) l∧(Lh n R l).Pairwise (fun a b=>a.1<b.1)∧∀p∈Lh n R l,(p.1.length≤64∧(1≤p.2.made∧p.2.made≤p.2.rev∧p.2.rev≤R))∧∃h∈l,h.at_=B7 n p.1
 | [],_,_,_=>⟨rfl,rfl,List.Pairwise.nil,by intro p hp;cases hp⟩
 |h::r,h0,hs,hk=>by
  rw[LSo,Cy,Gr]at hs;obtain⟨i1,i2,i3,i4⟩:=Amp (n:=n) (R:=R) (l:=r) (fun x hx=>h0 x (B4 _ hx)) hs.2 (fun x hx=>hk x (B4 _ hx))
  obtain⟨a1,a2,a3,a4⟩:=h0 h (B2 ..);obtain⟨k1,k2⟩:=hk h (B2 ..);unfold Lh at i1 i2 i3 i4 ⊢;rw[Fp];simp only[Ao7];by_cases hn:(C1 h.at_).1=n
  ·have hv:=Apd a2 a3 (a4 hn);cases hg:(A1 h.vs).gone with
   |true=>
    rw[hg,if_pos rfl]at hv;rw[show gV n R h=none by unfold gV;rw[hv,if_neg (fun c=>by cases c.2)],Af5 hg,Lq hg]
    dsimp only;exact⟨by omega,by omega,i3,fun p hp=>⟨(i4 p hp).1,by obtain⟨y,hy,e⟩:=(i4 p hp).2;exact⟨y,B4 _ hy,e⟩⟩⟩
   |false=>
    rw[hg,if_neg (by simp)]at hv
    have hat:h.at_=B7 n (C1 h.at_).2.1:=by rw[←hn];exact a1.whose.1
    rw[show gV n R h=some ((C1 h.at_).2.1,A1 h.vs)by unfold gV;rw[hv,if_pos ⟨hn,rfl⟩]]
    have hlm:A1 h.vs∈h.vs:=by
     unfold A1;cases hl:h.vs.getLast? with
     |none=>exact absurd (List.getLast?_eq_none_iff.1 hl) a3
     |some v=>exact List.mem_of_getLast? hl
    have hmr:=k2 _ hlm hg;have hrR:=a4 hn _ hlm;refine⟨?_,?_,?_,?_⟩
    ·rw[show fK n h.at_ (A1 h.vs)=1 by unfold fK;rw[if_pos ⟨hn,hg⟩]]
     simp only[Ho];omega
    ·rw[show fB n h.at_ (A1 h.vs)=((C1 h.at_).2.1.length:Int)+((A1 h.vs).val.length:Int)by unfold fB;rw[if_pos ⟨hn,hg⟩]]
     simp only[Aq2];omega
    ·rw[Gr];refine⟨fun p hp=>?_,i3⟩
     obtain⟨y,hy,e⟩:=(i4 p hp).2;have h5:=hs.1 y.at_ (List.mem_map_of_mem hy);rw[hat,e,Ahd n (C1 h.at_).2.1,Ahd n p.1,Aok]at h5;rw[hat]at h5;rw[Ahd, ←Ahd,Mt (by rw[←hn];exact a1.whose.2)]at h5
     exact h5
    ·intro p hp;rcases Bg.1 hp with rfl|hp
     ·exact⟨⟨k1,hmr.1,hmr.2,hrR⟩,h,B2 ..,hat⟩
     ·exact⟨(i4 p hp).1,by obtain⟨y,hy,e⟩:=(i4 p hp).2;exact⟨y,B4 _ hy,e⟩⟩
  ·rw[Ar0 hn,show fK n h.at_ (A1 h.vs)=0 by unfold fK;rw[if_neg (fun c=>hn c.1)],show fB n h.at_ (A1 h.vs)=0 by unfold fB;rw[if_neg (fun c=>hn c.1)]]
   dsimp only;exact⟨by omega,by omega,i3,fun p hp=>⟨(i4 p hp).1,by obtain⟨y,hy,e⟩:=(i4 p hp).2;exact⟨y,B4 _ hy,e⟩⟩⟩
set_option maxRecDepth 100000
set_option maxHeartbeats 40000000

open Go.Proofs
abbrev r0:SV:=.own [] (.ptr (.st [.vec 50 4 []]))
abbrev r1(n:Az):SV:=.own [] (.ptr (.it (.agg [.list [.agg [.str n,ti 0,ti 0,.list []]]])))
theorem A8o(a b:List Pr)(ha:a.length≤100000):Fn Tryd.prog Azc [.v (.list (a.map Pr.Bx)),.v (.list (b.map Pr.Bx))] (Is (.v (.bool (decide (a=b)))) [.no,.no]):=by
 refine Azb ?_ (by simp)
 by_cases hl:a.length=b.length
 case neg=>
  have h1:¬(!decide (((a.map Pr.Bx).length:Int)=((b.map Pr.Bx).length:Int)))=false:=by simp;omega
  have h2:decide (a=b)=false:=decide_eq_false (fun e=>hl (by rw[e]))
  rw[h2];repeat'((conv=>whnf);first|((with_reducible refine Ax (by(with_reducible exact Ai (by assumption))) (fun hb=>?_));(try rw[hb]);(try simp only[Aa]at hb))|((with_reducible refine Ac ?_ ?_);focus (and_intros<;>(with_reducible rfl)))|(with_reducible intro Cq))
  all_goals(try(conv=>whnf))
  (apply dKq<;>kernel_rfl)
 have h1:¬(!decide (((a.map Pr.Bx).length:Int)=((b.map Pr.Bx).length:Int)))=true:=by simp;omega
 repeat'((conv=>whnf);first|((with_reducible refine Aw (by(with_reducible exact Ak (by assumption))) (fun hb=>?_));(try rw[hb]);(try simp only[Aa]at hb))|((with_reducible refine Ac ?_ ?_);focus (and_intros<;>(with_reducible rfl)))|(with_reducible intro Cq))
 all_goals(try(conv=>whnf))
 refine Afm.by (X:=Nat) (fun j=>[(5,.v (ti (j:Int)))]) (fun j=>j≤a.length∧a.take j=b.take j) (fun j=>a.length - j) 0 (by kernel_rfl) ⟨Cr _,rfl⟩ ?_
 rintro j ⟨hj,hp⟩;dsimp only at hj hp ⊢;have hw:IntKind.i64.wrap ((j:Int)+1)=((j+1:Nat):Int):=(Bf (by omega)).trans (by omega)
 by_cases hjl:j<a.length
 case neg=>
  have h3:¬decide ((j:Int)<((a.map Pr.Bx).length:Int))=true:=by simp;omega
  have h4:¬decide ((j:Int)<(a.length:Int))=true:=by simp;omega
  rw[Am2 (by omega),Am2 (by omega)]at hp
  rw[decide_eq_true hp];repeat'((conv=>whnf);first|((with_reducible refine Aw (by(with_reducible exact Ak (by assumption))) (fun hb=>?_));(try rw[hb]);(try simp only[Aa]at hb))|((with_reducible refine Ac ?_ ?_);focus (and_intros<;>(with_reducible rfl)))|(with_reducible intro Cq))
  all_goals(try(conv=>whnf))
  (apply dKq<;>kernel_rfl)
 obtain⟨x,hx⟩:∃x,a[j]?=some x:=⟨_,Ae hjl⟩;obtain⟨y,hy⟩:∃y,b[j]?=some y:=⟨_,Ae (by omega)⟩
 have h3:¬decide ((j:Int)<((a.map Pr.Bx).length:Int))=false:=by simp;omega
 have h4:¬decide ((j:Int)<(a.length:Int))=false:=by simp;omega
 obtain⟨xk,xv,xm,xr⟩:=x;obtain⟨yk,yv,ym,yr⟩:=y;have hq:(decide (xk=yk)&&(decide (xv=yv)&&(decide (xm=ym)&&(decide (xr=yr)&&true))))=decide (Pr.mk xk xv xm xr=Pr.mk yk yv ym yr):=by rw[Bool.eq_iff_iff];simp
 have hta:a.take (j+1)=a.take j++[Pr.mk xk xv xm xr]:=by rw[Amx,hx];rfl
 have htb:b.take (j+1)=b.take j++[Pr.mk yk yv ym yr]:=by rw[Amx,hy];rfl
 by_cases he:Pr.mk xk xv xm xr=Pr.mk yk yv ym yr
 ·have g:¬(!(decide (xk=yk)&&(decide (xv=yv)&&(decide (xm=ym)&&(decide (xr=yr)&&true)))))=true:=by rw[hq];simp[he]
  have hnx:a.take (j+1)=b.take (j+1):=by rw[hta,htb,hp,he]
  repeat'((conv=>whnf);first|((with_reducible refine Ax (by first|(with_reducible assumption)|(with_reducible exact Ai (by assumption))) (fun hb=>?_));(try rw[hb]);(try simp only[Aa]at hb))|((with_reducible refine Aw (by(with_reducible exact Ak (by assumption))) (fun hb=>?_));(try rw[hb]);(try simp only[Aa]at hb))|((with_reducible refine Ac ?_ ?_);focus (and_intros<;>first|omega|(with_reducible rfl)|kernel_rfl))|(with_reducible intro Cq)|((with_reducible refine Ai2.mkV ?_ ?_ ?_ (fun Cq=>?_));(focus kernel_rfl);(focus kernel_rfl);(focus kernel_rfl);(try simp only[Bv,Bg,Dg,or_false,false_or,or_assoc,forall_eq_or_imp,forall_eq,false_implies,implies_true,forall_const,and_true,true_and]at Cq))|((try dsimp only);(rw[B6 hx]))|((try dsimp only);(rw[B6 hy]))|(skip;rw[hw]))
  all_goals(try(conv=>whnf))
  refine Round.by (j+1) ?_ ⟨by omega,hnx⟩ (by omega)
  try dsimp only
  show norm _ _=upd _ _
  kernel_rfl
 ·have g:¬(!(decide (xk=yk)&&(decide (xv=yv)&&(decide (xm=ym)&&(decide (xr=yr)&&true)))))=false:=by rw[hq];simp[he]
  have Cf:decide (a=b)=false:=by
   refine decide_eq_false fun e=>he ?_
   rw[e]at hx;exact Aag (hx.symm.trans hy)
  rw[Cf];repeat'((conv=>whnf);first|((with_reducible refine Ax (by(with_reducible exact Ai (by assumption))) (fun hb=>?_));(try rw[hb]);(try simp only[Aa]at hb))|((with_reducible refine Ac ?_ ?_);focus (and_intros<;>first|omega|(with_reducible rfl)|kernel_rfl))|(with_reducible intro Cq)|((with_reducible refine Ai2.mkV ?_ ?_ ?_ (fun Cq=>?_));(focus kernel_rfl);(focus kernel_rfl);(focus kernel_rfl);(try simp only[Bv,Bg,Dg,or_false,false_or,or_assoc,forall_eq_or_imp,forall_eq,false_implies,implies_true,forall_const,and_true,true_and]at Cq))|((try dsimp only);(rw[B6 hx]))|((try dsimp only);(rw[B6 hy])))
  all_goals(try(conv=>whnf))
  (apply dKq<;>kernel_rfl)

def aw1:Cn:=⟨[([116],Ax5)],[]⟩

open Go.RowKit Go.Maps Go.Sort Go.Shelf Go.Proofs
def Abr:Go.Shelf.Ren:=⟨fun|7=>70|10=>100|n=>n,fun|23=>119|26=>9|3=>38|28=>122|0=>0|27=>121|33=>116|4=>4|n=>n,fun|n=>n⟩
theorem Aeo:Go.Proofs.SlLaysZ.n7 Tryd.prog Abr where
 mixed:=by kernel_rfl
 f7:=⟨"maps.Keys[map[string]exchequer/api.Change,string,exchequer/api.Change]",by decide,Tryd.func70.trans (congrArg some (by kernel_rfl))⟩
 f10:=⟨"maps.Keys[map[string]exchequer/api.Change,string,exchequer/api.Change]$1",by decide,Tryd.func100.trans (congrArg some (by kernel_rfl))⟩
 t0:=Tryd.underlying0
 a0:=Tryd.isAgg0
 z0:=Tryd.sizeOf0
 v0:=Tryd.zeroValue0
 t4:=Tryd.underlying4
 a4:=Tryd.isAgg4
 z4:=Tryd.sizeOf4
 v4:=Tryd.zeroValue4
 t23:=Tryd.underlying119
 a23:=Tryd.isAgg119
 z23:=Tryd.sizeOf119
 v23:=Tryd.zeroValue119
 t26:=Tryd.underlying9
 a26:=Tryd.isAgg9
 z26:=Tryd.sizeOf9
 v26:=Tryd.zeroValue9
 t27:=Tryd.underlying121
 a27:=Tryd.isAgg121
 z27:=Tryd.sizeOf121
 v27:=Tryd.zeroValue121
 t28:=Tryd.underlying122
 a28:=Tryd.isAgg122
 z28:=Tryd.sizeOf122
 v28:=Tryd.zeroValue122
 t33:=Tryd.underlying116
 a33:=Tryd.isAgg116
 z33:=Tryd.sizeOf116
 v33:=Tryd.zeroValue116
def Pt:Go.Shelf.Ren:=⟨fun|6=>69|8=>98|9=>99|11=>115|13=>117|12=>116|23=>136|24=>137|14=>127|15=>128|16=>129|17=>130|18=>131|19=>132|20=>133|21=>134|22=>135|25=>140|26=>141|27=>142|28=>143|29=>144|30=>138|31=>146|n=>n,fun|26=>9|28=>122|24=>80|0=>0|3=>3|37=>174|48=>191|50=>193|4=>4|40=>184|39=>183|45=>159|5=>5|9=>9|51=>198|55=>202|57=>205|58=>44|33=>116|n=>n,fun|n=>n⟩
theorem Afh:Go.Proofs.SlLaysZ.n6 Tryd.prog Pt where
 mixed:=by kernel_rfl
 f6:=⟨"slices.Sorted[string]",by decide,Tryd.func69.trans (congrArg some (by kernel_rfl))⟩
 f8:=⟨"slices.Collect[string]",by decide,Tryd.func98.trans (congrArg some (by kernel_rfl))⟩
 f11:=⟨"slices.AppendSeq[[]string,string]",by decide,Tryd.func115.trans (congrArg some (by kernel_rfl))⟩
 t0:=Tryd.underlying0
 a0:=Tryd.isAgg0
 z0:=Tryd.sizeOf0
 v0:=Tryd.zeroValue0
 t24:=Tryd.underlying80
 a24:=Tryd.isAgg80
 z24:=Tryd.sizeOf80
 v24:=Tryd.zeroValue80
 t26:=Tryd.underlying9
 a26:=Tryd.isAgg9
 z26:=Tryd.sizeOf9
 v26:=Tryd.zeroValue9
 t28:=Tryd.underlying122
 a28:=Tryd.isAgg122
 z28:=Tryd.sizeOf122
 v28:=Tryd.zeroValue122
 i26:=by kernel_rfl
def Acs:Go.Shelf.Ren:=⟨fun|6=>99|8=>117|9=>116|19=>136|20=>137|21=>127|22=>128|23=>129|24=>130|25=>131|26=>132|27=>133|28=>134|29=>135|36=>140|31=>141|32=>142|37=>143|38=>144|39=>138|41=>146|n=>n,fun|27=>80|29=>9|3=>3|32=>174|26=>80|0=>0|44=>191|46=>193|4=>4|36=>184|35=>183|41=>159|5=>5|9=>9|53=>198|57=>202|63=>205|64=>44|n=>n,fun|n=>n⟩
theorem Aew:Go.Proofs.SlLaysM.n6 Tryd.prog Acs where
 mixed:=by kernel_rfl
 f6:=⟨"slices.Sort[[]string,string]",by decide,Tryd.func99.trans (congrArg some (by kernel_rfl))⟩
 f8:=Tryd.func117.trans (congrArg some (by kernel_rfl))
 f9:=⟨"slices.pdqsortOrdered[string]",by decide,Tryd.func116.trans (congrArg some (by kernel_rfl))⟩
 f19:=Tryd.func136.trans (congrArg some (by kernel_rfl))
 f20:=Tryd.func137.trans (congrArg some (by kernel_rfl))
 f21:=⟨"slices.insertionSortOrdered[string]",by decide,Tryd.func127.trans (congrArg some (by kernel_rfl))⟩
 f22:=⟨"slices.heapSortOrdered[string]",by decide,Tryd.func128.trans (congrArg some (by kernel_rfl))⟩
 f23:=⟨"slices.breakPatternsOrdered[string]",by decide,Tryd.func129.trans (congrArg some (by kernel_rfl))⟩
 f24:=⟨"slices.choosePivotOrdered[string]",by decide,Tryd.func130.trans (congrArg some (by kernel_rfl))⟩
 f25:=⟨"slices.reverseRangeOrdered[string]",by decide,Tryd.func131.trans (congrArg some (by kernel_rfl))⟩
 f26:=⟨"slices.partialInsertionSortOrdered[string]",by decide,Tryd.func132.trans (congrArg some (by kernel_rfl))⟩
 f27:=⟨"cmp.Less[string]",by decide,Tryd.func133.trans (congrArg some (by kernel_rfl))⟩
 f28:=⟨"slices.partitionEqualOrdered[string]",by decide,Tryd.func134.trans (congrArg some (by kernel_rfl))⟩
 f29:=⟨"slices.partitionOrdered[string]",by decide,Tryd.func135.trans (congrArg some (by kernel_rfl))⟩
 f31:=Tryd.func141.trans (congrArg some (by kernel_rfl))
 f32:=Tryd.func142.trans (congrArg some (by kernel_rfl))
 f36:=⟨"slices.siftDownOrdered[string]",by decide,Tryd.func140.trans (congrArg some (by kernel_rfl))⟩
 f37:=⟨"slices.medianAdjacentOrdered[string]",by decide,Tryd.func143.trans (congrArg some (by kernel_rfl))⟩
 f38:=⟨"slices.medianOrdered[string]",by decide,Tryd.func144.trans (congrArg some (by kernel_rfl))⟩
 f39:=⟨"cmp.isNaN[string]",by decide,Tryd.func138.trans (congrArg some (by kernel_rfl))⟩
 f41:=⟨"slices.order2Ordered[string]",by decide,Tryd.func146.trans (congrArg some (by kernel_rfl))⟩
 t0:=Tryd.underlying0
 a0:=Tryd.isAgg0
 z0:=Tryd.sizeOf0
 v0:=Tryd.zeroValue0
 t3:=Tryd.underlying3
 a3:=Tryd.isAgg3
 z3:=Tryd.sizeOf3
 v3:=Tryd.zeroValue3
 t4:=Tryd.underlying4
 a4:=Tryd.isAgg4
 z4:=Tryd.sizeOf4
 v4:=Tryd.zeroValue4
 t5:=Tryd.underlying5
 a5:=Tryd.isAgg5
 z5:=Tryd.sizeOf5
 v5:=Tryd.zeroValue5
 t9:=Tryd.underlying9
 a9:=Tryd.isAgg9
 z9:=Tryd.sizeOf9
 v9:=Tryd.zeroValue9
 t26:=Tryd.underlying80
 a26:=Tryd.isAgg80
 z26:=Tryd.sizeOf80
 v26:=Tryd.zeroValue80
 t27:=Tryd.underlying80
 a27:=Tryd.isAgg80
 z27:=Tryd.sizeOf80
 v27:=Tryd.zeroValue80
 t29:=Tryd.underlying9
 a29:=Tryd.isAgg9
 z29:=Tryd.sizeOf9
 v29:=Tryd.zeroValue9
 t32:=Tryd.underlying174
 a32:=Tryd.isAgg174
 z32:=Tryd.sizeOf174
 v32:=Tryd.zeroValue174
 t35:=Tryd.underlying183
 a35:=Tryd.isAgg183
 z35:=Tryd.sizeOf183
 v35:=Tryd.zeroValue183
 t36:=Tryd.underlying184
 a36:=Tryd.isAgg184
 z36:=Tryd.sizeOf184
 v36:=Tryd.zeroValue184
 t41:=Tryd.underlying159
 a41:=Tryd.isAgg159
 z41:=Tryd.sizeOf159
 v41:=Tryd.zeroValue159
 t44:=Tryd.underlying191
 a44:=Tryd.isAgg191
 z44:=Tryd.sizeOf191
 v44:=Tryd.zeroValue191
 t46:=Tryd.underlying193
 a46:=Tryd.isAgg193
 z46:=Tryd.sizeOf193
 v46:=Tryd.zeroValue193
 t53:=Tryd.underlying198
 a53:=Tryd.isAgg198
 z53:=Tryd.sizeOf198
 v53:=Tryd.zeroValue198
 t57:=Tryd.underlying202
 a57:=Tryd.isAgg202
 z57:=Tryd.sizeOf202
 v57:=Tryd.zeroValue202
 t63:=Tryd.underlying205
 a63:=Tryd.isAgg205
 z63:=Tryd.sizeOf205
 v63:=Tryd.zeroValue205
 t64:=Tryd.underlying44
 a64:=Tryd.isAgg44
 z64:=Tryd.sizeOf44
 v64:=Tryd.zeroValue44
def Gw:Go.Shelf.Ren:=⟨fun|7=>85|10=>111|n=>n,fun|23=>109|26=>9|3=>113|28=>122|0=>0|27=>121|33=>116|4=>4|n=>n,fun|n=>n⟩
theorem Hj:Go.Proofs.SlLaysZ.n7 Tryd.prog Gw where
 mixed:=by kernel_rfl
 f7:=⟨"maps.Keys[map[string]*exchequer/store.tally,string,*exchequer/store.tally]",by decide,Tryd.func85.trans (congrArg some (by kernel_rfl))⟩
 f10:=⟨"maps.Keys[map[string]*exchequer/store.tally,string,*exchequer/store.tally]$1",by decide,Tryd.func111.trans (congrArg some (by kernel_rfl))⟩
 t0:=Tryd.underlying0
 a0:=Tryd.isAgg0
 z0:=Tryd.sizeOf0
 v0:=Tryd.zeroValue0
 t4:=Tryd.underlying4
 a4:=Tryd.isAgg4
 z4:=Tryd.sizeOf4
 v4:=Tryd.zeroValue4
 t23:=Tryd.underlying109
 a23:=Tryd.isAgg109
 z23:=Tryd.sizeOf109
 v23:=Tryd.zeroValue109
 t26:=Tryd.underlying9
 a26:=Tryd.isAgg9
 z26:=Tryd.sizeOf9
 v26:=Tryd.zeroValue9
 t27:=Tryd.underlying121
 a27:=Tryd.isAgg121
 z27:=Tryd.sizeOf121
 v27:=Tryd.zeroValue121
 t28:=Tryd.underlying122
 a28:=Tryd.isAgg122
 z28:=Tryd.sizeOf122
 v28:=Tryd.zeroValue122
 t33:=Tryd.underlying116
 a33:=Tryd.isAgg116
 z33:=Tryd.sizeOf116
 v33:=Tryd.zeroValue116
theorem Afi(m:Nat):AnyZ.SortsIn Tryd.prog Pt Fence.wide m:=
 ⟨fun blk off cap ss W hH Btc Hr=>callsIn_wide.2 (AnyM.slices_Sort_string Aew blk off cap ss W hH Btc Hr),
  fun p cap W=>callsIn_wide.2 (AnyM.slices_Sort_string_none Aew p cap W)⟩
theorem Aep:Aek 119:=A2z.of Aeo
theorem Adx:∀args w,(callFunc 99 args).run Tryd.prog w= .ok (.enter 99 args) w:=enters_of Tryd.func99 (by kernel_rfl) rfl
theorem Abi:∀args w,(callFunc 100 args).run Tryd.prog w= .ok (.enter 100 args) w:=enters_of Tryd.func100 (by kernel_rfl) rfl
set_option maxHeartbeats 4000000 in
theorem Aex:Aem 9:=by
 have h:=Aym.of Afh Aeo Afi Adx Abi;exact h
set_option maxHeartbeats 4000000 in
theorem ofC:Zb:=by
 refine⟨27,9,fun v1 v2 W h1 h2=>?_⟩
 go_enter Tryd.func79,Tryd.ntmps79
 go_wp2
 all_goals first
  |(go_ret;exact⟨rfl,rfl⟩)
  |(exfalso;simp[Value.oneCell']at h1;done)
  |(exfalso;simp[Value.oneCell']at h2;done)
set_option maxHeartbeats 4000000

open Go.Proofs Go.Shelf
theorem Bak:Lays.n197 Tryd.prog ⟨fun n=>if n=197 then 114 else if n=260 then 126 else n,fun n=>if n=46 then 174 else if n=105 then 169 else if n=119 then 194 else if n=138 then 196 else if n=139 then 197 else n,fun n=>if n=3 then 0 else 1⟩ where
 mixed:=by kernel_rfl
 f197:=by kernel_rfl
 f260:=by kernel_rfl
 t0:=by kernel_rfl
 a0:=fun _=>by kernel_rfl
 z0:=fun _=>by kernel_rfl
 v0:=fun _=>by kernel_rfl
 t3:=by kernel_rfl
 a3:=fun _=>by kernel_rfl
 z3:=fun _=>by kernel_rfl
 v3:=fun _=>by kernel_rfl
 t4:=by kernel_rfl
 a4:=fun _=>by kernel_rfl
 z4:=fun _=>by kernel_rfl
 v4:=fun _=>by kernel_rfl
 t5:=by kernel_rfl
 a5:=fun _=>by kernel_rfl
 z5:=fun _=>by kernel_rfl
 v5:=fun _=>by kernel_rfl
 t9:=by kernel_rfl
 a9:=fun _=>by kernel_rfl
 z9:=fun _=>by kernel_rfl
 v9:=fun _=>by kernel_rfl
 t21:=by kernel_rfl
 a21:=fun _=>by kernel_rfl
 z21:=fun _=>by kernel_rfl
 v21:=fun _=>by kernel_rfl
 t46:=by kernel_rfl
 a46:=fun _=>by kernel_rfl
 z46:=fun _=>by kernel_rfl
 v46:=fun _=>by kernel_rfl
 t105:=by kernel_rfl
 a105:=fun _=>by kernel_rfl
 z105:=fun _=>by kernel_rfl
 v105:=fun _=>by kernel_rfl
 t119:=by kernel_rfl
 a119:=fun _=>by kernel_rfl
 z119:=fun _=>by kernel_rfl
 t138:=by kernel_rfl
 a138:=fun _=>by kernel_rfl
 z138:=fun _=>by kernel_rfl
 v138:=fun _=>by kernel_rfl
 t139:=by kernel_rfl
 a139:=fun _=>by kernel_rfl
 z139:=fun _=>by kernel_rfl
 v139:=fun _=>by kernel_rfl
 g3:=by kernel_rfl
 g4:=by kernel_rfl
abbrev Ex:FuncId:=114
theorem X6(s:Az):Fn Tryd.prog Ex [.v (.str s)] (Is (.tup [.i (.int .i32 (Lib.decodeGo ⟨⟨s⟩⟩).1),.i (.int .i64 (Lib.decodeGo ⟨⟨s⟩⟩).2)]) [.no]):=by
 intro G σ Fr w Ahz H2 hcl Ar2;have hc0:C7 G (.str s) (Ahz.getD 0 undef):=(Ar2 0 _ rfl).2;obtain⟨hc0,_⟩:=C7.str.1 hc0;have hca:Ahz= #[.string ⟨⟨s⟩⟩]:=by
  rw[←hc0];apply Array.ext
  ·simpa using hcl
  ·intro j h1 h2;have:j=0:=by simp at h2;omega
   subst this;simp[Array.getD,h1]
 have Bec:=Any.utf8_DecodeRuneInString Bak ⟨⟨s⟩⟩ w (H2.amb w H2.fixed);rw[hca];refine Calls.mono Bec ?_;rintro e w' ⟨rfl,hb⟩;have Asq:∀(M:Mem),(∀b o,M b=some o→w.heap[b]?=some o)→∀b o,M b=some o→w'.heap[b]?=some o:=by
  intro M hM b o hm;have h1:=hM b o hm;rw[hb.block b (Ht.1 h1).1];exact h1
 refine⟨_,_,_,G,fun _=>none,rfl,⟨rfl,rfl⟩,Mem.le.refl G,⟨Asq G H2.fixed,fun b Gf h=>by(cases h),fun b b' Gf h=>by(cases h),Asq Fr H2.frame,hb.os,hb.tape,hb.output,hb.size,H2.apart,H2.amb⟩,rfl,⟨_,rfl,?_⟩,rfl,?_⟩
 ·exact⟨_,_,rfl,C7.int.2 rfl,_,_,rfl,C7.int.2 rfl,rfl⟩
 intro i sv hi;have:sv= .no:=by
  have:=Cb hi;simpa using this
 subst this;exact⟨rfl,trivial⟩

open Go
theorem E7(l:Az)(k:Nat):(⟨⟨l⟩⟩:ByteArray).get! k=(l[k]?).getD 0:=by
 show(l.toArray)[k]! =_;rw[List.getElem!_toArray,List.getElem!_eq_getElem?_getD];rfl
theorem Gp(s:Az)(p:Nat):Kt s p=Kt (s.drop p) 0:=by
 have hg:∀k,(⟨⟨s⟩⟩:ByteArray).get! (p+k)=(⟨⟨s.drop p⟩⟩:ByteArray).get! (0+k):=fun k=>by
  rw[E7,E7,Ae3,E3]
 have hs:∀k,decide (p+k<(⟨⟨s⟩⟩:ByteArray).size)=decide (0+k<(⟨⟨s.drop p⟩⟩:ByteArray).size):=fun k=>by
  show decide (p+k<s.length)=decide (0+k<(s.drop p).length);rw[Ei]
  congr 1
  rw[eq_iff_iff];omega
 unfold Kt Utf8.decode;simp only[hg,hs]
set_option maxHeartbeats 40000000

open Go.Proofs
def Azh(n:Nat)(b0 b1 b2 b3:Nat):Nat × Nat:=
 if b0<128 then(b0,1)
 else if b0 / 32=6∧1<n∧b1 / 64=2 then
  if b0 % 32*64+b1 % 64≥128 then(b0 % 32*64+b1 % 64,2)else(65533,1)
 else if b0 / 16=14∧1<n∧b1 / 64=2∧2<n∧b2 / 64=2 then
  if b0 % 16*4096+b1 % 64*64+b2 % 64≥2048∧Utf8.valid ((b0 % 16*4096+b1 % 64*64+b2 % 64:Nat):Int)=true then(b0 % 16*4096+b1 % 64*64+b2 % 64,3)else(65533,1)
 else if b0 / 8=30∧1<n∧b1 / 64=2∧2<n∧b2 / 64=2∧3<n∧b3 / 64=2 then
  if b0 % 8*262144+b1 % 64*4096+b2 % 64*64+b3 % 64≥65536∧Utf8.valid ((b0 % 8*262144+b1 % 64*4096+b2 % 64*64+b3 % 64:Nat):Int)=true then(b0 % 8*262144+b1 % 64*4096+b2 % 64*64+b3 % 64,4)else(65533,1)
 else(65533,1)
def Ce(l:Az)(k:Nat):Nat:=((l[k]?).getD 0).toNat
theorem Aec(l:Az):Kt l 0=Azh l.length (Ce l 0) (Ce l 1) (Ce l 2) (Ce l 3):=by
 have hs:(⟨⟨l⟩⟩:ByteArray).size=l.length:=rfl;have h0:((⟨⟨l⟩⟩:ByteArray).get! 0).toNat=Ce l 0:=by rw[E7];rfl
 have h1:((⟨⟨l⟩⟩:ByteArray).get! 1).toNat=Ce l 1:=by rw[E7];rfl
 have h2:((⟨⟨l⟩⟩:ByteArray).get! 2).toNat=Ce l 2:=by rw[E7];rfl
 have h3:((⟨⟨l⟩⟩:ByteArray).get! 3).toNat=Ce l 3:=by rw[E7];rfl
 unfold Kt Utf8.decode;simp only[E3,hs,h0,h1,h2,h3];generalize Ce l 0=b0;generalize Ce l 1=b1;generalize Ce l 2=b2;generalize Ce l 3=b3;generalize l.length=n;unfold Azh;simp only[Ap,decide_eq_true_eq,beq_iff_eq,and_assoc,ge_iff_le,Utf8.runeError]
def szN(n:Nat)(b0 b1 b2 b3:Nat):Nat:=
 if b0≤127 then 1
 else if(194≤b0∧b0≤223)∧1<n∧128≤b1∧b1≤191 then 2
 else if(1<n∧128≤b1∧b1≤191∧2<n∧128≤b2∧b2≤191)∧((b0=224∧160≤b1)∨(225≤b0∧b0≤236)∨(b0=237∧b1≤159)∨(238≤b0∧b0≤239))then 3
 else if(1<n∧128≤b1∧b1≤191∧2<n∧128≤b2∧b2≤191∧3<n∧128≤b3∧b3≤191)∧((b0=240∧144≤b1)∨(241≤b0∧b0≤243)∨(b0=244∧b1≤143))then 4
 else 0
theorem Bk(l:Az)(k:Nat)(lo hi:Nat):A8 l (k:Int) (lo:Int) (hi:Int)=decide (k<l.length∧lo≤Ce l k∧Ce l k≤hi):=by
 unfold A8 Ce;rw[Anj];cases h:l[k]? with
 |none=>
  have:=List.getElem?_eq_none_iff.1 h;symm;simp only[decide_eq_false_iff_not];omega
 |some c=>
  have:=(A7.1 h).1;simp only[Option.getD_some]
  congr 1
  rw[eq_iff_iff];omega
theorem Aee(l:Az):Fv l 1 1=decide (1<l.length∧128≤Ce l 1∧Ce l 1≤191):=by
 have h1:=Bk l 1 128 191;simp only[Fv,List.range_succ,List.range_zero,H4,List.all_cons,List.all_nil,Bool.and_true];exact h1
theorem Aef(l:Az):Fv l 1 2=decide (1<l.length∧128≤Ce l 1∧Ce l 1≤191∧2<l.length∧128≤Ce l 2∧Ce l 2≤191):=by
 have h1:=Bk l 1 128 191;have h2:=Bk l 2 128 191;have:Fv l 1 2=(A8 l ((1:Nat):Int) ((128:Nat):Int) ((191:Nat):Int)&&A8 l ((2:Nat):Int) ((128:Nat):Int) ((191:Nat):Int)):=by simp[Fv,List.range_succ]
 rw[this,h1,h2, ←Bool.decide_and]
 congr 1
 rw[eq_iff_iff];omega
theorem Aeg(l:Az):Fv l 1 3=decide (1<l.length∧128≤Ce l 1∧Ce l 1≤191∧2<l.length∧128≤Ce l 2∧Ce l 2≤191∧3<l.length∧128≤Ce l 3∧Ce l 3≤191):=by
 have h1:=Bk l 1 128 191;have h2:=Bk l 2 128 191;have h3:=Bk l 3 128 191;have:Fv l 1 3=(A8 l ((1:Nat):Int) ((128:Nat):Int) ((191:Nat):Int)&&(A8 l ((2:Nat):Int) ((128:Nat):Int) ((191:Nat):Int)&&A8 l ((3:Nat):Int) ((128:Nat):Int) ((191:Nat):Int))):=by simp[Fv,List.range_succ]
 rw[this,h1,h2,h3, ←Bool.decide_and, ←Bool.decide_and]
 congr 1
 rw[eq_iff_iff];omega
theorem Afg(l:Az)(hl:0<l.length):G9 l=(szN l.length (Ce l 0) (Ce l 1) (Ce l 2) (Ce l 3):Nat):=by
 have e1:A8 l 0 0 127=_:=Bk l 0 0 127;have e2:A8 l 0 194 223=_:=Bk l 0 194 223;have e3:A8 l 0 224 224=_:=Bk l 0 224 224;have e4:A8 l 1 160 191=_:=Bk l 1 160 191;have e5:A8 l 0 225 236=_:=Bk l 0 225 236;have e6:A8 l 0 237 237=_:=Bk l 0 237 237;have e7:A8 l 1 128 159=_:=Bk l 1 128 159;have e8:A8 l 0 238 239=_:=Bk l 0 238 239;have e9:A8 l 0 240 240=_:=Bk l 0 240 240;have e10:A8 l 1 144 191=_:=Bk l 1 144 191;have e11:A8 l 0 241 243=_:=Bk l 0 241 243;have e12:A8 l 0 244 244=_:=Bk l 0 244 244;have e13:A8 l 1 128 143=_:=Bk l 1 128 143;unfold G9 szN;rw[Aee,Aef,Aeg,e1,e2,e3,e4,e5,e6,e7,e8,e9,e10,e11,e12,e13];generalize Ce l 0=b0;generalize Ce l 1=b1;generalize Ce l 2=b2;generalize Ce l 3=b3;generalize l.length=n at hl ⊢;simp only[Ap,Q3,decide_eq_true_eq];repeat' split
 all_goals first|rfl|(exfalso;omega)
theorem Afq(l:Az)(k:Nat):Ce l k<256:=UInt8.toNat_lt _
theorem Adj(n b0 b1 b2 b3:Nat)(h0:b0<256)(hn:0<n):
 (szN n b0 b1 b2 b3=0∧Azh n b0 b1 b2 b3=(65533,1))∨
 (szN n b0 b1 b2 b3=1∧Azh n b0 b1 b2 b3=(b0,1)∧b0<128)∨
 (szN n b0 b1 b2 b3=2∧2≤n∧∃r,Azh n b0 b1 b2 b3=(r,2)∧128≤r∧r≤1114111∧(161≤r↔(b0=194→161≤b1)))∨
 (szN n b0 b1 b2 b3=3∧3≤n∧∃r,Azh n b0 b1 b2 b3=(r,3)∧161≤r∧r≤1114111)∨
 (szN n b0 b1 b2 b3=4∧4≤n∧∃r,Azh n b0 b1 b2 b3=(r,4)∧161≤r∧r≤1114111):=by
 unfold szN;split
 ·rename_i hb;refine .inr (.inl ⟨rfl,?_,by omega⟩)
  unfold Azh;rw[if_pos (show b0<128 by omega)]
 split
 ·refine .inr (.inr (.inl ⟨rfl,by omega,b0 % 32*64+b1 % 64,?_,by omega,by omega,by omega⟩))
  unfold Azh;rw[if_neg (by omega),if_pos (by omega),if_pos (by omega)]
 split
 ·refine .inr (.inr (.inr (.inl ⟨rfl,by omega,b0 % 16*4096+b1 % 64*64+b2 % 64,?_,by omega,by omega⟩)))
  unfold Azh;rw[if_neg (by omega),if_neg (by omega),if_pos (by omega),if_pos ⟨by omega,by simp only[Utf8.valid,Q3,Ap,decide_eq_true_eq];omega⟩]
 split
 ·refine .inr (.inr (.inr (.inr ⟨rfl,by omega,b0 % 8*262144+b1 % 64*4096+b2 % 64*64+b3 % 64,?_,by omega,by omega⟩)))
  unfold Azh;rw[if_neg (by omega),if_neg (by omega),if_neg (by omega),if_pos (by omega),if_pos ⟨by omega,by simp only[Utf8.valid,Q3,Ap,decide_eq_true_eq];omega⟩]
 ·refine .inl ⟨rfl,?_⟩;unfold Azh;rw[if_neg (by omega)]
  split
  ·rw[if_neg (by omega)]
  split
  ·rw[if_neg];rintro⟨hv1,hv2⟩;simp only[Utf8.valid,Q3,Ap,decide_eq_true_eq]at hv2;omega
  split
  ·rw[if_neg];rintro⟨hv1,hv2⟩;simp only[Utf8.valid,Q3,Ap,decide_eq_true_eq]at hv2;omega
  rfl
theorem Afd(c d:UInt8):E8 [c,d]=decide (c.toNat=194→161≤d.toNat):=by
 simp only[E8];split
 ·congr 1
  rw[eq_iff_iff];omega
 ·symm;simp only[decide_eq_true_eq];omega
theorem Ye(c d e:UInt8)(r:Az):E8 (c::d::e::r)=true:=rfl
theorem Z1(l:Az)(hl:0<l.length):
 (G9 l=0∧Kt l 0=(65533,1))∨
 (∃c r,l=c::r∧G9 l=1∧Kt l 0=(c.toNat,1)∧c.toNat<128)∨
 (∃k r:Nat,2≤k∧G9 l=(k:Int)∧k≤l.length∧Kt l 0=(r,k)∧128≤r∧r≤1114111∧E8 (l.take k)=decide (161≤r)):=by
 rw[Afg l hl,Aec];rcases Adj l.length (Ce l 0) (Ce l 1) (Ce l 2) (Ce l 3) (Afq l 0) hl with⟨h1,h2⟩|⟨h1,h2,h3⟩|⟨h1,h2,r,h3,h4,h5,h6⟩|⟨h1,h2,r,h3,h4,h5⟩|⟨h1,h2,r,h3,h4,h5⟩
 ·rw[h1,h2];exact .inl ⟨rfl,rfl⟩
 ·rw[h1,h2];cases l with
  |nil=>simp at hl
  |cons c r=>exact .inr (.inl ⟨c,r,rfl,rfl,rfl,h3⟩)
 ·rw[h1,h3];rcases l with _|⟨c,_|⟨d,t⟩⟩
  ·simp at hl
  ·simp at h2
  ·refine .inr (.inr ⟨2,r,by omega,rfl,h2,rfl,h4,h5,?_⟩)
   show E8 [c,d]=_;rw[Afd]
   congr 1
   rw[eq_iff_iff];exact h6.symm
 ·rw[h1,h3];rcases l with _|⟨c,_|⟨d,_|⟨e,t⟩⟩⟩
  ·simp at hl
  ·simp at h2
  ·simp at h2
  ·exact .inr (.inr ⟨3,r,by omega,rfl,h2,rfl,by omega,h5,by show E8 [c,d,e]=_;rw[Ye];simp[h4]⟩)
 ·rw[h1,h3];rcases l with _|⟨c,_|⟨d,_|⟨e,_|⟨f,t⟩⟩⟩⟩
  ·simp at hl
  ·simp at h2
  ·simp at h2
  ·simp at h2
  ·exact .inr (.inr ⟨4,r,by omega,rfl,h2,rfl,by omega,h5,by show E8 [c,d,e,f]=_;rw[Ye];simp[h4]⟩)

open Go.Proofs
theorem Fn.Bpv{P:Program}{f:FuncId}{s:Az}{rest:List SV}{Ad3:SV→List SV→Prop}(h:s.length≤maxLen→Fn P f (.v (.str s)::rest) Ad3):Fn P f (.v (.str s)::rest) Ad3:=by
 intro G σ Fr w Ahz H2 Hr Ar2;have h0:=(Ar2 0 _ rfl).2;exact h (C7.str.1 h0).2 G σ Fr w Ahz H2 Hr Ar2
theorem Tz(s:Az)(p:Nat)(hp:p<s.length):Lib.decodeGo ⟨⟨s.drop p⟩⟩=Kt s p:=by
 rw[Gp s p];unfold Lib.decodeGo;rw[if_neg]
 ·rfl
 ·show ¬(s.drop p).length=0;rw[Ei];omega
theorem L3(s:Az)(p:Nat)(hp:p<s.length)(r:Int):Fn Tryd.prog Ur [.v (.str s),.v (.int .i64 p),.v (.int .i32 r)] (Is (.v (.bool (decide (r=65533)&&decide ((Kt s p).2=1)))) [.no,.no,.no]):=by
 refine T6 ?_ (by simp)
 have hd:=X6 (s.drop p);rw[Tz s p hp]at hd;by_cases hr:r=65533
 ·have hb0:¬(!decide (r=65533))=true:=by simp[hr]
  repeat'((conv=>whnf);first|(refine A5 (fun hb=>?_) (fun hb=>?_)<;>first|(exact absurd hb (by assumption))|((try rw[hb]);(try simp only[Aa]at hb);(try subst hb)))|(refine Ac ?_ ?_;focus (and_intros<;>first|omega|exact rfl|(intro _ hh;cases hh;done)|(simp;done)|decide))|((simp only[List.headD,Anj,Aoy]))|(refine Ct.mk ⟨_,hd,?_⟩;rintro _ _ ⟨rfl,rfl⟩))
  all_goals(try(conv=>whnf))
  refine Am1.mk ⟨SV.Aju ?_,by kernel_rfl⟩ (by kernel_rfl)
  rw[eq_comm,Bool.eq_iff_iff];simp;omega
 ·repeat'((conv=>whnf);(refine A5 (fun hb=>?_) (fun hb=>?_)<;>first|(exfalso;((simp only[An]at hb<;>omega)))|((try rw[hb]);(try simp only[Aa]at hb))))
  all_goals(try(conv=>whnf))
  all_goals first|contradiction|skip
  refine Am1.mk ⟨SV.Aju (by simp[hr]),by kernel_rfl⟩ (by kernel_rfl)
theorem Tt(r:Int):Fn Tryd.prog W7 [.v (.int .i32 r)] (Is (.v (.bool (decide (161≤r)))) [.no]):=by
 refine Vj ?_ (by simp)
 (skip)
 all_goals(try(conv=>whnf))
 exact Am1.mk ⟨SV.Aju (by simp),by kernel_rfl⟩ (by kernel_rfl)
theorem J5{f:Nat}{s:Az}{p n:Nat}{c:UInt8}(hc:s[p]?=some c){k:Nat}(hk:G9 (s.drop p)=(k:Int)):
 Ey (f+1) s p n=(if k=0 then false else if A0f k c.toNat p ((s.drop p).take k)=true then false else if 24<n+1 then false else Ey f s (p+k) (n+1)):=by
 rw[Ey,hc];dsimp only;rw[hk,Anj]
theorem S1{f:Nat}{s:Az}{p n:Nat}{c:UInt8}(hc:s[p]?=some c){k:Nat}(hk:G9 (s.drop p)=(k:Int))(hk0:0<k)(hkl:k≤s.length - p)(hp:p<s.length)
 (hb:A0f k c.toNat p ((s.drop p).take k)=false) (h2:s.length<f+1+p) (h3:n≤p) (h4:n≤24→Ey (f+1) s p n=D9 s) (h5:24<n→D9 s=false):
 p+k≤s.length∧s.length<f+(p+k)∧n+1≤p+k∧(n+1≤24→Ey f s (p+k) (n+1)=D9 s)∧(24<n+1→D9 s=false):=by
 refine⟨by omega,by omega,by omega,fun h=>?_,fun h=>?_⟩
 ·rw[←h4 (by omega),J5 hc hk,if_neg (by omega),hb,if_neg (by simp),if_neg (by omega)]
 ·by_cases h24:24<n
  ·exact h5 h24
  ·rw[←h4 (by omega),J5 hc hk,if_neg (by omega),hb,if_neg (by simp),if_pos h]
theorem P9{f:Nat}{s:Az}{p n:Nat}{c:UInt8}(hc:s[p]?=some c){k:Nat}(hk:G9 (s.drop p)=(k:Int))
 (hb:k=0∨A0f k c.toNat p ((s.drop p).take k)=true) (h4:n≤24→Ey (f+1) s p n=D9 s) (h5:24<n→D9 s=false):D9 s=false:=by
 by_cases h24:24<n
 ·exact h5 h24
 ·rw[←h4 (by omega),J5 hc hk]
  rcases hb with hb|hb
  ·rw[if_pos hb]
  ·rw[hb];split<;>simp
theorem Aa1(s:Az):Fn Tryd.prog Mr [.v (.str s)] (Is (.v (.bool (D9 s))) [.no]):=Fn.Bpv fun hl=>by
 refine T5 ?_ (by simp)
 (skip)
 all_goals(try(conv=>whnf))
 refine Afm.by (X:=Nat × Nat × Nat) (fun x=>[(3,.v (.int .i64 x.2.2)),(7,.sit s x.2.1)]) (fun x=>x.2.1≤s.length∧s.length<x.1+x.2.1∧x.2.2≤x.2.1∧(x.2.2≤24→Ey x.1 s x.2.1 x.2.2=D9 s)∧(24<x.2.2→D9 s=false)) (fun x=>s.length - x.2.1)
  (s.length+1,0,0) (by kernel_rfl) ⟨Cr _,by dsimp only;omega,Bz _,fun _=>rfl,fun h=>by simp at h⟩ ?_
 rintro⟨f,p,n⟩ ⟨h1,h2,h3,h4,h5⟩;dsimp only at h1 h2 h3 h4 h5 ⊢;obtain⟨f,rfl⟩:∃g,f=g+1:=⟨f - 1,by omega⟩
 by_cases hp:p<s.length
 case neg=>
  have Ze:¬decide (p<s.length)=true:=by simp;omega
  have hv:D9 s=(decide (0<n)&&decide (n≤24)):=by
   by_cases h24:n≤24
   ·rw[←h4 h24,Ey,Aic (by omega)]
    simp[h24]
   ·rw[h5 (by omega)]
    simp[h24]
  rw[hv];repeat'((conv=>whnf);(refine A5 (fun hb=>?_) (fun hb=>?_)<;>first|(exact absurd hb (by first|assumption|decide))|((try rw[hb]);(try simp only[Aa]at hb))))
  all_goals(try(conv=>whnf))
  all_goals refine Am1.mk ⟨SV.Aju ?_,by kernel_rfl⟩ (by kernel_rfl)
  all_goals(rw[Bool.eq_iff_iff];simp;omega)
 have Ze:¬decide (p<s.length)=false:=by simp[hp]
 obtain⟨c,hc⟩:∃c,s[p]?=some c:=⟨_,Ae hp⟩;have hdl:(s.drop p).length=s.length - p:=Ei ..;have hwn:IntKind.i64.wrap ((n:Int)+1)=((n+1:Nat):Int):=Dk (n:=maxLen) (by omega) (Bz _)
 rcases Z1 (s.drop p) (by omega)with⟨hk,hr⟩|⟨c',t,hd,hk,hr,hc8⟩|⟨k,r,hk2,hk,hkl,hr,hr1,hr2,hit⟩
 ·rw[←Gp]at hr;have hw:=L3 s p hp (65533:Nat);rw[hr]at hw;rw[P9 hc hk (.inl rfl) h4 h5];repeat'((conv=>whnf);first|(refine A5 (fun hb=>?_) (fun hb=>?_)<;>first|(exact absurd hb (by first|assumption|decide))|((try rw[hb]);(try simp only[Aa]at hb)))|(refine Ac ?_ ?_;focus (and_intros<;>first|(intro _ hh;cases hh;done)|(simp;done)|decide))|((simp only[hr]))|(refine Ct.mk ⟨_,hw,?_⟩;rintro _ _ ⟨rfl,rfl⟩))
  all_goals(try(conv=>whnf))
  (apply dKq<;>kernel_rfl)
 ·rw[←Gp]at hr;obtain rfl:c=c':=by
   have:=congrArg (fun q=>q[0]?) hd
   simp only[Ae3,Amf,Fa]at this;rw[hc]at this;exact Aag this
  have hw:=L3 s p hp (c.toNat:Nat);rw[hr,show(decide (((c.toNat:Nat):Int)=65533)&&decide (((c.toNat,1):Nat × Nat).2=1))=false by simp;omega]at hw
  have hh:=Tt (c.toNat:Nat);rw[show decide (161≤((c.toNat:Nat):Int))=false by simp;omega]at hh
  have hlen:1≤s.length - p:=by omega
  have A68:=fun hb=>S1 hc (k:=1) hk (by omega) hlen hp hb h2 h3 h4 h5
  have Ba1:=fun hb=>P9 (k:=1) hc hk (.inr hb) h4 h5
  rw[hd]at A68 Ba1;generalize hm:D9 s=m at*;have hB:∀q,A0f 1 (c.toNat:Nat) p q=true↔¬((97≤c.toNat∧c.toNat≤122)∨(48≤c.toNat∧c.toNat≤57)∨c.toNat=95∨(c.toNat=45∧0<p)):=fun q=>by
   simp only[A0f];simp;omega
  have hB':∀q,A0f 1 (c.toNat:Nat) p q=false↔((97≤c.toNat∧c.toNat≤122)∨(48≤c.toNat∧c.toNat≤57)∨c.toNat=95∨(c.toNat=45∧0<p)):=fun q=>by
   have:=hB q;cases hx:A0f 1 (c.toNat:Nat) p q
   ·rw[hx]at this;simp at this;simp;omega
   ·rw[hx]at this;simp at this;simp;omega
  repeat'((conv=>whnf);first|(refine A5 (fun hb=>?_) (fun hb=>?_)<;>first|(exact absurd hb (by first|assumption|decide))|(exfalso;((simp only[An]at hb<;>omega)))|((try rw[hb]);(try simp only[Aa]at hb)))|(refine Ac ?_ ?_;focus (and_intros<;>first|(intro _ hh;cases hh;done)|(simp;done)|decide))|((simp only[hr]))|(refine Ct.mk ⟨_,hw,?_⟩;rintro _ _ ⟨rfl,rfl⟩)|(refine Ct.mk ⟨_,hh,?_⟩;rintro _ _ ⟨rfl,rfl⟩))
  all_goals(try(conv=>whnf))
  all_goals first
   |(refine Am1.mk ⟨congrArg (fun b=>SV.v (.bool b)) (Ba1 ((hB _).2 (by omega))).symm,by kernel_rfl⟩ (by kernel_rfl);done)
   |(refine Round.by (f,p+1,n+1) ?_ (A68 ((hB' _).2 (by omega))) (by dsimp only;omega)
     rw[hwn];show norm _ _=upd _ _
     kernel_rfl)
 ·rw[←Gp]at hr;have hw:=L3 s p hp (r:Nat);rw[hr,show(decide (((r:Nat):Int)=65533)&&decide (((r,k):Nat × Nat).2=1))=false by simp;omega]at hw
  have hh:=Tt (r:Nat);have A68:=fun hb=>S1 hc (k:=k) hk (by omega) (by omega) hp hb h2 h3 h4 h5
  have Ba1:=fun hb=>P9 (k:=k) hc hk (.inr hb) h4 h5
  have hB:A0f k c.toNat p ((s.drop p).take k)= !decide (161≤r):=by
   simp only[A0f,hit];rw[show decide (k=1)=false by simp;omega,show decide (1<k)=true by simp;omega]
   simp
  rw[hB]at A68 Ba1;generalize hm:D9 s=m at*;by_cases Bmy:161≤r
  ·rw[show decide (161≤((r:Nat):Int))=true by simp;omega]at hh
   repeat'((conv=>whnf);first|(refine A5 (fun hb=>?_) (fun hb=>?_)<;>first|(exact absurd hb (by first|assumption|decide))|(exfalso;((simp only[An]at hb<;>omega)))|((try rw[hb]);(try simp only[Aa]at hb)))|(refine Ac ?_ ?_;focus (and_intros<;>first|(intro _ hh;cases hh;done)|(simp;done)|decide))|((simp only[hr]))|(refine Ct.mk ⟨_,hw,?_⟩;rintro _ _ ⟨rfl,rfl⟩)|(refine Ct.mk ⟨_,hh,?_⟩;rintro _ _ ⟨rfl,rfl⟩))
   all_goals(try(conv=>whnf))
   refine Round.by (f,p+k,n+1) ?_ (A68 (by simp[Bmy])) (by dsimp only;omega)
   rw[hwn];show norm _ _=upd _ _
   kernel_rfl
  ·rw[show decide (161≤((r:Nat):Int))=false by simp;omega]at hh
   repeat'((conv=>whnf);first|(refine A5 (fun hb=>?_) (fun hb=>?_)<;>first|(exact absurd hb (by first|assumption|decide))|(exfalso;((simp only[An]at hb<;>omega)))|((try rw[hb]);(try simp only[Aa]at hb)))|(refine Ac ?_ ?_;focus (and_intros<;>first|(intro _ hh;cases hh;done)|(simp;done)|decide))|((simp only[hr]))|(refine Ct.mk ⟨_,hw,?_⟩;rintro _ _ ⟨rfl,rfl⟩)|(refine Ct.mk ⟨_,hh,?_⟩;rintro _ _ ⟨rfl,rfl⟩))
   all_goals(try(conv=>whnf))
   exact Am1.mk ⟨congrArg (fun b=>SV.v (.bool b)) (Ba1 (by simp[Bmy])).symm,by kernel_rfl⟩ (by kernel_rfl)
end Go.Ab
