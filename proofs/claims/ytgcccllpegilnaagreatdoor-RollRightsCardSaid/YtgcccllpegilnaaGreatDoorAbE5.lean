/- Lemmas -/
import Derived.Test.YtgcccllpegilnaaGreatDoorAbE3
set_option linter.unusedVariables false
set_option linter.unusedSimpArgs false
namespace Go.Ab
open Go.Op
def D.Wo:D→D
 | .st l=>.it (.agg (List.replicate (Ca l) .Nz))
 |_=>.it .Nz
theorem Au5:∀n,Ck (List.replicate n I.Nz)=n
 |0=>rfl
 |n+1=>by simp[List.replicate_succ,Ck,I.size,Au5 n];omega
theorem A51{G:Mem}:∀{cs:List Value} {n:Nat},cs.length=n→(∀c∈cs,c.oneCell'=true)→A0 G (List.replicate n .Nz) cs
 | [],n,h,_=>by subst h;simp[A0]
 |c::cs,n,h,h1=>by
  subst h;simp only[List.length_cons,List.replicate_succ,A0];exact⟨[c],cs,rfl,by simp only[A1];exact⟨c,rfl,h1 c (by simp)⟩,A51 rfl fun x hx=>h1 x (by simp[hx])⟩
def D.whole:D→Bool
 | .it _=>false
 |_=>true
theorem Ap9{u:D}(h:u.whole=true):u.Wo.isAgg=u.isAgg∧u.Wo.size=u.size∧u.leaf=false:=by
 cases u with
 |it x=>cases h
 |st l=>exact⟨rfl,Au5 _,rfl⟩
 |_=>exact⟨rfl,rfl,rfl⟩
theorem Azd{G:Mem}{w:World}{u:D}{cs:List Value}{bs:List Nat}(hw:u.whole=true)(h:A3 G w u cs bs)(G':Mem)(w':World):A3 G' w' u.Wo cs []:=by
 have hl:=A3.length h;have h1:=A3.one h;cases u with
 |it x=>cases hw
 |st l=>simp only[D.Wo,A3,A1,and_true];exact A51 hl h1
 |_=>
  simp only[D.Wo,A3,A1,and_true];simp only[D.size]at hl;obtain⟨c,rfl⟩:=List.length_eq_one_iff.1 hl;exact⟨c,rfl,h1 c (by simp)⟩
def Pg:D→Nat→Option Nat
 | .it x,i=>match x with
   | .agg l=>match l[i]? with
     |some _=>some (Ck (l.take i))
     |none=>none
   |_=>none
 | .st l,i=>match l[i]? with
   |some _=>some (Ca (l.take i))
   |none=>none
 |_,_=>none
def Aq3(d:Option Nat)(s cur:Nat)(inv:List Nat)(t:D)(p:List Nat)(u:D):M:=match D.put p t u.Wo with
 |some t'=>.set s (cur+1) (.own (bump inv p.length (cur+1)) t') (match d with
  |some d=>.Ba (d≠s) fun _=>C2 d (.own [] u)
  |none=>.done)
 |none=>.fail
def A03(d:Option Nat)(agg:Bool)(sz:Nat)(x:Ar):M:=rdD x fun s cur inv t p=>match D.at p t with
 |some u=>match u with
  | .it y=>.Ba (y.isAgg=agg∧y.size=sz) fun _=>A9 d (.v y) .done
  | .vec _ _ _=>.Ba (agg=false∧sz=1∧d≠some s) fun _=>A9 d (.bd s cur p) .done
  | .map _ _=>.Ba (agg=false∧sz=1∧d≠some s) fun _=>A9 d (.bd s cur p) .done
  | .ptr _=>.Ba (agg=false∧sz=1∧d≠some s) fun _=>A9 d (.pd s cur (p++[0])) .done
  | .st l=>.Ba (agg=true∧Ca l=sz) fun _=>Aq3 d s cur inv t p (.st l)
 |none=>.fail
def A04(d:Option Nat)(agg:Bool)(sz:Nat)(x:Ar):M:=rdD x fun s cur inv t p=>match D.at p t with
 |some u=>match u.Ae with
  |some y=>match D.put p t (.it y)with
   |some t'=>.Ba (u.leaf=false∧y.isAgg=agg∧y.size=sz∧d≠some s) fun _=>.set s (cur+1) (.own (bump inv p.length (cur+1)) t') (A9 d (.v y) .done)
   |none=>.fail
  |none=>.fail
 |none=>.fail
def Auv(d:Option Nat)(sz len:Nat)(x i:Ar):M:=Gx i fun n=>match n with
 | .int _ n=>rdD x fun s cur inv t p=>match D.at p t with
   |some u=>match u with
    | .it y=>match y with
      | .arr Bs l=>.Ba (0≤n∧n.toNat<len∧n.toNat<l.length∧Bs=sz∧d≠some s) fun _=>A9 d (.pd s cur (p++[n.toNat])) .done
      |_=>.fail
    |_=>.fail
   |none=>.fail
 |_=>.fail
def Q3(x:Ar)(k:D→M):M:=match x with
 | .c x=>k (.it x)
 | .Cd e sz=>k (.vec e sz [])
 | .t n=>.get n fun ver sv=>match sv with
   | .vec e sz l=>.set n (ver+1) .no (k (.vec e sz (l.map D.it)))
   | .own _ t=>.set n (ver+1) .no (k t)
   | .bd s v p=>.get s fun cur C9=>match C9 with
     | .own inv t=>.Ba (alive v inv (p.length+1)=true) fun _=>match D.at p t with
       |some u=>match D.put p t u.Wo with
        |some t'=>.Ba (u.whole=true) fun _=>.set s (cur+1) (.own (bump inv p.length (cur+1)) t') (k u)
        |none=>.fail
       |none=>.fail
     |_=>.fail
   | .par h=>.get h fun cur C9=>match C9 with
     | .own _ t=>.set h (cur+1) .no (k t)
     |_=>.fail
   |_=>Kc (.t n) fun u=>k (.it u)
def Au3(sz:Nat)(ax vx:Ar):M:=Q3 vx fun u=>rdD ax fun s cur inv t p=>match D.at p t with
 |some u0=>match D.put p t u with
  |some t'=>.Ba (u.isAgg=u0.isAgg∧u.size=u0.size∧u.size=sz) fun _=>match u0.leaf with
   |true=>.set s (cur+1) (.own inv t') .done
   |false=>.set s (cur+1) (.own (bump inv p.length (cur+1)) t') .done
  |none=>.fail
 |none=>.fail
section
variable{P:Program}{N:Nat}{G:Mem}{σ:Lab}{Fr:Mem}{w0:Base}{w:World}{st:St}{a:Act}
theorem Rel.A5a{s cur:Nat}{inv p:List Nat}{t t' u:D}{cs:List Value}{hh:Option (Nat × Nat)}(h:Rel G σ Fr w0 st a w)(hs:st[s]?=some (cur,.own inv t))(Da:t.at p=some u)(hw:u.whole=true)(Fe:t.put p u.Wo=some t')
 (Mx:spot w p t (none,(val a w0 s).cells.toList)=some (hh,cs)):
 ∃σ' D7,Rel G σ' Fr w0 (st.set s (cur+1,.own (bump inv p.length (cur+1)) t')) a w∧A3 G w u cs D7∧D7.Nodup∧(∀b∈D7,G b=none∧Fr b=none∧σ' b=none∧b<w.heap.size)∧(∀b∈D7,σ b≠none)∧∀b,σ b=none→σ' b=none:=by
 obtain⟨bs,Ay,Kw,Ku,Li⟩:=show Dd G σ w s t (val a w0 s)from h.Bj s cur _ hs;obtain⟨m,s',D7,f1,f2,f3,f4,f5,f6⟩:=focus (here:=none) Ay Ku Da
 rw[f1]at Mx;obtain rfl:=Option.some.inj Mx;obtain⟨Fg,Bk,Pw⟩:=Ap9 hw;obtain⟨Dw,R5⟩:=Ho.same f5;obtain⟨Cv,r1,r2,r3,r4,r5⟩:=f6 G w u.Wo cs [] t' (Mem.le.refl G) rfl Fg (Azd hw f2 G w) List.nodup_nil (by simp) Dw Fe
 simp only at R5 r1 r5;rw[R5]at r1 r5;refine⟨σ.T0 D7,D7,?_,f2,f3,fun b hb=>?_,fun b hb hn=>?_,fun b hb=>by unfold Lab.T0;split<;>first|rfl|exact hb⟩
 rotate_left 2
 ·obtain⟨k,hk⟩:=Li b (f4 b hb);rw[hn]at hk;cases hk
 ·obtain⟨Y8,hbd⟩:=Focus.refs (G:=G) (inv:=inv) (cur:=cur) r5;rw[Pw]at Y8 hbd;refine h.tree h.Bm.T0 (Mem.le.refl G) hs (Nat.lt_succ_self _) ?_ (fun e=>by omega) ?_ Y8 hbd
  ·intro s1 Tm x k hx;refine⟨Lab.Ki.2 ⟨fun hm=>?_,hx⟩,rfl⟩
   obtain⟨k',E7⟩:=Li x (f4 x hm);rw[hx]at E7;cases E7;exact Tm rfl
  ·refine⟨Cv,r1,?_,r2,fun x hx=>?_⟩
   ·rw[r4];split
    ·rename_i hp;subst hp;simp only[D.at,Option.some.injEq]at Da;subst Da;rw[Fg];exact Kw
    ·exact Kw
   ·rcases(r3 x).1 hx with⟨h1,h2⟩|h1
    ·obtain⟨k,hk⟩:=Li x h1;exact⟨k,Lab.Ki.2 ⟨h2,hk⟩⟩
    ·cases h1
 ·obtain⟨k,hk⟩:=Li b (f4 b hb);obtain⟨k1,k2,k3⟩:=h.Bm.own b _ hk;exact⟨k1,k2,by simp[Lab.T0,hb],k3⟩
theorem Rel.Fv{Q:St→Prop}{d:Nat}{u:D}{c:Value}(h:Rel G σ Fr w0 st a w)(Sq:d<w0.n)(hf:R2 G σ Fr w u c)(hq:(C2 d (.own [] u)).wp P Q st):
 ∃σ' Af,Rel G σ' Fr w0 Af (a.put (some d) c) w∧Q Af:=by
 obtain⟨bs,g1,g2,g3,g4⟩:=hf;simp only[C2,M.wp]at hq;cases hd:st[d]? with
 |none=>simp[hd]at hq
 |some cur=>
  simp only[hd]at hq;have hK:∀b k,σ.drop d b=some (d,k)→k<0:=fun b k hb=>absurd rfl (Lab.C0.1 hb).1
  have Bu:Dt G ((σ.drop d).Fv d 0 bs) Fr w0 w:=(h.Bm.drop d).Fv hK fun b hb=>⟨(g4 b hb).1,(g4 b hb).2.1,(g4 b hb).2.2.2⟩
  refine⟨_,_,h.put Sq Bu (Mem.le.refl G) hd (Nat.lt_succ_self _) ?_ ?_ (fun h e=>by cases e) Tc,hq⟩
  ·intro s' D0 b k hb;refine⟨?_,rfl⟩;rw[Lab.Me]
   ·exact Lab.C0.2 ⟨D0,hb⟩
   ·intro hm;rw[(g4 b hm).2.2.1]at hb;cases hb
  ·exact⟨bs,g1,g2,g3,fun b hb=>⟨_,Lab.Pd hb⟩⟩
theorem Cw.Awt{Bg:Nat × Nat}{e:TypeId}{sz:Nat}{l:List I}{c:Value}(h:Cw G σ w Bg e sz l c)(Bu:Dt G σ Fr w0 w){σ':Lab}(hσ:∀b,σ b=some Bg→σ' b=none):R2 G σ' Fr w (.vec e sz (l.map D.it)) c:=by
 obtain⟨xs,⟨hl,h1⟩,h2,h3,h4⟩:=h;rcases h1 with⟨rfl,h0⟩|⟨g,cap,cur,rfl,_,hg,hn,hm,hs,ht⟩
 ·obtain rfl:=List.eq_nil_of_length_eq_zero h0;exact⟨[],by simp[A3,Value.cells],rfl,List.nodup_nil,by simp⟩
 ·refine⟨[g],?_,rfl,by simp,?_⟩
  ·simp only[A3,Value.cells];refine .inr ⟨g,0,cap,cur,xs,[],by simp,hg,fun _=>⟨rfl,hs⟩,by simpa using hn,hm,by rw[Nat.zero_add,hs];exact Nat.le_refl _,by simpa using ht,Bi.its.2 ⟨h2,rfl⟩,?_,rfl⟩
   intro x hx;obtain⟨y,hy,rfl⟩:=List.mem_map.1 hx;exact h3 y hy
  ·intro b hb;obtain rfl:=List.mem_singleton.1 hb;have Li:=h4 b rfl;obtain⟨k1,k2,k3⟩:=Bu.own b _ Li;exact⟨k1,k2,hσ b Li,k3⟩
def Ni(G:Mem)(σ:Lab)(Fr:Mem)(w:World)(u:D)(c:Value)(bs:List Nat):Prop:=
 A3 G w u c.cells.toList bs∧valOf u.isAgg c=true∧bs.Nodup∧∀b∈bs,G b=none∧Fr b=none∧σ b=none∧b<w.heap.size
theorem Ni.free{u:D}{c:Value}{bs:List Nat}(h:Ni G σ Fr w u c bs):R2 G σ Fr w u c:=⟨bs,h⟩
theorem Ni.item{u:I}{c:Value}(h:Aq G u c):Ni G σ Fr w (.it u) c []:=by
 obtain⟨bs,h1,h2,h3,h4⟩:=R2.item (σ:=σ) (Fr:=Fr) (w:=w) h;have:bs=[]:=by simp only[A3]at h1;exact h1.2
 subst this;exact⟨h1,h2,h3,h4⟩
theorem Ni.later{G':Mem}{σ':Lab}{u:D}{c:Value}{bs:List Nat}(h:Ni G σ Fr w u c bs)(hG:G.le G')(hk:∀b,σ b=none→G b=none→σ' b=none∧G' b=none):Ni G' σ' Fr w u c bs:=by
 obtain⟨h1,h2,h3,h4⟩:=h;refine⟨h1.tr hG fun _ _=>rfl,h2,h3,fun b hb=>?_⟩
 obtain⟨k1,k2,k3,k4⟩:=h4 b hb;obtain⟨q1,q2⟩:=hk b k3 k1;exact⟨q2,k2,q1,k4⟩
theorem Kb{x:Operand}{y:Ar}{k:D→M}{Q:St→Prop}(h:Rel G σ Fr w0 st a w)(ho:Ax w0.n x y=true)(hq:(Q3 y k).wp P Q st):
 ∃u bs G' σ' Af,G.le G'∧Rel G' σ' Fr w0 Af a w∧(k u).wp P Q Af∧Ni G' σ' Fr w u (a.eval x) bs∧(∀b∈bs,σ b≠none)∧∀b,σ b=none→G b=none→σ' b=none∧G' b=none:=by
 cases y with
 |c i=>exact⟨_,[],G,σ,st,Mem.le.refl G,h,hq,Ni.item (Sy ho G),by simp,fun _ h1 h2=>⟨h1,h2⟩⟩
 |Cd e sz=>
  refine⟨_,[],G,σ,st,Mem.le.refl G,h,hq,?_,by simp,fun _ h1 h2=>⟨h1,h2⟩⟩
  rw[H9 ho];exact⟨by simp[A3,Value.cells],rfl,List.nodup_nil,by simp⟩
 |t n=>
  obtain⟨rfl,Cm⟩:=Dm ho;have hv:val a w0 n=a.eval (.tmp n):=Ez (by rw[h.n];exact Cm)
  simp only[Q3,M.wp]at hq;cases hs:st[n]? with
  |none=>simp[hs]at hq
  |some cur=>
   obtain⟨ver,sv⟩:=cur;simp only[hs]at hq;have Ay:=h.slot Cm hs;have Bpn:(Kc (.t n) fun u=>k (.it u)).wp P Q st→∃u bs G' σ' Af,G.le G'∧Rel G' σ' Fr w0 Af a w∧(k u).wp P Q Af∧Ni G' σ' Fr w u (a.eval (.tmp n)) bs∧(∀b∈bs,σ b≠none)∧∀b,σ b=none→G b=none→σ' b=none∧G' b=none:=by
    intro hq;obtain⟨i,G',σ',Af,h1,h2,h3,h4,h5⟩:=Ari h ho hq;exact⟨_,[],G',σ',Af,h1,h2,h3,Ni.item h4,by simp,h5⟩
   cases sv with
   |vec e sz l=>
    have A6u:∀b,σ b=some (n,0)→σ.drop n b=none:=fun b hb=>by simp[Lab.drop,hb]
    obtain⟨bs,hf⟩:=Cw.Awt Ay h.Bm A6u;refine⟨_,bs,G,σ.drop n,_,Mem.le.refl G,h.drop hs (Nat.lt_succ_self _),hq,hf,fun b hb hn=>?_,fun b h1 h2=>⟨by simp[Lab.drop,h1],h2⟩⟩
    obtain⟨xs,h1,_,_,h4⟩:=Ay;have hrd:=hf.1;simp only[A3]at hrd;rcases hrd with⟨_,_,rfl⟩|⟨g,off,cap,cur,xs',Cv,e1,_,_,_,_,_,_,e2,_,rfl⟩
    ·cases hb
    ·obtain⟨_,rfl⟩:=Bi.its.1 e2;obtain rfl:=List.mem_singleton.1 hb;rcases h1.2 with⟨h0,_⟩|⟨g',Ta,Ed,h0,_⟩
     ·rw[h0]at e1;simp[Value.cells]at e1
     ·have:=h4 g' (by rw[h0];rfl)
      rw[h0]at e1;simp[Value.cells]at e1;rw[e1.1.1]at this;rw[hn]at this;cases this
   |own inv t=>
    obtain⟨bs,g1,g2,g3,g4⟩:=Ay;refine⟨_,bs,G,σ.drop n,_,Mem.le.refl G,h.drop hs (Nat.lt_succ_self _),hq,⟨g1,g2,g3,fun b hb=>?_⟩,fun b hb hn=>?_,fun b h1 h2=>⟨by simp[Lab.drop,h1],h2⟩⟩
    rotate_left 1
    ·obtain⟨kk,hk⟩:=g4 b hb;rw[hn]at hk;cases hk
    obtain⟨kk,hk⟩:=g4 b hb;obtain⟨k1,k2,k3⟩:=h.Bm.own b _ hk;refine⟨k1,k2,?_,k3⟩;simp[Lab.drop,hk]
   |bd s v p=>
    obtain⟨cur,h1,h2,h3⟩:=Ay;simp only[M.wp,h1]at hq;obtain⟨cv,Eh⟩:=cur;cases Eh with
    |own inv t=>
     obtain⟨ha,hq⟩:=hq;split at hq
     ·rename_i u Da;split at hq
      ·rename_i t' Fe;obtain⟨hw,hq⟩:=hq;have hhd:=h3 inv t rfl ha;obtain⟨hh,Bs2,_,_,Mx⟩:=N9.read (h.Bj s cv _ h1) Da hhd;obtain⟨u1,_,e1,e0,_⟩:=hhd;rw[Da]at e1;obtain rfl:=Option.some.inj e1;obtain⟨σ',D7,r1,r2,r3,r4,r5,r6⟩:=h.A5a h1 Da hw Fe Mx;refine⟨u,D7,G,σ',_,Mem.le.refl G,r1,hq,⟨?_,?_,r3,r4⟩,r5,fun b h1 h2=>⟨r6 b h1,h2⟩⟩
       ·have Lm:=A3.one r2 (a.eval (.tmp n)) (by simp)
        have:(a.eval (.tmp n)).cells.toList=[a.eval (.tmp n)]:=by
         generalize a.eval (.tmp n)=c at Lm ⊢;cases c<;>first|rfl|(simp[Value.oneCell']at Lm)
        rw[this];exact r2
       ·have:u.isAgg=false:=by cases u<;>first|rfl|cases e0
        rw[this];have Lm:=A3.one r2 (a.eval (.tmp n)) (by simp)
        generalize a.eval (.tmp n)=c at Lm ⊢;cases c<;>first|rfl|(simp[Value.oneCell']at Lm)
      ·exact hq.elim
     ·exact hq.elim
    |_=>exact hq.elim
   |par hh=>
    obtain⟨L0,hle⟩:=h.L7 n ver hh hs;rw[hv]at L0;simp only[M.wp]at hq;cases h1:st[hh]? with
    |none=>simp[h1]at hq
    |some cur=>
     obtain⟨cv,Eh⟩:=cur;simp only[h1]at hq;cases Eh with
     |own inv t=>
      obtain⟨bs,g1,g2,g3,g4⟩:=show Dd G σ w hh t (val a w0 hh)from h.Bj hh cv _ h1;rw[←L0]at g1 g2;refine⟨_,bs,G,σ.drop hh,_,Mem.le.refl G,h.drop h1 (Nat.lt_succ_self _),hq,⟨g1,g2,g3,fun b hb=>?_⟩,fun b hb hn=>?_,fun b h1 h2=>⟨by simp[Lab.drop,h1],h2⟩⟩
      rotate_left 1
      ·obtain⟨kk,hk⟩:=g4 b hb;rw[hn]at hk;cases hk
      obtain⟨kk,hk⟩:=g4 b hb;obtain⟨k1,k2,k3⟩:=h.Bm.own b _ hk;refine⟨k1,k2,?_,k3⟩;simp[Lab.drop,hk]
     |_=>exact hq.elim
   |_=>exact Bpn hq
theorem Akn{x:Operand}{y:Ar}{k:D→M}{Q:St→Prop}(h:Rel G σ Fr w0 st a w)(ho:Ax w0.n x y=true)(hq:(Q3 y k).wp P Q st):
 ∃u G' σ' Af,G.le G'∧Rel G' σ' Fr w0 Af a w∧(k u).wp P Q Af∧R2 G' σ' Fr w u (a.eval x):=by
 obtain⟨u,bs,G',σ',Af,h1,h2,h3,h4,_⟩:=Kb h ho hq;exact⟨u,G',σ',Af,h1,h2,h3,h4.free⟩
theorem Amc{o:Oper}{Q:St→Prop}{next:Act→World→Prop}{E:Exit→Act→World→Prop}{s cur:Nat}{inv:List Nat}{t:D}{q:List Nat}{c:Value}(hr:Rel G σ Fr w0 st a w)(Au:∀d,o.dst=some d→d<w0.n)(hs:st[s]?=some (cur,.own inv t))
 (hn:∀G' σ' Af a' w',G.le G'→Rel G' σ' Fr w0 Af a' w'→Q Af→next a' w') (Aw:o.dst≠some s) (hp:Pc w t (val a w0 s) q c) (B0:(execOp a.eval o).run P w= .ok (.value c) w)
 (hq:(A9 o.dst (.pd s cur q) .done).wp P Q st):o.wp P a w next E:=by
 obtain⟨σ',Af,r1,r2⟩:=hr.A9 Au (sv:=.pd s cur q) (c:=c) (fun d' hd ver _=>by
  refine⟨_,by rw[List.getElem?_set_ne (by rintro rfl;exact Aw hd)];exact hs,Nat.le_refl _,fun J2 t' e _ _=>?_⟩
  cases e;rw[Cb (by rintro rfl;exact Aw hd)]
  exact hp) hq
 exact Bv B0 (hn G σ' Af _ w (Mem.le.refl G) r1 r2)
theorem Ama{o:Oper}{Q:St→Prop}{next:Act→World→Prop}{E:Exit→Act→World→Prop}{s cur:Nat}{inv:List Nat}{t:D}{q:List Nat}{c:Value}(hr:Rel G σ Fr w0 st a w)(Au:∀d,o.dst=some d→d<w0.n)(hs:st[s]?=some (cur,.own inv t))
 (hn:∀G' σ' Af a' w',G.le G'→Rel G' σ' Fr w0 Af a' w'→Q Af→next a' w') (Aw:o.dst≠some s) (hp:N9 w t (val a w0 s) q c) (B0:(execOp a.eval o).run P w= .ok (.value c) w)
 (hq:(A9 o.dst (.bd s cur q) .done).wp P Q st):o.wp P a w next E:=by
 obtain⟨σ',Af,r1,r2⟩:=hr.A9 Au (sv:=.bd s cur q) (c:=c) (fun d' hd ver _=>by
  refine⟨_,by rw[List.getElem?_set_ne (by rintro rfl;exact Aw hd)];exact hs,Nat.le_refl _,fun J2 t' e _=>?_⟩
  cases e;rw[Cb (by rintro rfl;exact Aw hd)]
  exact hp) hq
 exact Bv B0 (hn G σ' Af _ w (Mem.le.refl G) r1 r2)
theorem Agz{t:TypeId}{agg:Bool}{b off:Nat}{bl:Array Value}{ty:TypeId}{fz:Nat × Nat}{pre cs post:List Value}(h:Hd P t agg cs.length=true)(hc:agg=false→cs.length=1)
 (hh:w.heap[b]?=some (.cells bl ty fz)) (hs:bl.toList=pre++cs++post) (hp:pre.length=off) (h1:∀c∈cs,c.oneCell'=true):
 ∃v,(loadVar t ⟨b,off,none⟩).run P w= .ok v w∧v.cells.toList=cs∧valOf agg v=true:=by
 obtain⟨k1,k2⟩:=Fy (P:=P) h hh hs hp;cases agg with
 |true=>exact⟨_,k1 rfl,rfl,rfl⟩
 |false=>
  obtain⟨c,rfl⟩:=List.length_eq_one_iff.1 (hc rfl);refine⟨c,k2 c rfl rfl,?_,?_⟩;all_goals
   have:=h1 c (by simp)
   cases c<;>first|rfl|(simp[Value.oneCell']at this)
theorem A3o{o:Oper}{t:TypeId}{x:Operand}{x':Ar}{agg:Bool}{sz:Nat}(ho:o.op= .load t x)(hx:Ax N x x'=true)(ht:Hd P t agg sz=true):Sound P N o (A03 o.dst agg sz x'):=by
 intro G σ Fr w0 st a w Q next E hN hr hw hn Au
 subst hN;have run:∀{b off:Nat} {v:Value},a.eval x= .pointer (some ⟨b,off,none⟩)→(loadVar t ⟨b,off,none⟩).run P w= .ok v w→(execOp a.eval o).run P w= .ok (.value v) w:=by
  intro b off v hp hl;simp[execOp,ho,hp,Instr.loadAt,Instr.sureAddr,hl]
 obtain⟨s,cur,inv,tr,p,h1,hs,hp0,Q8⟩:=Afr hr hx hw;have Cy:=hr.Bj s cur _ hs;split at h1
 ·rename_i u Da;obtain⟨b,off,bl,ty,fz,pre,cs,post,D7,e1,e2,e3,e4,e5,e6,e7⟩:=Pc.block Cy Da Q8;have Sd:=A3.one e5;have hlen:=A3.length e5;cases u with
  |it y=>
   obtain⟨⟨rfl,rfl⟩,h1⟩:=h1;simp only[A3]at e5;obtain⟨v,hl,hv⟩:=Sx (P:=P) ht e2 e3 e4 e5.1;exact C1 hr hn Au hv h1 (run e1 hl)
  |vec e Bs l=>
   obtain⟨⟨rfl,rfl,Aw⟩,h1⟩:=h1;obtain⟨c,rfl⟩:=List.length_eq_one_iff.1 hlen;have hl:=(Fy (P:=P) (cs:=[c]) ht e2 e3 e4).2 c rfl rfl;exact Ama hr Au hs hn Aw ⟨_,_,Da,rfl,e7⟩ (run e1 hl) h1
  |map ks vs=>
   obtain⟨⟨rfl,rfl,Aw⟩,h1⟩:=h1;obtain⟨c,rfl⟩:=List.length_eq_one_iff.1 hlen;have hl:=(Fy (P:=P) (cs:=[c]) ht e2 e3 e4).2 c rfl rfl;exact Ama hr Au hs hn Aw ⟨_,_,Da,rfl,e7⟩ (run e1 hl) h1
  |ptr d=>
   obtain⟨⟨rfl,rfl,Aw⟩,h1⟩:=h1;obtain⟨c,rfl⟩:=List.length_eq_one_iff.1 hlen;have hl:=(Fy (P:=P) (cs:=[c]) ht e2 e3 e4).2 c rfl rfl;simp only[A3]at e5;obtain⟨g,cells,Ny,Cv,q1,q2,_⟩:=e5;injection q1 with q1
   subst q1;refine Amc hr Au hs hn Aw ⟨d,g,0,cells.toList,by rw[Uk Da];rfl,?_,rfl⟩ (run e1 hl) h1
   rw[Qb Da e7 (y:=d) rfl];simp[B9,q2]
  |st l=>
   obtain⟨⟨rfl,Bk⟩,h1⟩:=h1;unfold Aq3 at h1;split at h1
   ·rename_i t' Fe;obtain⟨v,hl,hvc,Kw⟩:=Agz (P:=P) (cs:=cs) (agg:=true) (by rw[hlen];show Hd P t true (Ca l)=true;rw[Bk];exact ht) (by intro e;cases e) e2 e3 e4 Sd
    obtain⟨σ',Qe,r1,r2,r3,r4,_⟩:=hr.A5a hs Da rfl Fe e7;simp only[M.wp]at h1;cases hd:o.dst with
    |none=>
     rw[hd]at h1;exact Bv (run e1 hl) (by rw[hd];exact hn G σ' _ _ w (Mem.le.refl G) r1 h1)
    |some d=>
     rw[hd]at h1;obtain⟨Aw,h1⟩:=h1;obtain⟨σ2,st2,k1,k2⟩:=r1.Fv (Au d hd) (u:=.st l) (c:=v) ⟨Qe,by rw[hvc];exact r2,Kw,r3,r4⟩ h1
     exact Bv (run e1 hl) (by rw[hd];exact hn G σ2 st2 _ w (Mem.le.refl G) k1 k2)
   ·exact h1.elim
 ·exact h1.elim
theorem A3p{o:Oper}{t:TypeId}{x:Operand}{x':Ar}{agg:Bool}{sz:Nat}(ho:o.op= .load t x)(hx:Ax N x x'=true)(ht:Hd P t agg sz=true):Sound P N o (A04 o.dst agg sz x'):=by
 intro G σ Fr w0 st a w Q next E hN hr hw hn Au
 subst hN;obtain⟨s,cur,inv,tr,p,h1,hs,hp0,Q8⟩:=Afr hr hx hw;have Cy:=hr.Bj s cur _ hs;split at h1
 ·rename_i u Da;split at h1
  ·rename_i y hy;split at h1
   ·rename_i t' Fe;obtain⟨⟨Pw,rfl,rfl,Aw⟩,h1⟩:=h1;obtain⟨b,off,bl,ty,fz,pre,cs,post,D7,e1,e2,e3,e4,e5,e6,e7⟩:=Pc.block Cy Da Q8;obtain⟨G',σ',hG,r1,r2,_⟩:=hr.Anr hs Da Pw hy Fe;have hI:=r2 _ _ e7;obtain⟨v,hl,hv⟩:=Sx (P:=P) (w:=w) ht e2 e3 e4 hI;obtain⟨σ2,st2,k1,k2⟩:=r1.Ata Au hv h1;refine Bv (w':=w) ?_ (hn G' σ2 st2 _ w hG k1 k2);simp[execOp,ho,e1,Instr.loadAt,Instr.sureAddr,hl]
   ·exact h1.elim
  ·exact h1.elim
 ·exact h1.elim
theorem Amu{u:D}{i off:Nat}{b o:Nat}{cs:List Value}(h:Pg u i=some off):∃y E5,u.Dj i=some y∧B9 w u (some (b,o),cs) i=some (some (b,o+off),E5):=by
 cases u with
 |it x=>
  cases x with
  |agg l=>
   simp only[Pg]at h;split at h
   ·rename_i y hy;cases h;exact⟨_,_,by simp only[D.Dj,hy];rfl,by simp only[B9,hy,Mw];rfl⟩
   ·cases h
  |_=>cases h
 |st l=>
  simp only[Pg]at h;split at h
  ·rename_i y hy;cases h;exact⟨_,_,hy,by simp only[B9,hy,Mw];rfl⟩
  ·cases h
 |_=>cases h
theorem A1e{o:Oper}{t:TypeId}{x i:Operand}{x' i':Ar}{sz len:Nat}(ho:o.op= .indexAddr t x i)(hx:Ax N x x'=true)(hi:Ax N i i'=true)(ht:Ao3 P t sz len=true):
 Sound P N o (Auv o.dst sz len x' i'):=by
 intro G σ Fr w0 st a w Q next E hN hr hw hn Au
 subst hN;obtain⟨n,h1,Y6⟩:=De hr hi hw;clear hw;split at h1
 ·rename_i k n;rw[Aq.int]at Y6;obtain⟨s,cur,inv,tr,p,h1,hs,hp0,Q8⟩:=Afr hr hx h1;have Cy:=hr.Bj s cur _ hs;split at h1
  ·rename_i u Da;split at h1
   ·rename_i y;split at h1
    ·rename_i Bs l;obtain⟨⟨h0,Bb,J5,rfl,Aw⟩,h1⟩:=h1;obtain⟨b,off,bl,ty,fz,pre,cs,post,D7,e1,e2,e3,e4,e5,e6,e7⟩:=Pc.block Cy Da Q8;have hk:(D.it (.arr Bs l)).Dj n.toNat=some (.it l[n.toNat]):=by simp[D.Dj,List.getElem?_eq_getElem J5]
     refine Amc hr Au hs hn Aw ⟨_,b,off+n.toNat*Bs,_,by rw[Uk Da];exact hk,by rw[Qb Da e7 hk];simp only[B9,List.getElem?_eq_getElem J5,Mw];rfl,rfl⟩ ?_ h1
     simp[execOp,ho,e1,Y6,Aci ht w h0 Bb]
    ·exact h1.elim
   ·exact h1.elim
  ·exact h1.elim
 ·exact h1.elim
theorem A1p{o:Oper}{t:TypeId}{x y:Operand}{x' y':Ar}{agg:Bool}{sz:Nat}(hd:o.dst=none)(ho:o.op= .store t x y)(hx:Ax N x x'=true)(hy:Ax N y y'=true)(ht:Hd P t agg sz=true):
 Sound P N o (Au3 sz x' y'):=by
 intro G σ Fr w0 st a w Q next E hN hr hw hn Au
 subst hN;obtain⟨u,G',σ',Af,hG,Ci,h1,hf⟩:=Akn hr hy hw;obtain⟨s,cur,inv,tr,p,h1,hs,hp0,Q8⟩:=Afr Ci hx h1;split at h1
 ·rename_i u0 Da;split at h1
  ·rename_i t' Fe;obtain⟨⟨Fg,Bk,Bo5⟩,h1⟩:=h1;obtain⟨b,of,w',σ2,e1,e2,e3⟩:=Ci.Bex (P:=P) (tt:=t) (agg:=agg) hs Da Fe hf Fg Bk Q8 (by rw[←Bk,Bo5];exact ht)
   refine Ars (w':=w') ?_ ?_
   ·simp[execOp,ho,e1,Instr.storeAt,Instr.sureAddr,e2]
   ·rw[hd];refine hn G' σ2 _ _ w' hG e3 ?_;cases hl:u0.leaf<;>rw[hl]at h1<;>simp only[M.wp]at h1<;>simpa using h1
  ·exact h1.elim
 ·exact h1.elim
end

open Go.Op
mutual
def zD:D→List Value→Option (List Value)
 | .it x,cs=>zI x cs
 | .st l,cs=>zDs l cs
 | .vec _ _ [],.slice none 0 0::cs=>some cs
 |_,_=>none
def zDs:List D→List Value→Option (List Value)
 | [],cs=>some cs
 |d::l,cs=>match zD d cs with
  |some cs=>zDs l cs
  |none=>none
end
mutual
theorem A52(G:Mem)(w:World):∀(d:D) (cs rest:List Value),zD d cs=some rest→∃c,cs=c++rest∧A3 G w d c []
 | .it x,cs,rest,h=>by
   simp only[zD]at h;obtain⟨c,e,h⟩:=Vi G x cs rest h;exact⟨c,e,by simp only[A3,and_true];exact h⟩
 | .st l,cs,rest,h=>by
   simp only[zD]at h;obtain⟨c,e,h⟩:=Aot G w l cs rest h;exact⟨c,e,by simp only[A3];exact h⟩
 | .vec e sz [],cs,rest,h=>by
   cases cs with
   |nil=>simp[zD]at h
   |cons c r=>
    cases c<;>first|(simp[zD]at h;done)|skip
    rename_i ad n m;cases ad<;>cases n<;>cases m<;>first|(simp[zD]at h;done)|skip
    simp only[zD,Option.some.injEq]at h;subst h;exact⟨[.slice none 0 0],rfl,by simp[A3]⟩
 | .vec e sz (_::_),cs,rest,h=>by simp[zD]at h
 | .ptr d,cs,rest,h=>by simp[zD]at h
 | .map ks vs,cs,rest,h=>by simp[zD]at h
theorem Aot(G:Mem)(w:World):∀(l:List D) (cs rest:List Value),zDs l cs=some rest→∃c,cs=c++rest∧Bi G w l c []
 | [],cs,rest,h=>by simp only[zDs,Option.some.injEq]at h;subst h;exact⟨[],rfl,by simp[Bi]⟩
 |d::l,cs,rest,h=>by
  simp only[zDs]at h;split at h
  ·rename_i E5 hd;obtain⟨c,rfl,h1⟩:=A52 G w d cs E5 hd;obtain⟨c',rfl,h2⟩:=Aot G w l E5 rest h;refine⟨c++c',by simp,?_⟩
   simp only[Bi];exact⟨c,c',[],[],rfl,rfl,h1,h2⟩
  ·cases h
end
def Ato(P:Program)(t:TypeId)(x:D):Bool:=match P.info? t with
 |some i=>match i.zero with
  |some z=>match zD x z.cells.toList with
   |some []=>true
   |_=>false
  |none=>false
 |none=>false
def Auw(d:Nat)(t:D):M:=C2 d (.own [] (.ptr t))
def A5m(d:Nat)(x:Ar):M:=Q3 x fun u=>C2 d (.own [] (.ptr u))
def X3:List (Nat × Ar)→List D→(List D→M)→M
 | [],zs,k=>k zs
 |(i,x)::ps,zs,k=>Q3 x fun u=>match zs[i]? with
  |some z=>.Ba (u.size=z.size) fun _=>X3 ps (zs.set i u) k
  |none=>.fail
def Auz(d:Nat)(zs:List D)(ps:List (Nat × Ar)):M:=X3 ps zs fun l=>C2 d (.own [] (Cu l))
def Ani(P:Program)(t:TypeId)(zs:List D):Bool:=match P.underlying t,P.info? t with
 |some (.struct fs),some i=>(match i.zero with
  |some z=>match zDs zs z.cells.toList with
   |some []=>true
   |_=>false
  |none=>false)&&
  fs.size==zs.length&&(List.range zs.length).all fun j=>match fs[j]?,zs[j]? with
   |some f,some z=>f.offset==Ca (zs.take j)&&match P.info? f.type with
    |some i=>i.size==z.size
    |none=>false
   |_,_=>false
 |_,_=>false
def Aq0(d:Nat)(e:TypeId)(sz:Nat)(z:I)(n:Nat)(ps:List (Nat × Ar)):M:=X3 ps (List.replicate n (.it z)) fun l=>.Ba (l.length=n∧∀u∈l,u.size=sz) fun _=>C2 d (.own [] (.vec e sz l))
def Aej:D→Option (List D)
 | .vec _ _ l=>some l
 | .it x=>match x with
   | .list l=>some (l.map D.it)
   |_=>none
 |_=>none
def As6(d:Nat)(e:TypeId)(sz bytes:Nat)(x y:Ar):M:=Q3 y fun u=>Q3 x fun v=>match v,Aej u with
 | .vec e' Bs l,some ys=>.Ba (e'=e∧Bs=sz∧(l.length+ys.length)*bytes≤140737488355328∧l.length+ys.length≤maxLen∧(∀u∈ys,u.size=sz)∧e<1000000) fun _=>C2 d (.own [] (.vec e sz (l++ys)))
 |_,_=>.fail
section
variable{P:Program}{N:Nat}{G:Mem}{σ:Lab}{Fr:Mem}{w0:Base}{w:World}{st:St}{a:Act}
theorem Rel.Bcs{w':World}{row:Option Nat}(h:Rel G σ Fr w0 st a w)(hg:w.grownBy w' row)(Gj:∀b,row=some b→G b=none∧Fr b=none∧σ b=none):Rel G σ Fr w0 st a w':=by
 have lt:∀{b:Nat} {o:Obj},w.heap[b]?=some o→b<w.heap.size:=fun h=>(Array.getElem?_eq_some_iff.1 h).1
 have keep:∀b Bg,σ b=some Bg→w'.heap[b]?=w.heap[b]?:=fun b Bg hb=>
  hg.block b (h.Bm.own b Bg hb).2.2 (by intro e;obtain⟨_,_,k⟩:=Gj b e.symm;rw[k]at hb;cases hb)
 have Bu:Dt G σ Fr w0 w':=by
  refine⟨?_,?_,h.Bm.inj,?_,hg.os.trans h.Bm.os,hg.tape.trans h.Bm.tape,hg.output.trans h.Bm.output,Nat.le_trans h.Bm.size hg.size,h.Bm.apart,h.Bm.Jd⟩
  ·intro b o hb;have:=h.Bm.fixed b o hb;rw[hg.block b (lt this) (by intro e;obtain⟨k,_,_⟩:=Gj b e.symm;rw[k]at hb;cases hb)]
   exact this
  ·intro b Bg hb;obtain⟨h1,h2,h3⟩:=h.Bm.own b Bg hb;exact⟨h1,h2,Nat.lt_of_lt_of_le h3 hg.size⟩
  ·intro b o hb;have:=h.Bm.frame b o hb;rw[hg.block b (lt this) (by intro e;obtain⟨_,k,_⟩:=Gj b e.symm;rw[k]at hb;cases hb)]
   exact this
 exact⟨Bu,h.defers,h.n,h.len,fun s ver sv hs=>(h.Bj s ver sv hs).keep (Mem.le.refl G) (fun s' b k hb=>⟨hb,keep b _ hb⟩) h.Bj,h.L7⟩
theorem Amm{Q:St→Prop}{d:Nat}{u:D}{bs:List Nat}{cells:Array Value}{e:TypeId}(h:Rel G σ Fr w0 st a w)(Sq:d<w0.n)(hu:A3 G w u cells.toList bs)(Ku:bs.Nodup)
 (hf:∀b∈bs,G b=none∧Fr b=none∧σ b=none∧b<w.heap.size) (hq:(C2 d (.own [] (.ptr u))).wp P Q st):
 ∃σ' Af,Rel G σ' Fr w0 Af (a.put (some d) (.pointer (some ⟨w.heap.size,0,none⟩))) (w.alloc (.cells cells e))∧Q Af:=by
 have hr:Rel G σ Fr w0 st a (w.alloc (.cells cells e)):=h.grow rfl rfl rfl (by simp) fun b hb=>Pk w _ b hb
 obtain⟨f1,f2,f3⟩:=h.Bm.fresh (Nat.le_refl w.heap.size);refine hr.Fv Sq ⟨w.heap.size::bs,?_,rfl,List.nodup_cons.2 ⟨fun hb=>?_,Ku⟩,fun b hb=>?_⟩ hq
 ·simp only[A3,Value.cells];exact⟨w.heap.size,cells,e,bs,rfl,heap_alloc_new w _,hu.tr (Mem.le.refl G) fun b hb=>Pk w _ b (hf b hb).2.2.2,rfl⟩
 ·have:=(hf _ hb).2.2.2;omega
 ·rcases List.mem_cons.1 hb with rfl|hb
  ·exact⟨f1,f2,f3,by simp⟩
  ·obtain⟨k1,k2,k3,k4⟩:=hf b hb;exact⟨k1,k2,k3,by simp;omega⟩
theorem A1f{o:Oper}{e:TypeId}{d:Nat}{t:D}(hd:o.dst=some d)(ho:o.op= .alloc e)(hz:Ato P e t=true):Sound P N o (Auw d t):=by
 intro G σ Fr w0 st a w Q next E hN hr hw hn Au
 subst hN;unfold Ato at hz;split at hz
 ·rename_i i hi;split at hz
  ·rename_i z V3;split at hz
   ·rename_i hzd;obtain⟨c,hc,Ay⟩:=A52 G w t _ _ hzd;rw[List.append_nil]at hc;obtain⟨σ',Af,h1,h2⟩:=Amm (P:=P) (e:=e) (cells:=z.cells) hr (Au d hd) (by rw[hc];exact Ay) List.nodup_nil (by simp) hw
    refine Bv (w':=w.alloc (.cells z.cells e)) ?_ (by rw[hd];exact hn G σ' Af _ _ (Mem.le.refl G) h1 h2)
    simp[execOp,ho,Instr.alloc,zeroValue,typeInfo,hi,V3,newVar,newRow]
   ·cases hz
  ·cases hz
 ·cases hz
theorem A73{o:Oper}{e:TypeId}{d:Nat}{x:Operand}{x':Ar}(hd:o.dst=some d)(ho:o.op= .box e x)(hx:Ax N x x'=true):Sound P N o (A5m d x'):=by
 intro G σ Fr w0 st a w Q next E hN hr hw hn Au
 subst hN;obtain⟨u,bs,G',σ',Af,hG,Ci,h1,⟨f1,f2,f3,f4⟩,_⟩:=Kb hr hx hw;obtain⟨H4,Gt,h2,h3⟩:=Amm (P:=P) (e:=e) (cells:=(a.eval x).cells) Ci (Au d hd) f1 f3 f4 h1;refine Bv (w':=w.alloc (.cells (a.eval x).cells e)) ?_ (by rw[hd];exact hn G' H4 Gt _ _ hG h2 h3)
 simp[execOp,ho,Instr.box,newVar,newRow]
theorem Acp{place:Nat→Option (Nat × Nat)}{Q:St→Prop}:∀{ps:List (Nat × Operand)} {Kg:List (Nat × Ar)} {zs:List D} {cells:Array Value} {bs:List Nat} {k:List D→M} {G:Mem} {σ:Lab} {st:St},
 Rel G σ Fr w0 st a w→Gp w0.n ps Kg=true→(X3 Kg zs k).wp P Q st→Bi G w zs cells.toList bs→bs.Nodup→(∀b∈bs,G b=none∧Fr b=none∧σ b=none∧b<w.heap.size)→
 (∀i z,zs[i]?=some z→place i=some (Ca (zs.take i),z.size))→
 ∃zs' K8 Cv G' σ' Af,G.le G'∧Rel G' σ' Fr w0 Af a w∧(k zs').wp P Q Af∧Bi G' w zs' K8.toList Cv∧Cv.Nodup∧(∀b∈Cv,G' b=none∧Fr b=none∧σ' b=none∧b<w.heap.size)∧
  Instr.fill place cells (ps.map fun p=>(p.1,a.eval p.2))=some K8
 | [],[],zs,cells,bs,k,G,σ,st,hr,_,hq,hz,Ku,hf,_=>⟨zs,cells,bs,G,σ,st,Mem.le.refl G,hr,hq,hz,Ku,hf,rfl⟩
 |(i,x)::ps,(j,y)::Kg,zs,cells,bs,k,G,σ,st,hr,ho,hq,hz,Ku,hf,Hz=>by
  simp only[Gp,Bool.and_eq_true,beq_iff_eq]at ho;obtain⟨⟨rfl,ho⟩,hos⟩:=ho;obtain⟨u,bu,G',σ',Af,hG,Ci,h1,⟨g1,g2,g3,g4⟩,g5,g6⟩:=Kb hr ho hq;cases hzi:zs[i]? with
  |none=>simp only[hzi]at h1;exact h1.elim
  |some z=>
   simp only[hzi]at h1;obtain⟨Bk,h1⟩:=h1;obtain⟨c1,c,c2,b1,b,b2,e1,rfl,e2,e3,Cs,_⟩:=Bi.nth hz hzi;have C4:c.length=(a.eval x).cells.size:=by
    rw[A3.length e3, ←Bk, ←A3.length g1];simp
   have A6v:=Ax4 (v:=a.eval x) (off:=Ca (zs.take i)) e1 e2 C4;have Ps:=Hz i z hzi;have hbu:∀x∈bu,x ∉ b1++b++b2:=fun x hx hm=>g5 x hx (hf x hm).2.2.1
   obtain⟨n1,n2⟩:=Xo Ku g3 fun x hx=>.inr (hbu x hx)
   obtain⟨zs',K8,Cv,Q7,H4,Gt,hG',Ay2,h2,h3,h4,h5,h6⟩:=Acp (place:=place) Ci hos h1 (bs:=b1++bu++b2) (cells:=(a.eval x).cells.zipIdx.foldl (fun(cs:Array Value) (p:Value × Nat)=>cs.setIfInBounds (Ca (zs.take i)+p.2) p.1) cells)
    (by rw[A6v];exact Cs G' w u _ bu hG g1 fun _ _=>rfl) n1 (fun x hx=>by
      rcases(n2 x).1 hx with⟨hm,_⟩|hm
      ·obtain⟨k1,k2,k3,k4⟩:=hf x hm;obtain⟨q1,q2⟩:=g6 x k3 k1;exact⟨q2,k2,q1,k4⟩
      ·exact g4 x hm) (by
      intro i' z' Gw;have hi:i<zs.length:=(List.getElem?_eq_some_iff.1 hzi).1;rw[Aga hzi Bk];by_cases hii:i'=i
      ·subst hii;rw[List.getElem?_set_self hi]at Gw;cases Gw;rw[Ps,Bk]
      ·rw[List.getElem?_set_ne (Ne.symm hii)]at Gw;rw[Hz i' z' Gw])
   refine⟨zs',K8,Cv,Q7,H4,Gt,hG.trans hG',Ay2,h2,h3,h4,h5,?_⟩;simp only[List.map_cons,Instr.fill,Ps];have Bd6:(a.eval x).cells.size=z.size:=by rw[←C4,A3.length e3]
   have hle:¬(Ca (zs.take i)+(a.eval x).cells.size>cells.size):=by
    have:cells.size=cells.toList.length:=by simp
    rw[this,e1, ←e2, ←C4];simp
   rw[if_neg (by simp[Bd6]at hle ⊢;omega)]
   exact h6
 | [],_::_,_,_,_,_,_,_,_,_,ho,_,_,_,_,_=>by cases ho
 |_::_,[],_,_,_,_,_,_,_,_,ho,_,_,_,_,_=>by simp[Gp]at ho
theorem A1h{o:Oper}{d:Nat}{t:TypeId}{ps:Array (Nat × Operand)}{zs:List D}{Kg:List (Nat × Ar)}(hd:o.dst=some d)(ho:o.op= .build t ps)(hp:Gp N ps.toList Kg=true)(ht:Ani P t zs=true):
 Sound P N o (Auz d zs Kg):=by
 intro G σ Fr w0 st a w Q next E hN hr hw hn Au
 subst hN;unfold Ani at ht;split at ht
 ·rename_i fs i hu hi;simp only[Bool.and_eq_true,beq_iff_eq]at ht;obtain⟨⟨hz,hlen⟩,G8⟩:=ht;cases V3:i.zero with
  |none=>simp[V3]at hz
  |some z=>
   simp only[V3]at hz;have Gw:∃c,z.cells.toList=c++[]∧Bi G w zs c []:=by
    split at hz
    ·rename_i h;exact Aot G w zs _ _ h
    ·cases hz
   obtain⟨c,hc,Gw⟩:=Gw;rw[List.append_nil]at hc;subst hc;have Ajg:∀j f zz,fs[j]?=some f→zs[j]?=some zz→f.offset=Ca (zs.take j)∧(sizeOf f.type).run P w= .ok zz.size w:=by
    intro j f zz hf Sv;have hj:j<zs.length:=(List.getElem?_eq_some_iff.1 Sv).1;have:=List.all_eq_true.1 G8 j (List.mem_range.2 hj);simp only[hf,Sv,Bool.and_eq_true,beq_iff_eq]at this;obtain⟨h1,h2⟩:=this;refine⟨h1,?_⟩;cases Vz:P.info? f.type with
    |none=>simp[Vz]at h2
    |some jn=>
     simp only[Vz,beq_iff_eq]at h2;simp[sizeOf,typeInfo,Vz,h2]
   let szf:Field→Nat:=fun f=>((P.info? f.type).map (·.size)).getD 0
   have Ay9:∀f∈fs.toList,(sizeOf f.type).run P w= .ok (szf f) w:=by
    intro f hf;obtain⟨j,hj⟩:=List.mem_iff_getElem?.1 hf;have Kt:j<zs.length:=by
     have:=(List.getElem?_eq_some_iff.1 hj).1;simp at this;omega
    have h2:=(Ajg j f zs[j] (by simpa using hj) (List.getElem?_eq_getElem Kt)).2
    cases Vz:P.info? f.type with
    |none=>simp[sizeOf,typeInfo,Vz]at h2
    |some jn=>simp[sizeOf,typeInfo,Vz,szf]
   have Ase:∀j zz,zs[j]?=some zz→(fs.toList.map fun f=>(f.offset,szf f)).toArray[j]?=some (Ca (zs.take j),zz.size):=by
    intro j z0 hzj;have hj:j<zs.length:=(List.getElem?_eq_some_iff.1 hzj).1;have hjf:fs[j]?=some (fs[j]'(by omega)):=Array.getElem?_eq_getElem (by omega)
    obtain⟨h1,h2⟩:=Ajg j _ z0 hjf hzj;have h3:=Ay9 _ (by simp:fs[j]'(by omega)∈fs.toList)
    rw[h2]at h3;have h4:z0.size=szf (fs[j]'(by omega)):=by injection h3
    simp[hjf,h1,h4]
   obtain⟨zs',K8,Cv,G',σ',Af,hG,Ci,h2,h3,h4,h5,h6⟩:=Acp (place:=fun j=>(fs.toList.map fun f=>(f.offset,szf f)).toArray[j]?) hr hp hw Gw List.nodup_nil (by simp) Ase
   obtain⟨σ2,st2,r1,r2⟩:=Ci.Fv (P:=P) (Au d hd) (c:=.agg K8) ⟨Cv,A3.Cu.2 h3,by rw[Ag2];rfl,h4,h5⟩ h2
   refine Bv (w':=w) ?_ (by rw[hd];exact hn G' σ2 st2 _ w hG r1 r2)
   have hm:=Am2 (P:=P) (w:=w) Ay9;have Tk:(ps.map fun(p:Nat × Operand)=>(p.1,a.eval p.2)).toList=ps.toList.map fun p=>(p.1,a.eval p.2):=by simp
   have hm':(fs.mapM fun f=>(do pure (f.offset, ←sizeOf f.type):Sem (Nat × Nat))).run P w= .ok (fs.toList.map fun f=>(f.offset,szf f)).toArray w:=by
    rw[Array.mapM_eq_mapM_toList,Sem.run_map,hm];rfl
   have hzero:(zeroValue t).run P w= .ok z w:=by simp[zeroValue,typeInfo,hi,V3]
   simp only[execOp,ho,Instr.build,Sem.run_bind,hzero,Result.andThen,run_underlying hu,hm',Tk,h6,Sem.run_pure]
 ·cases ht
theorem As2{z:I}{c:List Value}(h:A1 G z c)(n:Nat):Bi G w (List.replicate n (.it z)) (List.replicate n c).flatten []:=by
 have:=M1 h n;rw[←List.map_replicate];exact Bi.its.2 ⟨this,rfl⟩
theorem Awe{o:Oper}{d:Nat}{t e:TypeId}{sz n:Nat}{z:I}{ps:Array (Nat × Operand)}{Kg:List (Nat × Ar)}(hd:o.dst=some d)(ho:o.op= .buildSlice t n ps)(hp:Gp N ps.toList Kg=true)(ht:Uq P t e sz z n=true):
 Sound P N o (Aq0 d e sz z n Kg):=by
 intro G σ Fr w0 st a w Q next E hN hr hw hn Au
 subst hN;unfold Uq at ht;split at ht
 ·rename_i e' hu;simp only[Bool.and_eq_true,beq_iff_eq,bne_iff_ne,ne_eq,decide_eq_true_eq]at ht;obtain⟨⟨⟨rfl,hn4⟩,hn0⟩,ht⟩:=ht;split at ht
  ·rename_i i hi;simp only[Bool.and_eq_true,beq_iff_eq,bne_iff_ne,ne_eq,decide_eq_true_eq]at ht;obtain⟨⟨⟨⟨rfl,h0⟩,hs4⟩,Ago⟩,ht⟩:=ht;split at ht
   ·rename_i v hv;simp only[Bool.and_eq_true,beq_iff_eq]at ht;obtain⟨Tq,hz⟩:=ht;have Gw:∃c,v.cells.toList=c++[]∧A1 G z c:=by
     split at hz
     ·rename_i h;exact Vi G z _ _ h
     ·cases hz
    obtain⟨c,hc,Gw⟩:=Gw;rw[List.append_nil]at hc;subst hc;have Asa:Bi G w (List.replicate n (.it z)) ((Array.range (n*i.size)).map (fun j=>v.cells[j % v.cells.size]!)).toList []:=by
     rw[X6 Tq];exact As2 Gw n
    have Ps:∀(j:Nat) (zz:D),(List.replicate n (D.it z))[j]?=some zz→(fun j:Nat=>some (j*i.size,i.size)) j=some (Ca ((List.replicate n (D.it z)).take j),zz.size):=by
     intro j zz Sv;have hj:j<n:=by have:=(List.getElem?_eq_some_iff.1 Sv).1;simpa using this
     have Azg:zz= .it z:=by rw[List.getElem?_replicate,if_pos hj]at Sv;cases Sv;rfl
     subst Azg;rw[Agb (sz:=i.size) (by intro x hx;rw[List.eq_of_mem_replicate hx];exact Ago) (by simp;omega)]
     simp[D.size,Ago]
    obtain⟨l,cells,Cv,G',σ',Af,hG,Ci,h2,h3,h3n,h3f,h4⟩:=Acp (place:=fun j=>some (j*i.size,i.size)) hr hp hw Asa List.nodup_nil (by simp) Ps
    obtain⟨⟨hl,Bk⟩,h2⟩:=h2;have Agi:cells.size=n*i.size:=by
     have:=Bi.length h3;rw[H7 Bk,hl]at this;simpa using this
    have hnm:n≤maxLen:=by simp only[maxLen];omega
    have hg:Rel G' σ' Fr w0 Af a (w.alloc (.cells cells e')):=Ci.grow rfl rfl rfl (by simp) fun b hb=>Pk w _ b hb
    obtain⟨f1,f2,f3⟩:=Ci.Bm.fresh (Nat.le_refl w.heap.size);obtain⟨H4,Gt,r1,r2⟩:=hg.Fv (P:=P) (Au d hd) (c:=.slice (some ⟨w.heap.size,0,none⟩) n n) ⟨w.heap.size::Cv,by
     simp only[A3,Value.cells];refine .inr ⟨w.heap.size,0,n,cells,cells.toList,Cv,by rw[hl],Row.of (heap_alloc_new w _),fun _=>⟨rfl,Agi⟩,by rw[hl];exact Nat.le_refl _,hnm,by rw[Nat.zero_add,Agi];exact Nat.le_refl _,?_,h3.tr (Mem.le.refl G') fun b hb=>Pk w _ b (h3f b hb).2.2.2,Bk,rfl⟩
     rw[hl, ←Agi];have:cells.size=cells.toList.length:=by simp
     rw[this,List.drop_zero,List.take_length],rfl,List.nodup_cons.2 ⟨fun hb=>by have:=(h3f _ hb).2.2.2;omega,h3n⟩,fun b hb=>by
     rcases List.mem_cons.1 hb with rfl|hb
     ·exact⟨f1,f2,f3,by simp⟩
     ·obtain⟨k1,k2,k3,k4⟩:=h3f b hb;exact⟨k1,k2,k3,by simp;omega⟩⟩ h2
    have Mj:¬(n*i.size>2^24):=by
     have:n*i.size≤4096*4096:=Nat.mul_le_mul hn4 hs4;omega
    have Tk:(ps.map fun(p:Nat × Operand)=>(p.1,a.eval p.2)).toList=ps.toList.map fun p=>(p.1,a.eval p.2):=by simp
    have hzero:(zeroValue e').run P w= .ok v w:=by simp[zeroValue,typeInfo,hi,hv]
    have Asg:(sizeOf e').run P w= .ok i.size w:=by simp[sizeOf,typeInfo,hi]
    refine Bv (w':=w.alloc (.cells cells e')) ?_ (by rw[hd];exact hn G' H4 Gt _ _ hG r1 r2)
    have Aw:n*i.size≠0:=Nat.mul_ne_zero hn0 h0;have h4':Instr.fill (fun j=>some (j*i.size,i.size)) ((Array.range (n*i.size)).map (fun j=>v.cells[j % v.cells.size]!)) (ps.toList.map fun p=>(p.1,a.eval p.2))=some cells:=h4
    simp only[execOp,ho,Instr.buildSlice,Sem.run_bind,run_underlying hu,Result.andThen,Asg];rw[if_neg Mj,if_neg Aw];simp only[Sem.run_bind,hzero,Result.andThen,Sem.run_pure,Tk,h4'];simp[newRow]
   ·cases ht
  ·cases ht
 ·cases ht
theorem Bi.append{l m:List D}{cs ds:List Value}{bs Cv:List Nat}(h:Bi G w l cs bs)(h':Bi G w m ds Cv):Bi G w (l++m) (cs++ds) (bs++Cv):=by
 induction l generalizing cs bs with
 |nil=>
  simp only[Bi]at h;obtain⟨rfl,rfl⟩:=h;exact h'
 |cons x l ih=>
  simp only[Bi]at h;obtain⟨c,c',b,b',rfl,rfl,h1,h2⟩:=h;simp only[List.cons_append,Bi];exact⟨c,c'++ds,b,b'++Cv,by simp,by simp,h1,ih h2⟩
theorem Acn{u:D}{ys:List D}{c:Value}{bs:List Nat}{sz:Nat}(h:Ni G σ Fr w u c bs)(Bu:Dt G σ Fr w0 w)(he:Aej u=some ys)(Bk:∀u∈ys,u.size=sz):
 ∃ad cap,c= .slice ad ys.length cap∧((ad=none∧ys=[])∨∃A news bn,ad=some A∧news.length=ys.length*sz∧Bi G w ys news bn∧bn.Nodup∧(∀b∈bn,b∈bs)∧∀j u,news[j]?=some u→w.cell? (A.add j)=some u):=by
 obtain⟨h1,h2,h3,h4⟩:=h;cases u with
 |vec e Bs l=>
  simp only[Aej,Option.some.injEq]at he;subst he;rw[Fp h2]at h1;simp only[A3]at h1;rcases h1 with⟨e1,rfl,_⟩|⟨g,off,cap,cur,xs,Cv,e1,⟨ty,fz,q1,_⟩,_,q2,q3,q4,q5,q6,q7,rfl⟩
  ·injection e1 with e1
   exact⟨none,0,e1,.inl ⟨rfl,rfl⟩⟩
  ·injection e1 with e1
   refine⟨_,cap,e1,.inr ⟨_,xs,Cv,rfl,?_,q6,(List.nodup_cons.1 h3).2,fun b hb=>by simp[hb],?_⟩⟩
   ·rw[Bi.length q6,H7 Bk]
   ·intro j u hj;rw[add_lit,cell_of_row w g (off+j) cur ty fz q1];have:cur[off+j]?=cur.toList[off+j]?:=by simp
    rw[this];rw[←q5,List.getElem?_take]at hj;split at hj
    ·rw[List.getElem?_drop]at hj;exact hj
    ·cases hj
 |it x=>
  cases x with
  |list l=>
   simp only[Aej,Option.some.injEq]at he;subst he;simp only[A3]at h1;obtain⟨h1,rfl⟩:=h1;rw[Fp h2]at h1;have hv:Aq G (.list l) c:=by
    unfold Aq;rw[if_neg (by simp[I.isAgg])]
    exact h1
   obtain⟨ad,cap,hc,K9,Np,Th⟩:=Aq.list.1 hv;refine⟨ad,cap,by simpa using hc,?_⟩
   rcases Th with rfl|⟨b,off,bl,ty,fz,Bs,rfl,hg,An1,hle,Ay⟩
   ·cases ad with
    |none=>exact .inl ⟨rfl,rfl⟩
    |some A=>exact .inr ⟨A,[],[],rfl,by simp,by simp[Bi],List.nodup_nil,by simp,by simp⟩
   ·cases l with
    |nil=>exact .inr ⟨_,[],[],rfl,by simp,by simp[Bi],List.nodup_nil,by simp,by simp⟩
    |cons y0 l'=>
     have Aza:Bs=sz:=by
      rw[←An1 y0 (by simp)]
      exact Bk (.it y0) (by simp)
     subst Aza;refine .inr ⟨_,_,[],rfl,?_,Bi.its.2 ⟨Ay,rfl⟩,List.nodup_nil,by simp,?_⟩
     ·rw[List.length_take,List.length_drop,Nat.min_eq_left]
      ·simp
      ·have:bl.toList.length=bl.size:=by simp
       omega
     ·intro j u hj;have hh:=Bu.fixed b _ hg;rw[add_lit,cell_of_row w b (off+j) bl ty fz hh];have:bl[off+j]?=bl.toList[off+j]?:=by simp
      rw[this];rw[List.getElem?_take]at hj;split at hj
      ·rwa [List.getElem?_drop]at hj
      ·cases hj
  |_=>simp[Aej]at he
 |_=>simp[Aej]at he
theorem A70{o:Oper}{d:Nat}{t e:TypeId}{x y:Operand}{x' y':Ar}{sz bytes:Nat}(hd:o.dst=some d)
 (ho:o.op= .call {callee:=.builtin .append,args:= #[x,y],argTypes:= #[t,t]}) (hx:Ax N x x'=true) (hy:Ax N y y'=true) (ht:Ao0 P t e sz bytes=true):
 Sound P N o (As6 d e sz bytes x' y'):=by
 intro G0 σ0 Fr w0 st0 a w Q next E hN hr hw hn Au
 subst hN;obtain⟨u,bu,G1,σ1,st1,hG1,E2,h1,hfu,_,_⟩:=Kb hr hy hw;obtain⟨v,bv,G,σ,st,Td,F2,h2,hfv,hlv,Ce⟩:=Kb E2 hx h1;have hG:G0.le G:=hG1.trans Td;clear hw h1;have Bop:=hfu
 replace hfu:=hfu.later Td Ce
 split at h2
 ·rename_i e' Bs l ys hys;obtain⟨⟨rfl,rfl,Vy,Gb,Bk,Mj⟩,h2⟩:=h2;obtain⟨v1,v2,v3,v4⟩:=hfv;rw[Fp v2]at v1;obtain⟨ad,cap,hcy,Th⟩:=Acn hfu F2.Bm hys Bk;have Agj:∀b∈bu,b ∉ bv:=fun b hb Br=>hlv b Br (Bop.2.2.2 b hb).2.2.1
  unfold Ao0 at ht;split at ht
  ·rename_i e'' hu;simp only[Bool.and_eq_true,beq_iff_eq]at ht;obtain⟨rfl,ht⟩:=ht;split at ht
   ·rename_i i hi;simp only[Bool.and_eq_true,beq_iff_eq,bne_iff_ne,ne_eq]at ht;obtain⟨⟨⟨rfl,rfl⟩,h0⟩,ht⟩:=ht;split at ht
    ·rename_i z hz;simp only[beq_iff_eq]at ht;have exec:∀{v' w'},(Builtin.append_ #[t,t] o.type #[a.eval x,a.eval y]).run P w= .ok v' w'→(execOp a.eval o).run P w= .ok (.value v') w':=by
      intro v' w' B0;simp[execOp,ho,resolve,invoke,builtin,B0]
     obtain⟨xs,bx,Cy,hxs,Bpb,hbx,Ap7⟩:∃xs bx,w.ownsRow 0 e'' i.size (a.eval x) l.length xs∧Bi G w l xs bx∧(∀x∈l,x.size=i.size)∧bx.Nodup∧
      ∀b,(b∈bx∨(a.eval x).ownBlock=some b)→(b∈bv∧(b∈bx→(a.eval x).ownBlock≠some b)):=by
      simp only[A3]at v1;rcases v1 with⟨e1,rfl,rfl⟩|⟨g,off,cp,cur,xs,Cv,e1,q1,q0,q2,q3,q4,q5,q6,q7,rfl⟩
      ·injection e1 with e1
       rw[e1];exact⟨[],[],(Ew.nil w e'' i.size).to Mj,by simp[Bi],by simp,List.nodup_nil,by simp[Value.ownBlock]⟩
      ·injection e1 with e1
       rw[e1];obtain⟨rfl,q4'⟩:=q0 Mj;refine⟨xs,Cv,⟨by rw[Bi.length q6,H7 q7],.inr ⟨g,cp,cur,rfl,Nat.zero_le _,q1.to Mj,q2,q3,q4',q5⟩⟩,q6,q7,(List.nodup_cons.1 v3).2,?_⟩
       intro b hb;simp only[Value.ownBlock,Option.some.injEq]at hb ⊢;rcases hb with hb|rfl
       ·exact⟨by simp[hb],fun _ e=>by cases e;exact(List.nodup_cons.1 v3).1 hb⟩
       ·exact⟨by simp,fun h e=>(List.nodup_cons.1 v3).1 h⟩
     have fin:∀{v':Value} {w':World} {row:Option Nat} {news:List Value} {bn:List Nat},(Builtin.append_ #[t,t] o.type #[a.eval x,a.eval y]).run P w= .ok v' w'→w.grownBy w' row→row=(a.eval x).ownBlock→
      Bi G w ys news bn→bn.Nodup→(∀b∈bn,b∈bu)→w'.ownsRow 0 e'' i.size v' (l.length+ys.length) (xs++news)→(v'.ownBlock=(a.eval x).ownBlock∨v'.ownBlock=some w.heap.size)→o.wp P a w next E:=by
      intro v' w' row news bn B0 Gm Gj hy1 hy2 hy3 hq1 Q9;have Bd3:∀b,row=some b→G b=none∧Fr b=none∧σ b=none:=fun b hb=>by
       obtain⟨k1,k2,k3,_⟩:=v4 b (Ap7 b (.inr (by rw[←Gj];exact hb))).1
       exact⟨k1,k2,k3⟩
      have hr3:=F2.Bcs Gm Bd3;have Apy:∀b∈bx++bn,(G b=none∧Fr b=none∧σ b=none∧b<w.heap.size)∧(a.eval x).ownBlock≠some b:=by
       intro b hb;rcases List.mem_append.1 hb with hb|hb
       ·obtain⟨k1,k2⟩:=Ap7 b (.inl hb);exact⟨v4 b k1,k2 hb⟩
       ·refine⟨hfu.2.2.2 b (hy3 b hb),fun e=>?_⟩
        exact Agj b (hy3 b hb) (Ap7 b (.inr e)).1
      have A6z:∀b∈bx++bn,w'.heap[b]?=w.heap[b]?:=fun b hb=>Gm.block b (Apy b hb).1.2.2.2 (by rw[Gj];exact fun e=>(Apy b hb).2 e.symm)
      have Ku:(bx++bn).Nodup:=by
       rw[List.nodup_append];refine⟨hbx,hy2,fun b hb c hc e=>?_⟩
       subst e;exact Agj b (hy3 b hc) (Ap7 b (.inl hb)).1
      have Ay:Bi G w' (l++ys) (xs++news) (bx++bn):=(hxs.append hy1).tr (Mem.le.refl G) A6z;have Ajo:∀z∈l++ys,z.size=i.size:=by
       intro z hz;rcases List.mem_append.1 hz with hz|hz
       ·exact Bpb z hz
       ·exact Bk z hz
      have hFB:R2 G σ Fr w' (.vec e'' i.size (l++ys)) v':=by
       have Bo1:=Ew.of hq1;rcases Bo1.2 with⟨rfl,hl0⟩|⟨g,cp,cur,rfl,_,k1,k2,k3,k4,k5⟩
       ·have hl:l=[]:=List.eq_nil_of_length_eq_zero (by omega)
        have hyl:ys=[]:=List.eq_nil_of_length_eq_zero (by omega)
        subst hl hyl;exact⟨[],by simp[A3,Value.cells],rfl,List.nodup_nil,by simp⟩
       ·refine⟨g::(bx++bn),?_,rfl,List.nodup_cons.2 ⟨fun hb=>?_,Ku⟩,fun b hb=>?_⟩
        ·simp only[A3,Value.cells];exact .inr ⟨g,0,cp,cur,xs++news,bx++bn,by simp,k1,fun _=>⟨rfl,k4⟩,by simpa using k2,k3,by rw[Nat.zero_add,k4];exact Nat.le_refl _,by simpa using k5,Ay,Ajo,rfl⟩
        ·rcases Q9 with h|h
         ·exact(Apy g hb).2 h.symm
         ·simp only[Value.ownBlock,Option.some.injEq]at h;have:=(Apy g hb).1.2.2.2;omega
        ·rcases List.mem_cons.1 hb with rfl|hb
         ·have Bb:b<w'.heap.size:=by
           obtain⟨_,_,k,_⟩:=k1;exact(Array.getElem?_eq_some_iff.1 k).1
          rcases Q9 with h|h
          ·obtain⟨q1,q2,q3,_⟩:=v4 b (Ap7 b (.inr h.symm)).1;exact⟨q1,q2,q3,Bb⟩
          ·simp only[Value.ownBlock,Option.some.injEq]at h;obtain⟨q1,q2,q3⟩:=F2.Bm.fresh (Nat.le_of_eq h.symm);exact⟨q1,q2,q3,Bb⟩
         ·obtain⟨q1,q2,q3,q4⟩:=(Apy b hb).1;exact⟨q1,q2,q3,Nat.lt_of_lt_of_le q4 Gm.size⟩
      obtain⟨σ',Af,r1,r2⟩:=hr3.Fv (P:=P) (Au d hd) hFB h2;exact Bv (exec B0) (by rw[hd];exact hn G σ' Af _ w' hG r1 r2)
     have Ayx:w.grownBy w (a.eval x).ownBlock:=⟨rfl,rfl,rfl,Nat.le_refl _,fun _ _ _=>rfl⟩
     rcases Th with⟨rfl,rfl⟩|⟨A,news,bn,rfl,hl,Ay,hbn,hbu,Ti⟩
     ·have B0:=V9 (P:=P) t o.type e'' i.size hu hi (a.eval x) l.length xs Cy cap;rw[show Value.slice none 0 cap=a.eval y from hcy.symm]at B0;exact fin (news:=[]) (bn:=[]) B0 Ayx rfl (by simp[Bi]) List.nodup_nil (by simp) (by simpa using Cy) (.inl rfl)
     ·obtain⟨v',w',B0,q1,q2,_,q3⟩:=run_append_own_at (P:=P) w 0 t o.type e'' i z i.size i.bytes hu hi hz rfl rfl ht (by omega) (a.eval x) l.length xs Cy A ys.length cap news hl Ti (Bi.one Ay) Gb Vy (Nat.zero_le _)
      rw[show Value.slice (some A) ys.length cap=a.eval y from hcy.symm]at B0;exact fin B0 q2 rfl Ay hbn hbu q1 q3
    ·cases ht
   ·cases ht
  ·cases ht
 ·exact h2.elim
end
end Go.Ab
