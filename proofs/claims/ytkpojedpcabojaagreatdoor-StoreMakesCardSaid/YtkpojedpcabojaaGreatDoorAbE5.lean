/- Lemmas -/
import Derived.Test.YtkpojedpcabojaaGreatDoorAbE3
set_option linter.unusedVariables false
set_option linter.unusedSimpArgs false
namespace Go.Ab
open Go.Op
def D.Uw:D→D
 | .st l=>.it (.agg (List.replicate (D7 l) .Ln))
 |_=>.it .Ln
theorem Ayt:∀n,sizes (List.replicate n I.Ln)=n
 |0=>rfl
 |n+1=>by simp[List.replicate_succ,sizes,I.size,Ayt n];omega
theorem A84{G:Mem}:∀{cs:List Value} {n:Nat},cs.length=n→(∀c∈cs,c.oneCell'=true)→B4 G (List.replicate n .Ln) cs
 | [],n,h,_=>by subst h;simp[B4]
 |c::cs,n,h,h1=>by
  subst h;simp only[Cg,List.replicate_succ,B4];exact⟨[c],cs,rfl,by simp only[Bi];exact⟨c,rfl,h1 c (by simp)⟩,A84 rfl fun x hx=>h1 x (by simp[hx])⟩
def D.whole:D→Bool
 | .it _=>false
 |_=>true
theorem Aty{u:D}(h:u.whole=true):u.Uw.isAgg=u.isAgg∧u.Uw.size=u.size∧u.leaf=false:=by
 cases u with
 |it x=>cases h
 |st l=>exact⟨rfl,Ayt _,rfl⟩
 |_=>exact⟨rfl,rfl,rfl⟩
theorem A2w{G:Mem}{w:World}{u:D}{cs:List Value}{bs:List Nat}(hw:u.whole=true)(h:Bp G w u cs bs)(G':Mem)(w':World):Bp G' w' u.Uw cs []:=by
 have hl:=Bp.length h;have h1:=Bp.one h;cases u with
 |it x=>cases hw
 |st l=>simp only[D.Uw,Bp,Bi,and_true];exact A84 hl h1
 |_=>
  simp only[D.Uw,Bp,Bi,and_true];simp only[D.size]at hl;obtain⟨c,rfl⟩:=E8.1 hl;exact⟨c,rfl,h1 c (by simp)⟩
def As7:D→Nat→Option Nat
 | .it x,i=>match x with
   | .agg l=>match l[i]? with
     |some _=>some (sizes (l.take i))
     |none=>none
   |_=>none
 | .st l,i=>match l[i]? with
   |some _=>some (D7 (l.take i))
   |none=>none
 |_,_=>none
def Ug(d:Option Nat)(s cur:Nat)(inv:Inv)(t:D)(p:List Nat)(u:D):M:=match D.put p t u.Uw with
 |some t'=>.set s (cur+1) (.own (bump inv p (cur+1)) t') (match d with
  |some d=>.Co (d≠s) fun _=>Eo d (.own [] u)
  |none=>.done)
 |none=>.fail
def A4h(d:Option Nat)(agg:Bool)(sz:Nat)(x:Bh):M:=rdD x fun s cur inv t p=>match D.at p t with
 |some u=>match u with
  | .it y=>.Co (y.isAgg=agg∧y.size=sz) fun _=>Ci d (.v y) .done
  | .vec _ _ _=>.Co (agg=false∧sz=1∧d≠some s) fun _=>Ci d (.bd s cur p) .done
  | .map _ _=>.Co (agg=false∧sz=1∧d≠some s) fun _=>Ci d (.bd s cur p) .done
  | .ptr _=>.Co (agg=false∧sz=1∧d≠some s) fun _=>Ci d (.pd s cur (p++[0])) .done
  | .st l=>.Co (agg=true∧D7 l=sz) fun _=>Ug d s cur inv t p (.st l)
 |none=>.fail
def A4i(d:Option Nat)(agg:Bool)(sz:Nat)(x:Bh):M:=rdD x fun s cur inv t p=>match D.at p t with
 |some u=>match u.Ap with
  |some y=>match D.put p t (.it y)with
   |some t'=>.Co (u.leaf=false∧y.isAgg=agg∧y.size=sz∧d≠some s) fun _=>.set s (cur+1) (.own (bump inv p (cur+1)) t') (Ci d (.v y) .done)
   |none=>.fail
  |none=>.fail
 |none=>.fail
def Um(x:Bh)(k:D→M):M:=match x with
 | .c x=>k (.it x)
 | .Fo e sz=>k (.vec e sz [])
 | .t n=>.get n fun ver sv=>match sv with
   | .vec e sz l=>.set n (ver+1) .no (k (.vec e sz (l.map D.it)))
   | .own _ t=>.set n (ver+1) .no (k t)
   | .bd s v p=>.get s fun cur Ek=>match Ek with
     | .own inv t=>.Co (Hv v inv p=true) fun _=>match D.at p t with
       |some u=>match D.put p t u.Uw with
        |some t'=>.Co (u.whole=true) fun _=>.set s (cur+1) (.own (bump inv p (cur+1)) t') (k u)
        |none=>.fail
       |none=>.fail
     |_=>.fail
   | .pd s v p=>match p with
     | [0]=>.get s fun cur Ek=>match Ek with
       | .own inv t=>match t with
         | .ptr d=>.Co (alive v inv [0]=true) fun _=>.set s (cur+1) .no (k (.ptr d))
         |_=>.fail
       |_=>.fail
     |_=>.fail
   | .par h=>.get h fun cur Ek=>match Ek with
     | .own _ t=>.set h (cur+1) .no (k t)
     |_=>.fail
   |_=>Q5 (.t n) fun u=>k (.it u)
def Ayo(sz:Nat)(ax vx:Bh):M:=Um vx fun u=>rdD ax fun s cur inv t p=>match D.at p t with
 |some u0=>match D.put p t u with
  |some t'=>.Co (u.isAgg=u0.isAgg∧u.size=u0.size∧u.size=sz) fun _=>match u0.leaf with
   |true=>.set s (cur+1) (.own inv t') .done
   |false=>.set s (cur+1) (.own (bump inv p (cur+1)) t') .done
  |none=>.fail
 |none=>.fail
section
variable{P:Program}{N:Nat}{G:Mem}{σ:Lab}{Fr:Mem}{w0:Base}{w:World}{st:St}{a:Act}
theorem Rel.A8a{s cur:Nat}{inv:Inv}{p:List Nat}{t t' u:D}{cs:List Value}{hh:Option (Nat × Nat)}(h:Rel G σ Fr w0 st a w)(hs:st[s]?=some (cur,.own inv t))(Dd:t.at p=some u)(hw:u.whole=true)(G8:t.put p u.Uw=some t')
 (Mx:spot w p t (none,(val a w0 s).cells.toList)=some (hh,cs)):
 ∃σ' Fw,Rel G σ' Fr w0 (st.set s (cur+1,.own (bump inv p (cur+1)) t')) a w∧Bp G w u cs Fw∧Fw.Nodup∧(∀b∈Fw,G b=none∧Fr b=none∧σ' b=none∧b<w.heap.size)∧(∀b∈Fw,σ b≠none)∧∀b,σ b=none→σ' b=none:=by
 obtain⟨bs,Ba,H7,F5,Jj⟩:=show Dr G σ w s t (val a w0 s)from h.Bj s cur _ hs;obtain⟨m,s',Fw,f1,f2,f3,f4,f5,f6⟩:=focus (here:=none) Ba F5 Dd
 rw[f1]at Mx;obtain rfl:=Cy Mx;obtain⟨Jg,Cq,Uq⟩:=Aty hw;obtain⟨Ge,Rj⟩:=Lq.same f5;obtain⟨Et,r1,r2,r3,r4,r5⟩:=f6 G w u.Uw cs [] t' (Mem.le.refl G) rfl Jg (A2w hw f2 G w) Dn (by simp) Ge G8
 simp only at Rj r1 r5;rw[Rj]at r1 r5;refine⟨σ.Xq Fw,Fw,?_,f2,f3,fun b hb=>?_,fun b hb hn=>?_,fun b hb=>by unfold Lab.Xq;split<;>first|rfl|exact hb⟩
 rotate_left 2
 ·obtain⟨k,hk⟩:=Jj b (f4 b hb);rw[hn]at hk;cases hk
 ·obtain⟨Zu,W4⟩:=Focus.refs (G:=G) (inv:=inv) (cur:=cur) r5;rw[Uq]at Zu W4;refine h.tree h.Bz.Xq (Mem.le.refl G) hs (Bk _) ?_ (fun e=>by omega) ?_ Zu W4
  ·intro s1 hs1 x k hx;refine⟨Lab.Pz.2 ⟨fun hm=>?_,hx⟩,rfl⟩
   obtain⟨k',Jn⟩:=Jj x (f4 x hm);rw[hx]at Jn;cases Jn;exact hs1 rfl
  ·refine⟨Et,r1,?_,r2,fun x hx=>?_⟩
   ·rw[r4];split
    ·rename_i hp;subst hp;simp only[D.at,Af]at Dd;subst Dd;rw[Jg];exact H7
    ·exact H7
   ·rcases(r3 x).1 hx with⟨h1,h2⟩|h1
    ·obtain⟨k,hk⟩:=Jj x h1;exact⟨k,Lab.Pz.2 ⟨h2,hk⟩⟩
    ·cases h1
 ·obtain⟨k,hk⟩:=Jj b (f4 b hb);obtain⟨k1,k2,k3⟩:=h.Bz.own b _ hk;exact⟨k1,k2,by simp[Lab.Xq,hb],k3⟩
theorem Rel.H3{Q:St→Prop}{d:Nat}{u:D}{c:Value}(h:Rel G σ Fr w0 st a w)(Up:d<w0.n)(hf:T6 G σ Fr w u c)(hq:(Eo d (.own [] u)).wp P Q st):
 ∃σ' st',Rel G σ' Fr w0 st' (a.put (some d) c) w∧Q st':=by
 obtain⟨bs,g1,g2,g3,g4⟩:=hf;simp only[Eo,M.wp]at hq;cases hd:st[d]? with
 |none=>simp[hd]at hq
 |some cur=>
  simp only[hd]at hq;have hK:∀b k,σ.drop d b=some (d,k)→k<0:=fun b k hb=>absurd rfl (Lab.D1.1 hb).1
  have Dj:Gc G ((σ.drop d).H3 d 0 bs) Fr w0 w:=(h.Bz.drop d).H3 hK fun b hb=>⟨(g4 b hb).1,(g4 b hb).2.1,(g4 b hb).2.2.2⟩
  refine⟨_,_,h.put Up Dj (Mem.le.refl G) hd (Bk _) ?_ ?_ (fun h e=>by cases e) W0,hq⟩
  ·intro s' Hf b k hb;refine⟨?_,rfl⟩;rw[Lab.Mf]
   ·exact Lab.D1.2 ⟨Hf,hb⟩
   ·intro hm;rw[(g4 b hm).2.2.1]at hb;cases hb
  ·exact⟨bs,g1,g2,g3,fun b hb=>⟨_,Lab.Me hb⟩⟩
theorem Fg.A9x{Ca:Nat × Nat}{e:TypeId}{sz:Nat}{l:List I}{c:Value}(h:Fg G σ w Ca e sz l c)(Dj:Gc G σ Fr w0 w){σ':Lab}(hσ:∀b,σ b=some Ca→σ' b=none):T6 G σ' Fr w (.vec e sz (l.map D.it)) c:=by
 obtain⟨xs,⟨hl,h1⟩,h2,h3,h4⟩:=h;rcases h1 with⟨rfl,h0⟩|⟨g,cap,cur,rfl,_,hg,hn,hm,hs,ht⟩
 ·obtain rfl:=Dg h0;exact⟨[],by simp[Bp,Value.cells],rfl,Dn,by simp⟩
 ·refine⟨[g],?_,rfl,by simp,?_⟩
  ·simp only[Bp,Value.cells];refine .inr ⟨g,0,cap,cur,xs,[],by simp,hg,fun _=>⟨rfl,hs⟩,by simpa using hn,hm,by rw[Bm,hs];exact Ay _,by simpa using ht,Ct.its.2 ⟨h2,rfl⟩,?_,rfl⟩
   intro x hx;obtain⟨y,hy,rfl⟩:=Cs.1 hx;exact h3 y hy
  ·intro b hb;obtain rfl:=Cx.1 hb;have Jj:=h4 b rfl;obtain⟨k1,k2,k3⟩:=Dj.own b _ Jj;exact⟨k1,k2,hσ b Jj,k3⟩
def Vk(G:Mem)(σ:Lab)(Fr:Mem)(w:World)(u:D)(c:Value)(bs:List Nat):Prop:=
 Bp G w u c.cells.toList bs∧valOf u.isAgg c=true∧bs.Nodup∧∀b∈bs,G b=none∧Fr b=none∧σ b=none∧b<w.heap.size
theorem Vk.free{u:D}{c:Value}{bs:List Nat}(h:Vk G σ Fr w u c bs):T6 G σ Fr w u c:=⟨bs,h⟩
theorem Vk.item{u:I}{c:Value}(h:Bb G u c):Vk G σ Fr w (.it u) c []:=by
 obtain⟨bs,h1,h2,h3,h4⟩:=T6.item (σ:=σ) (Fr:=Fr) (w:=w) h;have:bs=[]:=by simp only[Bp]at h1;exact h1.2
 subst this;exact⟨h1,h2,h3,h4⟩
theorem Vk.later{G':Mem}{σ':Lab}{u:D}{c:Value}{bs:List Nat}(h:Vk G σ Fr w u c bs)(hG:G.le G')(hk:∀b,σ b=none→G b=none→σ' b=none∧G' b=none):Vk G' σ' Fr w u c bs:=by
 obtain⟨h1,h2,h3,h4⟩:=h;refine⟨h1.tr hG fun _ _=>rfl,h2,h3,fun b hb=>?_⟩
 obtain⟨k1,k2,k3,k4⟩:=h4 b hb;obtain⟨q1,q2⟩:=hk b k3 k1;exact⟨q2,k2,q1,k4⟩
theorem Q4{x:Operand}{y:Bh}{k:D→M}{Q:St→Prop}(h:Rel G σ Fr w0 st a w)(ho:Bu w0.n x y=true)(hq:(Um y k).wp P Q st):
 ∃u bs G' σ' st',G.le G'∧Rel G' σ' Fr w0 st' a w∧(k u).wp P Q st'∧Vk G' σ' Fr w u (a.eval x) bs∧(∀b∈bs,σ b≠none)∧∀b,σ b=none→G b=none→σ' b=none∧G' b=none:=by
 cases y with
 |c i=>exact⟨_,[],G,σ,st,Mem.le.refl G,h,hq,Vk.item (Ud ho G),by simp,fun _ h1 h2=>⟨h1,h2⟩⟩
 |Fo e sz=>
  refine⟨_,[],G,σ,st,Mem.le.refl G,h,hq,?_,by simp,fun _ h1 h2=>⟨h1,h2⟩⟩
  rw[Nj ho];exact⟨by simp[Bp,Value.cells],rfl,Dn,by simp⟩
 |t n=>
  obtain⟨rfl,Ej⟩:=Gb ho;have hv:val a w0 n=a.eval (.tmp n):=G9 (by rw[h.n];exact Ej)
  simp only[Um,M.wp]at hq;cases hs:st[n]? with
  |none=>simp[hs]at hq
  |some cur=>
   obtain⟨ver,sv⟩:=cur;simp only[hs]at hq;have Ba:=h.slot Ej hs;have Bx7:(Q5 (.t n) fun u=>k (.it u)).wp P Q st→∃u bs G' σ' st',G.le G'∧Rel G' σ' Fr w0 st' a w∧(k u).wp P Q st'∧Vk G' σ' Fr w u (a.eval (.tmp n)) bs∧(∀b∈bs,σ b≠none)∧∀b,σ b=none→G b=none→σ' b=none∧G' b=none:=by
    intro hq;obtain⟨i,G',σ',st',h1,h2,h3,h4,h5⟩:=Avh h ho hq;exact⟨_,[],G',σ',st',h1,h2,h3,Vk.item h4,by simp,h5⟩
   cases sv with
   |vec e sz l=>
    have A95:∀b,σ b=some (n,0)→σ.drop n b=none:=fun b hb=>by simp[Lab.drop,hb]
    obtain⟨bs,hf⟩:=Fg.A9x Ba h.Bz A95;refine⟨_,bs,G,σ.drop n,_,Mem.le.refl G,h.drop hs (Bk _),hq,hf,fun b hb hn=>?_,fun b h1 h2=>⟨by simp[Lab.drop,h1],h2⟩⟩
    obtain⟨xs,h1,_,_,h4⟩:=Ba;have hrd:=hf.1;simp only[Bp]at hrd;rcases hrd with⟨_,_,rfl⟩|⟨g,off,cap,cur,xs',Et,e1,_,_,_,_,_,_,e2,_,rfl⟩
    ·cases hb
    ·obtain⟨_,rfl⟩:=Ct.its.1 e2;obtain rfl:=Cx.1 hb;rcases h1.2 with⟨h0,_⟩|⟨g',Z7,Gu,h0,_⟩
     ·rw[h0]at e1;simp[Value.cells]at e1
     ·have:=h4 g' (by rw[h0];rfl)
      rw[h0]at e1;simp[Value.cells]at e1;rw[e1.1.1]at this;rw[hn]at this;cases this
   |own inv t=>
    obtain⟨bs,g1,g2,g3,g4⟩:=Ba;refine⟨_,bs,G,σ.drop n,_,Mem.le.refl G,h.drop hs (Bk _),hq,⟨g1,g2,g3,fun b hb=>?_⟩,fun b hb hn=>?_,fun b h1 h2=>⟨by simp[Lab.drop,h1],h2⟩⟩
    rotate_left 1
    ·obtain⟨kk,hk⟩:=g4 b hb;rw[hn]at hk;cases hk
    obtain⟨kk,hk⟩:=g4 b hb;obtain⟨k1,k2,k3⟩:=h.Bz.own b _ hk;refine⟨k1,k2,?_,k3⟩;simp[Lab.drop,hk]
   |bd s v p=>
    obtain⟨cur,h1,h2,h3⟩:=Ba;simp only[M.wp,h1]at hq;obtain⟨cv,Hh⟩:=cur;cases Hh with
    |own inv t=>
     obtain⟨ha,hq⟩:=hq;split at hq
     ·rename_i u Dd;split at hq
      ·rename_i t' G8;obtain⟨hw,hq⟩:=hq;have hhd:=h3 inv t rfl ha;obtain⟨hh,B2j,_,_,Mx⟩:=R7.read (h.Bj s cv _ h1) Dd hhd;obtain⟨u1,_,e1,e0,_⟩:=hhd;rw[Dd]at e1;obtain rfl:=Cy e1;obtain⟨σ',Fw,r1,r2,r3,r4,r5,r6⟩:=h.A8a h1 Dd hw G8 Mx;refine⟨u,Fw,G,σ',_,Mem.le.refl G,r1,hq,⟨?_,?_,r3,r4⟩,r5,fun b h1 h2=>⟨r6 b h1,h2⟩⟩
       ·have Uo:=Bp.one r2 (a.eval (.tmp n)) (by simp)
        have:(a.eval (.tmp n)).cells.toList=[a.eval (.tmp n)]:=by
         generalize a.eval (.tmp n)=c at Uo ⊢;cases c<;>first|rfl|(simp[Value.oneCell']at Uo)
        rw[this];exact r2
       ·have:u.isAgg=false:=by cases u<;>first|rfl|cases e0
        rw[this];have Uo:=Bp.one r2 (a.eval (.tmp n)) (by simp)
        generalize a.eval (.tmp n)=c at Uo ⊢;cases c<;>first|rfl|(simp[Value.oneCell']at Uo)
      ·exact hq.elim
     ·exact hq.elim
    |_=>exact hq.elim
   |par hh=>
    obtain⟨Na,hle⟩:=h.Nv n ver hh hs;rw[hv]at Na;simp only[M.wp]at hq;cases h1:st[hh]? with
    |none=>simp[h1]at hq
    |some cur=>
     obtain⟨cv,Hh⟩:=cur;simp only[h1]at hq;cases Hh with
     |own inv t=>
      obtain⟨bs,g1,g2,g3,g4⟩:=show Dr G σ w hh t (val a w0 hh)from h.Bj hh cv _ h1;rw[←Na]at g1 g2;refine⟨_,bs,G,σ.drop hh,_,Mem.le.refl G,h.drop h1 (Bk _),hq,⟨g1,g2,g3,fun b hb=>?_⟩,fun b hb hn=>?_,fun b h1 h2=>⟨by simp[Lab.drop,h1],h2⟩⟩
      rotate_left 1
      ·obtain⟨kk,hk⟩:=g4 b hb;rw[hn]at hk;cases hk
      obtain⟨kk,hk⟩:=g4 b hb;obtain⟨k1,k2,k3⟩:=h.Bz.own b _ hk;refine⟨k1,k2,?_,k3⟩;simp[Lab.drop,hk]
     |_=>exact hq.elim
   |pd s v p=>
    obtain⟨⟨cv,svx⟩,e1,hle,Pj⟩:=Ba;dsimp only at hq;split at hq
    case h_2=>exact hq.elim
    simp only[M.wp,e1]at hq;split at hq
    case h_2=>exact hq.elim
    split at hq
    case h_2=>exact hq.elim
    rename_i inv _ d;obtain⟨X7,hq⟩:=hq;have Fm:=show Dr G σ w s (.ptr d) (val a w0 s)from h.Bj s _ _ e1;have hce:=Fm.A0i (Pj inv _ rfl (by simp) X7)
    obtain⟨bs,g1,g2,g3,g4⟩:=Fm;rw[←hce]at g1 g2;refine⟨_,bs,G,σ.drop s,_,Mem.le.refl G,h.drop e1 (Bk _),hq,⟨g1,g2,g3,fun b hb=>?_⟩,fun b hb hn=>?_,fun b h1 h2=>⟨by simp[Lab.drop,h1],h2⟩⟩
    rotate_left 1
    ·obtain⟨kk,hk⟩:=g4 b hb;rw[hn]at hk;cases hk
    obtain⟨kk,hk⟩:=g4 b hb;obtain⟨k1,k2,k3⟩:=h.Bz.own b _ hk;exact⟨k1,k2,by simp[Lab.drop,hk],k3⟩
   |_=>exact Bx7 hq
theorem Aoj{x:Operand}{y:Bh}{k:D→M}{Q:St→Prop}(h:Rel G σ Fr w0 st a w)(ho:Bu w0.n x y=true)(hq:(Um y k).wp P Q st):
 ∃u G' σ' st',G.le G'∧Rel G' σ' Fr w0 st' a w∧(k u).wp P Q st'∧T6 G' σ' Fr w u (a.eval x):=by
 obtain⟨u,bs,G',σ',st',h1,h2,h3,h4,_⟩:=Q4 h ho hq;exact⟨u,G',σ',st',h1,h2,h3,h4.free⟩
theorem A8x{o:Oper}{Q:St→Prop}{next:Act→World→Prop}{E:Exit→Act→World→Prop}{s cur:Nat}{inv:Inv}{t:D}{q:List Nat}{c:Value}(hr:Rel G σ Fr w0 st a w)(A9:∀d,o.dst=some d→d<w0.n)(hs:st[s]?=some (cur,.own inv t))
 (hn:∀G' σ' st' a' w',G.le G'→Rel G' σ' Fr w0 st' a' w'→Q st'→next a' w') (A2:o.dst≠some s) (hp:Qc w t (val a w0 s) q c) (Ez:(execOp a.eval o).run P w= .ok (.value c) w)
 (hq:(Ci o.dst (.pd s cur q) .done).wp P Q st):o.wp P a w next E:=by
 obtain⟨σ',st',r1,r2⟩:=hr.Ci A9 (sv:=.pd s cur q) (c:=c) (fun d' hd ver _=>by
  refine⟨_,by rw[Az (by rintro rfl;exact A2 hd)];exact hs,Ay _,fun Kj t' e _ _=>?_⟩
  cases e;rw[Db (by rintro rfl;exact A2 hd)]
  exact hp) hq
 exact Df Ez (hn G σ' st' _ w (Mem.le.refl G) r1 r2)
theorem A8w{o:Oper}{Q:St→Prop}{next:Act→World→Prop}{E:Exit→Act→World→Prop}{s cur:Nat}{inv:Inv}{t:D}{q:List Nat}{c:Value}(hr:Rel G σ Fr w0 st a w)(A9:∀d,o.dst=some d→d<w0.n)(hs:st[s]?=some (cur,.own inv t))
 (hn:∀G' σ' st' a' w',G.le G'→Rel G' σ' Fr w0 st' a' w'→Q st'→next a' w') (A2:o.dst≠some s) (hp:R7 w t (val a w0 s) q c) (Ez:(execOp a.eval o).run P w= .ok (.value c) w)
 (hq:(Ci o.dst (.bd s cur q) .done).wp P Q st):o.wp P a w next E:=by
 obtain⟨σ',st',r1,r2⟩:=hr.Ci A9 (sv:=.bd s cur q) (c:=c) (fun d' hd ver _=>by
  refine⟨_,by rw[Az (by rintro rfl;exact A2 hd)];exact hs,Ay _,fun Kj t' e _=>?_⟩
  cases e;rw[Db (by rintro rfl;exact A2 hd)]
  exact hp) hq
 exact Df Ez (hn G σ' st' _ w (Mem.le.refl G) r1 r2)
theorem Aiu{t:TypeId}{agg:Bool}{b off:Nat}{bl:Array Value}{ty:TypeId}{fz:Nat × Nat}{pre cs post:List Value}(h:Mq P t agg cs.length=true)(hc:agg=false→cs.length=1)
 (hh:w.heap[b]?=some (.cells bl ty fz)) (hs:bl.toList=pre++cs++post) (hp:pre.length=off) (h1:∀c∈cs,c.oneCell'=true):
 ∃v,(loadVar t ⟨b,off,none⟩).run P w= .ok v w∧v.cells.toList=cs∧valOf agg v=true:=by
 obtain⟨k1,k2⟩:=Ka (P:=P) h hh hs hp;cases agg with
 |true=>exact⟨_,k1 rfl,rfl,rfl⟩
 |false=>
  obtain⟨c,rfl⟩:=E8.1 (hc rfl);refine⟨c,k2 c rfl rfl,?_,?_⟩;all_goals
   have:=h1 c (by simp)
   cases c<;>first|rfl|(simp[Value.oneCell']at this)
theorem A6n{o:Oper}{t:TypeId}{x:Operand}{x':Bh}{agg:Bool}{sz:Nat}(ho:o.op= .load t x)(hx:Bu N x x'=true)(ht:Mq P t agg sz=true):Sound P N o (A4h o.dst agg sz x'):=by
 intro G σ Fr w0 st a w Q next E hN hr hw hn A9
 subst hN;have run:∀{b off:Nat} {v:Value},a.eval x= .pointer (some ⟨b,off,none⟩)→(loadVar t ⟨b,off,none⟩).run P w= .ok v w→(execOp a.eval o).run P w= .ok (.value v) w:=by
  intro b off v hp hl;simp[execOp,ho,hp,Instr.loadAt,Instr.sureAddr,hl]
 obtain⟨s,cur,inv,tr,p,h1,hs,hp0,Pj⟩:=Apb hr hx hw;have Fm:=hr.Bj s cur _ hs;split at h1
 ·rename_i u Dd;obtain⟨b,off,bl,ty,fz,pre,cs,post,Fw,e1,e2,e3,e4,e5,e6,e7⟩:=Qc.block Fm Dd Pj;have Acj:=Bp.one e5;have hlen:=Bp.length e5;cases u with
  |it y=>
   obtain⟨⟨rfl,rfl⟩,h1⟩:=h1;simp only[Bp]at e5;obtain⟨v,hl,hv⟩:=Wf (P:=P) ht e2 e3 e4 e5.1;exact Gn hr hn A9 hv h1 (run e1 hl)
  |vec e Ex l=>
   obtain⟨⟨rfl,rfl,A2⟩,h1⟩:=h1;obtain⟨c,rfl⟩:=E8.1 hlen;have hl:=(Ka (P:=P) (cs:=[c]) ht e2 e3 e4).2 c rfl rfl;exact A8w hr A9 hs hn A2 ⟨_,_,Dd,rfl,e7⟩ (run e1 hl) h1
  |map ks vs=>
   obtain⟨⟨rfl,rfl,A2⟩,h1⟩:=h1;obtain⟨c,rfl⟩:=E8.1 hlen;have hl:=(Ka (P:=P) (cs:=[c]) ht e2 e3 e4).2 c rfl rfl;exact A8w hr A9 hs hn A2 ⟨_,_,Dd,rfl,e7⟩ (run e1 hl) h1
  |ptr d=>
   obtain⟨⟨rfl,rfl,A2⟩,h1⟩:=h1;obtain⟨c,rfl⟩:=E8.1 hlen;have hl:=(Ka (P:=P) (cs:=[c]) ht e2 e3 e4).2 c rfl rfl;simp only[Bp]at e5;obtain⟨g,cells,ty',Et,q1,q2,_⟩:=e5;injection q1 with q1
   subst q1;refine A8x hr A9 hs hn A2 ⟨d,g,0,cells.toList,by rw[V7 Dd];rfl,?_,rfl⟩ (run e1 hl) h1
   rw[Sd Dd e7 (y:=d) rfl];simp[Dz,q2]
  |st l=>
   obtain⟨⟨rfl,Cq⟩,h1⟩:=h1;unfold Ug at h1;split at h1
   ·rename_i t' G8;obtain⟨v,hl,hvc,H7⟩:=Aiu (P:=P) (cs:=cs) (agg:=true) (by rw[hlen];show Mq P t true (D7 l)=true;rw[Cq];exact ht) (by intro e;cases e) e2 e3 e4 Acj
    obtain⟨σ',Mb,r1,r2,r3,r4,_⟩:=hr.A8a hs Dd rfl G8 e7;simp only[M.wp]at h1;cases hd:o.dst with
    |none=>
     rw[hd]at h1;exact Df (run e1 hl) (by rw[hd];exact hn G σ' _ _ w (Mem.le.refl G) r1 h1)
    |some d=>
     rw[hd]at h1;obtain⟨A2,h1⟩:=h1;obtain⟨σ2,st2,k1,k2⟩:=r1.H3 (A9 d hd) (u:=.st l) (c:=v) ⟨Mb,by rw[hvc];exact r2,H7,r3,r4⟩ h1
     exact Df (run e1 hl) (by rw[hd];exact hn G σ2 st2 _ w (Mem.le.refl G) k1 k2)
   ·exact h1.elim
 ·exact h1.elim
theorem A6o{o:Oper}{t:TypeId}{x:Operand}{x':Bh}{agg:Bool}{sz:Nat}(ho:o.op= .load t x)(hx:Bu N x x'=true)(ht:Mq P t agg sz=true):Sound P N o (A4i o.dst agg sz x'):=by
 intro G σ Fr w0 st a w Q next E hN hr hw hn A9
 subst hN;obtain⟨s,cur,inv,tr,p,h1,hs,hp0,Pj⟩:=Apb hr hx hw;have Fm:=hr.Bj s cur _ hs;split at h1
 ·rename_i u Dd;split at h1
  ·rename_i y hy;split at h1
   ·rename_i t' G8;obtain⟨⟨Uq,rfl,rfl,A2⟩,h1⟩:=h1;obtain⟨b,off,bl,ty,fz,pre,cs,post,Fw,e1,e2,e3,e4,e5,e6,e7⟩:=Qc.block Fm Dd Pj;obtain⟨G',σ',hG,r1,r2,_⟩:=hr.Aq4 hs Dd Uq hy G8;have hI:=r2 _ _ e7;obtain⟨v,hl,hv⟩:=Wf (P:=P) (w:=w) ht e2 e3 e4 hI;obtain⟨σ2,st2,k1,k2⟩:=r1.Awx A9 hv h1;refine Df (w':=w) ?_ (hn G' σ2 st2 _ w hG k1 k2);simp[execOp,ho,e1,Instr.loadAt,Instr.sureAddr,hl]
   ·exact h1.elim
  ·exact h1.elim
 ·exact h1.elim
theorem A54{u:D}{i off:Nat}{b o:Nat}{cs:List Value}(h:As7 u i=some off):∃y Jw,u.Cr i=some y∧Dz w u (some (b,o),cs) i=some (some (b,o+off),Jw):=by
 cases u with
 |it x=>
  cases x with
  |agg l=>
   simp only[As7]at h;split at h
   ·rename_i y hy;cases h;exact⟨_,_,by simp only[D.Cr,hy];rfl,by simp only[Dz,hy,Wb];rfl⟩
   ·cases h
  |_=>cases h
 |st l=>
  simp only[As7]at h;split at h
  ·rename_i y hy;cases h;exact⟨_,_,hy,by simp only[Dz,hy,Wb];rfl⟩
  ·cases h
 |_=>cases h
theorem A42{o:Oper}{t:TypeId}{x y:Operand}{x' y':Bh}{agg:Bool}{sz:Nat}(hd:o.dst=none)(ho:o.op= .store t x y)(hx:Bu N x x'=true)(hy:Bu N y y'=true)(ht:Mq P t agg sz=true):
 Sound P N o (Ayo sz x' y'):=by
 intro G σ Fr w0 st a w Q next E hN hr hw hn A9
 subst hN;obtain⟨u,G',σ',st',hG,D2,h1,hf⟩:=Aoj hr hy hw;obtain⟨s,cur,inv,tr,p,h1,hs,hp0,Pj⟩:=Apb D2 hx h1;split at h1
 ·rename_i u0 Dd;split at h1
  ·rename_i t' G8;obtain⟨⟨Jg,Cq,Bxj⟩,h1⟩:=h1;obtain⟨b,of,w',σ2,e1,e2,e3⟩:=D2.Bj9 (P:=P) (tt:=t) (agg:=agg) hs Dd G8 hf Jg Cq Pj (by rw[←Cq,Bxj];exact ht)
   refine Abj (w':=w') ?_ ?_
   ·simp[execOp,ho,e1,Instr.storeAt,Instr.sureAddr,e2]
   ·rw[hd];refine hn G' σ2 _ _ w' hG e3 ?_;cases hl:u0.leaf<;>rw[hl]at h1<;>simp only[M.wp]at h1<;>simpa using h1
  ·exact h1.elim
 ·exact h1.elim
end

open Go.Op
mutual
def zD:D→List Value→Option (List Value)
 | .it x,cs=>zI x cs
 | .st l,cs=>zDs l cs
 | .vec _ _ [],.slice none 0 0::cs=>some cs
 |_,_=>none
def zDs:List D→List Value→Option (List Value)
 | [],cs=>some cs
 |d::l,cs=>match zD d cs with
  |some cs=>zDs l cs
  |none=>none
end
mutual
theorem A86(G:Mem)(w:World):∀(d:D) (cs rest:List Value),zD d cs=some rest→∃c,cs=c++rest∧Bp G w d c []
 | .it x,cs,rest,h=>by
   simp only[zD]at h;obtain⟨c,e,h⟩:=Abx G x cs rest h;exact⟨c,e,by simp only[Bp,and_true];exact h⟩
 | .st l,cs,rest,h=>by
   simp only[zD]at h;obtain⟨c,e,h⟩:=Asc G w l cs rest h;exact⟨c,e,by simp only[Bp];exact h⟩
 | .vec e sz [],cs,rest,h=>by
   cases cs with
   |nil=>simp[zD]at h
   |cons c r=>
    cases c<;>first|(simp[zD]at h;done)|skip
    rename_i ad n m;cases ad<;>cases n<;>cases m<;>first|(simp[zD]at h;done)|skip
    simp only[zD,Af]at h;subst h;exact⟨[.slice none 0 0],rfl,by simp[Bp]⟩
 | .vec e sz (_::_),cs,rest,h=>by simp[zD]at h
 | .ptr d,cs,rest,h=>by simp[zD]at h
 | .map ks vs,cs,rest,h=>by simp[zD]at h
theorem Asc(G:Mem)(w:World):∀(l:List D) (cs rest:List Value),zDs l cs=some rest→∃c,cs=c++rest∧Ct G w l c []
 | [],cs,rest,h=>by simp only[zDs,Af]at h;subst h;exact⟨[],rfl,by simp[Ct]⟩
 |d::l,cs,rest,h=>by
  simp only[zDs]at h;split at h
  ·rename_i Jw hd;obtain⟨c,rfl,h1⟩:=A86 G w d cs Jw hd;obtain⟨c',rfl,h2⟩:=Asc G w l Jw rest h;refine⟨c++c',by simp,?_⟩
   simp only[Ct];exact⟨c,c',[],[],rfl,rfl,h1,h2⟩
  ·cases h
end
def Aw3(P:Program)(t:TypeId)(x:D):Bool:=match P.info? t with
 |some i=>match i.zero with
  |some z=>match zD x z.cells.toList with
   |some []=>true
   |_=>false
  |none=>false
 |none=>false
def Ayg(d:Nat)(t:D):M:=Eo d (.own [] (.ptr t))
def A8g(d:Nat)(x:Bh):M:=Um x fun u=>Eo d (.own [] (.ptr u))
def Abg:List (Nat × Bh)→List D→(List D→M)→M
 | [],zs,k=>k zs
 |(i,x)::ps,zs,k=>Um x fun u=>match zs[i]? with
  |some z=>.Co (u.size=z.size) fun _=>Abg ps (zs.set i u) k
  |none=>.fail
def Ayj(d:Nat)(zs:List D)(ps:List (Nat × Bh)):M:=Abg ps zs fun l=>Eo d (.own [] (B7 l))
def Aqz(P:Program)(t:TypeId)(zs:List D):Bool:=match P.underlying t,P.info? t with
 |some (.struct fs),some i=>(match i.zero with
  |some z=>match zDs zs z.cells.toList with
   |some []=>true
   |_=>false
  |none=>false)&&
  fs.size==zs.length&&(List.range zs.length).all fun j=>match fs[j]?,zs[j]? with
   |some f,some z=>f.offset==D7 (zs.take j)&&match P.info? f.type with
    |some i=>i.size==z.size
    |none=>false
   |_,_=>false
 |_,_=>false
def Auw(d:Nat)(e:TypeId)(sz:Nat)(z:I)(n:Nat)(ps:List (Nat × Bh)):M:=Abg ps (List.replicate n (.it z)) fun l=>.Co (l.length=n∧∀u∈l,u.size=sz) fun _=>Eo d (.own [] (.vec e sz l))
def Af9:D→Option (List D)
 | .vec _ _ l=>some l
 | .it x=>match x with
   | .list l=>some (l.map D.it)
   |_=>none
 |_=>none
def Awt(d:Nat)(e:TypeId)(sz bytes:Nat)(x y:Bh):M:=Um y fun u=>Um x fun v=>match v,Af9 u with
 | .vec e' Ex l,some ys=>.Co (e'=e∧Ex=sz∧(l.length+ys.length)*bytes≤140737488355328∧l.length+ys.length≤maxLen∧(∀u∈ys,u.size=sz)∧e<1000000) fun _=>Eo d (.own [] (.vec e sz (l++ys)))
 |_,_=>.fail
section
variable{P:Program}{N:Nat}{G:Mem}{σ:Lab}{Fr:Mem}{w0:Base}{w:World}{st:St}{a:Act}
theorem Rel.Adf{w':World}{row:Option Nat}(h:Rel G σ Fr w0 st a w)(hg:w.grownBy w' row)(Kc:∀b,row=some b→G b=none∧Fr b=none∧σ b=none):Rel G σ Fr w0 st a w':=by
 have lt:∀{b:Nat} {o:Obj},w.heap[b]?=some o→b<w.heap.size:=fun h=>(C3.1 h).1
 have Mk:∀b Ca,σ b=some Ca→w'.heap[b]?=w.heap[b]?:=fun b Ca hb=>
  hg.block b (h.Bz.own b Ca hb).2.2 (by intro e;obtain⟨_,_,k⟩:=Kc b e.symm;rw[k]at hb;cases hb)
 have Dj:Gc G σ Fr w0 w':=by
  refine⟨?_,?_,h.Bz.inj,?_,hg.os.trans h.Bz.os,hg.tape.trans h.Bz.tape,hg.output.trans h.Bz.output,C2 h.Bz.size hg.size,h.Bz.apart,h.Bz.Mv⟩
  ·intro b o hb;have:=h.Bz.fixed b o hb;rw[hg.block b (lt this) (by intro e;obtain⟨k,_,_⟩:=Kc b e.symm;rw[k]at hb;cases hb)]
   exact this
  ·intro b Ca hb;obtain⟨h1,h2,h3⟩:=h.Bz.own b Ca hb;exact⟨h1,h2,Nat.lt_of_lt_of_le h3 hg.size⟩
  ·intro b o hb;have:=h.Bz.frame b o hb;rw[hg.block b (lt this) (by intro e;obtain⟨_,k,_⟩:=Kc b e.symm;rw[k]at hb;cases hb)]
   exact this
 exact⟨Dj,h.defers,h.n,h.len,fun s ver sv hs=>(h.Bj s ver sv hs).Mk (Mem.le.refl G) (fun s' b k hb=>⟨hb,Mk b _ hb⟩) h.Bj,h.Nv⟩
theorem Apr{Q:St→Prop}{d:Nat}{u:D}{bs:List Nat}{cells:Array Value}{e:TypeId}(h:Rel G σ Fr w0 st a w)(Up:d<w0.n)(hu:Bp G w u cells.toList bs)(F5:bs.Nodup)
 (hf:∀b∈bs,G b=none∧Fr b=none∧σ b=none∧b<w.heap.size) (hq:(Eo d (.own [] (.ptr u))).wp P Q st):
 ∃σ' st',Rel G σ' Fr w0 st' (a.put (some d) (.pointer (some ⟨w.heap.size,0,none⟩))) (w.alloc (.cells cells e))∧Q st':=by
 have hr:Rel G σ Fr w0 st a (w.alloc (.cells cells e)):=h.grow rfl rfl rfl (by simp) fun b hb=>M3 w _ b hb
 obtain⟨f1,f2,f3⟩:=h.Bz.fresh (Ay w.heap.size);refine hr.H3 Up ⟨w.heap.size::bs,?_,rfl,Bs.2 ⟨fun hb=>?_,F5⟩,fun b hb=>?_⟩ hq
 ·simp only[Bp,Value.cells];exact⟨w.heap.size,cells,e,bs,rfl,heap_alloc_new w _,hu.tr (Mem.le.refl G) fun b hb=>M3 w _ b (hf b hb).2.2.2,rfl⟩
 ·have:=(hf _ hb).2.2.2;omega
 ·rcases Ah.1 hb with rfl|hb
  ·exact⟨f1,f2,f3,by simp⟩
  ·obtain⟨k1,k2,k3,k4⟩:=hf b hb;exact⟨k1,k2,k3,by simp;omega⟩
theorem A4t{o:Oper}{e:TypeId}{d:Nat}{t:D}(hd:o.dst=some d)(ho:o.op= .alloc e)(hz:Aw3 P e t=true):Sound P N o (Ayg d t):=by
 intro G σ Fr w0 st a w Q next E hN hr hw hn A9
 subst hN;unfold Aw3 at hz;split at hz
 ·rename_i i hi;split at hz
  ·rename_i z hzv;split at hz
   ·rename_i hzd;obtain⟨c,hc,Ba⟩:=A86 G w t _ _ hzd;rw[Dk]at hc;obtain⟨σ',st',h1,h2⟩:=Apr (P:=P) (e:=e) (cells:=z.cells) hr (A9 d hd) (by rw[hc];exact Ba) Dn (by simp) hw
    refine Df (w':=w.alloc (.cells z.cells e)) ?_ (by rw[hd];exact hn G σ' st' _ _ (Mem.le.refl G) h1 h2)
    simp[execOp,ho,Instr.alloc,zeroValue,typeInfo,hi,hzv,newVar,newRow]
   ·cases hz
  ·cases hz
 ·cases hz
theorem Bbv{o:Oper}{e:TypeId}{d:Nat}{x:Operand}{x':Bh}(hd:o.dst=some d)(ho:o.op= .box e x)(hx:Bu N x x'=true):Sound P N o (A8g d x'):=by
 intro G σ Fr w0 st a w Q next E hN hr hw hn A9
 subst hN;obtain⟨u,bs,G',σ',st',hG,D2,h1,⟨f1,f2,f3,f4⟩,_⟩:=Q4 hr hx hw;obtain⟨Qj,Nx,h2,h3⟩:=Apr (P:=P) (e:=e) (cells:=(a.eval x).cells) D2 (A9 d hd) f1 f3 f4 h1;refine Df (w':=w.alloc (.cells (a.eval x).cells e)) ?_ (by rw[hd];exact hn G' Qj Nx _ _ hG h2 h3)
 simp[execOp,ho,Instr.box,newVar,newRow]
theorem Afc{place:Nat→Option (Nat × Nat)}{Q:St→Prop}:∀{ps:List (Nat × Operand)} {Qh:List (Nat × Bh)} {zs:List D} {cells:Array Value} {bs:List Nat} {k:List D→M} {G:Mem} {σ:Lab} {st:St},
 Rel G σ Fr w0 st a w→M8 w0.n ps Qh=true→(Abg Qh zs k).wp P Q st→Ct G w zs cells.toList bs→bs.Nodup→(∀b∈bs,G b=none∧Fr b=none∧σ b=none∧b<w.heap.size)→
 (∀i z,zs[i]?=some z→place i=some (D7 (zs.take i),z.size))→
 ∃zs' Qs Et G' σ' st',G.le G'∧Rel G' σ' Fr w0 st' a w∧(k zs').wp P Q st'∧Ct G' w zs' Qs.toList Et∧Et.Nodup∧(∀b∈Et,G' b=none∧Fr b=none∧σ' b=none∧b<w.heap.size)∧
  Instr.fill place cells (ps.map fun p=>(p.1,a.eval p.2))=some Qs
 | [],[],zs,cells,bs,k,G,σ,st,hr,_,hq,hz,F5,hf,_=>⟨zs,cells,bs,G,σ,st,Mem.le.refl G,hr,hq,hz,F5,hf,rfl⟩
 |(i,x)::ps,(j,y)::Qh,zs,cells,bs,k,G,σ,st,hr,ho,hq,hz,F5,hf,Ju=>by
  simp only[M8,Ad,beq_iff_eq]at ho;obtain⟨⟨rfl,ho⟩,hos⟩:=ho;obtain⟨u,bu,G',σ',st',hG,D2,h1,⟨g1,g2,g3,g4⟩,g5,g6⟩:=Q4 hr ho hq;cases hzi:zs[i]? with
  |none=>simp only[hzi]at h1;exact h1.elim
  |some z=>
   simp only[hzi]at h1;obtain⟨Cq,h1⟩:=h1;obtain⟨c1,c,c2,b1,b,b2,e1,rfl,e2,e3,Fq,_⟩:=Ct.nth hz hzi;have Eh:c.length=(a.eval x).cells.size:=by
    rw[Bp.length e3, ←Cq, ←Bp.length g1];simp
   have A96:=A1j (v:=a.eval x) (off:=D7 (zs.take i)) e1 e2 Eh;have W9:=Ju i z hzi;have hbu:∀x∈bu,x ∉ b1++b++b2:=fun x hx hm=>g5 x hx (hf x hm).2.2.1
   obtain⟨n1,n2⟩:=Aa9 F5 g3 fun x hx=>.inr (hbu x hx)
   obtain⟨zs',Qs,Et,X5,Qj,Nx,Wa,A2m,h2,h3,h4,h5,h6⟩:=Afc (place:=place) D2 hos h1 (bs:=b1++bu++b2) (cells:=(a.eval x).cells.zipIdx.foldl (fun(cs:Array Value) (p:Value × Nat)=>cs.setIfInBounds (D7 (zs.take i)+p.2) p.1) cells)
    (by rw[A96];exact Fq G' w u _ bu hG g1 fun _ _=>rfl) n1 (fun x hx=>by
      rcases(n2 x).1 hx with⟨hm,_⟩|hm
      ·obtain⟨k1,k2,k3,k4⟩:=hf x hm;obtain⟨q1,q2⟩:=g6 x k3 k1;exact⟨q2,k2,q1,k4⟩
      ·exact g4 x hm) (by
      intro i' z' P8;have hi:i<zs.length:=(Ak.1 hzi).1;rw[Ah0 hzi Cq];by_cases hii:i'=i
      ·subst hii;rw[E7 hi]at P8;cases P8;rw[W9,Cq]
      ·rw[Az (Ne.symm hii)]at P8;rw[Ju i' z' P8])
   refine⟨zs',Qs,Et,X5,Qj,Nx,hG.trans Wa,A2m,h2,h3,h4,h5,?_⟩;simp only[A0,Instr.fill,W9];have Bi6:(a.eval x).cells.size=z.size:=by rw[←Eh,Bp.length e3]
   have hle:¬(D7 (zs.take i)+(a.eval x).cells.size>cells.size):=by
    have:cells.size=cells.toList.length:=by simp
    rw[this,e1, ←e2, ←Eh];simp
   rw[if_neg (by simp[Bi6]at hle ⊢;omega)]
   exact h6
 | [],_::_,_,_,_,_,_,_,_,_,ho,_,_,_,_,_=>by cases ho
 |_::_,[],_,_,_,_,_,_,_,_,ho,_,_,_,_,_=>by simp[M8]at ho
theorem A4v{o:Oper}{d:Nat}{t:TypeId}{ps:Array (Nat × Operand)}{zs:List D}{Qh:List (Nat × Bh)}(hd:o.dst=some d)(ho:o.op= .build t ps)(hp:M8 N ps.toList Qh=true)(ht:Aqz P t zs=true):
 Sound P N o (Ayj d zs Qh):=by
 intro G σ Fr w0 st a w Q next E hN hr hw hn A9
 subst hN;unfold Aqz at ht;split at ht
 ·rename_i fs i hu hi;simp only[Ad,beq_iff_eq]at ht;obtain⟨⟨hz,hlen⟩,Jd⟩:=ht;cases hzv:i.zero with
  |none=>simp[hzv]at hz
  |some z=>
   simp only[hzv]at hz;have P8:∃c,z.cells.toList=c++[]∧Ct G w zs c []:=by
    split at hz
    ·rename_i h;exact Asc G w zs _ _ h
    ·cases hz
   obtain⟨c,hc,P8⟩:=P8;rw[Dk]at hc;subst hc;have Amx:∀j f zz,fs[j]?=some f→zs[j]?=some zz→f.offset=D7 (zs.take j)∧(sizeOf f.type).run P w= .ok zz.size w:=by
    intro j f zz hf hzz;have hj:j<zs.length:=(Ak.1 hzz).1;have:=Ew.1 Jd j (Eb.2 hj);simp only[hf,hzz,Ad,beq_iff_eq]at this;obtain⟨h1,h2⟩:=this;refine⟨h1,?_⟩;cases H6:P.info? f.type with
    |none=>simp[H6]at h2
    |some jn=>
     simp only[H6,beq_iff_eq]at h2;simp[sizeOf,typeInfo,H6,h2]
   let szf:Field→Nat:=fun f=>((P.info? f.type).map (·.size)).getD 0
   have A2s:∀f∈fs.toList,(sizeOf f.type).run P w= .ok (szf f) w:=by
    intro f hf;obtain⟨j,hj⟩:=List.mem_iff_getElem?.1 hf;have hj':j<zs.length:=by
     have:=(Ak.1 hj).1;simp at this;omega
    have h2:=(Amx j f zs[j] (by simpa using hj) (Ac hj')).2
    cases H6:P.info? f.type with
    |none=>simp[sizeOf,typeInfo,H6]at h2
    |some jn=>simp[sizeOf,typeInfo,H6,szf]
   have Awf:∀j zz,zs[j]?=some zz→(fs.toList.map fun f=>(f.offset,szf f)).toArray[j]?=some (D7 (zs.take j),zz.size):=by
    intro j z0 hzj;have hj:j<zs.length:=(Ak.1 hzj).1;have hjf:fs[j]?=some (fs[j]'(by omega)):=Bg (by omega)
    obtain⟨h1,h2⟩:=Amx j _ z0 hjf hzj;have h3:=A2s _ (by simp:fs[j]'(by omega)∈fs.toList)
    rw[h2]at h3;have h4:z0.size=szf (fs[j]'(by omega)):=by injection h3
    simp[hjf,h1,h4]
   obtain⟨zs',Qs,Et,G',σ',st',hG,D2,h2,h3,h4,h5,h6⟩:=Afc (place:=fun j=>(fs.toList.map fun f=>(f.offset,szf f)).toArray[j]?) hr hp hw P8 Dn (by simp) Awf
   obtain⟨σ2,st2,r1,r2⟩:=D2.H3 (P:=P) (A9 d hd) (c:=.agg Qs) ⟨Et,Bp.B7.2 h3,by rw[Aiw];rfl,h4,h5⟩ h2
   refine Df (w':=w) ?_ (by rw[hd];exact hn G' σ2 st2 _ w hG r1 r2)
   have hm:=Ap9 (P:=P) (w:=w) A2s;have Acm:(ps.map fun(p:Nat × Operand)=>(p.1,a.eval p.2)).toList=ps.toList.map fun p=>(p.1,a.eval p.2):=by simp
   have hm':(fs.mapM fun f=>(do pure (f.offset, ←sizeOf f.type):Sem (Nat × Nat))).run P w= .ok (fs.toList.map fun f=>(f.offset,szf f)).toArray w:=by
    rw[Gd,Sem.run_map,hm];rfl
   have hzero:(zeroValue t).run P w= .ok z w:=by simp[zeroValue,typeInfo,hi,hzv]
   simp only[execOp,ho,Instr.build,Sem.run_bind,hzero,Result.andThen,run_underlying hu,hm',Acm,h6,Sem.run_pure]
 ·cases ht
theorem Awr{z:I}{c:List Value}(h:Bi G z c)(n:Nat):Ct G w (List.replicate n (.it z)) (List.replicate n c).flatten []:=by
 have:=Aai h n;rw[←List.map_replicate];exact Ct.its.2 ⟨this,rfl⟩
theorem Azs{o:Oper}{d:Nat}{t e:TypeId}{sz n:Nat}{z:I}{ps:Array (Nat × Operand)}{Qh:List (Nat × Bh)}(hd:o.dst=some d)(ho:o.op= .buildSlice t n ps)(hp:M8 N ps.toList Qh=true)(ht:Yk P t e sz z n=true):
 Sound P N o (Auw d e sz z n Qh):=by
 intro G σ Fr w0 st a w Q next E hN hr hw hn A9
 subst hN;unfold Yk at ht;split at ht
 ·rename_i e' hu;simp only[Ad,beq_iff_eq,bne_iff_ne,ne_eq,decide_eq_true_eq]at ht;obtain⟨⟨⟨rfl,hn4⟩,hn0⟩,ht⟩:=ht;split at ht
  ·rename_i i hi;simp only[Ad,beq_iff_eq,bne_iff_ne,ne_eq,decide_eq_true_eq]at ht;obtain⟨⟨⟨⟨rfl,h0⟩,hs4⟩,A20⟩,ht⟩:=ht;split at ht
   ·rename_i v hv;simp only[Ad,beq_iff_eq]at ht;obtain⟨Ko,hz⟩:=ht;have P8:∃c,v.cells.toList=c++[]∧Bi G z c:=by
     split at hz
     ·rename_i h;exact Abx G z _ _ h
     ·cases hz
    obtain⟨c,hc,P8⟩:=P8;rw[Dk]at hc;subst hc;have Av7:Ct G w (List.replicate n (.it z)) ((Array.range (n*i.size)).map (fun j=>v.cells[j % v.cells.size]!)).toList []:=by
     rw[Avr Ko];exact Awr P8 n
    have W9:∀(j:Nat) (zz:D),(List.replicate n (D.it z))[j]?=some zz→(fun j:Nat=>some (j*i.size,i.size)) j=some (D7 ((List.replicate n (D.it z)).take j),zz.size):=by
     intro j zz hzz;have hj:j<n:=by have:=(Ak.1 hzz).1;simpa using this
     have Bjc:zz= .it z:=by rw[Gs,if_pos hj]at hzz;cases hzz;rfl
     subst Bjc;rw[Ah1 (sz:=i.size) (by intro x hx;rw[List.eq_of_mem_replicate hx];exact A20) (by simp;omega)]
     simp[D.size,A20]
    obtain⟨l,cells,Et,G',σ',st',hG,D2,h2,h3,h3n,h3f,h4⟩:=Afc (place:=fun j=>some (j*i.size,i.size)) hr hp hw Av7 Dn (by simp) W9
    obtain⟨⟨hl,Cq⟩,h2⟩:=h2;have Aa4:cells.size=n*i.size:=by
     have:=Ct.length h3;rw[Qt Cq,hl]at this;simpa using this
    have Qe:n≤maxLen:=by simp only[maxLen];omega
    have hg:Rel G' σ' Fr w0 st' a (w.alloc (.cells cells e')):=D2.grow rfl rfl rfl (by simp) fun b hb=>M3 w _ b hb
    obtain⟨f1,f2,f3⟩:=D2.Bz.fresh (Ay w.heap.size);obtain⟨Qj,Nx,r1,r2⟩:=hg.H3 (P:=P) (A9 d hd) (c:=.slice (some ⟨w.heap.size,0,none⟩) n n) ⟨w.heap.size::Et,by
     simp only[Bp,Value.cells];refine .inr ⟨w.heap.size,0,n,cells,cells.toList,Et,by rw[hl],Row.of (heap_alloc_new w _),fun _=>⟨rfl,Aa4⟩,by rw[hl];exact Ay _,Qe,by rw[Bm,Aa4];exact Ay _,?_,h3.tr (Mem.le.refl G') fun b hb=>M3 w _ b (h3f b hb).2.2.2,Cq,rfl⟩
     rw[hl, ←Aa4];have:cells.size=cells.toList.length:=by simp
     rw[this,List.drop_zero,Hb],rfl,Bs.2 ⟨fun hb=>by have:=(h3f _ hb).2.2.2;omega,h3n⟩,fun b hb=>by
     rcases Ah.1 hb with rfl|hb
     ·exact⟨f1,f2,f3,by simp⟩
     ·obtain⟨k1,k2,k3,k4⟩:=h3f b hb;exact⟨k1,k2,k3,by simp;omega⟩⟩ h2
    have Tq:¬(n*i.size>2^24):=by
     have:n*i.size≤4096*4096:=Nat.mul_le_mul hn4 hs4;omega
    have Acm:(ps.map fun(p:Nat × Operand)=>(p.1,a.eval p.2)).toList=ps.toList.map fun p=>(p.1,a.eval p.2):=by simp
    have hzero:(zeroValue e').run P w= .ok v w:=by simp[zeroValue,typeInfo,hi,hv]
    have Awg:(sizeOf e').run P w= .ok i.size w:=by simp[sizeOf,typeInfo,hi]
    refine Df (w':=w.alloc (.cells cells e')) ?_ (by rw[hd];exact hn G' Qj Nx _ _ hG r1 r2)
    have A2:n*i.size≠0:=Nat.mul_ne_zero hn0 h0;have h4':Instr.fill (fun j=>some (j*i.size,i.size)) ((Array.range (n*i.size)).map (fun j=>v.cells[j % v.cells.size]!)) (ps.toList.map fun p=>(p.1,a.eval p.2))=some cells:=h4
    simp only[execOp,ho,Instr.buildSlice,Sem.run_bind,run_underlying hu,Result.andThen,Awg];rw[if_neg Tq,if_neg A2];simp only[Sem.run_bind,hzero,Result.andThen,Sem.run_pure,Acm,h4'];simp[newRow]
   ·cases ht
  ·cases ht
 ·cases ht
theorem Ct.append{l m:List D}{cs ds:List Value}{bs Et:List Nat}(h:Ct G w l cs bs)(h':Ct G w m ds Et):Ct G w (l++m) (cs++ds) (bs++Et):=by
 induction l generalizing cs bs with
 |nil=>
  simp only[Ct]at h;obtain⟨rfl,rfl⟩:=h;exact h'
 |cons x l ih=>
  simp only[Ct]at h;obtain⟨c,c',b,b',rfl,rfl,h1,h2⟩:=h;simp only[C4,Ct];exact⟨c,c'++ds,b,b'++Et,by simp,by simp,h1,ih h2⟩
theorem A5z{u:D}{ys:List D}{c:Value}{bs:List Nat}{sz:Nat}(h:Vk G σ Fr w u c bs)(Dj:Gc G σ Fr w0 w)(he:Af9 u=some ys)(Cq:∀u∈ys,u.size=sz):
 ∃ad cap,c= .slice ad ys.length cap∧((ad=none∧ys=[])∨∃A news bn,ad=some A∧news.length=ys.length*sz∧Ct G w ys news bn∧bn.Nodup∧(∀b∈bn,b∈bs)∧∀j u,news[j]?=some u→w.cell? (A.add j)=some u):=by
 obtain⟨h1,h2,h3,h4⟩:=h;cases u with
 |vec e Ex l=>
  simp only[Af9,Af]at he;subst he;rw[G7 h2]at h1;simp only[Bp]at h1;rcases h1 with⟨e1,rfl,_⟩|⟨g,off,cap,cur,xs,Et,e1,⟨ty,fz,q1,_⟩,_,q2,q3,q4,q5,q6,q7,rfl⟩
  ·injection e1 with e1
   exact⟨none,0,e1,.inl ⟨rfl,rfl⟩⟩
  ·injection e1 with e1
   refine⟨_,cap,e1,.inr ⟨_,xs,Et,rfl,?_,q6,(Bs.1 h3).2,fun b hb=>by simp[hb],?_⟩⟩
   ·rw[Ct.length q6,Qt Cq]
   ·intro j u hj;rw[add_lit,cell_of_row w g (off+j) cur ty fz q1];have:cur[off+j]?=cur.toList[off+j]?:=by simp
    rw[this];rw[←q5,Jc]at hj;split at hj
    ·rw[Ei]at hj;exact hj
    ·cases hj
 |it x=>
  cases x with
  |list l=>
   simp only[Af9,Af]at he;subst he;simp only[Bp]at h1;obtain⟨h1,rfl⟩:=h1;rw[G7 h2]at h1;have hv:Bb G (.list l) c:=by
    unfold Bb;rw[if_neg (by simp[I.isAgg])]
    exact h1
   obtain⟨ad,cap,hc,Tg,Zq,Atf⟩:=Bb.list.1 hv;refine⟨ad,cap,by simpa using hc,?_⟩
   rcases Atf with rfl|⟨b,off,bl,ty,fz,Ex,rfl,hg,Arf,hle,Ba⟩
   ·cases ad with
    |none=>exact .inl ⟨rfl,rfl⟩
    |some A=>exact .inr ⟨A,[],[],rfl,by simp,by simp[Ct],Dn,by simp,by simp⟩
   ·cases l with
    |nil=>exact .inr ⟨_,[],[],rfl,by simp,by simp[Ct],Dn,by simp,by simp⟩
    |cons y0 l'=>
     have A2t:Ex=sz:=by
      rw[←Arf y0 (by simp)]
      exact Cq (.it y0) (by simp)
     subst A2t;refine .inr ⟨_,_,[],rfl,?_,Ct.its.2 ⟨Ba,rfl⟩,Dn,by simp,?_⟩
     ·rw[Ck,Br,Da]
      ·simp
      ·have:bl.toList.length=bl.size:=by simp
       omega
     ·intro j u hj;have hh:=Dj.fixed b _ hg;rw[add_lit,cell_of_row w b (off+j) bl ty fz hh];have:bl[off+j]?=bl.toList[off+j]?:=by simp
      rw[this];rw[Jc]at hj;split at hj
      ·rwa [Ei]at hj
      ·cases hj
  |_=>simp[Af9]at he
 |_=>simp[Af9]at he
theorem Bbt{o:Oper}{d:Nat}{t e:TypeId}{x y:Operand}{x' y':Bh}{sz bytes:Nat}(hd:o.dst=some d)
 (ho:o.op= .call {callee:=.builtin .append,args:= #[x,y],argTypes:= #[t,t]}) (hx:Bu N x x'=true) (hy:Bu N y y'=true) (ht:Aso P t e sz bytes=true):
 Sound P N o (Awt d e sz bytes x' y'):=by
 intro G0 σ0 Fr w0 st0 a w Q next E hN hr hw hn A9
 subst hN;obtain⟨u,bu,G1,σ1,st1,hG1,Hr,h1,hfu,_,_⟩:=Q4 hr hy hw;obtain⟨v,bv,G,σ,st,Zp,Kn,h2,hfv,hlv,Vc⟩:=Q4 Hr hx h1;have hG:G0.le G:=hG1.trans Zp;clear hw h1;have Bww:=hfu
 replace hfu:=hfu.later Zp Vc
 split at h2
 ·rename_i e' Ex l ys hys;obtain⟨⟨rfl,rfl,hby,Awe,Cq,Tq⟩,h2⟩:=h2;obtain⟨v1,v2,v3,v4⟩:=hfv;rw[G7 v2]at v1;obtain⟨ad,cap,hcy,Atf⟩:=A5z hfu Kn.Bz hys Cq;have W7:∀b∈bu,b ∉ bv:=fun b hb Dc=>hlv b Dc (Bww.2.2.2 b hb).2.2.1
  unfold Aso at ht;split at ht
  ·rename_i e'' hu;simp only[Ad,beq_iff_eq]at ht;obtain⟨rfl,ht⟩:=ht;split at ht
   ·rename_i i hi;simp only[Ad,beq_iff_eq,bne_iff_ne,ne_eq]at ht;obtain⟨⟨⟨rfl,rfl⟩,h0⟩,ht⟩:=ht;split at ht
    ·rename_i z hz;simp only[beq_iff_eq]at ht;have exec:∀{v' w'},(Builtin.append_ #[t,t] o.type #[a.eval x,a.eval y]).run P w= .ok v' w'→(execOp a.eval o).run P w= .ok (.value v') w':=by
      intro v' w' Ez;simp[execOp,ho,resolve,invoke,builtin,Ez]
     obtain⟨xs,bx,Fm,Sc,Bxv,hbx,Atv⟩:∃xs bx,w.ownsRow 0 e'' i.size (a.eval x) l.length xs∧Ct G w l xs bx∧(∀x∈l,x.size=i.size)∧bx.Nodup∧
      ∀b,(b∈bx∨(a.eval x).ownBlock=some b)→(b∈bv∧(b∈bx→(a.eval x).ownBlock≠some b)):=by
      simp only[Bp]at v1;rcases v1 with⟨e1,rfl,rfl⟩|⟨g,off,cp,cur,xs,Et,e1,q1,q0,q2,q3,q4,q5,q6,q7,rfl⟩
      ·injection e1 with e1
       rw[e1];exact⟨[],[],(Lx.nil w e'' i.size).to Tq,by simp[Ct],by simp,Dn,by simp[Value.ownBlock]⟩
      ·injection e1 with e1
       rw[e1];obtain⟨rfl,q4'⟩:=q0 Tq;refine⟨xs,Et,⟨by rw[Ct.length q6,Qt q7],.inr ⟨g,cp,cur,rfl,A3 _,q1.to Tq,q2,q3,q4',q5⟩⟩,q6,q7,(Bs.1 v3).2,?_⟩
       intro b hb;simp only[Value.ownBlock,Af]at hb ⊢;rcases hb with hb|rfl
       ·exact⟨by simp[hb],fun _ e=>by cases e;exact(Bs.1 v3).1 hb⟩
       ·exact⟨by simp,fun h e=>(Bs.1 v3).1 h⟩
     have fin:∀{v':Value} {w':World} {row:Option Nat} {news:List Value} {bn:List Nat},(Builtin.append_ #[t,t] o.type #[a.eval x,a.eval y]).run P w= .ok v' w'→w.grownBy w' row→row=(a.eval x).ownBlock→
      Ct G w ys news bn→bn.Nodup→(∀b∈bn,b∈bu)→w'.ownsRow 0 e'' i.size v' (l.length+ys.length) (xs++news)→(v'.ownBlock=(a.eval x).ownBlock∨v'.ownBlock=some w.heap.size)→o.wp P a w next E:=by
      intro v' w' row news bn Ez Qv Kc hy1 hy2 hy3 hq1 hq2;have Bi1:∀b,row=some b→G b=none∧Fr b=none∧σ b=none:=fun b hb=>by
       obtain⟨k1,k2,k3,_⟩:=v4 b (Atv b (.inr (by rw[←Kc];exact hb))).1
       exact⟨k1,k2,k3⟩
      have hr3:=Kn.Adf Qv Bi1;have Atp:∀b∈bx++bn,(G b=none∧Fr b=none∧σ b=none∧b<w.heap.size)∧(a.eval x).ownBlock≠some b:=by
       intro b hb;rcases Aj.1 hb with hb|hb
       ·obtain⟨k1,k2⟩:=Atv b (.inl hb);exact⟨v4 b k1,k2 hb⟩
       ·refine⟨hfu.2.2.2 b (hy3 b hb),fun e=>?_⟩
        exact W7 b (hy3 b hb) (Atv b (.inr e)).1
      have Bag:∀b∈bx++bn,w'.heap[b]?=w.heap[b]?:=fun b hb=>Qv.block b (Atp b hb).1.2.2.2 (by rw[Kc];exact fun e=>(Atp b hb).2 e.symm)
      have F5:(bx++bn).Nodup:=by
       rw[Cb];refine⟨hbx,hy2,fun b hb c hc e=>?_⟩
       subst e;exact W7 b (hy3 b hc) (Atv b (.inl hb)).1
      have Ba:Ct G w' (l++ys) (xs++news) (bx++bn):=(Sc.append hy1).tr (Mem.le.refl G) Bag;have Awh:∀z∈l++ys,z.size=i.size:=by
       intro z hz;rcases Aj.1 hz with hz|hz
       ·exact Bxv z hz
       ·exact Cq z hz
      have hFB:T6 G σ Fr w' (.vec e'' i.size (l++ys)) v':=by
       have Bxg:=Lx.of hq1;rcases Bxg.2 with⟨rfl,hl0⟩|⟨g,cp,cur,rfl,_,k1,k2,k3,k4,k5⟩
       ·have hl:l=[]:=Dg (by omega)
        have hyl:ys=[]:=Dg (by omega)
        subst hl hyl;exact⟨[],by simp[Bp,Value.cells],rfl,Dn,by simp⟩
       ·refine⟨g::(bx++bn),?_,rfl,Bs.2 ⟨fun hb=>?_,F5⟩,fun b hb=>?_⟩
        ·simp only[Bp,Value.cells];exact .inr ⟨g,0,cp,cur,xs++news,bx++bn,by simp,k1,fun _=>⟨rfl,k4⟩,by simpa using k2,k3,by rw[Bm,k4];exact Ay _,by simpa using k5,Ba,Awh,rfl⟩
        ·rcases hq2 with h|h
         ·exact(Atp g hb).2 h.symm
         ·simp only[Value.ownBlock,Af]at h;have:=(Atp g hb).1.2.2.2;omega
        ·rcases Ah.1 hb with rfl|hb
         ·have Di:b<w'.heap.size:=by
           obtain⟨_,_,k,_⟩:=k1;exact(C3.1 k).1
          rcases hq2 with h|h
          ·obtain⟨q1,q2,q3,_⟩:=v4 b (Atv b (.inr h.symm)).1;exact⟨q1,q2,q3,Di⟩
          ·simp only[Value.ownBlock,Af]at h;obtain⟨q1,q2,q3⟩:=Kn.Bz.fresh (Nat.le_of_eq h.symm);exact⟨q1,q2,q3,Di⟩
         ·obtain⟨q1,q2,q3,q4⟩:=(Atp b hb).1;exact⟨q1,q2,q3,Nat.lt_of_lt_of_le q4 Qv.size⟩
      obtain⟨σ',st',r1,r2⟩:=hr3.H3 (P:=P) (A9 d hd) hFB h2;exact Df (exec Ez) (by rw[hd];exact hn G σ' st' _ w' hG r1 r2)
     have A2a:w.grownBy w (a.eval x).ownBlock:=⟨rfl,rfl,rfl,Ay _,fun _ _ _=>rfl⟩
     rcases Atf with⟨rfl,rfl⟩|⟨A,news,bn,rfl,hl,Ba,hbn,hbu,Acf⟩
     ·have Ez:=Z1 (P:=P) t o.type e'' i.size hu hi (a.eval x) l.length xs Fm cap;rw[show Value.slice none 0 cap=a.eval y from hcy.symm]at Ez;exact fin (news:=[]) (bn:=[]) Ez A2a rfl (by simp[Ct]) Dn (by simp) (by simpa using Fm) (.inl rfl)
     ·obtain⟨v',w',Ez,q1,q2,_,q3⟩:=run_append_own_at (P:=P) w 0 t o.type e'' i z i.size i.bytes hu hi hz rfl rfl ht (by omega) (a.eval x) l.length xs Fm A ys.length cap news hl Acf (Ct.one Ba) Awe hby (A3 _)
      rw[show Value.slice (some A) ys.length cap=a.eval y from hcy.symm]at Ez;exact fin Ez q2 rfl Ba hbn hbu q1 q3
    ·cases ht
   ·cases ht
  ·cases ht
 ·exact h2.elim
end
end Go.Ab
