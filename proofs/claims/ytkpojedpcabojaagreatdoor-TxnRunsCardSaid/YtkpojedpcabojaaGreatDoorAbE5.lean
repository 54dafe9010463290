/- Lemmas -/
import Derived.Test.YtkpojedpcabojaaGreatDoorAbE3
set_option linter.unusedVariables false
set_option linter.unusedSimpArgs false
namespace Go.Ab
open Go.Op
def D.Awn:D→D
 | .st l=>.it (.agg (List.replicate (Ae5 l) .und))
 |_=>.it .und
theorem Xs:∀n,sizes (List.replicate n I.und)=n
 |0=>rfl
 |n+1=>by simp[List.replicate_succ,sizes,I.size,Xs n];omega
theorem Acn{G:Mem}:∀{cs:List Value} {n:Nat},cs.length=n→(∀c∈cs,c.oneCell'=true)→F9 G (List.replicate n .und) cs
 | [],n,h,_=>by subst h;simp[F9]
 |c::cs,n,h,h1=>by
  subst h;simp only[Ho,List.replicate_succ,F9];exact⟨[c],cs,rfl,by simp only[D8];exact⟨c,rfl,h1 c (by simp)⟩,Acn rfl fun x hx=>h1 x (by simp[hx])⟩
def D.whole:D→Bool
 | .it _=>false
 |_=>true
theorem Vp{u:D}(h:u.whole=true):u.Awn.isAgg=u.isAgg∧u.Awn.size=u.size∧u.leaf=false:=by
 cases u with
 |it x=>cases h
 |st l=>exact⟨rfl,Xs _,rfl⟩
 |_=>exact⟨rfl,rfl,rfl⟩
theorem Ys{G:Mem}{w:World}{u:D}{cs:List Value}{bs:List Nat}(hw:u.whole=true)(h:Fe G w u cs bs)(G':Mem)(w':World):Fe G' w' u.Awn cs []:=by
 have hl:=Fe.length h;have h1:=Fe.one h;cases u with
 |it x=>cases hw
 |st l=>simp only[D.Awn,Fe,D8,and_true];exact Acn hl h1
 |_=>
  simp only[D.Awn,Fe,D8,and_true];simp only[D.size]at hl;obtain⟨c,rfl⟩:=Ajp.1 hl;exact⟨c,rfl,h1 c (by simp)⟩
def Vo:D→Nat→Option Nat
 | .it x,i=>match x with
   | .agg l=>match l[i]? with
     |some _=>some (sizes (l.take i))
     |none=>none
   |_=>none
 | .st l,i=>match l[i]? with
   |some _=>some (Ae5 (l.take i))
   |none=>none
 |_,_=>none
def Mv(d:Option Nat)(s cur:Nat)(inv:Inv)(t:D)(p:List Nat)(u:D):M:=match D.put p t u.Awn with
 |some t'=>.set s (cur+1) (.own (bump inv p (cur+1)) t') (match d with
  |some d=>.Hh (d≠s) fun _=>Jz d (.own [] u)
  |none=>.done)
 |none=>.fail
def Zd(d:Option Nat)(agg:Bool)(sz:Nat)(x:D6):M:=rdD x fun s cur inv t p=>match D.at p t with
 |some u=>match u with
  | .it y=>.Hh (y.isAgg=agg∧y.size=sz) fun _=>Gj d (.v y) .done
  | .vec _ _ _=>.Hh (agg=false∧sz=1∧d≠some s) fun _=>Gj d (.bd s cur p) .done
  | .map _ _=>.Hh (agg=false∧sz=1∧d≠some s) fun _=>Gj d (.bd s cur p) .done
  | .ptr _=>.Hh (agg=false∧sz=1∧d≠some s) fun _=>Gj d (.pd s cur (p++[0])) .done
  | .st l=>.Hh (agg=true∧Ae5 l=sz) fun _=>Mv d s cur inv t p (.st l)
 |none=>.fail
def Bcb(d:Option Nat)(agg:Bool)(sz:Nat)(x:D6):M:=rdD x fun s cur inv t p=>match D.at p t with
 |some u=>match u.Bx with
  |some y=>match D.put p t (.it y)with
   |some t'=>.Hh (u.leaf=false∧y.isAgg=agg∧y.size=sz∧d≠some s) fun _=>.set s (cur+1) (.own (bump inv p (cur+1)) t') (Gj d (.v y) .done)
   |none=>.fail
  |none=>.fail
 |none=>.fail
def M6(x:D6)(k:D→M):M:=match x with
 | .c x=>k (.it x)
 | .Ahc e sz=>k (.vec e sz [])
 | .t n=>.get n fun ver sv=>match sv with
   | .vec e sz l=>.set n (ver+1) .no (k (.vec e sz (l.map D.it)))
   | .own _ t=>.set n (ver+1) .no (k t)
   | .bd s v p=>.get s fun cur sv'=>match sv' with
     | .own inv t=>.Hh (J7 v inv p=true) fun _=>match D.at p t with
       |some u=>match D.put p t u.Awn with
        |some t'=>.Hh (u.whole=true) fun _=>.set s (cur+1) (.own (bump inv p (cur+1)) t') (k u)
        |none=>.fail
       |none=>.fail
     |_=>.fail
   | .par h=>.get h fun cur sv'=>match sv' with
     | .own _ t=>.set h (cur+1) .no (k t)
     |_=>.fail
   |_=>Lw (.t n) fun u=>k (.it u)
def Xm(sz:Nat)(ax vx:D6):M:=M6 vx fun u=>rdD ax fun s cur inv t p=>match D.at p t with
 |some u0=>match D.put p t u with
  |some t'=>.Hh (u.isAgg=u0.isAgg∧u.size=u0.size∧u.size=sz) fun _=>match u0.leaf with
   |true=>.set s (cur+1) (.own inv t') .done
   |false=>.set s (cur+1) (.own (bump inv p (cur+1)) t') .done
  |none=>.fail
 |none=>.fail
section
variable{P:Program}{N:Nat}{G:Mem}{σ:Lab}{Fr:Mem}{w0:Base}{w:World}{st:St}{a:Act}
theorem Rel.Bdn{s cur:Nat}{inv:Inv}{p:List Nat}{t t' u:D}{cs:List Value}{hh:Option (Nat × Nat)}(h:Rel G σ Fr w0 st a w)(hs:st[s]?=some (cur,.own inv t))(C3:t.at p=some u)(hw:u.whole=true)(Aof:t.put p u.Awn=some t')
 (hsp:spot w p t (none,(val a w0 s).cells.toList)=some (hh,cs)):
 ∃σ' ubs,Rel G σ' Fr w0 (st.set s (cur+1,.own (bump inv p (cur+1)) t')) a w∧Fe G w u cs ubs∧ubs.Nodup∧(∀b∈ubs,G b=none∧Fr b=none∧σ' b=none∧b<w.heap.size)∧(∀b∈ubs,σ b≠none)∧∀b,σ b=none→σ' b=none:=by
 obtain⟨bs,Dh,hva,hnd,Aoe⟩:=show Ac5 G σ w s t (val a w0 s)from h.Eb s cur _ hs;obtain⟨m,s',ubs,f1,f2,f3,f4,f5,f6⟩:=focus (here:=none) Dh hnd C3
 rw[f1]at hsp;obtain rfl:=Aag hsp;obtain⟨hag,Hr,hul⟩:=Vp hw;obtain⟨Ak3,Auv⟩:=Lie.same f5;obtain⟨bs',r1,r2,r3,r4,r5⟩:=f6 G w u.Awn cs [] t' (Mem.le.refl G) rfl hag (Ys hw f2 G w) Ach (by simp) Ak3 Aof
 simp only at Auv r1 r5;rw[Auv]at r1 r5;refine⟨σ.Ax3 ubs,ubs,?_,f2,f3,fun b hb=>?_,fun b hb hn=>?_,fun b hb=>by unfold Lab.Ax3;split<;>first|rfl|exact hb⟩
 rotate_left 2
 ·obtain⟨k,hk⟩:=Aoe b (f4 b hb);rw[hn]at hk;cases hk
 ·obtain⟨hpd,hbd⟩:=Focus.refs (G:=G) (inv:=inv) (cur:=cur) r5;rw[hul]at hpd hbd;refine h.tree h.Fc.Ax3 (Mem.le.refl G) hs (Ej _) ?_ (fun e=>by omega) ?_ hpd hbd
  ·intro s1 hs1 x k hx;refine⟨Lab.Atv.2 ⟨fun hm=>?_,hx⟩,rfl⟩
   obtain⟨k',hk'⟩:=Aoe x (f4 x hm);rw[hx]at hk';cases hk';exact hs1 rfl
  ·refine⟨bs',r1,?_,r2,fun x hx=>?_⟩
   ·rw[r4];split
    ·rename_i hp;subst hp;simp only[D.at,A0]at C3;subst C3;rw[hag];exact hva
    ·exact hva
   ·rcases(r3 x).1 hx with⟨h1,h2⟩|h1
    ·obtain⟨k,hk⟩:=Aoe x h1;exact⟨k,Lab.Atv.2 ⟨h2,hk⟩⟩
    ·cases h1
 ·obtain⟨k,hk⟩:=Aoe b (f4 b hb);obtain⟨k1,k2,k3⟩:=h.Fc.own b _ hk;exact⟨k1,k2,by simp[Lab.Ax3,hb],k3⟩
theorem Rel.Anp{Q:St→Prop}{d:Nat}{u:D}{c:Value}(h:Rel G σ Fr w0 st a w)(hdn:d<w0.n)(hf:Awb G σ Fr w u c)(hq:(Jz d (.own [] u)).wp P Q st):
 ∃σ' st',Rel G σ' Fr w0 st' (a.put (some d) c) w∧Q st':=by
 obtain⟨bs,g1,g2,g3,g4⟩:=hf;simp only[Jz,M.wp]at hq;cases hd:st[d]? with
 |none=>simp[hd]at hq
 |some cur=>
  simp only[hd]at hq;have hK:∀b k,σ.drop d b=some (d,k)→k<0:=fun b k hb=>absurd rfl (Lab.Ade.1 hb).1
  have H2:WOk G ((σ.drop d).Anp d 0 bs) Fr w0 w:=(h.Fc.drop d).Anp hK fun b hb=>⟨(g4 b hb).1,(g4 b hb).2.1,(g4 b hb).2.2.2⟩
  refine⟨_,_,h.put hdn H2 (Mem.le.refl G) hd (Ej _) ?_ ?_ (fun h e=>by cases e) Nx,hq⟩
  ·intro s' hs' b k hb;refine⟨?_,rfl⟩;rw[Lab.Asn]
   ·exact Lab.Ade.2 ⟨hs',hb⟩
   ·intro hm;rw[(g4 b hm).2.2.1]at hb;cases hb
  ·exact⟨bs,g1,g2,g3,fun b hb=>⟨_,Lab.Asm hb⟩⟩
theorem Aiu.Bd6{Gf:Nat × Nat}{e:TypeId}{sz:Nat}{l:List I}{c:Value}(h:Aiu G σ w Gf e sz l c)(H2:WOk G σ Fr w0 w){σ':Lab}(hσ:∀b,σ b=some Gf→σ' b=none):Awb G σ' Fr w (.vec e sz (l.map D.it)) c:=by
 obtain⟨xs,⟨hl,h1⟩,h2,h3,h4⟩:=h;rcases h1 with⟨rfl,h0⟩|⟨g,cap,cur,rfl,_,hg,hn,hm,hs,ht⟩
 ·obtain rfl:=Aby h0;exact⟨[],by simp[Fe,Value.cells],rfl,Ach,by simp⟩
 ·refine⟨[g],?_,rfl,by simp,?_⟩
  ·simp only[Fe,Value.cells];refine .inr ⟨g,0,cap,cur,xs,[],by simp,hg,fun _=>⟨rfl,hs⟩,by simpa using hn,hm,by rw[E3,hs];exact Bz _,by simpa using ht,H8.its.2 ⟨h2,rfl⟩,?_,rfl⟩
   intro x hx;obtain⟨y,hy,rfl⟩:=X4.1 hx;exact h3 y hy
  ·intro b hb;obtain rfl:=Jd.1 hb;have Aoe:=h4 b rfl;obtain⟨k1,k2,k3⟩:=H2.own b _ Aoe;exact⟨k1,k2,hσ b Aoe,k3⟩
def Aw0(G:Mem)(σ:Lab)(Fr:Mem)(w:World)(u:D)(c:Value)(bs:List Nat):Prop:=
 Fe G w u c.cells.toList bs∧valOf u.isAgg c=true∧bs.Nodup∧∀b∈bs,G b=none∧Fr b=none∧σ b=none∧b<w.heap.size
theorem Aw0.free{u:D}{c:Value}{bs:List Nat}(h:Aw0 G σ Fr w u c bs):Awb G σ Fr w u c:=⟨bs,h⟩
theorem Aw0.item{u:I}{c:Value}(h:C7 G u c):Aw0 G σ Fr w (.it u) c []:=by
 obtain⟨bs,h1,h2,h3,h4⟩:=Awb.item (σ:=σ) (Fr:=Fr) (w:=w) h;have:bs=[]:=by simp only[Fe]at h1;exact h1.2
 subst this;exact⟨h1,h2,h3,h4⟩
theorem Aw0.later{G':Mem}{σ':Lab}{u:D}{c:Value}{bs:List Nat}(h:Aw0 G σ Fr w u c bs)(hG:G.le G')(hk:∀b,σ b=none→G b=none→σ' b=none∧G' b=none):Aw0 G' σ' Fr w u c bs:=by
 obtain⟨h1,h2,h3,h4⟩:=h;refine⟨h1.tr hG fun _ _=>rfl,h2,h3,fun b hb=>?_⟩
 obtain⟨k1,k2,k3,k4⟩:=h4 b hb;obtain⟨q1,q2⟩:=hk b k3 k1;exact⟨q2,k2,q1,k4⟩
theorem Lv{x:Operand}{y:D6}{k:D→M}{Q:St→Prop}(h:Rel G σ Fr w0 st a w)(ho:Jj w0.n x y=true)(hq:(M6 y k).wp P Q st):
 ∃u bs G' σ' st',G.le G'∧Rel G' σ' Fr w0 st' a w∧(k u).wp P Q st'∧Aw0 G' σ' Fr w u (a.eval x) bs∧(∀b∈bs,σ b≠none)∧∀b,σ b=none→G b=none→σ' b=none∧G' b=none:=by
 cases y with
 |c i=>exact⟨_,[],G,σ,st,Mem.le.refl G,h,hq,Aw0.item (Nn ho G),by simp,fun _ h1 h2=>⟨h1,h2⟩⟩
 |Ahc e sz=>
  refine⟨_,[],G,σ,st,Mem.le.refl G,h,hq,?_,by simp,fun _ h1 h2=>⟨h1,h2⟩⟩
  rw[Le ho];exact⟨by simp[Fe,Value.cells],rfl,Ach,by simp⟩
 |t n=>
  obtain⟨rfl,Agv⟩:=J0 ho;have hv:val a w0 n=a.eval (.tmp n):=J2 (by rw[h.n];exact Agv)
  simp only[M6,M.wp]at hq;cases hs:st[n]? with
  |none=>simp[hs]at hq
  |some cur=>
   obtain⟨ver,sv⟩:=cur;simp only[hs]at hq;have Dh:=h.slot Agv hs;have Bu0:(Lw (.t n) fun u=>k (.it u)).wp P Q st→∃u bs G' σ' st',G.le G'∧Rel G' σ' Fr w0 st' a w∧(k u).wp P Q st'∧Aw0 G' σ' Fr w u (a.eval (.tmp n)) bs∧(∀b∈bs,σ b≠none)∧∀b,σ b=none→G b=none→σ' b=none∧G' b=none:=by
    intro hq;obtain⟨i,G',σ',st',h1,h2,h3,h4,h5⟩:=Wg h ho hq;exact⟨_,[],G',σ',st',h1,h2,h3,Aw0.item h4,by simp,h5⟩
   cases sv with
   |vec e sz l=>
    have Bee:∀b,σ b=some (n,0)→σ.drop n b=none:=fun b hb=>by simp[Lab.drop,hb]
    obtain⟨bs,hf⟩:=Aiu.Bd6 Dh h.Fc Bee;refine⟨_,bs,G,σ.drop n,_,Mem.le.refl G,h.drop hs (Ej _),hq,hf,fun b hb hn=>?_,fun b h1 h2=>⟨by simp[Lab.drop,h1],h2⟩⟩
    obtain⟨xs,h1,_,_,h4⟩:=Dh;have hrd:=hf.1;simp only[Fe]at hrd;rcases hrd with⟨_,_,rfl⟩|⟨g,off,cap,cur,xs',bs',e1,_,_,_,_,_,_,e2,_,rfl⟩
    ·cases hb
    ·obtain⟨_,rfl⟩:=H8.its.1 e2;obtain rfl:=Jd.1 hb;rcases h1.2 with⟨h0,_⟩|⟨g',Azd,Amr,h0,_⟩
     ·rw[h0]at e1;simp[Value.cells]at e1
     ·have:=h4 g' (by rw[h0];rfl)
      rw[h0]at e1;simp[Value.cells]at e1;rw[e1.1.1]at this;rw[hn]at this;cases this
   |own inv t=>
    obtain⟨bs,g1,g2,g3,g4⟩:=Dh;refine⟨_,bs,G,σ.drop n,_,Mem.le.refl G,h.drop hs (Ej _),hq,⟨g1,g2,g3,fun b hb=>?_⟩,fun b hb hn=>?_,fun b h1 h2=>⟨by simp[Lab.drop,h1],h2⟩⟩
    rotate_left 1
    ·obtain⟨kk,hk⟩:=g4 b hb;rw[hn]at hk;cases hk
    obtain⟨kk,hk⟩:=g4 b hb;obtain⟨k1,k2,k3⟩:=h.Fc.own b _ hk;refine⟨k1,k2,?_,k3⟩;simp[Lab.drop,hk]
   |bd s v p=>
    obtain⟨cur,h1,h2,h3⟩:=Dh;simp only[M.wp,h1]at hq;obtain⟨cv,csv⟩:=cur;cases csv with
    |own inv t=>
     obtain⟨ha,hq⟩:=hq;split at hq
     ·rename_i u C3;split at hq
      ·rename_i t' Aof;obtain⟨hw,hq⟩:=hq;have hhd:=h3 inv t rfl ha;obtain⟨hh,Bzh,_,_,hsp⟩:=HdD.read (h.Eb s cv _ h1) C3 hhd;obtain⟨u1,_,e1,e0,_⟩:=hhd;rw[C3]at e1;obtain rfl:=Aag e1;obtain⟨σ',ubs,r1,r2,r3,r4,r5,r6⟩:=h.Bdn h1 C3 hw Aof hsp;refine⟨u,ubs,G,σ',_,Mem.le.refl G,r1,hq,⟨?_,?_,r3,r4⟩,r5,fun b h1 h2=>⟨r6 b h1,h2⟩⟩
       ·have hc1:=Fe.one r2 (a.eval (.tmp n)) (by simp)
        have:(a.eval (.tmp n)).cells.toList=[a.eval (.tmp n)]:=by
         generalize a.eval (.tmp n)=c at hc1 ⊢;cases c<;>first|rfl|(simp[Value.oneCell']at hc1)
        rw[this];exact r2
       ·have:u.isAgg=false:=by cases u<;>first|rfl|cases e0
        rw[this];have hc1:=Fe.one r2 (a.eval (.tmp n)) (by simp)
        generalize a.eval (.tmp n)=c at hc1 ⊢;cases c<;>first|rfl|(simp[Value.oneCell']at hc1)
      ·exact hq.elim
     ·exact hq.elim
    |_=>exact hq.elim
   |par hh=>
    obtain⟨hv',hle⟩:=h.As8 n ver hh hs;rw[hv]at hv';simp only[M.wp]at hq;cases h1:st[hh]? with
    |none=>simp[h1]at hq
    |some cur=>
     obtain⟨cv,csv⟩:=cur;simp only[h1]at hq;cases csv with
     |own inv t=>
      obtain⟨bs,g1,g2,g3,g4⟩:=show Ac5 G σ w hh t (val a w0 hh)from h.Eb hh cv _ h1;rw[←hv']at g1 g2;refine⟨_,bs,G,σ.drop hh,_,Mem.le.refl G,h.drop h1 (Ej _),hq,⟨g1,g2,g3,fun b hb=>?_⟩,fun b hb hn=>?_,fun b h1 h2=>⟨by simp[Lab.drop,h1],h2⟩⟩
      rotate_left 1
      ·obtain⟨kk,hk⟩:=g4 b hb;rw[hn]at hk;cases hk
      obtain⟨kk,hk⟩:=g4 b hb;obtain⟨k1,k2,k3⟩:=h.Fc.own b _ hk;refine⟨k1,k2,?_,k3⟩;simp[Lab.drop,hk]
     |_=>exact hq.elim
   |_=>exact Bu0 hq
theorem Tp{x:Operand}{y:D6}{k:D→M}{Q:St→Prop}(h:Rel G σ Fr w0 st a w)(ho:Jj w0.n x y=true)(hq:(M6 y k).wp P Q st):
 ∃u G' σ' st',G.le G'∧Rel G' σ' Fr w0 st' a w∧(k u).wp P Q st'∧Awb G' σ' Fr w u (a.eval x):=by
 obtain⟨u,bs,G',σ',st',h1,h2,h3,h4,_⟩:=Lv h ho hq;exact⟨u,G',σ',st',h1,h2,h3,h4.free⟩
theorem Acj{o:Oper}{Q:St→Prop}{next:Act→World→Prop}{E:Exit→Act→World→Prop}{s cur:Nat}{inv:Inv}{t:D}{q:List Nat}{c:Value}(hr:Rel G σ Fr w0 st a w)(C2:∀d,o.dst=some d→d<w0.n)(hs:st[s]?=some (cur,.own inv t))
 (hn:∀G' σ' st' a' w',G.le G'→Rel G' σ' Fr w0 st' a' w'→Q st'→next a' w') (Cf:o.dst≠some s) (hp:PtD w t (val a w0 s) q c) (Aih:(execOp a.eval o).run P w= .ok (.value c) w)
 (hq:(Gj o.dst (.pd s cur q) .done).wp P Q st):o.wp P a w next E:=by
 obtain⟨σ',st',r1,r2⟩:=hr.Gj C2 (sv:=.pd s cur q) (c:=c) (fun d' hd ver _=>by
  refine⟨_,by rw[B3 (by rintro rfl;exact Cf hd)];exact hs,Bz _,fun Ap9 t' e _ _=>?_⟩
  cases e;rw[Jr (by rintro rfl;exact Cf hd)]
  exact hp) hq
 exact Jt Aih (hn G σ' st' _ w (Mem.le.refl G) r1 r2)
theorem Aci{o:Oper}{Q:St→Prop}{next:Act→World→Prop}{E:Exit→Act→World→Prop}{s cur:Nat}{inv:Inv}{t:D}{q:List Nat}{c:Value}(hr:Rel G σ Fr w0 st a w)(C2:∀d,o.dst=some d→d<w0.n)(hs:st[s]?=some (cur,.own inv t))
 (hn:∀G' σ' st' a' w',G.le G'→Rel G' σ' Fr w0 st' a' w'→Q st'→next a' w') (Cf:o.dst≠some s) (hp:HdD w t (val a w0 s) q c) (Aih:(execOp a.eval o).run P w= .ok (.value c) w)
 (hq:(Gj o.dst (.bd s cur q) .done).wp P Q st):o.wp P a w next E:=by
 obtain⟨σ',st',r1,r2⟩:=hr.Gj C2 (sv:=.bd s cur q) (c:=c) (fun d' hd ver _=>by
  refine⟨_,by rw[B3 (by rintro rfl;exact Cf hd)];exact hs,Bz _,fun Ap9 t' e _=>?_⟩
  cases e;rw[Jr (by rintro rfl;exact Cf hd)]
  exact hp) hq
 exact Jt Aih (hn G σ' st' _ w (Mem.le.refl G) r1 r2)
theorem Sv{t:TypeId}{agg:Bool}{b off:Nat}{bl:Array Value}{ty:TypeId}{fz:Nat × Nat}{pre cs post:List Value}(h:Asu P t agg cs.length=true)(hc:agg=false→cs.length=1)
 (hh:w.heap[b]?=some (.cells bl ty fz)) (hs:bl.toList=pre++cs++post) (hp:pre.length=off) (h1:∀c∈cs,c.oneCell'=true):
 ∃v,(loadVar t ⟨b,off,none⟩).run P w= .ok v w∧v.cells.toList=cs∧valOf agg v=true:=by
 obtain⟨k1,k2⟩:=Kd (P:=P) h hh hs hp;cases agg with
 |true=>exact⟨_,k1 rfl,rfl,rfl⟩
 |false=>
  obtain⟨c,rfl⟩:=Ajp.1 (hc rfl);refine⟨c,k2 c rfl rfl,?_,?_⟩;all_goals
   have:=h1 c (by simp)
   cases c<;>first|rfl|(simp[Value.oneCell']at this)
theorem Aat{o:Oper}{t:TypeId}{x:Operand}{x':D6}{agg:Bool}{sz:Nat}(ho:o.op= .load t x)(hx:Jj N x x'=true)(ht:Asu P t agg sz=true):Sound P N o (Zd o.dst agg sz x'):=by
 intro G σ Fr w0 st a w Q next E hN hr hw hn C2
 subst hN;have run:∀{b off:Nat} {v:Value},a.eval x= .pointer (some ⟨b,off,none⟩)→(loadVar t ⟨b,off,none⟩).run P w= .ok v w→(execOp a.eval o).run P w= .ok (.value v) w:=by
  intro b off v hp hl;simp[execOp,ho,hp,Instr.loadAt,Instr.sureAddr,hl]
 obtain⟨s,cur,inv,tr,p,h1,hs,hp0,hpt⟩:=Ub hr hx hw;have Akd:=hr.Eb s cur _ hs;split at h1
 ·rename_i u C3;obtain⟨b,off,bl,ty,fz,pre,cs,post,ubs,e1,e2,e3,e4,e5,e6,e7⟩:=PtD.block Akd C3 hpt;have A0o:=Fe.one e5;have hlen:=Fe.length e5;cases u with
  |it y=>
   obtain⟨⟨rfl,rfl⟩,h1⟩:=h1;simp only[Fe]at e5;obtain⟨v,hl,hv⟩:=Nk (P:=P) ht e2 e3 e4 e5.1;exact J1 hr hn C2 hv h1 (run e1 hl)
  |vec e sz' l=>
   obtain⟨⟨rfl,rfl,Cf⟩,h1⟩:=h1;obtain⟨c,rfl⟩:=Ajp.1 hlen;have hl:=(Kd (P:=P) (cs:=[c]) ht e2 e3 e4).2 c rfl rfl;exact Aci hr C2 hs hn Cf ⟨_,_,C3,rfl,e7⟩ (run e1 hl) h1
  |map ks vs=>
   obtain⟨⟨rfl,rfl,Cf⟩,h1⟩:=h1;obtain⟨c,rfl⟩:=Ajp.1 hlen;have hl:=(Kd (P:=P) (cs:=[c]) ht e2 e3 e4).2 c rfl rfl;exact Aci hr C2 hs hn Cf ⟨_,_,C3,rfl,e7⟩ (run e1 hl) h1
  |ptr d=>
   obtain⟨⟨rfl,rfl,Cf⟩,h1⟩:=h1;obtain⟨c,rfl⟩:=Ajp.1 hlen;have hl:=(Kd (P:=P) (cs:=[c]) ht e2 e3 e4).2 c rfl rfl;simp only[Fe]at e5;obtain⟨g,cells,ty',bs',q1,q2,_⟩:=e5;injection q1 with q1
   subst q1;refine Acj hr C2 hs hn Cf ⟨d,g,0,cells.toList,by rw[Nf C3];rfl,?_,rfl⟩ (run e1 hl) h1
   rw[L5 C3 e7 (y:=d) rfl];simp[Jx,q2]
  |st l=>
   obtain⟨⟨rfl,Hr⟩,h1⟩:=h1;unfold Mv at h1;split at h1
   ·rename_i t' Aof;obtain⟨v,hl,hvc,hva⟩:=Sv (P:=P) (cs:=cs) (agg:=true) (by rw[hlen];show Asu P t true (Ae5 l)=true;rw[Hr];exact ht) (by intro e;cases e) e2 e3 e4 A0o
    obtain⟨σ',Asv,r1,r2,r3,r4,_⟩:=hr.Bdn hs C3 rfl Aof e7;simp only[M.wp]at h1;cases hd:o.dst with
    |none=>
     rw[hd]at h1;exact Jt (run e1 hl) (by rw[hd];exact hn G σ' _ _ w (Mem.le.refl G) r1 h1)
    |some d=>
     rw[hd]at h1;obtain⟨Cf,h1⟩:=h1;obtain⟨σ2,st2,k1,k2⟩:=r1.Anp (C2 d hd) (u:=.st l) (c:=v) ⟨Asv,by rw[hvc];exact r2,hva,r3,r4⟩ h1
     exact Jt (run e1 hl) (by rw[hd];exact hn G σ2 st2 _ w (Mem.le.refl G) k1 k2)
   ·exact h1.elim
 ·exact h1.elim
theorem Bcw{o:Oper}{t:TypeId}{x:Operand}{x':D6}{agg:Bool}{sz:Nat}(ho:o.op= .load t x)(hx:Jj N x x'=true)(ht:Asu P t agg sz=true):Sound P N o (Bcb o.dst agg sz x'):=by
 intro G σ Fr w0 st a w Q next E hN hr hw hn C2
 subst hN;obtain⟨s,cur,inv,tr,p,h1,hs,hp0,hpt⟩:=Ub hr hx hw;have Akd:=hr.Eb s cur _ hs;split at h1
 ·rename_i u C3;split at h1
  ·rename_i y hy;split at h1
   ·rename_i t' Aof;obtain⟨⟨hul,rfl,rfl,Cf⟩,h1⟩:=h1;obtain⟨b,off,bl,ty,fz,pre,cs,post,ubs,e1,e2,e3,e4,e5,e6,e7⟩:=PtD.block Akd C3 hpt;obtain⟨G',σ',hG,r1,r2,_⟩:=hr.A6c hs C3 hul hy Aof;have hI:=r2 _ _ e7;obtain⟨v,hl,hv⟩:=Nk (P:=P) (w:=w) ht e2 e3 e4 hI;obtain⟨σ2,st2,k1,k2⟩:=r1.A8n C2 hv h1;refine Jt (w':=w) ?_ (hn G' σ2 st2 _ w hG k1 k2);simp[execOp,ho,e1,Instr.loadAt,Instr.sureAddr,hl]
   ·exact h1.elim
  ·exact h1.elim
 ·exact h1.elim
theorem Aai{u:D}{i off:Nat}{b o:Nat}{cs:List Value}(h:Vo u i=some off):∃y cs',u.Xw i=some y∧Jx w u (some (b,o),cs) i=some (some (b,o+off),cs'):=by
 cases u with
 |it x=>
  cases x with
  |agg l=>
   simp only[Vo]at h;split at h
   ·rename_i y hy;cases h;exact⟨_,_,by simp only[D.Xw,hy];rfl,by simp only[Jx,hy,hop];rfl⟩
   ·cases h
  |_=>cases h
 |st l=>
  simp only[Vo]at h;split at h
  ·rename_i y hy;cases h;exact⟨_,_,hy,by simp only[Jx,hy,hop];rfl⟩
  ·cases h
 |_=>cases h
theorem Z6{o:Oper}{t:TypeId}{x y:Operand}{x' y':D6}{agg:Bool}{sz:Nat}(hd:o.dst=none)(ho:o.op= .store t x y)(hx:Jj N x x'=true)(hy:Jj N y y'=true)(ht:Asu P t agg sz=true):
 Sound P N o (Xm sz x' y'):=by
 intro G σ Fr w0 st a w Q next E hN hr hw hn C2
 subst hN;obtain⟨u,G',σ',st',hG,Hm,h1,hf⟩:=Tp hr hy hw;obtain⟨s,cur,inv,tr,p,h1,hs,hp0,hpt⟩:=Ub Hm hx h1;split at h1
 ·rename_i u0 C3;split at h1
  ·rename_i t' Aof;obtain⟨⟨hag,Hr,Buh⟩,h1⟩:=h1;obtain⟨b,of,w',σ2,e1,e2,e3⟩:=Hm.Bje (P:=P) (tt:=t) (agg:=agg) hs C3 Aof hf hag Hr hpt (by rw[←Hr,Buh];exact ht)
   refine Pz (w':=w') ?_ ?_
   ·simp[execOp,ho,e1,Instr.storeAt,Instr.sureAddr,e2]
   ·rw[hd];refine hn G' σ2 _ _ w' hG e3 ?_;cases hl:u0.leaf<;>rw[hl]at h1<;>simp only[M.wp]at h1<;>simpa using h1
  ·exact h1.elim
 ·exact h1.elim
end

open Go.Op
mutual
def zD:D→List Value→Option (List Value)
 | .it x,cs=>zI x cs
 | .st l,cs=>zDs l cs
 | .vec _ _ [],.slice none 0 0::cs=>some cs
 |_,_=>none
def zDs:List D→List Value→Option (List Value)
 | [],cs=>some cs
 |d::l,cs=>match zD d cs with
  |some cs=>zDs l cs
  |none=>none
end
mutual
theorem Bdw(G:Mem)(w:World):∀(d:D) (cs rest:List Value),zD d cs=some rest→∃c,cs=c++rest∧Fe G w d c []
 | .it x,cs,rest,h=>by
   simp only[zD]at h;obtain⟨c,e,h⟩:=A0a G x cs rest h;exact⟨c,e,by simp only[Fe,and_true];exact h⟩
 | .st l,cs,rest,h=>by
   simp only[zD]at h;obtain⟨c,e,h⟩:=A6p G w l cs rest h;exact⟨c,e,by simp only[Fe];exact h⟩
 | .vec e sz [],cs,rest,h=>by
   cases cs with
   |nil=>simp[zD]at h
   |cons c r=>
    cases c<;>first|(simp[zD]at h;done)|skip
    rename_i ad n m;cases ad<;>cases n<;>cases m<;>first|(simp[zD]at h;done)|skip
    simp only[zD,A0]at h;subst h;exact⟨[.slice none 0 0],rfl,by simp[Fe]⟩
 | .vec e sz (_::_),cs,rest,h=>by simp[zD]at h
 | .ptr d,cs,rest,h=>by simp[zD]at h
 | .map ks vs,cs,rest,h=>by simp[zD]at h
theorem A6p(G:Mem)(w:World):∀(l:List D) (cs rest:List Value),zDs l cs=some rest→∃c,cs=c++rest∧H8 G w l c []
 | [],cs,rest,h=>by simp only[zDs,A0]at h;subst h;exact⟨[],rfl,by simp[H8]⟩
 |d::l,cs,rest,h=>by
  simp only[zDs]at h;split at h
  ·rename_i cs' hd;obtain⟨c,rfl,h1⟩:=Bdw G w d cs cs' hd;obtain⟨c',rfl,h2⟩:=A6p G w l cs' rest h;refine⟨c++c',by simp,?_⟩
   simp only[H8];exact⟨c,c',[],[],rfl,rfl,h1,h2⟩
  ·cases h
end
def Wq(P:Program)(t:TypeId)(x:D):Bool:=match P.info? t with
 |some i=>match i.zero with
  |some z=>match zD x z.cells.toList with
   |some []=>true
   |_=>false
  |none=>false
 |none=>false
def W6(d:Nat)(t:D):M:=Jz d (.own [] (.ptr t))
def Abj(d:Nat)(x:D6):M:=M6 x fun u=>Jz d (.own [] (.ptr u))
def Py:List (Nat × D6)→List D→(List D→M)→M
 | [],zs,k=>k zs
 |(i,x)::ps,zs,k=>M6 x fun u=>match zs[i]? with
  |some z=>.Hh (u.size=z.size) fun _=>Py ps (zs.set i u) k
  |none=>.fail
def Xc(d:Nat)(zs:List D)(ps:List (Nat × D6)):M:=Py ps zs fun l=>Jz d (.own [] (Mg l))
def U0(P:Program)(t:TypeId)(zs:List D):Bool:=match P.underlying t,P.info? t with
 |some (.struct fs),some i=>(match i.zero with
  |some z=>match zDs zs z.cells.toList with
   |some []=>true
   |_=>false
  |none=>false)&&
  fs.size==zs.length&&(List.range zs.length).all fun j=>match fs[j]?,zs[j]? with
   |some f,some z=>f.offset==Ae5 (zs.take j)&&match P.info? f.type with
    |some i=>i.size==z.size
    |none=>false
   |_,_=>false
 |_,_=>false
def V5(d:Nat)(e:TypeId)(sz:Nat)(z:I)(n:Nat)(ps:List (Nat × D6)):M:=Py ps (List.replicate n (.it z)) fun l=>.Hh (l.length=n∧∀u∈l,u.size=sz) fun _=>Jz d (.own [] (.vec e sz l))
def Ry:D→Option (List D)
 | .vec _ _ l=>some l
 | .it x=>match x with
   | .list l=>some (l.map D.it)
   |_=>none
 |_=>none
def Wn(d:Nat)(e:TypeId)(sz bytes:Nat)(x y:D6):M:=M6 y fun u=>M6 x fun v=>match v,Ry u with
 | .vec e' sz' l,some ys=>.Hh (e'=e∧sz'=sz∧(l.length+ys.length)*bytes≤140737488355328∧l.length+ys.length≤maxLen∧(∀u∈ys,u.size=sz)∧e<1000000) fun _=>Jz d (.own [] (.vec e sz (l++ys)))
 |_,_=>.fail
section
variable{P:Program}{N:Nat}{G:Mem}{σ:Lab}{Fr:Mem}{w0:Base}{w:World}{st:St}{a:Act}
theorem Rel.A5e{w':World}{row:Option Nat}(h:Rel G σ Fr w0 st a w)(hg:w.grownBy w' row)(Ars:∀b,row=some b→G b=none∧Fr b=none∧σ b=none):Rel G σ Fr w0 st a w':=by
 have lt:∀{b:Nat} {o:Obj},w.heap[b]?=some o→b<w.heap.size:=fun h=>(Ht.1 h).1
 have Asq:∀b Gf,σ b=some Gf→w'.heap[b]?=w.heap[b]?:=fun b Gf hb=>
  hg.block b (h.Fc.own b Gf hb).2.2 (by intro e;obtain⟨_,_,k⟩:=Ars b e.symm;rw[k]at hb;cases hb)
 have H2:WOk G σ Fr w0 w':=by
  refine⟨?_,?_,h.Fc.inj,?_,hg.os.trans h.Fc.os,hg.tape.trans h.Fc.tape,hg.output.trans h.Fc.output,Kq h.Fc.size hg.size,h.Fc.apart,h.Fc.amb⟩
  ·intro b o hb;have:=h.Fc.fixed b o hb;rw[hg.block b (lt this) (by intro e;obtain⟨k,_,_⟩:=Ars b e.symm;rw[k]at hb;cases hb)]
   exact this
  ·intro b Gf hb;obtain⟨h1,h2,h3⟩:=h.Fc.own b Gf hb;exact⟨h1,h2,Nat.lt_of_lt_of_le h3 hg.size⟩
  ·intro b o hb;have:=h.Fc.frame b o hb;rw[hg.block b (lt this) (by intro e;obtain⟨_,k,_⟩:=Ars b e.symm;rw[k]at hb;cases hb)]
   exact this
 exact⟨H2,h.defers,h.n,h.len,fun s ver sv hs=>(h.Eb s ver sv hs).Asq (Mem.le.refl G) (fun s' b k hb=>⟨hb,Asq b _ hb⟩) h.Eb,h.As8⟩
theorem Uu{Q:St→Prop}{d:Nat}{u:D}{bs:List Nat}{cells:Array Value}{e:TypeId}(h:Rel G σ Fr w0 st a w)(hdn:d<w0.n)(hu:Fe G w u cells.toList bs)(hnd:bs.Nodup)
 (hf:∀b∈bs,G b=none∧Fr b=none∧σ b=none∧b<w.heap.size) (hq:(Jz d (.own [] (.ptr u))).wp P Q st):
 ∃σ' st',Rel G σ' Fr w0 st' (a.put (some d) (.pointer (some ⟨w.heap.size,0,none⟩))) (w.alloc (.cells cells e))∧Q st':=by
 have hr:Rel G σ Fr w0 st a (w.alloc (.cells cells e)):=h.grow rfl rfl rfl (by simp) fun b hb=>K8 w _ b hb
 obtain⟨f1,f2,f3⟩:=h.Fc.fresh (Bz w.heap.size);refine hr.Anp hdn ⟨w.heap.size::bs,?_,rfl,Hw.2 ⟨fun hb=>?_,hnd⟩,fun b hb=>?_⟩ hq
 ·simp only[Fe,Value.cells];exact⟨w.heap.size,cells,e,bs,rfl,heap_alloc_new w _,hu.tr (Mem.le.refl G) fun b hb=>K8 w _ b (hf b hb).2.2.2,rfl⟩
 ·have:=(hf _ hb).2.2.2;omega
 ·rcases Bg.1 hb with rfl|hb
  ·exact⟨f1,f2,f3,by simp⟩
  ·obtain⟨k1,k2,k3,k4⟩:=hf b hb;exact⟨k1,k2,k3,by simp;omega⟩
theorem Zs{o:Oper}{e:TypeId}{d:Nat}{t:D}(hd:o.dst=some d)(ho:o.op= .alloc e)(hz:Wq P e t=true):Sound P N o (W6 d t):=by
 intro G σ Fr w0 st a w Q next E hN hr hw hn C2
 subst hN;unfold Wq at hz;split at hz
 ·rename_i i hi;split at hz
  ·rename_i z hzv;split at hz
   ·rename_i hzd;obtain⟨c,hc,Dh⟩:=Bdw G w t _ _ hzd;rw[R2]at hc;obtain⟨σ',st',h1,h2⟩:=Uu (P:=P) (e:=e) (cells:=z.cells) hr (C2 d hd) (by rw[hc];exact Dh) Ach (by simp) hw
    refine Jt (w':=w.alloc (.cells z.cells e)) ?_ (by rw[hd];exact hn G σ' st' _ _ (Mem.le.refl G) h1 h2)
    simp[execOp,ho,Instr.alloc,zeroValue,typeInfo,hi,hzv,newVar,newRow]
   ·cases hz
  ·cases hz
 ·cases hz
theorem Ada{o:Oper}{e:TypeId}{d:Nat}{x:Operand}{x':D6}(hd:o.dst=some d)(ho:o.op= .box e x)(hx:Jj N x x'=true):Sound P N o (Abj d x'):=by
 intro G σ Fr w0 st a w Q next E hN hr hw hn C2
 subst hN;obtain⟨u,bs,G',σ',st',hG,Hm,h1,⟨f1,f2,f3,f4⟩,_⟩:=Lv hr hx hw;obtain⟨σ'',As9,h2,h3⟩:=Uu (P:=P) (e:=e) (cells:=(a.eval x).cells) Hm (C2 d hd) f1 f3 f4 h1;refine Jt (w':=w.alloc (.cells (a.eval x).cells e)) ?_ (by rw[hd];exact hn G' σ'' As9 _ _ hG h2 h3)
 simp[execOp,ho,Instr.box,newVar,newRow]
theorem Rq{place:Nat→Option (Nat × Nat)}{Q:St→Prop}:∀{ps:List (Nat × Operand)} {ps':List (Nat × D6)} {zs:List D} {cells:Array Value} {bs:List Nat} {k:List D→M} {G:Mem} {σ:Lab} {st:St},
 Rel G σ Fr w0 st a w→La w0.n ps ps'=true→(Py ps' zs k).wp P Q st→H8 G w zs cells.toList bs→bs.Nodup→(∀b∈bs,G b=none∧Fr b=none∧σ b=none∧b<w.heap.size)→
 (∀i z,zs[i]?=some z→place i=some (Ae5 (zs.take i),z.size))→
 ∃zs' Aud bs' G' σ' st',G.le G'∧Rel G' σ' Fr w0 st' a w∧(k zs').wp P Q st'∧H8 G' w zs' Aud.toList bs'∧bs'.Nodup∧(∀b∈bs',G' b=none∧Fr b=none∧σ' b=none∧b<w.heap.size)∧
  Instr.fill place cells (ps.map fun p=>(p.1,a.eval p.2))=some Aud
 | [],[],zs,cells,bs,k,G,σ,st,hr,_,hq,hz,hnd,hf,_=>⟨zs,cells,bs,G,σ,st,Mem.le.refl G,hr,hq,hz,hnd,hf,rfl⟩
 |(i,x)::ps,(j,y)::ps',zs,cells,bs,k,G,σ,st,hr,ho,hq,hz,hnd,hf,hpl=>by
  simp only[La,Ap,beq_iff_eq]at ho;obtain⟨⟨rfl,ho⟩,hos⟩:=ho;obtain⟨u,bu,G',σ',st',hG,Hm,h1,⟨g1,g2,g3,g4⟩,g5,g6⟩:=Lv hr ho hq;cases hzi:zs[i]? with
  |none=>simp only[hzi]at h1;exact h1.elim
  |some z=>
   simp only[hzi]at h1;obtain⟨Hr,h1⟩:=h1;obtain⟨c1,c,c2,b1,b,b2,e1,rfl,e2,e3,Akv,_⟩:=H8.nth hz hzi;have hcl:c.length=(a.eval x).cells.size:=by
    rw[Fe.length e3, ←Hr, ←Fe.length g1];simp
   have Bef:=Yp (v:=a.eval x) (off:=Ae5 (zs.take i)) e1 e2 hcl;have Axs:=hpl i z hzi;have hbu:∀x∈bu,x ∉ b1++b++b2:=fun x hx hm=>g5 x hx (hf x hm).2.2.1
   obtain⟨n1,n2⟩:=Px hnd g3 fun x hx=>.inr (hbu x hx)
   obtain⟨zs',Aud,bs',G'',σ'',As9,hG',Bbj,h2,h3,h4,h5,h6⟩:=Rq (place:=place) Hm hos h1 (bs:=b1++bu++b2) (cells:=(a.eval x).cells.zipIdx.foldl (fun(cs:Array Value) (p:Value × Nat)=>cs.setIfInBounds (Ae5 (zs.take i)+p.2) p.1) cells)
    (by rw[Bef];exact Akv G' w u _ bu hG g1 fun _ _=>rfl) n1 (fun x hx=>by
      rcases(n2 x).1 hx with⟨hm,_⟩|hm
      ·obtain⟨k1,k2,k3,k4⟩:=hf x hm;obtain⟨q1,q2⟩:=g6 x k3 k1;exact⟨q2,k2,q1,k4⟩
      ·exact g4 x hm) (by
      intro i' z' hz';have hi:i<zs.length:=(A7.1 hzi).1;rw[Sf hzi Hr];by_cases hii:i'=i
      ·subst hii;rw[Aiq hi]at hz';cases hz';rw[Axs,Hr]
      ·rw[B3 (Ne.symm hii)]at hz';rw[hpl i' z' hz'])
   refine⟨zs',Aud,bs',G'',σ'',As9,hG.trans hG',Bbj,h2,h3,h4,h5,?_⟩;simp only[Cy,Instr.fill,Axs];have Bis:(a.eval x).cells.size=z.size:=by rw[←hcl,Fe.length e3]
   have hle:¬(Ae5 (zs.take i)+(a.eval x).cells.size>cells.size):=by
    have:cells.size=cells.toList.length:=by simp
    rw[this,e1, ←e2, ←hcl];simp
   rw[if_neg (by simp[Bis]at hle ⊢;omega)]
   exact h6
 | [],_::_,_,_,_,_,_,_,_,_,ho,_,_,_,_,_=>by cases ho
 |_::_,[],_,_,_,_,_,_,_,_,ho,_,_,_,_,_=>by simp[La]at ho
theorem Zw{o:Oper}{d:Nat}{t:TypeId}{ps:Array (Nat × Operand)}{zs:List D}{ps':List (Nat × D6)}(hd:o.dst=some d)(ho:o.op= .build t ps)(hp:La N ps.toList ps'=true)(ht:U0 P t zs=true):
 Sound P N o (Xc d zs ps'):=by
 intro G σ Fr w0 st a w Q next E hN hr hw hn C2
 subst hN;unfold U0 at ht;split at ht
 ·rename_i fs i hu hi;simp only[Ap,beq_iff_eq]at ht;obtain⟨⟨hz,hlen⟩,Anw⟩:=ht;cases hzv:i.zero with
  |none=>simp[hzv]at hz
  |some z=>
   simp only[hzv]at hz;have hz':∃c,z.cells.toList=c++[]∧H8 G w zs c []:=by
    split at hz
    ·rename_i h;exact A6p G w zs _ _ h
    ·cases hz
   obtain⟨c,hc,hz'⟩:=hz';rw[R2]at hc;subst hc;have A4r:∀j f zz,fs[j]?=some f→zs[j]?=some zz→f.offset=Ae5 (zs.take j)∧(sizeOf f.type).run P w= .ok zz.size w:=by
    intro j f zz hf hzz;have hj:j<zs.length:=(A7.1 hzz).1;have:=Aia.1 Anw j (Agu.2 hj);simp only[hf,hzz,Ap,beq_iff_eq]at this;obtain⟨h1,h2⟩:=this;refine⟨h1,?_⟩;cases hfi:P.info? f.type with
    |none=>simp[hfi]at h2
    |some jn=>
     simp only[hfi,beq_iff_eq]at h2;simp[sizeOf,typeInfo,hfi,h2]
   let szf:Field→Nat:=fun f=>((P.info? f.type).map (·.size)).getD 0
   have Bbq:∀f∈fs.toList,(sizeOf f.type).run P w= .ok (szf f) w:=by
    intro f hf;obtain⟨j,hj⟩:=List.mem_iff_getElem?.1 hf;have hj':j<zs.length:=by
     have:=(A7.1 hj).1;simp at this;omega
    have h2:=(A4r j f zs[j] (by simpa using hj) (Ae hj')).2
    cases hfi:P.info? f.type with
    |none=>simp[sizeOf,typeInfo,hfi]at h2
    |some jn=>simp[sizeOf,typeInfo,hfi,szf]
   have A8d:∀j zz,zs[j]?=some zz→(fs.toList.map fun f=>(f.offset,szf f)).toArray[j]?=some (Ae5 (zs.take j),zz.size):=by
    intro j z0 hzj;have hj:j<zs.length:=(A7.1 hzj).1;have hjf:fs[j]?=some (fs[j]'(by omega)):=E6 (by omega)
    obtain⟨h1,h2⟩:=A4r j _ z0 hjf hzj;have h3:=Bbq _ (by simp:fs[j]'(by omega)∈fs.toList)
    rw[h2]at h3;have h4:z0.size=szf (fs[j]'(by omega)):=by injection h3
    simp[hjf,h1,h4]
   obtain⟨zs',Aud,bs',G',σ',st',hG,Hm,h2,h3,h4,h5,h6⟩:=Rq (place:=fun j=>(fs.toList.map fun f=>(f.offset,szf f)).toArray[j]?) hr hp hw hz' Ach (by simp) A8d
   obtain⟨σ2,st2,r1,r2⟩:=Hm.Anp (P:=P) (C2 d hd) (c:=.agg Aud) ⟨bs',Fe.Mg.2 h3,by rw[Sw];rfl,h4,h5⟩ h2
   refine Jt (w':=w) ?_ (by rw[hd];exact hn G' σ2 st2 _ w hG r1 r2)
   have hm:=Ux (P:=P) (w:=w) Bbq;have A0q:(ps.map fun(p:Nat × Operand)=>(p.1,a.eval p.2)).toList=ps.toList.map fun p=>(p.1,a.eval p.2):=by simp
   have hm':(fs.mapM fun f=>(do pure (f.offset, ←sizeOf f.type):Sem (Nat × Nat))).run P w= .ok (fs.toList.map fun f=>(f.offset,szf f)).toArray w:=by
    rw[Ak1,Sem.run_map,hm];rfl
   have hzero:(zeroValue t).run P w= .ok z w:=by simp[zeroValue,typeInfo,hi,hzv]
   simp only[execOp,ho,Instr.build,Sem.run_bind,hzero,Result.andThen,run_underlying hu,hm',A0q,h6,Sem.run_pure]
 ·cases ht
theorem Wm{z:I}{c:List Value}(h:D8 G z c)(n:Nat):H8 G w (List.replicate n (.it z)) (List.replicate n c).flatten []:=by
 have:=Po h n;rw[←List.map_replicate];exact H8.its.2 ⟨this,rfl⟩
theorem Xy{o:Oper}{d:Nat}{t e:TypeId}{sz n:Nat}{z:I}{ps:Array (Nat × Operand)}{ps':List (Nat × D6)}(hd:o.dst=some d)(ho:o.op= .buildSlice t n ps)(hp:La N ps.toList ps'=true)(ht:N6 P t e sz z n=true):
 Sound P N o (V5 d e sz z n ps'):=by
 intro G σ Fr w0 st a w Q next E hN hr hw hn C2
 subst hN;unfold N6 at ht;split at ht
 ·rename_i e' hu;simp only[Ap,beq_iff_eq,bne_iff_ne,ne_eq,decide_eq_true_eq]at ht;obtain⟨⟨⟨rfl,hn4⟩,hn0⟩,ht⟩:=ht;split at ht
  ·rename_i i hi;simp only[Ap,beq_iff_eq,bne_iff_ne,ne_eq,decide_eq_true_eq]at ht;obtain⟨⟨⟨⟨rfl,h0⟩,hs4⟩,Bbu⟩,ht⟩:=ht;split at ht
   ·rename_i v hv;simp only[Ap,beq_iff_eq]at ht;obtain⟨hvs,hz⟩:=ht;have hz':∃c,v.cells.toList=c++[]∧D8 G z c:=by
     split at hz
     ·rename_i h;exact A0a G z _ _ h
     ·cases hz
    obtain⟨c,hc,hz'⟩:=hz';rw[R2]at hc;subst hc;have A8a:H8 G w (List.replicate n (.it z)) ((Array.range (n*i.size)).map (fun j=>v.cells[j % v.cells.size]!)).toList []:=by
     rw[Wj hvs];exact Wm hz' n
    have Axs:∀(j:Nat) (zz:D),(List.replicate n (D.it z))[j]?=some zz→(fun j:Nat=>some (j*i.size,i.size)) j=some (Ae5 ((List.replicate n (D.it z)).take j),zz.size):=by
     intro j zz hzz;have hj:j<n:=by have:=(A7.1 hzz).1;simpa using this
     have Biv:zz= .it z:=by rw[Amo,if_pos hj]at hzz;cases hzz;rfl
     subst Biv;rw[Sg (sz:=i.size) (by intro x hx;rw[List.eq_of_mem_replicate hx];exact Bbu) (by simp;omega)]
     simp[D.size,Bbu]
    obtain⟨l,cells,bs',G',σ',st',hG,Hm,h2,h3,h3n,h3f,h4⟩:=Rq (place:=fun j=>some (j*i.size,i.size)) hr hp hw A8a Ach (by simp) Axs
    obtain⟨⟨hl,Hr⟩,h2⟩:=h2;have Az2:cells.size=n*i.size:=by
     have:=H8.length h3;rw[Lr Hr,hl]at this;simpa using this
    have hnm:n≤maxLen:=by simp only[maxLen];omega
    have hg:Rel G' σ' Fr w0 st' a (w.alloc (.cells cells e')):=Hm.grow rfl rfl rfl (by simp) fun b hb=>K8 w _ b hb
    obtain⟨f1,f2,f3⟩:=Hm.Fc.fresh (Bz w.heap.size);obtain⟨σ'',As9,r1,r2⟩:=hg.Anp (P:=P) (C2 d hd) (c:=.slice (some ⟨w.heap.size,0,none⟩) n n) ⟨w.heap.size::bs',by
     simp only[Fe,Value.cells];refine .inr ⟨w.heap.size,0,n,cells,cells.toList,bs',by rw[hl],Row.of (heap_alloc_new w _),fun _=>⟨rfl,Az2⟩,by rw[hl];exact Bz _,hnm,by rw[E3,Az2];exact Bz _,?_,h3.tr (Mem.le.refl G') fun b hb=>K8 w _ b (h3f b hb).2.2.2,Hr,rfl⟩
     rw[hl, ←Az2];have:cells.size=cells.toList.length:=by simp
     rw[this,List.drop_zero,List.take_length],rfl,Hw.2 ⟨fun hb=>by have:=(h3f _ hb).2.2.2;omega,h3n⟩,fun b hb=>by
     rcases Bg.1 hb with rfl|hb
     ·exact⟨f1,f2,f3,by simp⟩
     ·obtain⟨k1,k2,k3,k4⟩:=h3f b hb;exact⟨k1,k2,k3,by simp;omega⟩⟩ h2
    have Avd:¬(n*i.size>2^24):=by
     have:n*i.size≤4096*4096:=Nat.mul_le_mul hn4 hs4;omega
    have A0q:(ps.map fun(p:Nat × Operand)=>(p.1,a.eval p.2)).toList=ps.toList.map fun p=>(p.1,a.eval p.2):=by simp
    have hzero:(zeroValue e').run P w= .ok v w:=by simp[zeroValue,typeInfo,hi,hv]
    have A8e:(sizeOf e').run P w= .ok i.size w:=by simp[sizeOf,typeInfo,hi]
    refine Jt (w':=w.alloc (.cells cells e')) ?_ (by rw[hd];exact hn G' σ'' As9 _ _ hG r1 r2)
    have Cf:n*i.size≠0:=Nat.mul_ne_zero hn0 h0;have h4':Instr.fill (fun j=>some (j*i.size,i.size)) ((Array.range (n*i.size)).map (fun j=>v.cells[j % v.cells.size]!)) (ps.toList.map fun p=>(p.1,a.eval p.2))=some cells:=h4
    simp only[execOp,ho,Instr.buildSlice,Sem.run_bind,run_underlying hu,Result.andThen,A8e];rw[if_neg Avd,if_neg Cf];simp only[Sem.run_bind,hzero,Result.andThen,Sem.run_pure,A0q,h4'];simp[newRow]
   ·cases ht
  ·cases ht
 ·cases ht
theorem H8.append{l m:List D}{cs ds:List Value}{bs bs':List Nat}(h:H8 G w l cs bs)(h':H8 G w m ds bs'):H8 G w (l++m) (cs++ds) (bs++bs'):=by
 induction l generalizing cs bs with
 |nil=>
  simp only[H8]at h;obtain⟨rfl,rfl⟩:=h;exact h'
 |cons x l ih=>
  simp only[H8]at h;obtain⟨c,c',b,b',rfl,rfl,h1,h2⟩:=h;simp only[H3,H8];exact⟨c,c'++ds,b,b'++bs',by simp,by simp,h1,ih h2⟩
theorem Aaf{u:D}{ys:List D}{c:Value}{bs:List Nat}{sz:Nat}(h:Aw0 G σ Fr w u c bs)(H2:WOk G σ Fr w0 w)(he:Ry u=some ys)(Hr:∀u∈ys,u.size=sz):
 ∃ad cap,c= .slice ad ys.length cap∧((ad=none∧ys=[])∨∃A news bn,ad=some A∧news.length=ys.length*sz∧H8 G w ys news bn∧bn.Nodup∧(∀b∈bn,b∈bs)∧∀j u,news[j]?=some u→w.cell? (A.add j)=some u):=by
 obtain⟨h1,h2,h3,h4⟩:=h;cases u with
 |vec e sz' l=>
  simp only[Ry,A0]at he;subst he;rw[J9 h2]at h1;simp only[Fe]at h1;rcases h1 with⟨e1,rfl,_⟩|⟨g,off,cap,cur,xs,bs',e1,⟨ty,fz,q1,_⟩,_,q2,q3,q4,q5,q6,q7,rfl⟩
  ·injection e1 with e1
   exact⟨none,0,e1,.inl ⟨rfl,rfl⟩⟩
  ·injection e1 with e1
   refine⟨_,cap,e1,.inr ⟨_,xs,bs',rfl,?_,q6,(Hw.1 h3).2,fun b hb=>by simp[hb],?_⟩⟩
   ·rw[H8.length q6,Lr Hr]
   ·intro j u hj;rw[add_lit,cell_of_row w g (off+j) cur ty fz q1];have:cur[off+j]?=cur.toList[off+j]?:=by simp
    rw[this];rw[←q5,Am5]at hj;split at hj
    ·rw[Ae3]at hj;exact hj
    ·cases hj
 |it x=>
  cases x with
  |list l=>
   simp only[Ry,A0]at he;subst he;simp only[Fe]at h1;obtain⟨h1,rfl⟩:=h1;rw[J9 h2]at h1;have hv:C7 G (.list l) c:=by
    unfold C7;rw[if_neg (by simp[I.isAgg])]
    exact h1
   obtain⟨ad,cap,hc,hlc,hcm,A65⟩:=C7.list.1 hv;refine⟨ad,cap,by simpa using hc,?_⟩
   rcases A65 with rfl|⟨b,off,bl,ty,fz,sz',rfl,hg,A6i,hle,Dh⟩
   ·cases ad with
    |none=>exact .inl ⟨rfl,rfl⟩
    |some A=>exact .inr ⟨A,[],[],rfl,by simp,by simp[H8],Ach,by simp,by simp⟩
   ·cases l with
    |nil=>exact .inr ⟨_,[],[],rfl,by simp,by simp[H8],Ach,by simp,by simp⟩
    |cons y0 l'=>
     have Bbr:sz'=sz:=by
      rw[←A6i y0 (by simp)]
      exact Hr (.it y0) (by simp)
     subst Bbr;refine .inr ⟨_,_,[],rfl,?_,H8.its.2 ⟨Dh,rfl⟩,Ach,by simp,?_⟩
     ·rw[Hg,Ei,U6]
      ·simp
      ·have:bl.toList.length=bl.size:=by simp
       omega
     ·intro j u hj;have hh:=H2.fixed b _ hg;rw[add_lit,cell_of_row w b (off+j) bl ty fz hh];have:bl[off+j]?=bl.toList[off+j]?:=by simp
      rw[this];rw[Am5]at hj;split at hj
      ·rwa [Ae3]at hj
      ·cases hj
  |_=>simp[Ry]at he
 |_=>simp[Ry]at he
theorem Ac8{o:Oper}{d:Nat}{t e:TypeId}{x y:Operand}{x' y':D6}{sz bytes:Nat}(hd:o.dst=some d)
 (ho:o.op= .call {callee:=.builtin .append,args:= #[x,y],argTypes:= #[t,t]}) (hx:Jj N x x'=true) (hy:Jj N y y'=true) (ht:Vi P t e sz bytes=true):
 Sound P N o (Wn d e sz bytes x' y'):=by
 intro G0 σ0 Fr w0 st0 a w Q next E hN hr hw hn C2
 subst hN;obtain⟨u,bu,G1,σ1,st1,hG1,hr1,h1,hfu,_,_⟩:=Lv hr hy hw;obtain⟨v,bv,G,σ,st,hG2,hr2,h2,hfv,hlv,hk2⟩:=Lv hr1 hx h1;have hG:G0.le G:=hG1.trans hG2;clear hw h1;have Bts:=hfu
 replace hfu:=hfu.later hG2 hk2
 split at h2
 ·rename_i e' sz' l ys hys;obtain⟨⟨rfl,rfl,hby,A1r,Hr,Avd⟩,h2⟩:=h2;obtain⟨v1,v2,v3,v4⟩:=hfv;rw[J9 v2]at v1;obtain⟨ad,cap,hcy,A65⟩:=Aaf hfu hr2.Fc hys Hr;have Axq:∀b∈bu,b ∉ bv:=fun b hb Sy=>hlv b Sy (Bts.2.2.2 b hb).2.2.1
  unfold Vi at ht;split at ht
  ·rename_i e'' hu;simp only[Ap,beq_iff_eq]at ht;obtain⟨rfl,ht⟩:=ht;split at ht
   ·rename_i i hi;simp only[Ap,beq_iff_eq,bne_iff_ne,ne_eq]at ht;obtain⟨⟨⟨rfl,rfl⟩,h0⟩,ht⟩:=ht;split at ht
    ·rename_i z hz;simp only[beq_iff_eq]at ht;have exec:∀{v' w'},(Builtin.append_ #[t,t] o.type #[a.eval x,a.eval y]).run P w= .ok v' w'→(execOp a.eval o).run P w= .ok (.value v') w':=by
      intro v' w' Aih;simp[execOp,ho,resolve,invoke,builtin,Aih]
     obtain⟨xs,bx,Akd,hxs,Buo,hbx,A7k⟩:∃xs bx,w.ownsRow 0 e'' i.size (a.eval x) l.length xs∧H8 G w l xs bx∧(∀x∈l,x.size=i.size)∧bx.Nodup∧
      ∀b,(b∈bx∨(a.eval x).ownBlock=some b)→(b∈bv∧(b∈bx→(a.eval x).ownBlock≠some b)):=by
      simp only[Fe]at v1;rcases v1 with⟨e1,rfl,rfl⟩|⟨g,off,cp,cur,xs,bs',e1,q1,q0,q2,q3,q4,q5,q6,q7,rfl⟩
      ·injection e1 with e1
       rw[e1];exact⟨[],[],(Arr.nil w e'' i.size).to Avd,by simp[H8],by simp,Ach,by simp[Value.ownBlock]⟩
      ·injection e1 with e1
       rw[e1];obtain⟨rfl,q4'⟩:=q0 Avd;refine⟨xs,bs',⟨by rw[H8.length q6,Lr q7],.inr ⟨g,cp,cur,rfl,Cr _,q1.to Avd,q2,q3,q4',q5⟩⟩,q6,q7,(Hw.1 v3).2,?_⟩
       intro b hb;simp only[Value.ownBlock,A0]at hb ⊢;rcases hb with hb|rfl
       ·exact⟨by simp[hb],fun _ e=>by cases e;exact(Hw.1 v3).1 hb⟩
       ·exact⟨by simp,fun h e=>(Hw.1 v3).1 h⟩
     have fin:∀{v':Value} {w':World} {row:Option Nat} {news:List Value} {bn:List Nat},(Builtin.append_ #[t,t] o.type #[a.eval x,a.eval y]).run P w= .ok v' w'→w.grownBy w' row→row=(a.eval x).ownBlock→
      H8 G w ys news bn→bn.Nodup→(∀b∈bn,b∈bu)→w'.ownsRow 0 e'' i.size v' (l.length+ys.length) (xs++news)→(v'.ownBlock=(a.eval x).ownBlock∨v'.ownBlock=some w.heap.size)→o.wp P a w next E:=by
      intro v' w' row news bn Aih hgr Ars hy1 hy2 hy3 hq1 hq2;have Bin:∀b,row=some b→G b=none∧Fr b=none∧σ b=none:=fun b hb=>by
       obtain⟨k1,k2,k3,_⟩:=v4 b (A7k b (.inr (by rw[←Ars];exact hb))).1
       exact⟨k1,k2,k3⟩
      have hr3:=hr2.A5e hgr Bin;have A7e:∀b∈bx++bn,(G b=none∧Fr b=none∧σ b=none∧b<w.heap.size)∧(a.eval x).ownBlock≠some b:=by
       intro b hb;rcases Bv.1 hb with hb|hb
       ·obtain⟨k1,k2⟩:=A7k b (.inl hb);exact⟨v4 b k1,k2 hb⟩
       ·refine⟨hfu.2.2.2 b (hy3 b hb),fun e=>?_⟩
        exact Axq b (hy3 b hb) (A7k b (.inr e)).1
      have Bes:∀b∈bx++bn,w'.heap[b]?=w.heap[b]?:=fun b hb=>hgr.block b (A7e b hb).1.2.2.2 (by rw[Ars];exact fun e=>(A7e b hb).2 e.symm)
      have hnd:(bx++bn).Nodup:=by
       rw[Hb];refine⟨hbx,hy2,fun b hb c hc e=>?_⟩
       subst e;exact Axq b (hy3 b hc) (A7k b (.inl hb)).1
      have Dh:H8 G w' (l++ys) (xs++news) (bx++bn):=(hxs.append hy1).tr (Mem.le.refl G) Bes;have A8f:∀z∈l++ys,z.size=i.size:=by
       intro z hz;rcases Bv.1 hz with hz|hz
       ·exact Buo z hz
       ·exact Hr z hz
      have hFB:Awb G σ Fr w' (.vec e'' i.size (l++ys)) v':=by
       have Buf:=Arr.of hq1;rcases Buf.2 with⟨rfl,hl0⟩|⟨g,cp,cur,rfl,_,k1,k2,k3,k4,k5⟩
       ·have hl:l=[]:=Aby (by omega)
        have hyl:ys=[]:=Aby (by omega)
        subst hl hyl;exact⟨[],by simp[Fe,Value.cells],rfl,Ach,by simp⟩
       ·refine⟨g::(bx++bn),?_,rfl,Hw.2 ⟨fun hb=>?_,hnd⟩,fun b hb=>?_⟩
        ·simp only[Fe,Value.cells];exact .inr ⟨g,0,cp,cur,xs++news,bx++bn,by simp,k1,fun _=>⟨rfl,k4⟩,by simpa using k2,k3,by rw[E3,k4];exact Bz _,by simpa using k5,Dh,A8f,rfl⟩
        ·rcases hq2 with h|h
         ·exact(A7e g hb).2 h.symm
         ·simp only[Value.ownBlock,A0]at h;have:=(A7e g hb).1.2.2.2;omega
        ·rcases Bg.1 hb with rfl|hb
         ·have Ze:b<w'.heap.size:=by
           obtain⟨_,_,k,_⟩:=k1;exact(Ht.1 k).1
          rcases hq2 with h|h
          ·obtain⟨q1,q2,q3,_⟩:=v4 b (A7k b (.inr h.symm)).1;exact⟨q1,q2,q3,Ze⟩
          ·simp only[Value.ownBlock,A0]at h;obtain⟨q1,q2,q3⟩:=hr2.Fc.fresh (Nat.le_of_eq h.symm);exact⟨q1,q2,q3,Ze⟩
         ·obtain⟨q1,q2,q3,q4⟩:=(A7e b hb).1;exact⟨q1,q2,q3,Nat.lt_of_lt_of_le q4 hgr.size⟩
      obtain⟨σ',st',r1,r2⟩:=hr3.Anp (P:=P) (C2 d hd) hFB h2;exact Jt (exec Aih) (by rw[hd];exact hn G σ' st' _ w' hG r1 r2)
     have Ba8:w.grownBy w (a.eval x).ownBlock:=⟨rfl,rfl,rfl,Bz _,fun _ _ _=>rfl⟩
     rcases A65 with⟨rfl,rfl⟩|⟨A,news,bn,rfl,hl,Dh,hbn,hbu,A4o⟩
     ·have Aih:=Pj (P:=P) t o.type e'' i.size hu hi (a.eval x) l.length xs Akd cap;rw[show Value.slice none 0 cap=a.eval y from hcy.symm]at Aih;exact fin (news:=[]) (bn:=[]) Aih Ba8 rfl (by simp[H8]) Ach (by simp) (by simpa using Akd) (.inl rfl)
     ·obtain⟨v',w',Aih,q1,q2,_,q3⟩:=run_append_own_at (P:=P) w 0 t o.type e'' i z i.size i.bytes hu hi hz rfl rfl ht (by omega) (a.eval x) l.length xs Akd A ys.length cap news hl A4o (H8.one Dh) A1r hby (Cr _)
      rw[show Value.slice (some A) ys.length cap=a.eval y from hcy.symm]at Aih;exact fin Aih q2 rfl Dh hbn hbu q1 q3
    ·cases ht
   ·cases ht
  ·cases ht
 ·exact h2.elim
end
end Go.Ab
