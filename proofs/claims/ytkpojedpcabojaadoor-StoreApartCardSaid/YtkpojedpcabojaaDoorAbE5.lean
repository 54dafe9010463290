/- Lemmas -/
import Derived.Test.YtkpojedpcabojaaDoorAbE3
set_option linter.unusedVariables false
set_option linter.unusedSimpArgs false
namespace Go.Ab
open Go.Op
def D.husk:D→D
 | .st l=>.it (.agg (List.replicate (dsizes l) .und))
 |_=>.it .und
theorem Xs:∀n,sizes (List.replicate n I.und)=n
 |0=>rfl
 |n+1=>by simp[List.replicate_succ,sizes,I.size,Xs n];omega
theorem Acn{G:Mem}:∀{cs:List Value} {n:Nat},cs.length=n→(∀c∈cs,c.oneCell'=true)→RepIs G (List.replicate n .und) cs
 | [],n,h,_=>by subst h;simp[RepIs]
 |c::cs,n,h,h1=>by
  subst h;simp only[List.length_cons,List.replicate_succ,RepIs];exact⟨[c],cs,rfl,by simp only[RepI];exact⟨c,rfl,h1 c (by simp)⟩,Acn rfl fun x hx=>h1 x (by simp[hx])⟩
def D.whole:D→Bool
 | .it _=>false
 |_=>true
theorem Vp{u:D}(h:u.whole=true):u.husk.isAgg=u.isAgg∧u.husk.size=u.size∧u.leaf=false:=by
 cases u with
 |it x=>cases h
 |st l=>exact⟨rfl,Xs _,rfl⟩
 |_=>exact⟨rfl,rfl,rfl⟩
theorem Ys{G:Mem}{w:World}{u:D}{cs:List Value}{bs:List Nat}(hw:u.whole=true)(h:RepD G w u cs bs)(G':Mem)(w':World):RepD G' w' u.husk cs []:=by
 have hl:=RepD.length h;have h1:=RepD.one h;cases u with
 |it x=>cases hw
 |st l=>simp only[D.husk,RepD,RepI,and_true];exact Acn hl h1
 |_=>
  simp only[D.husk,RepD,RepI,and_true];simp only[D.size]at hl;obtain⟨c,rfl⟩:=List.length_eq_one_iff.1 hl;exact⟨c,rfl,h1 c (by simp)⟩
def Vo:D→Nat→Option Nat
 | .it x,i=>match x with
   | .agg l=>match l[i]? with
     |some _=>some (sizes (l.take i))
     |none=>none
   |_=>none
 | .st l,i=>match l[i]? with
   |some _=>some (dsizes (l.take i))
   |none=>none
 |_,_=>none
def Mv(d:Option Nat)(s cur:Nat)(inv:Inv)(t:D)(p:List Nat)(u:D):M:=match D.put p t u.husk with
 |some t'=>.set s (cur+1) (.own (bump inv p (cur+1)) t') (match d with
  |some d=>.need (d≠s) fun _=>Jz d (.own [] u)
  |none=>.done)
 |none=>.fail
def Zd(d:Option Nat)(agg:Bool)(sz:Nat)(x:Opd):M:=rdD x fun s cur inv t p=>match D.at p t with
 |some u=>match u with
  | .it y=>.need (y.isAgg=agg∧y.size=sz) fun _=>setD d (.v y) .done
  | .vec _ _ _=>.need (agg=false∧sz=1∧d≠some s) fun _=>setD d (.bd s cur p) .done
  | .map _ _=>.need (agg=false∧sz=1∧d≠some s) fun _=>setD d (.bd s cur p) .done
  | .ptr _=>.need (agg=false∧sz=1∧d≠some s) fun _=>setD d (.pd s cur (p++[0])) .done
  | .st l=>.need (agg=true∧dsizes l=sz) fun _=>Mv d s cur inv t p (.st l)
 |none=>.fail
def Ze(d:Option Nat)(agg:Bool)(sz:Nat)(x:Opd):M:=rdD x fun s cur inv t p=>match D.at p t with
 |some u=>match u.toI with
  |some y=>match D.put p t (.it y)with
   |some t'=>.need (u.leaf=false∧y.isAgg=agg∧y.size=sz∧d≠some s) fun _=>.set s (cur+1) (.own (bump inv p (cur+1)) t') (setD d (.v y) .done)
   |none=>.fail
  |none=>.fail
 |none=>.fail
def M6(x:Opd)(k:D→M):M:=match x with
 | .c x=>k (.it x)
 | .nils e sz=>k (.vec e sz [])
 | .t n=>.get n fun ver sv=>match sv with
   | .vec e sz l=>.set n (ver+1) .no (k (.vec e sz (l.map D.it)))
   | .own _ t=>.set n (ver+1) .no (k t)
   | .bd s v p=>.get s fun cur sv'=>match sv' with
     | .own inv t=>.need (J7 v inv p=true) fun _=>match D.at p t with
       |some u=>match D.put p t u.husk with
        |some t'=>.need (u.whole=true) fun _=>.set s (cur+1) (.own (bump inv p (cur+1)) t') (k u)
        |none=>.fail
       |none=>.fail
     |_=>.fail
   | .par h=>.get h fun cur sv'=>match sv' with
     | .own _ t=>.set h (cur+1) .no (k t)
     |_=>.fail
   |_=>Lw (.t n) fun u=>k (.it u)
def Xm(sz:Nat)(ax vx:Opd):M:=M6 vx fun u=>rdD ax fun s cur inv t p=>match D.at p t with
 |some u0=>match D.put p t u with
  |some t'=>.need (u.isAgg=u0.isAgg∧u.size=u0.size∧u.size=sz) fun _=>match u0.leaf with
   |true=>.set s (cur+1) (.own inv t') .done
   |false=>.set s (cur+1) (.own (bump inv p (cur+1)) t') .done
  |none=>.fail
 |none=>.fail
section
variable{P:Program}{N:Nat}{G:Mem}{σ:Lab}{Fr:Mem}{w0:Base}{w:World}{st:St}{a:Act}
theorem Rel.moveOut{s cur:Nat}{inv:Inv}{p:List Nat}{t t' u:D}{cs:List Value}{hh:Option (Nat × Nat)}(h:Rel G σ Fr w0 st a w)(hs:st[s]?=some (cur,.own inv t))(hat:t.at p=some u)(hw:u.whole=true)(hput:t.put p u.husk=some t')
 (hsp:spot w p t (none,(val a w0 s).cells.toList)=some (hh,cs)):
 ∃σ' ubs,Rel G σ' Fr w0 (st.set s (cur+1,.own (bump inv p (cur+1)) t')) a w∧RepD G w u cs ubs∧ubs.Nodup∧(∀b∈ubs,G b=none∧Fr b=none∧σ' b=none∧b<w.heap.size)∧(∀b∈ubs,σ b≠none)∧∀b,σ b=none→σ' b=none:=by
 obtain⟨bs,hrep,hva,hnd,hlab⟩:=show OwnD G σ w s t (val a w0 s)from h.slots s cur _ hs;obtain⟨m,s',ubs,f1,f2,f3,f4,f5,f6⟩:=focus (here:=none) hrep hnd hat
 rw[f1]at hsp;obtain rfl:=Option.some.inj hsp;obtain⟨hag,hsz,hul⟩:=Vp hw;obtain⟨hnew,hcell⟩:=Lie.same f5;obtain⟨bs',r1,r2,r3,r4,r5⟩:=f6 G w u.husk cs [] t' (Mem.le.refl G) rfl hag (Ys hw f2 G w) List.nodup_nil (by simp) hnew hput
 simp only at hcell r1 r5;rw[hcell]at r1 r5;refine⟨σ.shed ubs,ubs,?_,f2,f3,fun b hb=>?_,fun b hb hn=>?_,fun b hb=>by unfold Lab.shed;split<;>first|rfl|exact hb⟩
 rotate_left 2
 ·obtain⟨k,hk⟩:=hlab b (f4 b hb);rw[hn]at hk;cases hk
 ·obtain⟨hpd,hbd⟩:=Focus.refs (G:=G) (inv:=inv) (cur:=cur) r5;rw[hul]at hpd hbd;refine h.tree h.wok.shed (Mem.le.refl G) hs (Nat.lt_succ_self _) ?_ (fun e=>by omega) ?_ hpd hbd
  ·intro s1 hs1 x k hx;refine⟨Lab.shed_some.2 ⟨fun hm=>?_,hx⟩,rfl⟩
   obtain⟨k',hk'⟩:=hlab x (f4 x hm);rw[hx]at hk';cases hk';exact hs1 rfl
  ·refine⟨bs',r1,?_,r2,fun x hx=>?_⟩
   ·rw[r4];split
    ·rename_i hp;subst hp;simp only[D.at,Option.some.injEq]at hat;subst hat;rw[hag];exact hva
    ·exact hva
   ·rcases(r3 x).1 hx with⟨h1,h2⟩|h1
    ·obtain⟨k,hk⟩:=hlab x h1;exact⟨k,Lab.shed_some.2 ⟨h2,hk⟩⟩
    ·cases h1
 ·obtain⟨k,hk⟩:=hlab b (f4 b hb);obtain⟨k1,k2,k3⟩:=h.wok.own b _ hk;exact⟨k1,k2,by simp[Lab.shed,hb],k3⟩
theorem Rel.adopt{Q:St→Prop}{d:Nat}{u:D}{c:Value}(h:Rel G σ Fr w0 st a w)(hdn:d<w0.n)(hf:FreeD G σ Fr w u c)(hq:(Jz d (.own [] u)).wp P Q st):
 ∃σ' st',Rel G σ' Fr w0 st' (a.put (some d) c) w∧Q st':=by
 obtain⟨bs,g1,g2,g3,g4⟩:=hf;simp only[Jz,M.wp]at hq;cases hd:st[d]? with
 |none=>simp[hd]at hq
 |some cur=>
  simp only[hd]at hq;have hK:∀b k,σ.drop d b=some (d,k)→k<0:=fun b k hb=>absurd rfl (Lab.drop_some.1 hb).1
  have hok:WOk G ((σ.drop d).adopt d 0 bs) Fr w0 w:=(h.wok.drop d).adopt hK fun b hb=>⟨(g4 b hb).1,(g4 b hb).2.1,(g4 b hb).2.2.2⟩
  refine⟨_,_,h.put hdn hok (Mem.le.refl G) hd (Nat.lt_succ_self _) ?_ ?_ (fun h e=>by cases e) Nx,hq⟩
  ·intro s' hs' b k hb;refine⟨?_,rfl⟩;rw[Lab.adopt_old]
   ·exact Lab.drop_some.2 ⟨hs',hb⟩
   ·intro hm;rw[(g4 b hm).2.2.1]at hb;cases hb
  ·exact⟨bs,g1,g2,g3,fun b hb=>⟨_,Lab.adopt_new hb⟩⟩
theorem VecAt.freeD{lab:Nat × Nat}{e:TypeId}{sz:Nat}{l:List I}{c:Value}(h:VecAt G σ w lab e sz l c)(hok:WOk G σ Fr w0 w){σ':Lab}(hσ:∀b,σ b=some lab→σ' b=none):FreeD G σ' Fr w (.vec e sz (l.map D.it)) c:=by
 obtain⟨xs,⟨hl,h1⟩,h2,h3,h4⟩:=h;rcases h1 with⟨rfl,h0⟩|⟨g,cap,cur,rfl,_,hg,hn,hm,hs,ht⟩
 ·obtain rfl:=List.eq_nil_of_length_eq_zero h0;exact⟨[],by simp[RepD,Value.cells],rfl,List.nodup_nil,by simp⟩
 ·refine⟨[g],?_,rfl,by simp,?_⟩
  ·simp only[RepD,Value.cells];refine .inr ⟨g,0,cap,cur,xs,[],by simp,hg,fun _=>⟨rfl,hs⟩,by simpa using hn,hm,by rw[Nat.zero_add,hs];exact Nat.le_refl _,by simpa using ht,RepDs.its.2 ⟨h2,rfl⟩,?_,rfl⟩
   intro x hx;obtain⟨y,hy,rfl⟩:=List.mem_map.1 hx;exact h3 y hy
  ·intro b hb;obtain rfl:=List.mem_singleton.1 hb;have hlab:=h4 b rfl;obtain⟨k1,k2,k3⟩:=hok.own b _ hlab;exact⟨k1,k2,hσ b hlab,k3⟩
def FreeB(G:Mem)(σ:Lab)(Fr:Mem)(w:World)(u:D)(c:Value)(bs:List Nat):Prop:=
 RepD G w u c.cells.toList bs∧valOf u.isAgg c=true∧bs.Nodup∧∀b∈bs,G b=none∧Fr b=none∧σ b=none∧b<w.heap.size
theorem FreeB.free{u:D}{c:Value}{bs:List Nat}(h:FreeB G σ Fr w u c bs):FreeD G σ Fr w u c:=⟨bs,h⟩
theorem FreeB.item{u:I}{c:Value}(h:RepV G u c):FreeB G σ Fr w (.it u) c []:=by
 obtain⟨bs,h1,h2,h3,h4⟩:=FreeD.item (σ:=σ) (Fr:=Fr) (w:=w) h;have:bs=[]:=by simp only[RepD]at h1;exact h1.2
 subst this;exact⟨h1,h2,h3,h4⟩
theorem FreeB.later{G':Mem}{σ':Lab}{u:D}{c:Value}{bs:List Nat}(h:FreeB G σ Fr w u c bs)(hG:G.le G')(hk:∀b,σ b=none→G b=none→σ' b=none∧G' b=none):FreeB G' σ' Fr w u c bs:=by
 obtain⟨h1,h2,h3,h4⟩:=h;refine⟨h1.tr hG fun _ _=>rfl,h2,h3,fun b hb=>?_⟩
 obtain⟨k1,k2,k3,k4⟩:=h4 b hb;obtain⟨q1,q2⟩:=hk b k3 k1;exact⟨q2,k2,q1,k4⟩
theorem Lv{x:Operand}{y:Opd}{k:D→M}{Q:St→Prop}(h:Rel G σ Fr w0 st a w)(ho:Jj w0.n x y=true)(hq:(M6 y k).wp P Q st):
 ∃u bs G' σ' st',G.le G'∧Rel G' σ' Fr w0 st' a w∧(k u).wp P Q st'∧FreeB G' σ' Fr w u (a.eval x) bs∧(∀b∈bs,σ b≠none)∧∀b,σ b=none→G b=none→σ' b=none∧G' b=none:=by
 cases y with
 |c i=>exact⟨_,[],G,σ,st,Mem.le.refl G,h,hq,FreeB.item (Nn ho G),by simp,fun _ h1 h2=>⟨h1,h2⟩⟩
 |nils e sz=>
  refine⟨_,[],G,σ,st,Mem.le.refl G,h,hq,?_,by simp,fun _ h1 h2=>⟨h1,h2⟩⟩
  rw[Le ho];exact⟨by simp[RepD,Value.cells],rfl,List.nodup_nil,by simp⟩
 |t n=>
  obtain⟨rfl,hnlt⟩:=J0 ho;have hv:val a w0 n=a.eval (.tmp n):=J2 (by rw[h.n];exact hnlt)
  simp only[M6,M.wp]at hq;cases hs:st[n]? with
  |none=>simp[hs]at hq
  |some cur=>
   obtain⟨ver,sv⟩:=cur;simp only[hs]at hq;have hrep:=h.slot hnlt hs;have viaV:(Lw (.t n) fun u=>k (.it u)).wp P Q st→∃u bs G' σ' st',G.le G'∧Rel G' σ' Fr w0 st' a w∧(k u).wp P Q st'∧FreeB G' σ' Fr w u (a.eval (.tmp n)) bs∧(∀b∈bs,σ b≠none)∧∀b,σ b=none→G b=none→σ' b=none∧G' b=none:=by
    intro hq;obtain⟨i,G',σ',st',h1,h2,h3,h4,h5⟩:=Wg h ho hq;exact⟨_,[],G',σ',st',h1,h2,h3,FreeB.item h4,by simp,h5⟩
   cases sv with
   |vec e sz l=>
    have hdrop:∀b,σ b=some (n,0)→σ.drop n b=none:=fun b hb=>by simp[Lab.drop,hb]
    obtain⟨bs,hf⟩:=VecAt.freeD hrep h.wok hdrop;refine⟨_,bs,G,σ.drop n,_,Mem.le.refl G,h.drop hs (Nat.lt_succ_self _),hq,hf,fun b hb hn=>?_,fun b h1 h2=>⟨by simp[Lab.drop,h1],h2⟩⟩
    obtain⟨xs,h1,_,_,h4⟩:=hrep;have hrd:=hf.1;simp only[RepD]at hrd;rcases hrd with⟨_,_,rfl⟩|⟨g,off,cap,cur,xs',bs',e1,_,_,_,_,_,_,e2,_,rfl⟩
    ·cases hb
    ·obtain⟨_,rfl⟩:=RepDs.its.1 e2;obtain rfl:=List.mem_singleton.1 hb;rcases h1.2 with⟨h0,_⟩|⟨g',cap',cur',h0,_⟩
     ·rw[h0]at e1;simp[Value.cells]at e1
     ·have:=h4 g' (by rw[h0];rfl)
      rw[h0]at e1;simp[Value.cells]at e1;rw[e1.1.1]at this;rw[hn]at this;cases this
   |own inv t=>
    obtain⟨bs,g1,g2,g3,g4⟩:=hrep;refine⟨_,bs,G,σ.drop n,_,Mem.le.refl G,h.drop hs (Nat.lt_succ_self _),hq,⟨g1,g2,g3,fun b hb=>?_⟩,fun b hb hn=>?_,fun b h1 h2=>⟨by simp[Lab.drop,h1],h2⟩⟩
    rotate_left 1
    ·obtain⟨kk,hk⟩:=g4 b hb;rw[hn]at hk;cases hk
    obtain⟨kk,hk⟩:=g4 b hb;obtain⟨k1,k2,k3⟩:=h.wok.own b _ hk;refine⟨k1,k2,?_,k3⟩;simp[Lab.drop,hk]
   |bd s v p=>
    obtain⟨cur,h1,h2,h3⟩:=hrep;simp only[M.wp,h1]at hq;obtain⟨cv,csv⟩:=cur;cases csv with
    |own inv t=>
     obtain⟨ha,hq⟩:=hq;split at hq
     ·rename_i u hat;split at hq
      ·rename_i t' hput;obtain⟨hw,hq⟩:=hq;have hhd:=h3 inv t rfl ha;obtain⟨hh,ubs0,_,_,hsp⟩:=HdD.read (h.slots s cv _ h1) hat hhd;obtain⟨u1,_,e1,e0,_⟩:=hhd;rw[hat]at e1;obtain rfl:=Option.some.inj e1;obtain⟨σ',ubs,r1,r2,r3,r4,r5,r6⟩:=h.moveOut h1 hat hw hput hsp;refine⟨u,ubs,G,σ',_,Mem.le.refl G,r1,hq,⟨?_,?_,r3,r4⟩,r5,fun b h1 h2=>⟨r6 b h1,h2⟩⟩
       ·have hc1:=RepD.one r2 (a.eval (.tmp n)) (by simp)
        have:(a.eval (.tmp n)).cells.toList=[a.eval (.tmp n)]:=by
         generalize a.eval (.tmp n)=c at hc1 ⊢;cases c<;>first|rfl|(simp[Value.oneCell']at hc1)
        rw[this];exact r2
       ·have:u.isAgg=false:=by cases u<;>first|rfl|cases e0
        rw[this];have hc1:=RepD.one r2 (a.eval (.tmp n)) (by simp)
        generalize a.eval (.tmp n)=c at hc1 ⊢;cases c<;>first|rfl|(simp[Value.oneCell']at hc1)
      ·exact hq.elim
     ·exact hq.elim
    |_=>exact hq.elim
   |par hh=>
    obtain⟨hv',hle⟩:=h.pars n ver hh hs;rw[hv]at hv';simp only[M.wp]at hq;cases h1:st[hh]? with
    |none=>simp[h1]at hq
    |some cur=>
     obtain⟨cv,csv⟩:=cur;simp only[h1]at hq;cases csv with
     |own inv t=>
      obtain⟨bs,g1,g2,g3,g4⟩:=show OwnD G σ w hh t (val a w0 hh)from h.slots hh cv _ h1;rw[←hv']at g1 g2;refine⟨_,bs,G,σ.drop hh,_,Mem.le.refl G,h.drop h1 (Nat.lt_succ_self _),hq,⟨g1,g2,g3,fun b hb=>?_⟩,fun b hb hn=>?_,fun b h1 h2=>⟨by simp[Lab.drop,h1],h2⟩⟩
      rotate_left 1
      ·obtain⟨kk,hk⟩:=g4 b hb;rw[hn]at hk;cases hk
      obtain⟨kk,hk⟩:=g4 b hb;obtain⟨k1,k2,k3⟩:=h.wok.own b _ hk;refine⟨k1,k2,?_,k3⟩;simp[Lab.drop,hk]
     |_=>exact hq.elim
   |_=>exact viaV hq
theorem Tp{x:Operand}{y:Opd}{k:D→M}{Q:St→Prop}(h:Rel G σ Fr w0 st a w)(ho:Jj w0.n x y=true)(hq:(M6 y k).wp P Q st):
 ∃u G' σ' st',G.le G'∧Rel G' σ' Fr w0 st' a w∧(k u).wp P Q st'∧FreeD G' σ' Fr w u (a.eval x):=by
 obtain⟨u,bs,G',σ',st',h1,h2,h3,h4,_⟩:=Lv h ho hq;exact⟨u,G',σ',st',h1,h2,h3,h4.free⟩
theorem Acj{o:Oper}{Q:St→Prop}{next:Act→World→Prop}{E:Exit→Act→World→Prop}{s cur:Nat}{inv:Inv}{t:D}{q:List Nat}{c:Value}(hr:Rel G σ Fr w0 st a w)(hdst:∀d,o.dst=some d→d<w0.n)(hs:st[s]?=some (cur,.own inv t))
 (hn:∀G' σ' st' a' w',G.le G'→Rel G' σ' Fr w0 st' a' w'→Q st'→next a' w') (hne:o.dst≠some s) (hp:PtD w t (val a w0 s) q c) (hrun:(execOp a.eval o).run P w= .ok (.value c) w)
 (hq:(setD o.dst (.pd s cur q) .done).wp P Q st):o.wp P a w next E:=by
 obtain⟨σ',st',r1,r2⟩:=hr.setD hdst (sv:=.pd s cur q) (c:=c) (fun d' hd ver _=>by
  refine⟨_,by rw[List.getElem?_set_ne (by rintro rfl;exact hne hd)];exact hs,Nat.le_refl _,fun inv' t' e _ _=>?_⟩
  cases e;rw[Jr (by rintro rfl;exact hne hd)]
  exact hp) hq
 exact Jt hrun (hn G σ' st' _ w (Mem.le.refl G) r1 r2)
theorem Aci{o:Oper}{Q:St→Prop}{next:Act→World→Prop}{E:Exit→Act→World→Prop}{s cur:Nat}{inv:Inv}{t:D}{q:List Nat}{c:Value}(hr:Rel G σ Fr w0 st a w)(hdst:∀d,o.dst=some d→d<w0.n)(hs:st[s]?=some (cur,.own inv t))
 (hn:∀G' σ' st' a' w',G.le G'→Rel G' σ' Fr w0 st' a' w'→Q st'→next a' w') (hne:o.dst≠some s) (hp:HdD w t (val a w0 s) q c) (hrun:(execOp a.eval o).run P w= .ok (.value c) w)
 (hq:(setD o.dst (.bd s cur q) .done).wp P Q st):o.wp P a w next E:=by
 obtain⟨σ',st',r1,r2⟩:=hr.setD hdst (sv:=.bd s cur q) (c:=c) (fun d' hd ver _=>by
  refine⟨_,by rw[List.getElem?_set_ne (by rintro rfl;exact hne hd)];exact hs,Nat.le_refl _,fun inv' t' e _=>?_⟩
  cases e;rw[Jr (by rintro rfl;exact hne hd)]
  exact hp) hq
 exact Jt hrun (hn G σ' st' _ w (Mem.le.refl G) r1 r2)
theorem Sv{t:TypeId}{agg:Bool}{b off:Nat}{bl:Array Value}{ty:TypeId}{fz:Nat × Nat}{pre cs post:List Value}(h:tyOk P t agg cs.length=true)(hc:agg=false→cs.length=1)
 (hh:w.heap[b]?=some (.cells bl ty fz)) (hs:bl.toList=pre++cs++post) (hp:pre.length=off) (h1:∀c∈cs,c.oneCell'=true):
 ∃v,(loadVar t ⟨b,off,none⟩).run P w= .ok v w∧v.cells.toList=cs∧valOf agg v=true:=by
 obtain⟨k1,k2⟩:=Kd (P:=P) h hh hs hp;cases agg with
 |true=>exact⟨_,k1 rfl,rfl,rfl⟩
 |false=>
  obtain⟨c,rfl⟩:=List.length_eq_one_iff.1 (hc rfl);refine⟨c,k2 c rfl rfl,?_,?_⟩;all_goals
   have:=h1 c (by simp)
   cases c<;>first|rfl|(simp[Value.oneCell']at this)
theorem Aat{o:Oper}{t:TypeId}{x:Operand}{x':Opd}{agg:Bool}{sz:Nat}(ho:o.op= .load t x)(hx:Jj N x x'=true)(ht:tyOk P t agg sz=true):Sound P N o (Zd o.dst agg sz x'):=by
 intro G σ Fr w0 st a w Q next E hN hr hw hn hdst
 subst hN;have run:∀{b off:Nat} {v:Value},a.eval x= .pointer (some ⟨b,off,none⟩)→(loadVar t ⟨b,off,none⟩).run P w= .ok v w→(execOp a.eval o).run P w= .ok (.value v) w:=by
  intro b off v hp hl;simp[execOp,ho,hp,Instr.loadAt,Instr.sureAddr,hl]
 obtain⟨s,cur,inv,tr,p,h1,hs,hp0,hpt⟩:=Ub hr hx hw;have hown:=hr.slots s cur _ hs;split at h1
 ·rename_i u hat;obtain⟨b,off,bl,ty,fz,pre,cs,post,ubs,e1,e2,e3,e4,e5,e6,e7⟩:=PtD.block hown hat hpt;have hone:=RepD.one e5;have hlen:=RepD.length e5;cases u with
  |it y=>
   obtain⟨⟨rfl,rfl⟩,h1⟩:=h1;simp only[RepD]at e5;obtain⟨v,hl,hv⟩:=Nk (P:=P) ht e2 e3 e4 e5.1;exact J1 hr hn hdst hv h1 (run e1 hl)
  |vec e sz' l=>
   obtain⟨⟨rfl,rfl,hne⟩,h1⟩:=h1;obtain⟨c,rfl⟩:=List.length_eq_one_iff.1 hlen;have hl:=(Kd (P:=P) (cs:=[c]) ht e2 e3 e4).2 c rfl rfl;exact Aci hr hdst hs hn hne ⟨_,_,hat,rfl,e7⟩ (run e1 hl) h1
  |map ks vs=>
   obtain⟨⟨rfl,rfl,hne⟩,h1⟩:=h1;obtain⟨c,rfl⟩:=List.length_eq_one_iff.1 hlen;have hl:=(Kd (P:=P) (cs:=[c]) ht e2 e3 e4).2 c rfl rfl;exact Aci hr hdst hs hn hne ⟨_,_,hat,rfl,e7⟩ (run e1 hl) h1
  |ptr d=>
   obtain⟨⟨rfl,rfl,hne⟩,h1⟩:=h1;obtain⟨c,rfl⟩:=List.length_eq_one_iff.1 hlen;have hl:=(Kd (P:=P) (cs:=[c]) ht e2 e3 e4).2 c rfl rfl;simp only[RepD]at e5;obtain⟨g,cells,ty',bs',q1,q2,_⟩:=e5;injection q1 with q1
   subst q1;refine Acj hr hdst hs hn hne ⟨d,g,0,cells.toList,by rw[Nf hat];rfl,?_,rfl⟩ (run e1 hl) h1
   rw[L5 hat e7 (y:=d) rfl];simp[Jx,q2]
  |st l=>
   obtain⟨⟨rfl,hsz⟩,h1⟩:=h1;unfold Mv at h1;split at h1
   ·rename_i t' hput;obtain⟨v,hl,hvc,hva⟩:=Sv (P:=P) (cs:=cs) (agg:=true) (by rw[hlen];show tyOk P t true (dsizes l)=true;rw[hsz];exact ht) (by intro e;cases e) e2 e3 e4 hone
    obtain⟨σ',ubs',r1,r2,r3,r4,_⟩:=hr.moveOut hs hat rfl hput e7;simp only[M.wp]at h1;cases hd:o.dst with
    |none=>
     rw[hd]at h1;exact Jt (run e1 hl) (by rw[hd];exact hn G σ' _ _ w (Mem.le.refl G) r1 h1)
    |some d=>
     rw[hd]at h1;obtain⟨hne,h1⟩:=h1;obtain⟨σ2,st2,k1,k2⟩:=r1.adopt (hdst d hd) (u:=.st l) (c:=v) ⟨ubs',by rw[hvc];exact r2,hva,r3,r4⟩ h1
     exact Jt (run e1 hl) (by rw[hd];exact hn G σ2 st2 _ w (Mem.le.refl G) k1 k2)
   ·exact h1.elim
 ·exact h1.elim
theorem Aau{o:Oper}{t:TypeId}{x:Operand}{x':Opd}{agg:Bool}{sz:Nat}(ho:o.op= .load t x)(hx:Jj N x x'=true)(ht:tyOk P t agg sz=true):Sound P N o (Ze o.dst agg sz x'):=by
 intro G σ Fr w0 st a w Q next E hN hr hw hn hdst
 subst hN;obtain⟨s,cur,inv,tr,p,h1,hs,hp0,hpt⟩:=Ub hr hx hw;have hown:=hr.slots s cur _ hs;split at h1
 ·rename_i u hat;split at h1
  ·rename_i y hy;split at h1
   ·rename_i t' hput;obtain⟨⟨hul,rfl,rfl,hne⟩,h1⟩:=h1;obtain⟨b,off,bl,ty,fz,pre,cs,post,ubs,e1,e2,e3,e4,e5,e6,e7⟩:=PtD.block hown hat hpt;obtain⟨G',σ',hG,r1,r2,_⟩:=hr.frzPlace hs hat hul hy hput;have hI:=r2 _ _ e7;obtain⟨v,hl,hv⟩:=Nk (P:=P) (w:=w) ht e2 e3 e4 hI;obtain⟨σ2,st2,k1,k2⟩:=r1.setV hdst hv h1;refine Jt (w':=w) ?_ (hn G' σ2 st2 _ w hG k1 k2);simp[execOp,ho,e1,Instr.loadAt,Instr.sureAddr,hl]
   ·exact h1.elim
  ·exact h1.elim
 ·exact h1.elim
theorem Aai{u:D}{i off:Nat}{b o:Nat}{cs:List Value}(h:Vo u i=some off):∃y cs',u.kid i=some y∧Jx w u (some (b,o),cs) i=some (some (b,o+off),cs'):=by
 cases u with
 |it x=>
  cases x with
  |agg l=>
   simp only[Vo]at h;split at h
   ·rename_i y hy;cases h;exact⟨_,_,by simp only[D.kid,hy];rfl,by simp only[Jx,hy,hop];rfl⟩
   ·cases h
  |_=>cases h
 |st l=>
  simp only[Vo]at h;split at h
  ·rename_i y hy;cases h;exact⟨_,_,hy,by simp only[Jx,hy,hop];rfl⟩
  ·cases h
 |_=>cases h
theorem Z6{o:Oper}{t:TypeId}{x y:Operand}{x' y':Opd}{agg:Bool}{sz:Nat}(hd:o.dst=none)(ho:o.op= .store t x y)(hx:Jj N x x'=true)(hy:Jj N y y'=true)(ht:tyOk P t agg sz=true):
 Sound P N o (Xm sz x' y'):=by
 intro G σ Fr w0 st a w Q next E hN hr hw hn hdst
 subst hN;obtain⟨u,G',σ',st',hG,hr',h1,hf⟩:=Tp hr hy hw;obtain⟨s,cur,inv,tr,p,h1,hs,hp0,hpt⟩:=Ub hr' hx h1;split at h1
 ·rename_i u0 hat;split at h1
  ·rename_i t' hput;obtain⟨⟨hag,hsz,hsz2⟩,h1⟩:=h1;obtain⟨b,of,w',σ2,e1,e2,e3⟩:=hr'.setPlace (P:=P) (tt:=t) (agg:=agg) hs hat hput hf hag hsz hpt (by rw[←hsz,hsz2];exact ht)
   refine Pz (w':=w') ?_ ?_
   ·simp[execOp,ho,e1,Instr.storeAt,Instr.sureAddr,e2]
   ·rw[hd];refine hn G' σ2 _ _ w' hG e3 ?_;cases hl:u0.leaf<;>rw[hl]at h1<;>simp only[M.wp]at h1<;>simpa using h1
  ·exact h1.elim
 ·exact h1.elim
end

open Go.Op
mutual
def zD:D→List Value→Option (List Value)
 | .it x,cs=>zI x cs
 | .st l,cs=>zDs l cs
 | .vec _ _ [],.slice none 0 0::cs=>some cs
 |_,_=>none
def zDs:List D→List Value→Option (List Value)
 | [],cs=>some cs
 |d::l,cs=>match zD d cs with
  |some cs=>zDs l cs
  |none=>none
end
mutual
theorem zD_spec(G:Mem)(w:World):∀(d:D) (cs rest:List Value),zD d cs=some rest→∃c,cs=c++rest∧RepD G w d c []
 | .it x,cs,rest,h=>by
   simp only[zD]at h;obtain⟨c,e,h⟩:=zI_spec G x cs rest h;exact⟨c,e,by simp only[RepD,and_true];exact h⟩
 | .st l,cs,rest,h=>by
   simp only[zD]at h;obtain⟨c,e,h⟩:=zDs_spec G w l cs rest h;exact⟨c,e,by simp only[RepD];exact h⟩
 | .vec e sz [],cs,rest,h=>by
   cases cs with
   |nil=>simp[zD]at h
   |cons c r=>
    cases c<;>first|(simp[zD]at h;done)|skip
    rename_i ad n m;cases ad<;>cases n<;>cases m<;>first|(simp[zD]at h;done)|skip
    simp only[zD,Option.some.injEq]at h;subst h;exact⟨[.slice none 0 0],rfl,by simp[RepD]⟩
 | .vec e sz (_::_),cs,rest,h=>by simp[zD]at h
 | .ptr d,cs,rest,h=>by simp[zD]at h
 | .map ks vs,cs,rest,h=>by simp[zD]at h
theorem zDs_spec(G:Mem)(w:World):∀(l:List D) (cs rest:List Value),zDs l cs=some rest→∃c,cs=c++rest∧RepDs G w l c []
 | [],cs,rest,h=>by simp only[zDs,Option.some.injEq]at h;subst h;exact⟨[],rfl,by simp[RepDs]⟩
 |d::l,cs,rest,h=>by
  simp only[zDs]at h;split at h
  ·rename_i cs' hd;obtain⟨c,rfl,h1⟩:=zD_spec G w d cs cs' hd;obtain⟨c',rfl,h2⟩:=zDs_spec G w l cs' rest h;refine⟨c++c',by simp,?_⟩
   simp only[RepDs];exact⟨c,c',[],[],rfl,rfl,h1,h2⟩
  ·cases h
end
def Wq(P:Program)(t:TypeId)(x:D):Bool:=match P.info? t with
 |some i=>match i.zero with
  |some z=>match zD x z.cells.toList with
   |some []=>true
   |_=>false
  |none=>false
 |none=>false
def W6(d:Nat)(t:D):M:=Jz d (.own [] (.ptr t))
def Abj(d:Nat)(x:Opd):M:=M6 x fun u=>Jz d (.own [] (.ptr u))
def Py:List (Nat × Opd)→List D→(List D→M)→M
 | [],zs,k=>k zs
 |(i,x)::ps,zs,k=>M6 x fun u=>match zs[i]? with
  |some z=>.need (u.size=z.size) fun _=>Py ps (zs.set i u) k
  |none=>.fail
def Xc(d:Nat)(zs:List D)(ps:List (Nat × Opd)):M:=Py ps zs fun l=>Jz d (.own [] (mkSt l))
def U0(P:Program)(t:TypeId)(zs:List D):Bool:=match P.underlying t,P.info? t with
 |some (.struct fs),some i=>(match i.zero with
  |some z=>match zDs zs z.cells.toList with
   |some []=>true
   |_=>false
  |none=>false)&&
  fs.size==zs.length&&(List.range zs.length).all fun j=>match fs[j]?,zs[j]? with
   |some f,some z=>f.offset==dsizes (zs.take j)&&match P.info? f.type with
    |some i=>i.size==z.size
    |none=>false
   |_,_=>false
 |_,_=>false
def V5(d:Nat)(e:TypeId)(sz:Nat)(z:I)(n:Nat)(ps:List (Nat × Opd)):M:=Py ps (List.replicate n (.it z)) fun l=>.need (l.length=n∧∀u∈l,u.size=sz) fun _=>Jz d (.own [] (.vec e sz l))
def Ry:D→Option (List D)
 | .vec _ _ l=>some l
 | .it x=>match x with
   | .list l=>some (l.map D.it)
   |_=>none
 |_=>none
def Wn(d:Nat)(e:TypeId)(sz bytes:Nat)(x y:Opd):M:=M6 y fun u=>M6 x fun v=>match v,Ry u with
 | .vec e' sz' l,some ys=>.need (e'=e∧sz'=sz∧(l.length+ys.length)*bytes≤140737488355328∧l.length+ys.length≤maxLen∧(∀u∈ys,u.size=sz)∧e<1000000) fun _=>Jz d (.own [] (.vec e sz (l++ys)))
 |_,_=>.fail
section
variable{P:Program}{N:Nat}{G:Mem}{σ:Lab}{Fr:Mem}{w0:Base}{w:World}{st:St}{a:Act}
theorem Rel.turned{w':World}{row:Option Nat}(h:Rel G σ Fr w0 st a w)(hg:w.grownBy w' row)(hrow:∀b,row=some b→G b=none∧Fr b=none∧σ b=none):Rel G σ Fr w0 st a w':=by
 have lt:∀{b:Nat} {o:Obj},w.heap[b]?=some o→b<w.heap.size:=fun h=>(Array.getElem?_eq_some_iff.1 h).1
 have keep:∀b lab,σ b=some lab→w'.heap[b]?=w.heap[b]?:=fun b lab hb=>
  hg.block b (h.wok.own b lab hb).2.2 (by intro e;obtain⟨_,_,k⟩:=hrow b e.symm;rw[k]at hb;cases hb)
 have hok:WOk G σ Fr w0 w':=by
  refine⟨?_,?_,h.wok.inj,?_,hg.os.trans h.wok.os,hg.tape.trans h.wok.tape,hg.output.trans h.wok.output,Nat.le_trans h.wok.size hg.size,h.wok.apart,h.wok.amb⟩
  ·intro b o hb;have:=h.wok.fixed b o hb;rw[hg.block b (lt this) (by intro e;obtain⟨k,_,_⟩:=hrow b e.symm;rw[k]at hb;cases hb)]
   exact this
  ·intro b lab hb;obtain⟨h1,h2,h3⟩:=h.wok.own b lab hb;exact⟨h1,h2,Nat.lt_of_lt_of_le h3 hg.size⟩
  ·intro b o hb;have:=h.wok.frame b o hb;rw[hg.block b (lt this) (by intro e;obtain⟨_,k,_⟩:=hrow b e.symm;rw[k]at hb;cases hb)]
   exact this
 exact⟨hok,h.defers,h.n,h.len,fun s ver sv hs=>(h.slots s ver sv hs).keep (Mem.le.refl G) (fun s' b k hb=>⟨hb,keep b _ hb⟩) h.slots,h.pars⟩
theorem Uu{Q:St→Prop}{d:Nat}{u:D}{bs:List Nat}{cells:Array Value}{e:TypeId}(h:Rel G σ Fr w0 st a w)(hdn:d<w0.n)(hu:RepD G w u cells.toList bs)(hnd:bs.Nodup)
 (hf:∀b∈bs,G b=none∧Fr b=none∧σ b=none∧b<w.heap.size) (hq:(Jz d (.own [] (.ptr u))).wp P Q st):
 ∃σ' st',Rel G σ' Fr w0 st' (a.put (some d) (.pointer (some ⟨w.heap.size,0,none⟩))) (w.alloc (.cells cells e))∧Q st':=by
 have hr:Rel G σ Fr w0 st a (w.alloc (.cells cells e)):=h.grow rfl rfl rfl (by simp) fun b hb=>K8 w _ b hb
 obtain⟨f1,f2,f3⟩:=h.wok.fresh (Nat.le_refl w.heap.size);refine hr.adopt hdn ⟨w.heap.size::bs,?_,rfl,List.nodup_cons.2 ⟨fun hb=>?_,hnd⟩,fun b hb=>?_⟩ hq
 ·simp only[RepD,Value.cells];exact⟨w.heap.size,cells,e,bs,rfl,heap_alloc_new w _,hu.tr (Mem.le.refl G) fun b hb=>K8 w _ b (hf b hb).2.2.2,rfl⟩
 ·have:=(hf _ hb).2.2.2;omega
 ·rcases List.mem_cons.1 hb with rfl|hb
  ·exact⟨f1,f2,f3,by simp⟩
  ·obtain⟨k1,k2,k3,k4⟩:=hf b hb;exact⟨k1,k2,k3,by simp;omega⟩
theorem Zs{o:Oper}{e:TypeId}{d:Nat}{t:D}(hd:o.dst=some d)(ho:o.op= .alloc e)(hz:Wq P e t=true):Sound P N o (W6 d t):=by
 intro G σ Fr w0 st a w Q next E hN hr hw hn hdst
 subst hN;unfold Wq at hz;split at hz
 ·rename_i i hi;split at hz
  ·rename_i z hzv;split at hz
   ·rename_i hzd;obtain⟨c,hc,hrep⟩:=zD_spec G w t _ _ hzd;rw[List.append_nil]at hc;obtain⟨σ',st',h1,h2⟩:=Uu (P:=P) (e:=e) (cells:=z.cells) hr (hdst d hd) (by rw[hc];exact hrep) List.nodup_nil (by simp) hw
    refine Jt (w':=w.alloc (.cells z.cells e)) ?_ (by rw[hd];exact hn G σ' st' _ _ (Mem.le.refl G) h1 h2)
    simp[execOp,ho,Instr.alloc,zeroValue,typeInfo,hi,hzv,newVar,newRow]
   ·cases hz
  ·cases hz
 ·cases hz
theorem Ada{o:Oper}{e:TypeId}{d:Nat}{x:Operand}{x':Opd}(hd:o.dst=some d)(ho:o.op= .box e x)(hx:Jj N x x'=true):Sound P N o (Abj d x'):=by
 intro G σ Fr w0 st a w Q next E hN hr hw hn hdst
 subst hN;obtain⟨u,bs,G',σ',st',hG,hr',h1,⟨f1,f2,f3,f4⟩,_⟩:=Lv hr hx hw;obtain⟨σ'',st'',h2,h3⟩:=Uu (P:=P) (e:=e) (cells:=(a.eval x).cells) hr' (hdst d hd) f1 f3 f4 h1;refine Jt (w':=w.alloc (.cells (a.eval x).cells e)) ?_ (by rw[hd];exact hn G' σ'' st'' _ _ hG h2 h3)
 simp[execOp,ho,Instr.box,newVar,newRow]
theorem Rq{place:Nat→Option (Nat × Nat)}{Q:St→Prop}:∀{ps:List (Nat × Operand)} {ps':List (Nat × Opd)} {zs:List D} {cells:Array Value} {bs:List Nat} {k:List D→M} {G:Mem} {σ:Lab} {st:St},
 Rel G σ Fr w0 st a w→La w0.n ps ps'=true→(Py ps' zs k).wp P Q st→RepDs G w zs cells.toList bs→bs.Nodup→(∀b∈bs,G b=none∧Fr b=none∧σ b=none∧b<w.heap.size)→
 (∀i z,zs[i]?=some z→place i=some (dsizes (zs.take i),z.size))→
 ∃zs' cells' bs' G' σ' st',G.le G'∧Rel G' σ' Fr w0 st' a w∧(k zs').wp P Q st'∧RepDs G' w zs' cells'.toList bs'∧bs'.Nodup∧(∀b∈bs',G' b=none∧Fr b=none∧σ' b=none∧b<w.heap.size)∧
  Instr.fill place cells (ps.map fun p=>(p.1,a.eval p.2))=some cells'
 | [],[],zs,cells,bs,k,G,σ,st,hr,_,hq,hz,hnd,hf,_=>⟨zs,cells,bs,G,σ,st,Mem.le.refl G,hr,hq,hz,hnd,hf,rfl⟩
 |(i,x)::ps,(j,y)::ps',zs,cells,bs,k,G,σ,st,hr,ho,hq,hz,hnd,hf,hpl=>by
  simp only[La,Bool.and_eq_true,beq_iff_eq]at ho;obtain⟨⟨rfl,ho⟩,hos⟩:=ho;obtain⟨u,bu,G',σ',st',hG,hr',h1,⟨g1,g2,g3,g4⟩,g5,g6⟩:=Lv hr ho hq;cases hzi:zs[i]? with
  |none=>simp only[hzi]at h1;exact h1.elim
  |some z=>
   simp only[hzi]at h1;obtain⟨hsz,h1⟩:=h1;obtain⟨c1,c,c2,b1,b,b2,e1,rfl,e2,e3,hset,_⟩:=RepDs.nth hz hzi;have hcl:c.length=(a.eval x).cells.size:=by
    rw[RepD.length e3, ←hsz, ←RepD.length g1];simp
   have hfold:=Yp (v:=a.eval x) (off:=dsizes (zs.take i)) e1 e2 hcl;have hplace:=hpl i z hzi;have hbu:∀x∈bu,x ∉ b1++b++b2:=fun x hx hm=>g5 x hx (hf x hm).2.2.1
   obtain⟨n1,n2⟩:=Px hnd g3 fun x hx=>.inr (hbu x hx)
   obtain⟨zs',cells',bs',G'',σ'',st'',hG',hr'',h2,h3,h4,h5,h6⟩:=Rq (place:=place) hr' hos h1 (bs:=b1++bu++b2) (cells:=(a.eval x).cells.zipIdx.foldl (fun(cs:Array Value) (p:Value × Nat)=>cs.setIfInBounds (dsizes (zs.take i)+p.2) p.1) cells)
    (by rw[hfold];exact hset G' w u _ bu hG g1 fun _ _=>rfl) n1 (fun x hx=>by
      rcases(n2 x).1 hx with⟨hm,_⟩|hm
      ·obtain⟨k1,k2,k3,k4⟩:=hf x hm;obtain⟨q1,q2⟩:=g6 x k3 k1;exact⟨q2,k2,q1,k4⟩
      ·exact g4 x hm) (by
      intro i' z' hz';have hi:i<zs.length:=(List.getElem?_eq_some_iff.1 hzi).1;rw[Sf hzi hsz];by_cases hii:i'=i
      ·subst hii;rw[List.getElem?_set_self hi]at hz';cases hz';rw[hplace,hsz]
      ·rw[List.getElem?_set_ne (Ne.symm hii)]at hz';rw[hpl i' z' hz'])
   refine⟨zs',cells',bs',G'',σ'',st'',hG.trans hG',hr'',h2,h3,h4,h5,?_⟩;simp only[List.map_cons,Instr.fill,hplace];have hszc:(a.eval x).cells.size=z.size:=by rw[←hcl,RepD.length e3]
   have hle:¬(dsizes (zs.take i)+(a.eval x).cells.size>cells.size):=by
    have:cells.size=cells.toList.length:=by simp
    rw[this,e1, ←e2, ←hcl];simp
   rw[if_neg (by simp[hszc]at hle ⊢;omega)]
   exact h6
 | [],_::_,_,_,_,_,_,_,_,_,ho,_,_,_,_,_=>by cases ho
 |_::_,[],_,_,_,_,_,_,_,_,ho,_,_,_,_,_=>by simp[La]at ho
theorem Zw{o:Oper}{d:Nat}{t:TypeId}{ps:Array (Nat × Operand)}{zs:List D}{ps':List (Nat × Opd)}(hd:o.dst=some d)(ho:o.op= .build t ps)(hp:La N ps.toList ps'=true)(ht:U0 P t zs=true):
 Sound P N o (Xc d zs ps'):=by
 intro G σ Fr w0 st a w Q next E hN hr hw hn hdst
 subst hN;unfold U0 at ht;split at ht
 ·rename_i fs i hu hi;simp only[Bool.and_eq_true,beq_iff_eq]at ht;obtain⟨⟨hz,hlen⟩,hall⟩:=ht;cases hzv:i.zero with
  |none=>simp[hzv]at hz
  |some z=>
   simp only[hzv]at hz;have hz':∃c,z.cells.toList=c++[]∧RepDs G w zs c []:=by
    split at hz
    ·rename_i h;exact zDs_spec G w zs _ _ h
    ·cases hz
   obtain⟨c,hc,hz'⟩:=hz';rw[List.append_nil]at hc;subst hc;have hfield:∀j f zz,fs[j]?=some f→zs[j]?=some zz→f.offset=dsizes (zs.take j)∧(sizeOf f.type).run P w= .ok zz.size w:=by
    intro j f zz hf hzz;have hj:j<zs.length:=(List.getElem?_eq_some_iff.1 hzz).1;have:=List.all_eq_true.1 hall j (List.mem_range.2 hj);simp only[hf,hzz,Bool.and_eq_true,beq_iff_eq]at this;obtain⟨h1,h2⟩:=this;refine⟨h1,?_⟩;cases hfi:P.info? f.type with
    |none=>simp[hfi]at h2
    |some jn=>
     simp only[hfi,beq_iff_eq]at h2;simp[sizeOf,typeInfo,hfi,h2]
   let szf:Field→Nat:=fun f=>((P.info? f.type).map (·.size)).getD 0
   have hszf:∀f∈fs.toList,(sizeOf f.type).run P w= .ok (szf f) w:=by
    intro f hf;obtain⟨j,hj⟩:=List.mem_iff_getElem?.1 hf;have hj':j<zs.length:=by
     have:=(List.getElem?_eq_some_iff.1 hj).1;simp at this;omega
    have h2:=(hfield j f zs[j] (by simpa using hj) (List.getElem?_eq_getElem hj')).2
    cases hfi:P.info? f.type with
    |none=>simp[sizeOf,typeInfo,hfi]at h2
    |some jn=>simp[sizeOf,typeInfo,hfi,szf]
   have hplaces:∀j zz,zs[j]?=some zz→(fs.toList.map fun f=>(f.offset,szf f)).toArray[j]?=some (dsizes (zs.take j),zz.size):=by
    intro j z0 hzj;have hj:j<zs.length:=(List.getElem?_eq_some_iff.1 hzj).1;have hjf:fs[j]?=some (fs[j]'(by omega)):=Array.getElem?_eq_getElem (by omega)
    obtain⟨h1,h2⟩:=hfield j _ z0 hjf hzj;have h3:=hszf _ (by simp:fs[j]'(by omega)∈fs.toList)
    rw[h2]at h3;have h4:z0.size=szf (fs[j]'(by omega)):=by injection h3
    simp[hjf,h1,h4]
   obtain⟨zs',cells',bs',G',σ',st',hG,hr',h2,h3,h4,h5,h6⟩:=Rq (place:=fun j=>(fs.toList.map fun f=>(f.offset,szf f)).toArray[j]?) hr hp hw hz' List.nodup_nil (by simp) hplaces
   obtain⟨σ2,st2,r1,r2⟩:=hr'.adopt (P:=P) (hdst d hd) (c:=.agg cells') ⟨bs',RepD.mkSt.2 h3,by rw[Sw];rfl,h4,h5⟩ h2
   refine Jt (w':=w) ?_ (by rw[hd];exact hn G' σ2 st2 _ w hG r1 r2)
   have hm:=Ux (P:=P) (w:=w) hszf;have hparts:(ps.map fun(p:Nat × Operand)=>(p.1,a.eval p.2)).toList=ps.toList.map fun p=>(p.1,a.eval p.2):=by simp
   have hm':(fs.mapM fun f=>(do pure (f.offset, ←sizeOf f.type):Sem (Nat × Nat))).run P w= .ok (fs.toList.map fun f=>(f.offset,szf f)).toArray w:=by
    rw[Array.mapM_eq_mapM_toList,Sem.run_map,hm];rfl
   have hzero:(zeroValue t).run P w= .ok z w:=by simp[zeroValue,typeInfo,hi,hzv]
   simp only[execOp,ho,Instr.build,Sem.run_bind,hzero,Result.andThen,run_underlying hu,hm',hparts,h6,Sem.run_pure]
 ·cases ht
theorem Wm{z:I}{c:List Value}(h:RepI G z c)(n:Nat):RepDs G w (List.replicate n (.it z)) (List.replicate n c).flatten []:=by
 have:=Po h n;rw[←List.map_replicate];exact RepDs.its.2 ⟨this,rfl⟩
theorem Xy{o:Oper}{d:Nat}{t e:TypeId}{sz n:Nat}{z:I}{ps:Array (Nat × Operand)}{ps':List (Nat × Opd)}(hd:o.dst=some d)(ho:o.op= .buildSlice t n ps)(hp:La N ps.toList ps'=true)(ht:N6 P t e sz z n=true):
 Sound P N o (V5 d e sz z n ps'):=by
 intro G σ Fr w0 st a w Q next E hN hr hw hn hdst
 subst hN;unfold N6 at ht;split at ht
 ·rename_i e' hu;simp only[Bool.and_eq_true,beq_iff_eq,bne_iff_ne,ne_eq,decide_eq_true_eq]at ht;obtain⟨⟨⟨rfl,hn4⟩,hn0⟩,ht⟩:=ht;split at ht
  ·rename_i i hi;simp only[Bool.and_eq_true,beq_iff_eq,bne_iff_ne,ne_eq,decide_eq_true_eq]at ht;obtain⟨⟨⟨⟨rfl,h0⟩,hs4⟩,hzsz⟩,ht⟩:=ht;split at ht
   ·rename_i v hv;simp only[Bool.and_eq_true,beq_iff_eq]at ht;obtain⟨hvs,hz⟩:=ht;have hz':∃c,v.cells.toList=c++[]∧RepI G z c:=by
     split at hz
     ·rename_i h;exact zI_spec G z _ _ h
     ·cases hz
    obtain⟨c,hc,hz'⟩:=hz';rw[List.append_nil]at hc;subst hc;have hcells0:RepDs G w (List.replicate n (.it z)) ((Array.range (n*i.size)).map (fun j=>v.cells[j % v.cells.size]!)).toList []:=by
     rw[Wj hvs];exact Wm hz' n
    have hplace:∀(j:Nat) (zz:D),(List.replicate n (D.it z))[j]?=some zz→(fun j:Nat=>some (j*i.size,i.size)) j=some (dsizes ((List.replicate n (D.it z)).take j),zz.size):=by
     intro j zz hzz;have hj:j<n:=by have:=(List.getElem?_eq_some_iff.1 hzz).1;simpa using this
     have hzz':zz= .it z:=by rw[List.getElem?_replicate,if_pos hj]at hzz;cases hzz;rfl
     subst hzz';rw[Sg (sz:=i.size) (by intro x hx;rw[List.eq_of_mem_replicate hx];exact hzsz) (by simp;omega)]
     simp[D.size,hzsz]
    obtain⟨l,cells,bs',G',σ',st',hG,hr',h2,h3,h3n,h3f,h4⟩:=Rq (place:=fun j=>some (j*i.size,i.size)) hr hp hw hcells0 List.nodup_nil (by simp) hplace
    obtain⟨⟨hl,hsz⟩,h2⟩:=h2;have hclen:cells.size=n*i.size:=by
     have:=RepDs.length h3;rw[Lr hsz,hl]at this;simpa using this
    have hnm:n≤maxLen:=by simp only[maxLen];omega
    have hg:Rel G' σ' Fr w0 st' a (w.alloc (.cells cells e')):=hr'.grow rfl rfl rfl (by simp) fun b hb=>K8 w _ b hb
    obtain⟨f1,f2,f3⟩:=hr'.wok.fresh (Nat.le_refl w.heap.size);obtain⟨σ'',st'',r1,r2⟩:=hg.adopt (P:=P) (hdst d hd) (c:=.slice (some ⟨w.heap.size,0,none⟩) n n) ⟨w.heap.size::bs',by
     simp only[RepD,Value.cells];refine .inr ⟨w.heap.size,0,n,cells,cells.toList,bs',by rw[hl],Row.of (heap_alloc_new w _),fun _=>⟨rfl,hclen⟩,by rw[hl];exact Nat.le_refl _,hnm,by rw[Nat.zero_add,hclen];exact Nat.le_refl _,?_,h3.tr (Mem.le.refl G') fun b hb=>K8 w _ b (h3f b hb).2.2.2,hsz,rfl⟩
     rw[hl, ←hclen];have:cells.size=cells.toList.length:=by simp
     rw[this,List.drop_zero,List.take_length],rfl,List.nodup_cons.2 ⟨fun hb=>by have:=(h3f _ hb).2.2.2;omega,h3n⟩,fun b hb=>by
     rcases List.mem_cons.1 hb with rfl|hb
     ·exact⟨f1,f2,f3,by simp⟩
     ·obtain⟨k1,k2,k3,k4⟩:=h3f b hb;exact⟨k1,k2,k3,by simp;omega⟩⟩ h2
    have hbig:¬(n*i.size>2^24):=by
     have:n*i.size≤4096*4096:=Nat.mul_le_mul hn4 hs4;omega
    have hparts:(ps.map fun(p:Nat × Operand)=>(p.1,a.eval p.2)).toList=ps.toList.map fun p=>(p.1,a.eval p.2):=by simp
    have hzero:(zeroValue e').run P w= .ok v w:=by simp[zeroValue,typeInfo,hi,hv]
    have hsizeOf:(sizeOf e').run P w= .ok i.size w:=by simp[sizeOf,typeInfo,hi]
    refine Jt (w':=w.alloc (.cells cells e')) ?_ (by rw[hd];exact hn G' σ'' st'' _ _ hG r1 r2)
    have hne:n*i.size≠0:=Nat.mul_ne_zero hn0 h0;have h4':Instr.fill (fun j=>some (j*i.size,i.size)) ((Array.range (n*i.size)).map (fun j=>v.cells[j % v.cells.size]!)) (ps.toList.map fun p=>(p.1,a.eval p.2))=some cells:=h4
    simp only[execOp,ho,Instr.buildSlice,Sem.run_bind,run_underlying hu,Result.andThen,hsizeOf];rw[if_neg hbig,if_neg hne];simp only[Sem.run_bind,hzero,Result.andThen,Sem.run_pure,hparts,h4'];simp[newRow]
   ·cases ht
  ·cases ht
 ·cases ht
theorem RepDs.append{l m:List D}{cs ds:List Value}{bs bs':List Nat}(h:RepDs G w l cs bs)(h':RepDs G w m ds bs'):RepDs G w (l++m) (cs++ds) (bs++bs'):=by
 induction l generalizing cs bs with
 |nil=>
  simp only[RepDs]at h;obtain⟨rfl,rfl⟩:=h;exact h'
 |cons x l ih=>
  simp only[RepDs]at h;obtain⟨c,c',b,b',rfl,rfl,h1,h2⟩:=h;simp only[List.cons_append,RepDs];exact⟨c,c'++ds,b,b'++bs',by simp,by simp,h1,ih h2⟩
theorem Aaf{u:D}{ys:List D}{c:Value}{bs:List Nat}{sz:Nat}(h:FreeB G σ Fr w u c bs)(hok:WOk G σ Fr w0 w)(he:Ry u=some ys)(hsz:∀u∈ys,u.size=sz):
 ∃ad cap,c= .slice ad ys.length cap∧((ad=none∧ys=[])∨∃A news bn,ad=some A∧news.length=ys.length*sz∧RepDs G w ys news bn∧bn.Nodup∧(∀b∈bn,b∈bs)∧∀j u,news[j]?=some u→w.cell? (A.add j)=some u):=by
 obtain⟨h1,h2,h3,h4⟩:=h;cases u with
 |vec e sz' l=>
  simp only[Ry,Option.some.injEq]at he;subst he;rw[J9 h2]at h1;simp only[RepD]at h1;rcases h1 with⟨e1,rfl,_⟩|⟨g,off,cap,cur,xs,bs',e1,⟨ty,fz,q1,_⟩,_,q2,q3,q4,q5,q6,q7,rfl⟩
  ·injection e1 with e1
   exact⟨none,0,e1,.inl ⟨rfl,rfl⟩⟩
  ·injection e1 with e1
   refine⟨_,cap,e1,.inr ⟨_,xs,bs',rfl,?_,q6,(List.nodup_cons.1 h3).2,fun b hb=>by simp[hb],?_⟩⟩
   ·rw[RepDs.length q6,Lr hsz]
   ·intro j u hj;rw[add_lit,cell_of_row w g (off+j) cur ty fz q1];have:cur[off+j]?=cur.toList[off+j]?:=by simp
    rw[this];rw[←q5,List.getElem?_take]at hj;split at hj
    ·rw[List.getElem?_drop]at hj;exact hj
    ·cases hj
 |it x=>
  cases x with
  |list l=>
   simp only[Ry,Option.some.injEq]at he;subst he;simp only[RepD]at h1;obtain⟨h1,rfl⟩:=h1;rw[J9 h2]at h1;have hv:RepV G (.list l) c:=by
    unfold RepV;rw[if_neg (by simp[I.isAgg])]
    exact h1
   obtain⟨ad,cap,hc,hlc,hcm,hcase⟩:=RepV.list.1 hv;refine⟨ad,cap,by simpa using hc,?_⟩
   rcases hcase with rfl|⟨b,off,bl,ty,fz,sz',rfl,hg,hsz',hle,hrep⟩
   ·cases ad with
    |none=>exact .inl ⟨rfl,rfl⟩
    |some A=>exact .inr ⟨A,[],[],rfl,by simp,by simp[RepDs],List.nodup_nil,by simp,by simp⟩
   ·cases l with
    |nil=>exact .inr ⟨_,[],[],rfl,by simp,by simp[RepDs],List.nodup_nil,by simp,by simp⟩
    |cons y0 l'=>
     have hszz:sz'=sz:=by
      rw[←hsz' y0 (by simp)]
      exact hsz (.it y0) (by simp)
     subst hszz;refine .inr ⟨_,_,[],rfl,?_,RepDs.its.2 ⟨hrep,rfl⟩,List.nodup_nil,by simp,?_⟩
     ·rw[List.length_take,List.length_drop,Nat.min_eq_left]
      ·simp
      ·have:bl.toList.length=bl.size:=by simp
       omega
     ·intro j u hj;have hh:=hok.fixed b _ hg;rw[add_lit,cell_of_row w b (off+j) bl ty fz hh];have:bl[off+j]?=bl.toList[off+j]?:=by simp
      rw[this];rw[List.getElem?_take]at hj;split at hj
      ·rwa [List.getElem?_drop]at hj
      ·cases hj
  |_=>simp[Ry]at he
 |_=>simp[Ry]at he
theorem Ac8{o:Oper}{d:Nat}{t e:TypeId}{x y:Operand}{x' y':Opd}{sz bytes:Nat}(hd:o.dst=some d)
 (ho:o.op= .call {callee:=.builtin .append,args:= #[x,y],argTypes:= #[t,t]}) (hx:Jj N x x'=true) (hy:Jj N y y'=true) (ht:Vi P t e sz bytes=true):
 Sound P N o (Wn d e sz bytes x' y'):=by
 intro G0 σ0 Fr w0 st0 a w Q next E hN hr hw hn hdst
 subst hN;obtain⟨u,bu,G1,σ1,st1,hG1,hr1,h1,hfu,_,_⟩:=Lv hr hy hw;obtain⟨v,bv,G,σ,st,hG2,hr2,h2,hfv,hlv,hk2⟩:=Lv hr1 hx h1;have hG:G0.le G:=hG1.trans hG2;clear hw h1;have hfu1:=hfu
 replace hfu:=hfu.later hG2 hk2
 split at h2
 ·rename_i e' sz' l ys hys;obtain⟨⟨rfl,rfl,hby,hmax,hsz,hbig⟩,h2⟩:=h2;obtain⟨v1,v2,v3,v4⟩:=hfv;rw[J9 v2]at v1;obtain⟨ad,cap,hcy,hcase⟩:=Aaf hfu hr2.wok hys hsz;have hdis:∀b∈bu,b ∉ bv:=fun b hb hb'=>hlv b hb' (hfu1.2.2.2 b hb).2.2.1
  unfold Vi at ht;split at ht
  ·rename_i e'' hu;simp only[Bool.and_eq_true,beq_iff_eq]at ht;obtain⟨rfl,ht⟩:=ht;split at ht
   ·rename_i i hi;simp only[Bool.and_eq_true,beq_iff_eq,bne_iff_ne,ne_eq]at ht;obtain⟨⟨⟨rfl,rfl⟩,h0⟩,ht⟩:=ht;split at ht
    ·rename_i z hz;simp only[beq_iff_eq]at ht;have exec:∀{v' w'},(Builtin.append_ #[t,t] o.type #[a.eval x,a.eval y]).run P w= .ok v' w'→(execOp a.eval o).run P w= .ok (.value v') w':=by
      intro v' w' hrun;simp[execOp,ho,resolve,invoke,builtin,hrun]
     obtain⟨xs,bx,hown,hxs,hxsz,hbx,hrowb⟩:∃xs bx,w.ownsRow 0 e'' i.size (a.eval x) l.length xs∧RepDs G w l xs bx∧(∀x∈l,x.size=i.size)∧bx.Nodup∧
      ∀b,(b∈bx∨(a.eval x).ownBlock=some b)→(b∈bv∧(b∈bx→(a.eval x).ownBlock≠some b)):=by
      simp only[RepD]at v1;rcases v1 with⟨e1,rfl,rfl⟩|⟨g,off,cp,cur,xs,bs',e1,q1,q0,q2,q3,q4,q5,q6,q7,rfl⟩
      ·injection e1 with e1
       rw[e1];exact⟨[],[],(OwnsR.nil w e'' i.size).to hbig,by simp[RepDs],by simp,List.nodup_nil,by simp[Value.ownBlock]⟩
      ·injection e1 with e1
       rw[e1];obtain⟨rfl,q4'⟩:=q0 hbig;refine⟨xs,bs',⟨by rw[RepDs.length q6,Lr q7],.inr ⟨g,cp,cur,rfl,Nat.zero_le _,q1.to hbig,q2,q3,q4',q5⟩⟩,q6,q7,(List.nodup_cons.1 v3).2,?_⟩
       intro b hb;simp only[Value.ownBlock,Option.some.injEq]at hb ⊢;rcases hb with hb|rfl
       ·exact⟨by simp[hb],fun _ e=>by cases e;exact(List.nodup_cons.1 v3).1 hb⟩
       ·exact⟨by simp,fun h e=>(List.nodup_cons.1 v3).1 h⟩
     have fin:∀{v':Value} {w':World} {row:Option Nat} {news:List Value} {bn:List Nat},(Builtin.append_ #[t,t] o.type #[a.eval x,a.eval y]).run P w= .ok v' w'→w.grownBy w' row→row=(a.eval x).ownBlock→
      RepDs G w ys news bn→bn.Nodup→(∀b∈bn,b∈bu)→w'.ownsRow 0 e'' i.size v' (l.length+ys.length) (xs++news)→(v'.ownBlock=(a.eval x).ownBlock∨v'.ownBlock=some w.heap.size)→o.wp P a w next E:=by
      intro v' w' row news bn hrun hgr hrow hy1 hy2 hy3 hq1 hq2;have hrowfree:∀b,row=some b→G b=none∧Fr b=none∧σ b=none:=fun b hb=>by
       obtain⟨k1,k2,k3,_⟩:=v4 b (hrowb b (.inr (by rw[←hrow];exact hb))).1
       exact⟨k1,k2,k3⟩
      have hr3:=hr2.turned hgr hrowfree;have hnest:∀b∈bx++bn,(G b=none∧Fr b=none∧σ b=none∧b<w.heap.size)∧(a.eval x).ownBlock≠some b:=by
       intro b hb;rcases List.mem_append.1 hb with hb|hb
       ·obtain⟨k1,k2⟩:=hrowb b (.inl hb);exact⟨v4 b k1,k2 hb⟩
       ·refine⟨hfu.2.2.2 b (hy3 b hb),fun e=>?_⟩
        exact hdis b (hy3 b hb) (hrowb b (.inr e)).1
      have hsame:∀b∈bx++bn,w'.heap[b]?=w.heap[b]?:=fun b hb=>hgr.block b (hnest b hb).1.2.2.2 (by rw[hrow];exact fun e=>(hnest b hb).2 e.symm)
      have hnd:(bx++bn).Nodup:=by
       rw[List.nodup_append];refine⟨hbx,hy2,fun b hb c hc e=>?_⟩
       subst e;exact hdis b (hy3 b hc) (hrowb b (.inl hb)).1
      have hrep:RepDs G w' (l++ys) (xs++news) (bx++bn):=(hxs.append hy1).tr (Mem.le.refl G) hsame;have hszs:∀z∈l++ys,z.size=i.size:=by
       intro z hz;rcases List.mem_append.1 hz with hz|hz
       ·exact hxsz z hz
       ·exact hsz z hz
      have hFB:FreeD G σ Fr w' (.vec e'' i.size (l++ys)) v':=by
       have hq1':=OwnsR.of hq1;rcases hq1'.2 with⟨rfl,hl0⟩|⟨g,cp,cur,rfl,_,k1,k2,k3,k4,k5⟩
       ·have hl:l=[]:=List.eq_nil_of_length_eq_zero (by omega)
        have hyl:ys=[]:=List.eq_nil_of_length_eq_zero (by omega)
        subst hl hyl;exact⟨[],by simp[RepD,Value.cells],rfl,List.nodup_nil,by simp⟩
       ·refine⟨g::(bx++bn),?_,rfl,List.nodup_cons.2 ⟨fun hb=>?_,hnd⟩,fun b hb=>?_⟩
        ·simp only[RepD,Value.cells];exact .inr ⟨g,0,cp,cur,xs++news,bx++bn,by simp,k1,fun _=>⟨rfl,k4⟩,by simpa using k2,k3,by rw[Nat.zero_add,k4];exact Nat.le_refl _,by simpa using k5,hrep,hszs,rfl⟩
        ·rcases hq2 with h|h
         ·exact(hnest g hb).2 h.symm
         ·simp only[Value.ownBlock,Option.some.injEq]at h;have:=(hnest g hb).1.2.2.2;omega
        ·rcases List.mem_cons.1 hb with rfl|hb
         ·have hlt:b<w'.heap.size:=by
           obtain⟨_,_,k,_⟩:=k1;exact(Array.getElem?_eq_some_iff.1 k).1
          rcases hq2 with h|h
          ·obtain⟨q1,q2,q3,_⟩:=v4 b (hrowb b (.inr h.symm)).1;exact⟨q1,q2,q3,hlt⟩
          ·simp only[Value.ownBlock,Option.some.injEq]at h;obtain⟨q1,q2,q3⟩:=hr2.wok.fresh (Nat.le_of_eq h.symm);exact⟨q1,q2,q3,hlt⟩
         ·obtain⟨q1,q2,q3,q4⟩:=(hnest b hb).1;exact⟨q1,q2,q3,Nat.lt_of_lt_of_le q4 hgr.size⟩
      obtain⟨σ',st',r1,r2⟩:=hr3.adopt (P:=P) (hdst d hd) hFB h2;exact Jt (exec hrun) (by rw[hd];exact hn G σ' st' _ w' hG r1 r2)
     have hgrow0:w.grownBy w (a.eval x).ownBlock:=⟨rfl,rfl,rfl,Nat.le_refl _,fun _ _ _=>rfl⟩
     rcases hcase with⟨rfl,rfl⟩|⟨A,news,bn,rfl,hl,hrep,hbn,hbu,hcells⟩
     ·have hrun:=Pj (P:=P) t o.type e'' i.size hu hi (a.eval x) l.length xs hown cap;rw[show Value.slice none 0 cap=a.eval y from hcy.symm]at hrun;exact fin (news:=[]) (bn:=[]) hrun hgrow0 rfl (by simp[RepDs]) List.nodup_nil (by simp) (by simpa using hown) (.inl rfl)
     ·obtain⟨v',w',hrun,q1,q2,_,q3⟩:=run_append_own_at (P:=P) w 0 t o.type e'' i z i.size i.bytes hu hi hz rfl rfl ht (by omega) (a.eval x) l.length xs hown A ys.length cap news hl hcells (RepDs.one hrep) hmax hby (Nat.zero_le _)
      rw[show Value.slice (some A) ys.length cap=a.eval y from hcy.symm]at hrun;exact fin hrun q2 rfl hrep hbn hbu q1 q3
    ·cases ht
   ·cases ht
  ·cases ht
 ·exact h2.elim
end
end Go.Ab
