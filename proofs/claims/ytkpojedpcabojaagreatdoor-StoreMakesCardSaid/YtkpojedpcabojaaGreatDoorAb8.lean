/- Lemmas -/
import Derived.Test.YtkpojedpcabojaaGreatDoorAbF0
set_option linter.unusedVariables false
set_option linter.unusedSimpArgs false
namespace Go.Ab
mutual
def D.Ap:D→Option I
 | .it x=>some x
 | .st l=>match B8 l with
   |some r=>some (.agg r)
   |none=>none
 | .vec _ _ l=>match B8 l with
   |some r=>some (.list r)
   |none=>none
 |_=>none
def B8:List D→Option (List I)
 | []=>some []
 |d::l=>match d.Ap with
  |some x=>match B8 l with
   |some r=>some (x::r)
   |none=>none
  |none=>none
end
theorem A4:∀(l:List I),B8 (l.map D.it)=some l
 | []=>rfl
 |x::l=>by simp[B8,D.Ap,A4 l]
theorem Ar7{α:Type}{f:α→D}{g:α→I}(h:∀x,(f x).Ap=some (g x)):∀(l:List α),B8 (l.map f)=some (l.map g)
 | []=>rfl
 |x::l=>by simp[B8,h,Ar7 h l]
mutual
theorem Q6:∀{d:D} {y:I},d.Ap=some y→y.size=d.size∧y.isAgg=d.isAgg
 | .it x,y,h=>by simp only[D.Ap,Af]at h;subst h;exact⟨rfl,rfl⟩
 | .st l,y,h=>by
   simp only[D.Ap]at h;split at h
   ·rename_i r hr;cases h;exact⟨(Ajt hr).1,rfl⟩
   ·cases h
 | .vec e sz l,y,h=>by
   simp only[D.Ap]at h;split at h
   ·cases h;exact⟨rfl,rfl⟩
   ·cases h
 | .ptr d,y,h=>by cases h
 | .map ks vs,y,h=>by cases h
theorem Ajt:∀{l:List D} {r:List I},B8 l=some r→sizes r=D7 l∧r.length=l.length
 | [],r,h=>by simp only[B8,Af]at h;subst h;exact⟨rfl,rfl⟩
 |d::l,r,h=>by
  simp only[B8]at h;split at h
  ·rename_i x hx;split at h
   ·rename_i r' hr;cases h;obtain⟨h1,h2⟩:=Ajt hr;simp[sizes,D7,(Q6 hx).1,h1,h2]
   ·cases h
  ·cases h
end
theorem Ay9{sz:Nat}:∀{l:List D} {r:List I},B8 l=some r→(∀x∈l,x.size=sz)→∀x∈r,x.size=sz
 | [],r,h,_=>by simp only[B8,Af]at h;subst h;simp
 |d::l,r,h,hs=>by
  simp only[B8]at h;split at h
  ·rename_i x hx;split at h
   ·rename_i r' hr;cases h;intro z hz;rcases Ah.1 hz with rfl|hz
    ·rw[(Q6 hx).1];exact hs d (Ar ..)
    ·exact Ay9 hr (fun y hy=>hs y (Au _ hy)) z hz
   ·cases h
  ·cases h
mutual
theorem Bp.Ap{G G':Mem}{w:World}(hG:G.le G'):∀{d:D} {y:I} {cs:List Value} {bs:List Nat},Bp G w d cs bs→d.Ap=some y→(∀b∈bs,G' b=w.heap[b]?)→Bi G' y cs
 | .it x,y,cs,bs,h,hy,_=>by
   simp only[D.Ap,Af]at hy;subst hy;simp only[Bp]at h;exact Bi.mono hG x cs h.1
 | .st l,y,cs,bs,h,hy,hb=>by
   simp only[D.Ap]at hy;split at hy
   ·rename_i r hr;cases hy;simp only[Bp]at h;simp only[Bi];exact Ct.B8 hG h hr hb
   ·cases hy
 | .vec e sz l,y,cs,bs,h,hy,hb=>by
   simp only[D.Ap]at hy;split at hy
   ·rename_i r hr;cases hy;simp only[Bp]at h;obtain⟨_,hlen⟩:=Ajt hr;simp only[Bi];rcases h with⟨rfl,rfl,rfl⟩|⟨g,off,cap,cur,xs,Et,rfl,⟨ty,fz,hg,_⟩,_,Tg,Zq,Kr,Sc,hds,Cq,rfl⟩
    ·simp only[Ab.B8,Af]at hr;subst hr;exact⟨none,0,rfl,Ay _,A3 _,.inl rfl⟩
    ·refine⟨some ⟨g,off,none⟩,cap,by rw[hlen],by rw[hlen];exact Tg,Zq,.inr ⟨g,off,cur,ty,fz,sz,rfl,?_,Ay9 hr Cq,?_,?_⟩⟩
     ·rw[hb g (by simp)];exact hg
     ·rw[hlen];exact C2 (Nat.add_le_add_left (C7 sz Tg) _) Kr
     ·rw[hlen,Sc];exact Ct.B8 hG hds hr fun b Dc=>hb b (by simp[Dc])
   ·cases hy
 | .ptr d,y,cs,bs,h,hy,_=>by cases hy
 | .map ks vs,y,cs,bs,h,hy,_=>by cases hy
theorem Ct.B8{G G':Mem}{w:World}(hG:G.le G'):∀{l:List D} {r:List I} {cs:List Value} {bs:List Nat},Ct G w l cs bs→Ab.B8 l=some r→(∀b∈bs,G' b=w.heap[b]?)→B4 G' r cs
 | [],r,cs,bs,h,hr,_=>by
   simp only[Ab.B8,Af]at hr;subst hr;simp only[Ct]at h;simp only[B4];exact h.1
 |d::l,r,cs,bs,h,hr,hb=>by
  simp only[Ab.B8]at hr;split at hr
  ·rename_i x hx;split at hr
   ·rename_i r' D2;cases hr;simp only[Ct]at h;obtain⟨c,c',b,b',rfl,rfl,h1,h2⟩:=h;simp only[B4];exact⟨c,c',rfl,Bp.Ap hG h1 hx fun z hz=>hb z (by simp[hz]),Ct.B8 hG h2 D2 fun z hz=>hb z (by simp[hz])⟩
   ·cases hr
  ·cases hr
end
section
variable{P:Program}{N:Nat}{G:Mem}{σ:Lab}{Fr:Mem}{w0:Base}{w:World}{st:St}{a:Act}
def bump(inv:Inv)(p:List Nat)(v:Nat):Inv:=(p,v)::inv
theorem A9k{inv:Inv}{p q:List Nat}{k x:Nat}(hk:k<x)(h:alive k (bump inv p x) q=true):Ae9 p q=false∧alive k inv q=true:=by
 simp only[bump,alive,List.all_cons,Ad,C1,Nat.ble_eq]at h;obtain⟨h1|h1|h1,h2⟩:=h
 ·omega
 ·exact⟨A01 h1,by simpa only[alive,C1,Nat.ble_eq]using h2⟩
 ·exact⟨A9j h1,by simpa only[alive,C1,Nat.ble_eq]using h2⟩
theorem A5t{inv:Inv}{p q:List Nat}{k x:Nat}(hk:k<x)(h:Hv k (bump inv p x) q=true):Xk p q=false∧Hv k inv q=true:=by
 simp only[bump,Hv,List.all_cons,Ad,C1,Nat.ble_eq,Nat.blt_eq]at h;obtain⟨h1|h1|h1,h2⟩:=h
 ·omega
 ·exact⟨A3s h1,by simpa only[Hv,C1,Nat.ble_eq,Nat.blt_eq]using h2⟩
 ·exact⟨Bba h1,by simpa only[Hv,C1,Nat.ble_eq,Nat.blt_eq]using h2⟩
theorem Rel.tree{G':Mem}{σ':Lab}{w':World}{s cur Cn:Nat}{inv Kj:Inv}{t t':D}(h:Rel G σ Fr w0 st a w)(Dj:Gc G' σ' Fr w0 w')(hG:G.le G')
 (hs:st[s]?=some (cur,.own inv t)) (hcv:cur<Cn) (hk:∀s',s'≠s→Kept σ σ' w w' s') (Jj:Cn=cur→∀b k,σ b=some (s,k)→σ' b=some (s,k)) (Ge:Dr G' σ' w' s t' (val a w0 s))
 (Zu:∀v q c,v≤cur→q≠[]→alive v Kj q=true→(alive v inv q=true→Qc w t (val a w0 s) q c)→Qc w' t' (val a w0 s) q c)
 (W4:∀v q c,v≤cur→Hv v Kj q=true→(Hv v inv q=true→R7 w t (val a w0 s) q c)→R7 w' t' (val a w0 s) q c):
 Rel G' σ' Fr w0 (st.set s (Cn,.own Kj t')) a w':=by
 have Di:s<st.length:=(Ak.1 hs).1;have here:(st.set s (Cn,SV.own Kj t'))[s]?=some (Cn,.own Kj t'):=by simp[Di]
 have look:∀s' cur,s'≠s→st[s']?=some cur→(st.set s (Cn,SV.own Kj t'))[s']?=some cur:=fun s' cur A2 hc=>by
  rw[Az (Ne.symm A2)];exact hc
 refine⟨Dj,h.defers,h.n,by simp[h.len],?_,?_⟩
 ·intro r ver sv hr;by_cases hrs:r=s
  ·subst hrs;rw[here]at hr;cases hr;exact Ge
  ·rw[Az (Ne.symm hrs)]at hr;have h0:=h.Bj r ver sv hr;generalize val a w0 r=c at h0;cases sv with
   |Km s' k v=>
    obtain⟨cu,g1,g2,g3⟩:=h0;by_cases A2:s'=s
    ·subst A2;rw[hs]at g1;cases g1;refine⟨_,here,by simp only at g2 ⊢;omega,fun e=>?_⟩
     by_cases hv:v=cur
     ·obtain⟨_,_,_,g4,_⟩:=g3 hv;cases k<;>cases g4
     ·exfalso;simp only at g2 e;omega
    ·refine⟨cu,look s' cu A2 g1,g2,fun e=>?_⟩
     obtain⟨e,sz,l,g4,g5⟩:=g3 e;exact⟨e,sz,l,g4,g5.tr hG fun b hb=>hk s' A2 b k hb⟩
   |sub s' k v m=>
    obtain⟨cu,g1,g2,g3⟩:=h0;by_cases A2:s'=s
    ·subst A2;rw[hs]at g1;cases g1;refine⟨_,here,by simp only at g2 ⊢;omega,fun e=>?_⟩
     by_cases hv:v=cur
     ·obtain⟨_,_,_,g4,_⟩:=g3 hv;cases k<;>cases g4
     ·exfalso;simp only at g2 e;omega
    ·refine⟨cu,look s' cu A2 g1,g2,fun e=>?_⟩
     obtain⟨e,sz,l,g4,g5⟩:=g3 e;exact⟨e,sz,l,g4,g5.tr hG fun b hb=>hk s' A2 b k hb⟩
   |Q2 s' k v m=>
    obtain⟨cu,g1,g2,g3⟩:=h0;by_cases A2:s'=s
    ·subst A2;rw[hs]at g1;cases g1;refine⟨_,here,by simp only at g2 ⊢;omega,fun e=>?_⟩
     by_cases hv:v=cur
     ·obtain⟨_,_,_,_,g4,_⟩:=g3 hv;cases k<;>cases g4
     ·exfalso;simp only at g2 e;omega
    ·refine⟨cu,look s' cu A2 g1,g2,fun e=>?_⟩
     obtain⟨e,sz,l,c0,g4,g5,g6⟩:=g3 e;exact⟨e,sz,l,c0,g4,g5.tr hG fun b hb=>hk s' A2 b k hb,g6⟩
   |pt s' k v off r'=>
    obtain⟨cu,g1,g2,g3⟩:=h0;by_cases A2:s'=s
    ·subst A2;rw[hs]at g1;cases g1;refine⟨_,here,by simp only at g2 ⊢;omega,fun e=>?_⟩
     have hv:v=cur:=by simp only at g2 e;omega
     obtain⟨b,g4,g5⟩:=g3 hv;exact⟨b,Jj (by simp only at e;omega) b k g4,g5⟩
    ·refine⟨cu,look s' cu A2 g1,g2,fun e=>?_⟩
     obtain⟨b,g4,g5⟩:=g3 e;exact⟨b,(hk s' A2 b k g4).1,g5⟩
   |Lv s' v q b=>
    obtain⟨c0,Gq,h0⟩:=h0;obtain⟨cu,g1,g2,g3⟩:=h0;refine⟨c0,Gq,?_⟩;by_cases A2:s'=s
    ·subst A2;rw[hs]at g1;cases g1;refine⟨_,here,by simp only at g2 ⊢;omega,fun inv2 t2 e hp ha=>?_⟩
     cases e;exact Zu v q c0 g2 hp ha fun Pt=>g3 inv t rfl hp Pt
    ·refine⟨cu,look s' cu A2 g1,g2,fun inv2 t2 e hp ha=>?_⟩
     obtain⟨cv,Hh⟩:=cu;simp only at e;subst e;exact(g3 inv2 t2 rfl hp ha).tr (show Dr G σ w s' t2 (val a w0 s')from h.Bj s' cv _ g1) (hk s' A2)
   |pd s' v q=>
    obtain⟨cu,g1,g2,g3⟩:=h0;by_cases A2:s'=s
    ·subst A2;rw[hs]at g1;cases g1;refine⟨_,here,by simp only at g2 ⊢;omega,fun inv2 t2 e hp ha=>?_⟩
     cases e;exact Zu v q c g2 hp ha fun Pt=>g3 inv t rfl hp Pt
    ·refine⟨cu,look s' cu A2 g1,g2,fun inv2 t2 e hp ha=>?_⟩
     obtain⟨cv,Hh⟩:=cu;simp only at e;subst e;exact(g3 inv2 t2 rfl hp ha).tr (show Dr G σ w s' t2 (val a w0 s')from h.Bj s' cv _ g1) (hk s' A2)
   |bs s' v q lo n=>
    obtain⟨cu,g1,g2,g3⟩:=h0;by_cases A2:s'=s
    ·subst A2;rw[hs]at g1;cases g1;refine⟨_,here,by simp only at g2 ⊢;omega,fun e0 inv2 t2 e=>?_⟩
     cases e;simp only at g2 e0;exact absurd e0 (by omega)
    ·refine⟨cu,look s' cu A2 g1,g2,fun e0 inv2 t2 e=>?_⟩
     obtain⟨cv,Hh⟩:=cu;simp only at e;subst e;exact⟨(g3 e0 inv2 t2 rfl).1,(g3 e0 inv2 t2 rfl).2.tr (show Dr G σ w s' t2 (val a w0 s')from h.Bj s' cv _ g1) (hk s' A2)⟩
   |Qg f s' v q=>
    obtain⟨g,c0,ty,kk,Gq,Le,Kh,h0⟩:=h0;obtain⟨cu,g1,g2,g3⟩:=h0;have La:=hk r hrs g kk Le;refine⟨g,c0,ty,kk,Gq,La.1,by rw[La.2];exact Kh,?_⟩
    by_cases A2:s'=s
    ·subst A2;rw[hs]at g1;cases g1;refine⟨_,here,by simp only at g2 ⊢;omega,fun inv2 t2 e ha=>?_⟩
     cases e;exact W4 v q c0 g2 ha fun Pt=>g3 inv t rfl Pt
    ·refine⟨cu,look s' cu A2 g1,g2,fun inv2 t2 e ha=>?_⟩
     obtain⟨cv,Hh⟩:=cu;simp only at e;subst e;exact(g3 inv2 t2 rfl ha).tr (show Dr G σ w s' t2 (val a w0 s')from h.Bj s' cv _ g1) (hk s' A2)
   |bp s' v q=>
    obtain⟨g,c0,ty,kk,Gq,Le,Kh,h0⟩:=h0;obtain⟨cu,g1,g2,g3⟩:=h0;have La:=hk r hrs g kk Le;refine⟨g,c0,ty,kk,Gq,La.1,by rw[La.2];exact Kh,?_⟩
    by_cases A2:s'=s
    ·subst A2;rw[hs]at g1;cases g1;refine⟨_,here,by simp only at g2 ⊢;omega,fun inv2 t2 e hp ha=>?_⟩
     cases e;exact Zu v q c0 g2 hp ha fun Pt=>g3 inv t rfl hp Pt
    ·refine⟨cu,look s' cu A2 g1,g2,fun inv2 t2 e hp ha=>?_⟩
     obtain⟨cv,Hh⟩:=cu;simp only at e;subst e;exact(g3 inv2 t2 rfl hp ha).tr (show Dr G σ w s' t2 (val a w0 s')from h.Bj s' cv _ g1) (hk s' A2)
   |Px fb yb s' v q=>
    obtain⟨gb,xb,tb,kb,Jx,Ku,Nq,h0⟩:=h0;obtain⟨g,c0,ty,kk,Gq,Le,Kh,h0⟩:=h0;obtain⟨cu,g1,g2,g3⟩:=h0;have La:=hk r hrs g kk Le;have hbk:=hk r hrs gb kb Jx;refine⟨gb,xb,tb,kb,hbk.1,by rw[hbk.2];exact Ku,(by first|exact Bi.mono hG yb _ Nq|exact Nq),?_⟩
    refine⟨g,c0,ty,kk,Gq,La.1,by rw[La.2];exact Kh,?_⟩
    by_cases A2:s'=s
    ·subst A2;rw[hs]at g1;cases g1;refine⟨_,here,by simp only at g2 ⊢;omega,fun inv2 t2 e hp ha=>?_⟩
     cases e;exact Zu v q c0 g2 hp ha fun Pt=>g3 inv t rfl hp Pt
    ·refine⟨cu,look s' cu A2 g1,g2,fun inv2 t2 e hp ha=>?_⟩
     obtain⟨cv,Hh⟩:=cu;simp only at e;subst e;exact(g3 inv2 t2 rfl hp ha).tr (show Dr G σ w s' t2 (val a w0 s')from h.Bj s' cv _ g1) (hk s' A2)
   |bd s' v q=>
    obtain⟨cu,g1,g2,g3⟩:=h0;by_cases A2:s'=s
    ·subst A2;rw[hs]at g1;cases g1;refine⟨_,here,by simp only at g2 ⊢;omega,fun inv2 t2 e ha=>?_⟩
     cases e;exact W4 v q c g2 ha fun Pt=>g3 inv t rfl Pt
    ·refine⟨cu,look s' cu A2 g1,g2,fun inv2 t2 e ha=>?_⟩
     obtain⟨cv,Hh⟩:=cu;simp only at e;subst e;exact(g3 inv2 t2 rfl ha).tr (show Dr G σ w s' t2 (val a w0 s')from h.Bj s' cv _ g1) (hk s' A2)
   |cl f fs cs=>
    refine Y3.tr h0 fun s' cu g1=>?_
    by_cases A2:s'=s
    ·subst A2;rw[hs]at g1;cases g1;exact⟨_,here,by simp only;omega,fun _=>rfl⟩
    ·exact⟨cu,look s' cu A2 g1,Ay _,fun _=>rfl⟩
   |al s' v=>
    obtain⟨cu,g1,g2,g3⟩:=h0;by_cases A2:s'=s
    ·subst A2;rw[hs]at g1;cases g1;exact⟨_,here,by simp only at g2 ⊢;omega,fun e=>by first|exact g3 (by simp only at g2 e ⊢;omega)|(exfalso;simp only at g2 e;omega)⟩
    ·exact⟨cu,look s' cu A2 g1,g2,g3⟩
   |_=>
    rw[Fa.own rfl]at h0 ⊢;exact Dx.tr h0 hG fun b k hb=>hk r hrs b k hb
 ·intro r ver hh hr;by_cases hrs:r=s
  ·subst hrs;rw[here]at hr;cases hr
  ·rw[Az (Ne.symm hrs)]at hr;exact h.Nv r ver hh hr
def Lab.Xq(σ:Lab)(bs:List Nat):Lab:=fun b=>if b∈bs then none else σ b
theorem Lab.Pz{bs:List Nat}{b:Nat}{Ca:Nat × Nat}:σ.Xq bs b=some Ca↔b ∉ bs∧σ b=some Ca:=by
 unfold Lab.Xq;split<;>simp_all
theorem Gc.Xq{bs:List Nat}(h:Gc G σ Fr w0 w):Gc G (σ.Xq bs) Fr w0 w:=
 ⟨h.fixed,fun b Ca hb=>h.own b Ca (Lab.Pz.1 hb).2,fun b b' Ca hb Dc=>h.inj b b' Ca (Lab.Pz.1 hb).2 (Lab.Pz.1 Dc).2,h.frame,h.os,h.tape,h.output,h.size,h.apart,h.Mv⟩
theorem Lq.same{m:Lq}{bs Fw:List Nat}{s s':S7}(h:m.fits w bs Fw s s'):m.new w w bs Fw s'.2 s'.2∧m.cells s.2 s'.2=s.2:=by
 cases m with
 |inl pre post=>exact⟨fun _ _ _=>rfl,h.1.symm⟩
 |U5 g pre post ty fz=>
  obtain⟨_,_,⟨row,h1,_,h2⟩,_⟩:=h;exact⟨⟨by rw[h1, ←h2],fun _ _ _ _=>rfl⟩,rfl⟩
 |val=>exact⟨⟨rfl,fun _ _ _=>rfl⟩,rfl⟩
theorem Focus.refs{G:Mem}{w w':World}{t t' u:D}{cr:Value}{p:List Nat}{inv:Inv}{cur:Nat} 
 (Ga:∀q,Az3 p u q→∀v,t.at q=some v→∀z,spot w q t (none,cr.cells.toList)=some z→∃v' z',t'.at q=some v'∧spot w' q t' (none,cr.cells.toList)=some z'∧z'.1=z.1∧
   (v.head=true→(Xk p q=false∨u.leaf=true)→v'.head=true∧z'.2=z.2)):
 (∀v q c,v≤cur→q≠[]→alive v (if u.leaf then inv else bump inv p (cur+1)) q=true→(alive v inv q=true→Qc w t cr q c)→Qc w' t' cr q c)∧
 (∀v q c,v≤cur→Hv v (if u.leaf then inv else bump inv p (cur+1)) q=true→(Hv v inv q=true→R7 w t cr q c)→R7 w' t' cr q c):=by
 constructor
 ·intro v q c hv hq ha hold;have:Az3 p u q∧alive v inv q=true:=by
   by_cases hl:u.leaf=true
   ·rw[if_pos hl]at ha;exact⟨.inr hl,ha⟩
   ·rw[if_neg hl]at ha;obtain⟨h1,h2⟩:=A9k (by omega) ha
    exact⟨.inl h1,h2⟩
  obtain⟨x,b,o,cs,h1,h2,rfl⟩:=hold this.2;obtain⟨v',z',h3,h4,h5,_⟩:=Ga q this.1 x h1 _ h2;obtain⟨z1,z2⟩:=z';simp only at h5;subst h5;exact⟨v',b,o,z2,h3,h4,rfl⟩
 ·intro v q c hv ha hold;have:Az3 p u q∧Hv v inv q=true∧(Xk p q=false∨u.leaf=true):=by
   by_cases hl:u.leaf=true
   ·rw[if_pos hl]at ha;exact⟨.inr hl,ha,.inr hl⟩
   ·rw[if_neg hl]at ha;obtain⟨h1,h2⟩:=A5t (by omega) ha
    exact⟨.inl (A7b h1),h2,.inl h1⟩
  obtain⟨x,hh,h1,h0,h2⟩:=hold this.2.1;obtain⟨v',z',h3,h4,h5,h6⟩:=Ga q this.1 x h1 _ h2;obtain⟨h7,h8⟩:=h6 h0 this.2.2;obtain⟨z1,z2⟩:=z';simp only at h5 h8;subst h5 h8;exact⟨v',z1,h3,h7,h4⟩
theorem Rel.Aq4{s cur:Nat}{inv:Inv}{p:List Nat}{t t' u:D}{y:I}(h:Rel G σ Fr w0 st a w)(hs:st[s]?=some (cur,.own inv t))(Dd:t.at p=some u)(Uq:u.leaf=false)(hy:u.Ap=some y)(G8:t.put p (.it y)=some t'):
 ∃G' σ',G.le G'∧Rel G' σ' Fr w0 (st.set s (cur+1,.own (bump inv p (cur+1)) t')) a w∧(∀hh cs,spot w p t (none,(val a w0 s).cells.toList)=some (hh,cs)→Bi G' y cs)∧∀b,σ b=none→G b=none→σ' b=none∧G' b=none:=by
 obtain⟨bs,Ba,H7,F5,Jj⟩:=show Dr G σ w s t (val a w0 s)from h.Bj s cur _ hs;obtain⟨m,s',Fw,f1,f2,f3,f4,f5,f6⟩:=focus (here:=none) Ba F5 Dd
 let G':Mem:=fun b=>if b∈Fw then w.heap[b]? else G b
 have N2:∀b∈Fw,G b=none∧Fr b=none∧∃k,σ b=some (s,k):=fun b hb=>by
  obtain⟨k,hk⟩:=Jj b (f4 b hb);obtain⟨k1,k2,k3⟩:=h.Bz.own b _ hk;exact⟨k1,k2,k,hk⟩
 have hG:G.le G':=fun b o hb=>by
  show(if b∈Fw then w.heap[b]? else G b)=some o
  rw[if_neg fun hm=>by rw[(N2 b hm).1]at hb;cases hb]
  exact hb
 have Bqi:∀b∈Fw,G' b=w.heap[b]?:=fun b hb=>if_pos hb
 have hI:Bi G' y s'.2:=Bp.Ap hG f2 hy Bqi;obtain⟨Cq,Jg⟩:=Q6 hy;obtain⟨Ge,Rj⟩:=Lq.same f5;obtain⟨Et,r1,r2,r3,r4,r5⟩:=f6 G' w (.it y) s'.2 [] t' hG rfl Jg (by simp only[Bp,and_true];exact hI) Dn (by simp) Ge G8
 simp only at Rj r1 r5;rw[Rj]at r1 r5;refine⟨G',σ.Xq Fw,hG,?_,fun hh cs Mx=>?_,fun b h1 h2=>⟨?_,?_⟩⟩
 ·obtain⟨Zu,W4⟩:=Focus.refs (G:=G) (inv:=inv) (cur:=cur) r5;rw[Uq]at Zu W4;have Dj:Gc G' (σ.Xq Fw) Fr w0 w:=by
   refine⟨fun b o hb=>?_,fun b Ca hb=>?_,h.Bz.Xq.inj,h.Bz.frame,h.Bz.os,h.Bz.tape,h.Bz.output,h.Bz.size,fun b o hb=>?_,Amb.mono hG h.Bz.Mv⟩
   ·by_cases hm:b∈Fw
    ·rwa [Bqi b hm]at hb
    ·exact h.Bz.fixed b o (by rwa [show G' b=G b from if_neg hm]at hb)
   ·obtain⟨h1,h2⟩:=Lab.Pz.1 hb;obtain⟨k1,k2,k3⟩:=h.Bz.own b Ca h2;exact⟨by rw[show G' b=G b from if_neg h1];exact k1,k2,k3⟩
   ·by_cases hm:b∈Fw
    ·rw[(N2 b hm).2.1]at hb;cases hb
    ·rw[show G' b=G b from if_neg hm];exact h.Bz.apart b o hb
  refine h.tree Dj hG hs (Bk _) ?_ (fun e=>by omega) ?_ Zu W4
  ·intro s1 hs1 x k hx;refine⟨Lab.Pz.2 ⟨fun hm=>?_,hx⟩,rfl⟩
   obtain⟨_,_,k',Jn⟩:=N2 x hm;rw[hx]at Jn;cases Jn;exact hs1 rfl
  ·refine⟨Et,r1,?_,r2,fun x hx=>?_⟩
   ·rw[r4];split
    ·rename_i hp;subst hp;simp only[D.at,Af]at Dd;subst Dd;rw[show(D.it y).isAgg=t.isAgg from Jg];exact H7
    ·exact H7
   ·rcases(r3 x).1 hx with⟨h1,h2⟩|h1
    ·obtain⟨k,hk⟩:=Jj x h1;exact⟨k,Lab.Pz.2 ⟨h2,hk⟩⟩
    ·cases h1
 ·rw[f1]at Mx;obtain rfl:=Cy Mx;exact hI
 ·unfold Lab.Xq;split
  ·rfl
  ·exact h1
 ·show(if b∈Fw then w.heap[b]? else G b)=none
  rw[if_neg]
  ·exact h2
  ·intro hm;obtain⟨_,_,k,hk⟩:=N2 b hm;rw[h1]at hk;cases hk
theorem Rel.Bpg{n ver:Nat}{inv:Inv}{t:D}{y:I}(h:Rel G σ Fr w0 st a w)(hs:st[n]?=some (ver,.own inv t))(Uq:t.leaf=false)(hy:t.Ap=some y):
 ∃G' σ',G.le G'∧Rel G' σ' Fr w0 (st.set n (ver+2,.v y)) a w∧Bb G' y (val a w0 n)∧∀b,σ b=none→G b=none→σ' b=none∧G' b=none:=by
 obtain⟨G',σ',hG,r1,r2,r3⟩:=h.Aq4 hs (p:=[]) rfl Uq hy rfl;have Di:n<st.length:=(Ak.1 hs).1;have Fm:Dr G σ w n t (val a w0 n):=h.Bj n ver _ hs;have hI:=r2 none _ rfl;have hv:Bb G' y (val a w0 n):=by
  obtain⟨bs,h1,h2,_⟩:=Fm;rw[←(Q6 hy).2]at h2;unfold Bb;cases Jg:y.isAgg with
  |true=>
   rw[Jg]at h2;obtain⟨a',Pt⟩:=Wk h2;rw[Pt]at hI;rw[if_pos rfl];exact⟨a',Pt,hI⟩
  |false=>
   rw[Jg]at h2;rw[G7 h2]at hI;rw[if_neg (by simp)]
   exact hI
 refine⟨G',σ',hG,?_,hv,r3⟩;have:=Rel.self (new:=.v y) (ver:=ver+2) (d:=n) r1 r1.Bz (Mem.le.refl G') (old:=(ver+1,_)) (by simp[Di];rfl) (by simp only;omega) (fun s' _ b k hb=>⟨hb,rfl⟩) hv
 rwa [Gj]at this
end

def rdP(x:Bh)(k:(s k ver off:Nat)→List Nat→M)(kr:I→M):M:=match x with
 | .t n=>.get n fun ver sv=>match sv with
   | .box _=>k n 0 ver 0 []
   | .pt s kk v off r=>k s kk v off r
   | .rp y=>kr y
   | .par h=>.get h fun Cn Ek=>match Ek with
     | .box _=>k h 0 Cn 0 []
     |_=>.fail
   |_=>.fail
 |_=>.fail
def Mq(P:Program)(t:TypeId)(agg:Bool)(sz:Nat):Bool:=
 (match P.underlying t with
   |some (.struct _)|some (.array _ _)=>agg
   |some _=> !agg
   |none=>false)&&
 (match P.info? t with
   |some i=>i.size==sz
   |none=>false)
section
variable{P:Program}{N:Nat}{G:Mem}{σ:Lab}{Fr:Mem}{w0:Base}{w:World}{st:St}{a:Act}
theorem Arx{x:Operand}{y:Bh}{k:(s k ver off:Nat)→List Nat→M}{kr:I→M}{Q:St→Prop}(h:Rel G σ Fr w0 st a w)(ho:Bu w0.n x y=true)(hq:(rdP y k kr).wp P Q st):
 (∃s kk ver off r cur,(k s kk ver off r).wp P Q st∧st[s]?=some cur∧(ver=cur.1→∃b,σ b=some (s,kk)∧a.eval x= .pointer (some ⟨b,off,none⟩)))∨
 (∃u,(kr u).wp P Q st∧Aa2 G u (a.eval x)):=by
 cases y with
 |t n=>
  obtain⟨rfl,Ej⟩:=Gb ho;simp only[rdP,M.wp]at hq;cases hs:st[n]? with
  |none=>simp[hs]at hq
  |some cur=>
   obtain⟨ver,sv⟩:=cur;simp only[hs]at hq;have Ba:=h.slot Ej hs;cases sv with
   |box t=>
    obtain⟨b,cells,ty,h1,h2,_⟩:=Ba;exact .inl ⟨n,0,ver,0,[],_,hq,hs,fun _=>⟨b,h2,h1⟩⟩
   |pt s kk v off r=>
    obtain⟨cur,h1,h2,h3⟩:=Ba;exact .inl ⟨s,kk,v,off,r,cur,hq,h1,h3⟩
   |rp u=>exact .inr ⟨u,hq,Ba⟩
   |par hh=>
    obtain⟨hv,_⟩:=h.Nv n ver hh hs;rw[G9 (by rw[h.n];exact Ej)]at hv
    simp only[M.wp]at hq;cases Zv:st[hh]? with
    |none=>simp[Zv]at hq
    |some Amj=>
     obtain⟨Bcr,sv2⟩:=Amj;simp only[Zv]at hq;cases sv2 with
     |box t=>
      obtain⟨b,cells,ty,h1,h2,_⟩:=(show Dx G σ w hh (.box t) (val a w0 hh)from h.Bj hh Bcr _ Zv);exact .inl ⟨hh,0,Bcr,0,[],_,hq,Zv,fun _=>⟨b,h2,by rw[hv];exact h1⟩⟩
     |_=>exact hq.elim
   |_=>exact hq.elim
 |_=>exact hq.elim
theorem Aem{t:TypeId}{agg:Bool}{sz:Nat}(h:Mq P t agg sz=true)(w:World):(isAgg t).run P w= .ok agg w∧(sizeOf t).run P w= .ok sz w:=by
 unfold Mq at h;simp only[Ad]at h;obtain⟨h1,h2⟩:=h;constructor
 ·cases hu:P.underlying t with
  |none=>simp[hu]at h1
  |some d=>
   unfold isAgg;rw[Sem.run_bind,run_underlying hu w];cases d<;>simp_all
 ·cases hi:P.info? t with
  |none=>simp[hi]at h2
  |some i=>
   simp only[hi,beq_iff_eq]at h2;simp[sizeOf,typeInfo,hi,h2]
theorem add_lit(b o j:Nat):(⟨b,o,none⟩:Addr).add j=⟨b,o+j,none⟩:=by unfold Addr.add;split<;>simp_all
theorem Ka{t:TypeId}{agg:Bool}{b off:Nat}{bl:Array Value}{ty:TypeId}{fz:Nat × Nat}{pre cs post:List Value}(h:Mq P t agg cs.length=true)
 (hh:w.heap[b]?=some (.cells bl ty fz)) (hs:bl.toList=pre++cs++post) (hp:pre.length=off):
 (agg=true→(loadVar t ⟨b,off,none⟩).run P w= .ok (.agg cs.toArray) w)∧(∀c,agg=false→cs=[c]→(loadVar t ⟨b,off,none⟩).run P w= .ok c w):=by
 obtain⟨h1,h2⟩:=Aem h w;have Rj:∀j v,cs[j]?=some v→w.cell? ((⟨b,off,none⟩:Addr).add j)=some v:=by
  intro j v hv;rw[add_lit,cell_of_row w b (off+j) bl ty fz hh];have:bl[off+j]?=bl.toList[off+j]?:=by simp
  rw[this,hs,A8,Cf (by omega), ←hp,Nat.add_sub_cancel_left,B0 (by exact(Ak.1 hv).1)]
  exact hv
 constructor
 ·rintro rfl;have hl:=run_loadCells_list (P:=P) w ⟨b,off,none⟩ cs Rj;simp[loadVar,Sem.run_bind,h1,h2,hl]
 ·rintro c rfl rfl;have hc:=Rj 0 c rfl;rw[add_lit,Gk]at hc;simp[loadVar,Sem.run_bind,h1,run_load,hc]
theorem Wf{t:TypeId}{u:I}{b off:Nat}{bl:Array Value}{ty:TypeId}{fz:Nat × Nat}{pre cs post:List Value}(h:Mq P t u.isAgg u.size=true)
 (hh:w.heap[b]?=some (.cells bl ty fz)) (hs:bl.toList=pre++cs++post) (hp:pre.length=off) (hr:Bi G u cs):
 ∃v,(loadVar t ⟨b,off,none⟩).run P w= .ok v w∧Bb G u v:=by
 have hl:=Bi.length u cs hr;obtain⟨h1,h2⟩:=Ka (P:=P) (w:=w) (cs:=cs) (by rw[hl];exact h) hh hs hp
 cases hu:u.isAgg with
 |true=>exact⟨_,h1 hu,by unfold Bb;rw[if_pos hu];exact⟨_,rfl,by simpa using hr⟩⟩
 |false=>
  have Acj:u.size=1:=by cases u<;>simp_all [I.isAgg,I.size]
  rw[Acj]at hl
  match cs,hl with
  | [c],_=>exact⟨c,h2 c hu rfl,by unfold Bb;rw[if_neg (by simp[hu])];exact hr⟩
def A8k(d:Option Nat)(agg:Bool)(sz:Nat)(x:Bh):M:=rdP x
 (fun s k ver off r=>.get s fun cur sv=>.Co (ver=cur) fun _=>match sv.hit k r with
   |some (Xf,.item u)=>.Co (Xf=off∧u.isAgg=agg∧u.size=sz) fun _=>Ci d (.v u) .done
   |some (Xf,.vec k')=>.Co (Xf=off∧agg=false∧sz=1∧d≠some s) fun _=>Ci d (.Km s k' ver) .done
   |none=>.fail)
 (fun y=>.Co (y.isAgg=agg∧y.size=sz) fun _=>Ci d (.v y) .done)
theorem Bob{s k off b k':Nat}{sv:SV}{r:List Nat}{c:Value}(Dj:Gc G σ Fr w0 w)(ho:Dx G σ w s sv c)(hh:sv.hit k r=some (off,.vec k'))(hb:σ b=some (s,k)):
 ∃bl ty pre v post e sz l,w.heap[b]?=some (.cells bl ty (0,0))∧bl.toList=pre++[v]++post∧pre.length=off∧sv.Fu k'=some (e,sz,l)∧Fg G σ w (s,k') e sz l v:=by
 have nov:∀{o:Nat} {q:Option (Nat × I)},Av9 o q=some (off,.vec k')→False:=by
  intro o q h;obtain⟨_,_,_,_,h⟩:=Zr h;cases h
 have Bsc:∀{sz:Nat} {l:List I} {r:List Nat},Awa sz l r=some (off,.vec k')→False:=by
  intro sz l r h;cases r with
  |nil=>cases h
  |cons i r=>
   simp only[Awa]at h;split at h
   ·exact nov h
   ·cases h
 cases k with
 |zero=>
  simp only[SV.hit]at hh;cases sv with
  |vec e sz l=>exact(Bsc hh).elim
  |box t=>
   obtain⟨b',cells,ty,h1,h2,h3,h4⟩:=ho;obtain rfl:=Dj.inj b b' _ hb h2;cases t with
   |one f=>
    cases f with
    |i x=>exact(nov hh).elim
    |vec e sz l=>
     cases r with
     |nil=>
      cases hh;obtain⟨v,hv,h4⟩:=h4;exact⟨cells,ty,[],v,[],e,sz,l,h3,by simp[hv],rfl,rfl,h4⟩
     |cons _ _=>cases hh
   |st fs=>
    cases r with
    |nil=>simp only at hh;split at hh<;>cases hh
    |cons j r=>
     simp only at hh;split at hh
     ·exact(nov hh).elim
     ·rename_i e sz l hy;split at hh
      ·cases hh;obtain⟨c1,cc,c2,e1,e2,e3,_⟩:=Gw.nth h4 hy;rw[Bm]at e3;obtain⟨v,rfl,e3⟩:=e3;exact⟨cells,ty,c1,v,c2,e,sz,l,h3,e1,e2,by simp[SV.Fu,hy],e3⟩
      ·cases hh
     ·cases hh
  |_=>cases hh
 |succ j=>
  simp only[SV.hit]at hh;split at hh
  ·exact(Bsc hh).elim
  ·cases hh
theorem Bb4{o:Oper}{t:TypeId}{x:Operand}{x':Bh}{agg:Bool}{sz:Nat}(ho:o.op= .load t x)(hx:Bu N x x'=true)(ht:Mq P t agg sz=true):Sound P N o (A8k o.dst agg sz x'):=by
 intro G σ Fr w0 st a w Q next E hN hr hw hn A9
 subst hN;have run:∀{b off:Nat} {v:Value},a.eval x= .pointer (some ⟨b,off,none⟩)→(loadVar t ⟨b,off,none⟩).run P w= .ok v w→(execOp a.eval o).run P w= .ok (.value v) w:=by
  intro b off v hp hl;simp[execOp,ho,hp,Instr.loadAt,Instr.sureAddr,hl]
 rcases Arx hr hx hw with⟨s,k,ver,off,r,cur,h1,hs,hp⟩|⟨u,h1,hp⟩
 ·simp only[M.wp,hs]at h1;obtain⟨hv,h1⟩:=h1;obtain⟨b,hb,hp⟩:=hp hv;split at h1
  ·rename_i Xf u hh;obtain⟨⟨rfl,rfl,rfl⟩,h1⟩:=h1;have Ly:cur.2.root=none:=by
    generalize cur.2=sv at hh;cases sv<;>first|rfl|(cases k<;>simp[SV.hit,SV.Fu]at hh)
   have Ba:=hr.Bj s cur.1 cur.2 hs;rw[Fa.own Ly]at Ba;obtain⟨bl,ty,fz,pre,cs,post,g1,_,g2,g3,g4,_⟩:=Ach hr.Bz Ba hh hb;obtain⟨v,hl,hv⟩:=Wf (P:=P) ht g1 g2 g3 g4;exact Gn hr hn A9 hv h1 (run hp hl)
  ·rename_i Xf k' hh;obtain⟨⟨rfl,rfl,rfl,A2⟩,h1⟩:=h1;have Ly:cur.2.root=none:=by
    generalize cur.2=sv at hh;cases sv<;>first|rfl|(cases k<;>simp[SV.hit,SV.Fu]at hh)
   have Ba:=hr.Bj s cur.1 cur.2 hs;rw[Fa.own Ly]at Ba;obtain⟨bl,ty,pre,v,post,e,sz,l,g1,g2,g3,g4,g5⟩:=Bob hr.Bz Ba hh hb;have hl:=(Ka (P:=P) (cs:=[v]) ht g1 g2 g3).2 v rfl rfl;obtain⟨σ',st',r1,r2⟩:=hr.Ci A9 (sv:=.Km s k' ver) (c:=v) (fun d' hd Cn _=>by
    refine⟨cur,?_,by omega,fun _=>⟨e,sz,l,g4,?_⟩⟩
    ·rw[Az (by rintro rfl;exact A2 hd)];exact hs
    ·exact g5.tr (Mem.le.refl G) fun b hb=>⟨Lab.D1.2 ⟨by rintro rfl;exact A2 hd,hb⟩,rfl⟩) h1
   exact Df (run hp hl) (hn G σ' st' _ w (Mem.le.refl G) r1 r2)
  ·exact h1.elim
 ·obtain⟨⟨rfl,rfl⟩,h1⟩:=h1;obtain⟨b,off,bl,ty,fz,pre,cs,post,p1,p2,p3,p4,p5⟩:=hp;obtain⟨v,hl,hv⟩:=Wf (P:=P) ht (hr.Bz.fixed _ _ p2) p3 p4 p5;exact Gn hr hn A9 hv h1 (run p1 hl)
def Q5(x:Bh)(k:I→M):M:=match x with
 | .c x=>k x
 | .Fo _ _=>k (.list [])
 | .t n=>.get n fun ver sv=>match sv with
   | .v x=>k x
   | .vec _ _ l=>.set n (ver+1) (.v (.list l)) (k (.list l))
   | .Km s kk v=>.get s fun cur Ek=>.Co (v=cur) fun _=>match Ek.Fu kk with
     |some (_,_,l)=>.set s (cur+1) (Ek.Ad8 kk) (k (.list l))
     |none=>.fail
   | .sub s kk v m=>.get s fun cur Ek=>.Co (v=cur) fun _=>match Ek.Fu kk with
     |some (_,_,l)=>.set s (cur+1) (Ek.Ad8 kk) (k (.list (l.take m)))
     |none=>.fail
   | .own _ t=>match t.Ap with
     |some y=>.Co (t.leaf=false) fun _=>.set n (ver+2) (.v y) (k y)
     |none=>.fail
   | .bd s v p=>.get s fun cur Ek=>match Ek with
     | .own inv t=>.Co (Hv v inv p=true) fun _=>match D.at p t with
       |some u=>match u.Ap with
        |some y=>match D.put p t (.it y)with
         |some t'=>.set s (cur+1) (.own (bump inv p (cur+1)) t') (k y)
         |none=>.fail
        |none=>.fail
       |none=>.fail
     |_=>.fail
   |_=>.fail
theorem Avh{x:Operand}{y:Bh}{k:I→M}{Q:St→Prop}(h:Rel G σ Fr w0 st a w)(ho:Bu w0.n x y=true)(hq:(Q5 y k).wp P Q st):
 ∃i G' σ' st',G.le G'∧Rel G' σ' Fr w0 st' a w∧(k i).wp P Q st'∧Bb G' i (a.eval x)∧∀b,σ b=none→G b=none→σ' b=none∧G' b=none:=by
 cases y with
 |c i=>exact⟨i,G,σ,st,Mem.le.refl G,h,hq,Ud ho G,fun _ h1 h2=>⟨h1,h2⟩⟩
 |Fo e sz=>
  refine⟨_,G,σ,st,Mem.le.refl G,h,hq,?_,fun _ h1 h2=>⟨h1,h2⟩⟩
  rw[Nj ho];unfold Bb;rw[if_neg (by simp[I.isAgg])]
  exact⟨none,0,rfl,Ay _,by simp[maxLen],.inl rfl⟩
 |t n=>
  obtain⟨rfl,Ej⟩:=Gb ho;simp only[Q5,M.wp]at hq;cases hs:st[n]? with
  |none=>simp[hs]at hq
  |some cur=>
   obtain⟨ver,sv⟩:=cur;simp only[hs]at hq;have Ba:=h.slot Ej hs;cases sv with
   |v y=>exact⟨y,G,σ,st,Mem.le.refl G,h,hq,Ba,fun _ h1 h2=>⟨h1,h2⟩⟩
   |vec e sz l=>
    obtain⟨G',σ',h1,h2,h3,h9⟩:=h.freeze (k:=0) hs rfl (Bk ver);exact⟨_,G',σ',_,h1,h2,hq,h3 l _ Ba,h9⟩
   |Km s kk v=>
    obtain⟨cur,h1,h2,h3⟩:=Ba;simp only[M.wp,h1]at hq;obtain⟨hv,hq⟩:=hq;obtain⟨e,sz,l,h4,h5⟩:=h3 hv;simp only[h4,M.wp]at hq;obtain⟨G',σ',g1,g2,g3,g9⟩:=h.freeze (k:=kk) h1 h4 (Bk cur.1);exact⟨_,G',σ',_,g1,g2,hq,g3 l _ h5,g9⟩
   |sub s kk v m=>
    obtain⟨cur,h1,h2,h3⟩:=Ba;simp only[M.wp,h1]at hq;obtain⟨hv,hq⟩:=hq;obtain⟨e,sz,l,h4,h5⟩:=h3 hv;simp only[h4,M.wp]at hq;obtain⟨G',σ',g1,g2,g3,g9⟩:=h.freeze (k:=kk) h1 h4 (Bk cur.1);exact⟨_,G',σ',_,g1,g2,hq,g3 _ _ h5,g9⟩
   |own inv t=>
    simp only at hq;split at hq
    ·rename_i y hy;obtain⟨Uq,hq⟩:=hq;obtain⟨G',σ',h1,h2,h3,h9⟩:=h.Bpg hs Uq hy;rw[G9 (by rw[h.n];exact Ej)]at h3
     exact⟨_,G',σ',_,h1,h2,hq,h3,h9⟩
    ·exact hq.elim
   |bd s v p=>
    obtain⟨cur,h1,h2,h3⟩:=Ba;simp only[M.wp,h1]at hq;obtain⟨cv,Hh⟩:=cur;cases Hh with
    |own inv t=>
     obtain⟨ha,hq⟩:=hq;split at hq
     ·rename_i u Dd;split at hq
      ·rename_i y hy;split at hq
       ·rename_i t' G8;obtain⟨u1,hh,e1,e0,e2⟩:=h3 inv t rfl ha;rw[Dd]at e1;obtain rfl:=Cy e1;have Uq:u.leaf=false:=by cases u<;>first|rfl|cases e0
        obtain⟨G',σ',g1,g2,g3,g9⟩:=h.Aq4 h1 Dd Uq hy G8;refine⟨_,G',σ',_,g1,g2,hq,?_,g9⟩;have Jg:y.isAgg=false:=by
         rw[(Q6 hy).2];cases u<;>first|rfl|cases e0
        unfold Bb;rw[if_neg (by rw[Jg];simp)]
        exact g3 _ _ e2
       ·exact hq.elim
      ·exact hq.elim
     ·exact hq.elim
    |_=>exact hq.elim
   |_=>exact hq.elim
theorem Se{x:Operand}{y:Bh}{k:I→M}{Q:St→Prop}(h:Rel G σ Fr w0 st a w)(ho:Bu w0.n x y=true)(hq:(Q5 y k).wp P Q st):
 ∃i G' σ' st',G.le G'∧Rel G' σ' Fr w0 st' a w∧(k i).wp P Q st'∧Bb G' i (a.eval x):=by
 obtain⟨i,G',σ',st',h1,h2,h3,h4,_⟩:=Avh h ho hq;exact⟨i,G',σ',st',h1,h2,h3,h4⟩
end

theorem Bn9(inv:Inv)(d:D)(k:Nat)(r:List Nat):(SV.own inv d).hit k r=none:=by cases k<;>simp[SV.hit,SV.Fu]
theorem Boa(h k:Nat)(r:List Nat):(SV.par h).hit k r=none:=by cases k<;>simp[SV.hit,Aon]
def Apa(s k ver off:Nat)(r:List Nat)(sz:Nat)(u:I):M:=.get s fun cur sv=>.Co (ver=cur) fun _=>match sv.hit k r with
 |some (Xf,.item u0)=>.Co (Xf=off∧u.size=u0.size∧u.size=sz) fun _=>match k,sv with
  |0,.box _=>.set s cur (sv.putAt 0 r u) .done
  |k,sv=>.set s (cur+1) (sv.putAt k r u) .done
 |some (Xf,.vec _)=>match k,sv,r with
  |0,.box (.st fs),[j]=>.Co (Xf=off∧u.size=1∧sz=1) fun _=>.set s (cur+1) (.box (.st (fs.set j (.i u)))) .done
  |_,_,_=>.fail
 |none=>.fail
def A4p(sz:Nat)(ax vx:Bh):M:=Q5 vx fun u=>rdP ax (fun s k ver off r=>Apa s k ver off r sz u) (fun _=>.fail)
section
variable{P:Program}{N:Nat}{G:Mem}{σ:Lab}{Fr:Mem}{w0:Base}{w:World}{st:St}{a:Act}
theorem Gc.setRow(h:Gc G σ Fr w0 w){b:Nat}{Ca:Nat × Nat}(hb:σ b=some Ca)(row:Array Value):Gc G σ Fr w0 (w.setRow b row):=by
 obtain⟨h1,h2,h3⟩:=h.own b Ca hb;refine⟨?_,?_,h.inj,?_,h.os,h.tape,h.output,?_,h.apart,h.Mv⟩
 ·intro b' o Dc;rw[setRow_other w b b' row (by rintro rfl;rw[h1]at Dc;cases Dc)]
  exact h.fixed b' o Dc
 ·intro b' Tb Dc;obtain⟨k1,k2,k3⟩:=h.own b' Tb Dc;exact⟨k1,k2,by simpa[World.setRow]using k3⟩
 ·intro b' o Dc;rw[setRow_other w b b' row (by rintro rfl;rw[h2]at Dc;cases Dc)]
  exact h.frame b' o Dc
 ·simpa[World.setRow]using h.size
theorem Yd(P:Program)(g o:Nat)(t:TypeId)(fz:Nat × Nat):∀(vs:List Value) (i:Nat) (cur:Array Value) (w:World),w.heap[g]?=some (.cells cur t fz)→cur.size≤fz.1→o+i+vs.length≤cur.size→(∀v∈vs,v.oneCell'=true)→
 (storeCells ⟨g,o,none⟩ vs i).run P w= .ok () (w.setRow g (cur.toList.take (o+i)++vs++cur.toList.drop (o+i+vs.length)).toArray)
 | [],i,cur,w,hg,_,_,_=>by
   simp only[storeCells,Dk,Fb,Gk,B3,Array.toArray_toList];rw[setRow_self w g cur t fz hg];rfl
 |v::rest,i,cur,w,hg,hf,hl,h1=>by
  have hi:o+i<cur.size:=by simp at hl;omega
  have Av5:(⟨g,o,none⟩:Addr).add i=⟨g,o+i,none⟩:=by unfold Addr.add;split<;>simp_all
  have Rj:w.cell? ⟨g,o+i,none⟩=some cur[o+i]:=by simp[World.cell?,hg,hi]
  have Bwv:w.frozen? ⟨g,o+i,none⟩=false:=by
   simp[World.frozen?,hg];omega
  have Ga:(store ((⟨g,o,none⟩:Addr).add i) v).run P w= .ok () (w.setRow g (cur.setIfInBounds (o+i) v)):=by
   rw[Av5,run_store P w _ v _ (h1 v (by simp)),Rj]
   simp[Bwv,setCell_eq_setRow w g (o+i) cur t fz v hg]
  have ih:=Yd P g o t fz rest (i+1) (cur.setIfInBounds (o+i) v) (w.setRow g (cur.setIfInBounds (o+i) v)) (setRow_heap w g cur _ t _ hg) (by simpa using hf) (by simp at hl ⊢;omega) (fun x hx=>h1 x (by simp[hx]))
  simp only[storeCells,Sem.run_bind,Ga,Result.andThen_ok,ih,setRow_setRow]
  congr 3
  have e:=list_seg_step cur.toList (o+i) v rest (by simp at hl ⊢;omega)
  simpa[Array.toList_setIfInBounds,Nat.add_assoc]using e
theorem Z3(P:Program)(g o:Nat)(t:TypeId)(fz:Nat × Nat)(vs:List Value)(i:Nat)(cur:Array Value)(w:World)(hg:w.heap[g]?=some (.cells cur t fz))(hf:fz=(0,0)∨cur.size≤fz.1)(hl:o+i+vs.length≤cur.size)(h1:∀v∈vs,v.oneCell'=true):
 (storeCells ⟨g,o,none⟩ vs i).run P w= .ok () (w.setRow g (cur.toList.take (o+i)++vs++cur.toList.drop (o+i+vs.length)).toArray):=by
 rcases hf with rfl|hf
 ·exact run_storeCells_at P g o t vs i cur w hg hl h1
 ·exact Yd P g o t fz vs i cur w hg hf hl h1
theorem Aev{fz:Nat × Nat}{t:TypeId}{agg:Bool}{b off:Nat}{bl:Array Value}{ty:TypeId}{pre cs post:List Value}{v:Value}{u:I}(h:Mq P t agg cs.length=true)
 (hh:w.heap[b]?=some (.cells bl ty fz)) (hfz:fz=(0,0)∨bl.size≤fz.1) (hs:bl.toList=pre++cs++post) (hp:pre.length=off) (hv:Bb G u v) (hu:u.size=cs.length):
 (storeVar t ⟨b,off,none⟩ v).run P w= .ok () (w.setRow b (pre++v.cells.toList++post).toArray):=by
 obtain⟨_,h2⟩:=Aem h w;have hc:=hv.cells;have hl:=Bi.length _ _ hc;have hlen:v.cells.toList.length=cs.length:=by rw[hl,hu]
 have A92:bl.size=pre.length+cs.length+post.length:=by
  have:bl.size=bl.toList.length:=by simp
  rw[this,hs];simp;omega
 have Ga:=Z3 P b off ty fz v.cells.toList 0 bl w hh hfz (by rw[hlen,A92,hp];omega) (Bi.one _ _ hc)
 have e1:bl.toList.take (off+0)=pre:=by rw[hs,A8,Gk, ←hp,Gt]
 have e2:bl.toList.drop (off+0+v.cells.toList.length)=post:=by
  rw[hs,hlen,Gk, ←hp, ←Cw,Jy]
 rw[e1,e2]at Ga;have Cq:v.cells.size=cs.length:=by rw[←hlen];simp
 simp[storeVar,h2,Cq,Ga]
theorem Kept.setRow{b:Nat}{Ca:Nat × Nat}{s':Nat}(hb:σ b=some Ca)(hs:s'≠Ca.1)(row:Array Value):Kept σ σ w (w.setRow b row) s':=by
 intro b' k Dc;refine⟨Dc,setRow_other w b b' row ?_⟩;rintro rfl;rw[hb]at Dc;cases Dc;exact hs rfl
theorem A5e{t:T}{r:List Nat}{u:I}{off:Nat}{u0:I}(h:(SV.box t).hit 0 r=some (off,.item u0))(k:Nat):((SV.box t).putAt 0 r u).Fu k=(SV.box t).Fu k:=by
 cases t with
 |one f=>
  cases f with
  |i x=>cases k<;>simp[SV.putAt,SV.Fu]
  |vec e sz l=>cases r<;>simp[SV.hit]at h
 |st fs=>
  cases r with
  |nil=>
   simp only[SV.hit]at h;split at h
   ·rename_i l hl;have:∀(fs:List F) (l:List I) (j:Nat) (e:TypeId) (sz:Nat) (m:List I),allI fs=some l→fs[j]?≠some (.vec e sz m):=by
     intro fs;induction fs with
     |nil=>intro l j e sz m _ h;simp at h
     |cons f fs ih=>
      intro l j e sz m hl h;cases f with
      |vec _ _ _=>simp[allI]at hl
      |i x=>
       simp only[allI]at hl;split at hl
       ·rename_i l' Ve;cases j with
        |zero=>simp at h
        |succ j=>exact ih l' j e sz m Ve (by simpa using h)
       ·cases hl
    cases k with
    |zero=>simp[SV.putAt,SV.Fu]
    |succ j=>
     simp only[SV.putAt,SV.Fu];cases hf:fs[j]? with
     |none=>rfl
     |some f=>
      cases f with
      |i x=>rfl
      |vec e sz m=>exact absurd hf (this fs l j e sz m hl)
   ·cases h
  |cons j r=>
   simp only[SV.hit]at h;split at h
   ·rename_i y hy;simp only[SV.putAt,hy];cases k with
    |zero=>simp[SV.Fu]
    |succ i=>
     simp only[SV.Fu];by_cases L7:i=j
     ·subst L7;have:i<fs.length:=(Ak.1 hy).1;rw[hy,E7 this]
     ·rw[Az (Ne.symm L7)]
   ·split at h<;>cases h
   ·cases h
theorem A3v{s k ver off:Nat}{r:List Nat}{sz:Nat}{u:I}{v:Value}{t:TypeId}{agg:Bool}{b:Nat}{cur:Nat × SV}{Q:St→Prop}(h:Rel G σ Fr w0 st a w)(hs:st[s]?=some cur)
 (hp:ver=cur.1→σ b=some (s,k)) (ht:Mq P t agg sz=true) (hv:Bb G u v) (hq:(Apa s k ver off r sz u).wp P Q st):
 ver=cur.1∧∃w' σ' st',(storeVar t ⟨b,off,none⟩ v).run P w= .ok () w'∧Rel G σ' Fr w0 st' a w'∧Q st':=by
 simp only[Apa,M.wp,hs]at hq;obtain⟨Qm,hq⟩:=hq;refine⟨Qm,?_⟩;have hb:=hp Qm;obtain⟨cv,sv⟩:=cur;simp only at hq Qm;split at hq
 ·rename_i Xf u0 hh;obtain⟨⟨rfl,Cq,rfl⟩,hq⟩:=hq;have Ly:sv.root=none:=by
   cases sv<;>first|rfl|(cases k<;>simp[SV.hit,SV.Fu]at hh)
  have Ba:=h.Bj s cv sv hs;rw[Fa.own Ly]at Ba;obtain⟨bl,ty,fz,pre,cs,post,g1,g1',g2,g3,g4,g5⟩:=Ach h.Bz Ba hh hb;clear g5;have hl:=Bi.length _ _ g4;have Ez:=Aev (P:=P) (cs:=cs) (agg:=agg) (by rw[hl, ←Cq];exact ht) g1 g1' g2 g3 hv (by rw[hl];exact Cq)
  refine⟨w.setRow b (pre++v.cells.toList++post).toArray,?_⟩;split at hq
  ·rename_i t';refine⟨σ,_,Ez,?_,hq⟩;refine h.Bx1 (h.Bz.setRow hb _) hs (fun s' Hf=>Kept.setRow hb Hf _) rfl ?_ ?_ ?_ ?_ ?_
   ·have:∃t'',(SV.box t').putAt 0 r u= .box t'':=by
     unfold SV.putAt;repeat' split
     all_goals first|exact⟨_,rfl⟩|simp_all
    obtain⟨t'',e⟩:=this;rw[e];rfl
   ·intro h e;unfold SV.putAt at e;repeat' split at e
    all_goals first|cases e|simp_all
   ·intro inv t e;unfold SV.putAt at e;repeat' split at e
    all_goals first|cases e|simp_all
   ·intro c hc;obtain⟨bl',ty',fz',A3r,Jw,Aes,k1,_,k2,k3,k4,k5⟩:=Ach h.Bz hc hh hb;rw[g1]at k1;cases k1;have Vy:A3r=pre∧Jw++Aes=cs++post:=by
     have:A3r++(Jw++Aes)=pre++(cs++post):=by rw[←A8, ←k2,g2,A8]
     exact List.append_inj this (by rw[k3,g3])
    have Ats:Aes=post:=(List.append_inj Vy.2 (by rw[Bi.length _ _ k4,Bi.length _ _ g4])).2
    have:=k5 u _ Cq hv.cells;rwa [Vy.1,Ats]at this
   ·intro k' e Ex l c Bi9;refine⟨l,by rw[A5e hh];exact Bi9,?_,?_⟩
    all_goals
     have hk:∀b',σ b'=some (s,k')→σ b'=some (s,k')∧(w.setRow b (pre++v.cells.toList++post).toArray).heap[b']?=w.heap[b']?:=fun b' Dc=>
      ⟨Dc,setRow_other w b b' _ (by
        rintro rfl;rw[hb]at Dc;cases Dc;cases t' with
        |one f=>cases f<;>simp[SV.Fu]at Bi9
        |st fs=>simp[SV.Fu]at Bi9)⟩
    ·exact fun hc=>hc.tr (Mem.le.refl G) hk
    ·exact fun n hc=>hc.tr (Mem.le.refl G) hk
  ·refine⟨σ,_,Ez,?_,hq⟩;refine Rel.self (new:=sv.putAt k r u) (ver:=cv+1) h (h.Bz.setRow hb _) (Mem.le.refl G) hs (Bk _) (fun s' Hf=>Kept.setRow hb Hf _) (w':=w.setRow b (pre++v.cells.toList++post).toArray) ?_ (by
    intro h e;unfold SV.putAt at e;repeat' split at e
    all_goals first|(subst e;rw[Boa]at hh;cases hh)|cases e) (by
    intro inv t e;exfalso;unfold SV.putAt at e;repeat' split at e
    all_goals first|(subst e;rw[Bn9]at hh;cases hh)|cases e)
   ·obtain⟨bl',ty',fz',A3r,Jw,Aes,k1,_,k2,k3,k4,k5⟩:=Ach h.Bz Ba hh hb;rw[g1]at k1;cases k1;have Vy:A3r=pre∧Jw++Aes=cs++post:=by
     have:A3r++(Jw++Aes)=pre++(cs++post):=by rw[←A8, ←k2,g2,A8]
     exact List.append_inj this (by rw[k3,g3])
    have Ats:Aes=post:=(List.append_inj Vy.2 (by rw[Bi.length _ _ k4,Bi.length _ _ g4])).2
    have:=k5 u _ Cq hv.cells;rw[Vy.1,Ats]at this;rw[Fa.own]
    ·exact this
    ·have:(sv.putAt k r u).root=none:=by
      unfold SV.putAt;repeat' split
      all_goals first|rfl|exact Ly
     exact this
 ·rename_i Xf k' hh;split at hq
  ·rename_i fs j;obtain⟨⟨rfl,hu,rfl⟩,hq⟩:=hq;have Ba:=h.Bj s cv _ hs;rw[Fa.own rfl]at Ba;obtain⟨b',cells,ty,h1,h2,h3,h4⟩:=Ba;obtain rfl:=h.Bz.inj b b' _ hb h2;simp only[SV.hit]at hh;split at hh
   ·obtain⟨_,_,_,_,hh⟩:=Zr hh;cases hh
   ·rename_i e sz l hy;cases hh;obtain⟨c1,cc,c2,e1,e2,e3,Fq⟩:=Gw.nth h4 hy;have hcc:cc.length=1:=by obtain⟨c',rfl,_⟩:=e3;rfl
    have Ez:=Aev (P:=P) (cs:=cc) (agg:=agg) (by rw[hcc];exact ht) h3 (.inl rfl) e1 e2 hv (by rw[hcc,hu])
    refine⟨_,σ,_,Ez,?_,hq⟩;refine Rel.self (new:=.box (.st (fs.set j (.i u)))) (ver:=cv+1) h (h.Bz.setRow hb _) (Mem.le.refl G) hs (Bk _) (fun s' Hf=>Kept.setRow hb Hf _) (w':=w.setRow b (c1++v.cells.toList++c2).toArray) ?_
    ·refine⟨b,_,ty,h1,h2,setRow_heap w b cells _ ty (0,0) h3,?_⟩;show Gw _ _ _ _ _ _ _;have:=Fq (.i u) v.cells.toList hv.cells;exact Gw.far (b:=b) this (fun k hk e=>by rw[h2]at e;cases e;omega) _
   ·cases hh
  ·exact hq.elim
 ·exact hq.elim
end
end Go.Ab
