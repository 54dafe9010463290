/- Lemmas -/
import Derived.Test.YtkpojedpcabojaaGreatDoorAbF0
set_option linter.unusedVariables false
set_option linter.unusedSimpArgs false
namespace Go.Ab
mutual
def D.Bx:D→Option I
 | .it x=>some x
 | .st l=>match Js l with
   |some r=>some (.agg r)
   |none=>none
 | .vec _ _ l=>match Js l with
   |some r=>some (.list r)
   |none=>none
 |_=>none
def Js:List D→Option (List I)
 | []=>some []
 |d::l=>match d.Bx with
  |some x=>match Js l with
   |some r=>some (x::r)
   |none=>none
  |none=>none
end
theorem Ad:∀(l:List I),Js (l.map D.it)=some l
 | []=>rfl
 |x::l=>by simp[Js,D.Bx,Ad l]
theorem Vg{α:Type}{f:α→D}{g:α→I}(h:∀x,(f x).Bx=some (g x)):∀(l:List α),Js (l.map f)=some (l.map g)
 | []=>rfl
 |x::l=>by simp[Js,h,Vg h l]
mutual
theorem Avb:∀{d:D} {y:I},d.Bx=some y→y.size=d.size∧y.isAgg=d.isAgg
 | .it x,y,h=>by simp only[D.Bx,A0]at h;subst h;exact⟨rfl,rfl⟩
 | .st l,y,h=>by
   simp only[D.Bx]at h;split at h
   ·rename_i r hr;cases h;exact⟨(A3p hr).1,rfl⟩
   ·cases h
 | .vec e sz l,y,h=>by
   simp only[D.Bx]at h;split at h
   ·cases h;exact⟨rfl,rfl⟩
   ·cases h
 | .ptr d,y,h=>by cases h
 | .map ks vs,y,h=>by cases h
theorem A3p:∀{l:List D} {r:List I},Js l=some r→sizes r=Ae5 l∧r.length=l.length
 | [],r,h=>by simp only[Js,A0]at h;subst h;exact⟨rfl,rfl⟩
 |d::l,r,h=>by
  simp only[Js]at h;split at h
  ·rename_i x hx;split at h
   ·rename_i r' hr;cases h;obtain⟨h1,h2⟩:=A3p hr;simp[sizes,Ae5,(Avb hx).1,h1,h2]
   ·cases h
  ·cases h
end
theorem Xx{sz:Nat}:∀{l:List D} {r:List I},Js l=some r→(∀x∈l,x.size=sz)→∀x∈r,x.size=sz
 | [],r,h,_=>by simp only[Js,A0]at h;subst h;simp
 |d::l,r,h,hs=>by
  simp only[Js]at h;split at h
  ·rename_i x hx;split at h
   ·rename_i r' hr;cases h;intro z hz;rcases Bg.1 hz with rfl|hz
    ·rw[(Avb hx).1];exact hs d (B2 ..)
    ·exact Xx hr (fun y hy=>hs y (B4 _ hy)) z hz
   ·cases h
  ·cases h
mutual
theorem Fe.Bx{G G':Mem}{w:World}(hG:G.le G'):∀{d:D} {y:I} {cs:List Value} {bs:List Nat},Fe G w d cs bs→d.Bx=some y→(∀b∈bs,G' b=w.heap[b]?)→D8 G' y cs
 | .it x,y,cs,bs,h,hy,_=>by
   simp only[D.Bx,A0]at hy;subst hy;simp only[Fe]at h;exact D8.mono hG x cs h.1
 | .st l,y,cs,bs,h,hy,hb=>by
   simp only[D.Bx]at hy;split at hy
   ·rename_i r hr;cases hy;simp only[Fe]at h;simp only[D8];exact H8.Js hG h hr hb
   ·cases hy
 | .vec e sz l,y,cs,bs,h,hy,hb=>by
   simp only[D.Bx]at hy;split at hy
   ·rename_i r hr;cases hy;simp only[Fe]at h;obtain⟨_,hlen⟩:=A3p hr;simp only[D8];rcases h with⟨rfl,rfl,rfl⟩|⟨g,off,cap,cur,xs,bs',rfl,⟨ty,fz,hg,_⟩,_,hlc,hcm,hcs,hxs,hds,Hr,rfl⟩
    ·simp only[Ab.Js,A0]at hr;subst hr;exact⟨none,0,rfl,Bz _,Cr _,.inl rfl⟩
    ·refine⟨some ⟨g,off,none⟩,cap,by rw[hlen],by rw[hlen];exact hlc,hcm,.inr ⟨g,off,cur,ty,fz,sz,rfl,?_,Xx hr Hr,?_,?_⟩⟩
     ·rw[hb g (by simp)];exact hg
     ·rw[hlen];exact Kq (Nat.add_le_add_left (Jh sz hlc) _) hcs
     ·rw[hlen,hxs];exact H8.Js hG hds hr fun b Sy=>hb b (by simp[Sy])
   ·cases hy
 | .ptr d,y,cs,bs,h,hy,_=>by cases hy
 | .map ks vs,y,cs,bs,h,hy,_=>by cases hy
theorem H8.Js{G G':Mem}{w:World}(hG:G.le G'):∀{l:List D} {r:List I} {cs:List Value} {bs:List Nat},H8 G w l cs bs→Ab.Js l=some r→(∀b∈bs,G' b=w.heap[b]?)→F9 G' r cs
 | [],r,cs,bs,h,hr,_=>by
   simp only[Ab.Js,A0]at hr;subst hr;simp only[H8]at h;simp only[F9];exact h.1
 |d::l,r,cs,bs,h,hr,hb=>by
  simp only[Ab.Js]at hr;split at hr
  ·rename_i x hx;split at hr
   ·rename_i r' Hm;cases hr;simp only[H8]at h;obtain⟨c,c',b,b',rfl,rfl,h1,h2⟩:=h;simp only[F9];exact⟨c,c',rfl,Fe.Bx hG h1 hx fun z hz=>hb z (by simp[hz]),H8.Js hG h2 Hm fun z hz=>hb z (by simp[hz])⟩
   ·cases hr
  ·cases hr
end
section
variable{P:Program}{N:Nat}{G:Mem}{σ:Lab}{Fr:Mem}{w0:Base}{w:World}{st:St}{a:Act}
def bump(inv:Inv)(p:List Nat)(v:Nat):Inv:=(p,v)::inv
theorem Acw{inv:Inv}{p q:List Nat}{k x:Nat}(hk:k<x)(h:alive k (bump inv p x) q=true):A1p p q=false∧alive k inv q=true:=by
 simp only[bump,alive,List.all_cons,Ap,Q3,Nat.ble_eq]at h;obtain⟨h1|h1|h1,h2⟩:=h
 ·omega
 ·exact⟨Yd h1,by simpa only[alive,Q3,Nat.ble_eq]using h2⟩
 ·exact⟨Acv h1,by simpa only[alive,Q3,Nat.ble_eq]using h2⟩
theorem Aac{inv:Inv}{p q:List Nat}{k x:Nat}(hk:k<x)(h:J7 k (bump inv p x) q=true):Axz p q=false∧J7 k inv q=true:=by
 simp only[bump,J7,List.all_cons,Ap,Q3,Nat.ble_eq,Nat.blt_eq]at h;obtain⟨h1|h1|h1,h2⟩:=h
 ·omega
 ·exact⟨Yx h1,by simpa only[J7,Q3,Nat.ble_eq,Nat.blt_eq]using h2⟩
 ·exact⟨Ac4 h1,by simpa only[J7,Q3,Nat.ble_eq,Nat.blt_eq]using h2⟩
theorem Rel.tree{G':Mem}{σ':Lab}{w':World}{s cur Gu:Nat}{inv Ap9:Inv}{t t':D}(h:Rel G σ Fr w0 st a w)(H2:WOk G' σ' Fr w0 w')(hG:G.le G')
 (hs:st[s]?=some (cur,.own inv t)) (hcv:cur<Gu) (hk:∀s',s'≠s→Kept σ σ' w w' s') (Aoe:Gu=cur→∀b k,σ b=some (s,k)→σ' b=some (s,k)) (Ak3:Ac5 G' σ' w' s t' (val a w0 s))
 (hpd:∀v q c,v≤cur→q≠[]→alive v Ap9 q=true→(alive v inv q=true→PtD w t (val a w0 s) q c)→PtD w' t' (val a w0 s) q c)
 (hbd:∀v q c,v≤cur→J7 v Ap9 q=true→(J7 v inv q=true→HdD w t (val a w0 s) q c)→HdD w' t' (val a w0 s) q c):
 Rel G' σ' Fr w0 (st.set s (Gu,.own Ap9 t')) a w':=by
 have Ze:s<st.length:=(A7.1 hs).1;have here:(st.set s (Gu,SV.own Ap9 t'))[s]?=some (Gu,.own Ap9 t'):=by simp[Ze]
 have look:∀s' cur,s'≠s→st[s']?=some cur→(st.set s (Gu,SV.own Ap9 t'))[s']?=some cur:=fun s' cur Cf hc=>by
  rw[B3 (Ne.symm Cf)];exact hc
 refine⟨H2,h.defers,h.n,by simp[h.len],?_,?_⟩
 ·intro r ver sv hr;by_cases hrs:r=s
  ·subst hrs;rw[here]at hr;cases hr;exact Ak3
  ·rw[B3 (Ne.symm hrs)]at hr;have h0:=h.Eb r ver sv hr;generalize val a w0 r=c at h0;cases sv with
   |bor s' k v=>
    obtain⟨cu,g1,g2,g3⟩:=h0;by_cases Cf:s'=s
    ·subst Cf;rw[hs]at g1;cases g1;refine⟨_,here,by simp only at g2 ⊢;omega,fun e=>?_⟩
     by_cases hv:v=cur
     ·obtain⟨_,_,_,g4,_⟩:=g3 hv;cases k<;>cases g4
     ·exfalso;simp only at g2 e;omega
    ·refine⟨cu,look s' cu Cf g1,g2,fun e=>?_⟩
     obtain⟨e,sz,l,g4,g5⟩:=g3 e;exact⟨e,sz,l,g4,g5.tr hG fun b hb=>hk s' Cf b k hb⟩
   |sub s' k v m=>
    obtain⟨cu,g1,g2,g3⟩:=h0;by_cases Cf:s'=s
    ·subst Cf;rw[hs]at g1;cases g1;refine⟨_,here,by simp only at g2 ⊢;omega,fun e=>?_⟩
     by_cases hv:v=cur
     ·obtain⟨_,_,_,g4,_⟩:=g3 hv;cases k<;>cases g4
     ·exfalso;simp only at g2 e;omega
    ·refine⟨cu,look s' cu Cf g1,g2,fun e=>?_⟩
     obtain⟨e,sz,l,g4,g5⟩:=g3 e;exact⟨e,sz,l,g4,g5.tr hG fun b hb=>hk s' Cf b k hb⟩
   |suf s' k v m=>
    obtain⟨cu,g1,g2,g3⟩:=h0;by_cases Cf:s'=s
    ·subst Cf;rw[hs]at g1;cases g1;refine⟨_,here,by simp only at g2 ⊢;omega,fun e=>?_⟩
     by_cases hv:v=cur
     ·obtain⟨_,_,_,_,g4,_⟩:=g3 hv;cases k<;>cases g4
     ·exfalso;simp only at g2 e;omega
    ·refine⟨cu,look s' cu Cf g1,g2,fun e=>?_⟩
     obtain⟨e,sz,l,c0,g4,g5,g6⟩:=g3 e;exact⟨e,sz,l,c0,g4,g5.tr hG fun b hb=>hk s' Cf b k hb,g6⟩
   |pt s' k v off r'=>
    obtain⟨cu,g1,g2,g3⟩:=h0;by_cases Cf:s'=s
    ·subst Cf;rw[hs]at g1;cases g1;refine⟨_,here,by simp only at g2 ⊢;omega,fun e=>?_⟩
     have hv:v=cur:=by simp only at g2 e;omega
     obtain⟨b,g4,g5⟩:=g3 hv;exact⟨b,Aoe (by simp only at e;omega) b k g4,g5⟩
    ·refine⟨cu,look s' cu Cf g1,g2,fun e=>?_⟩
     obtain⟨b,g4,g5⟩:=g3 e;exact⟨b,(hk s' Cf b k g4).1,g5⟩
   |pdt s' v q b=>
    obtain⟨c0,hc0,h0⟩:=h0;obtain⟨cu,g1,g2,g3⟩:=h0;refine⟨c0,hc0,?_⟩;by_cases Cf:s'=s
    ·subst Cf;rw[hs]at g1;cases g1;refine⟨_,here,by simp only at g2 ⊢;omega,fun inv2 t2 e hp ha=>?_⟩
     cases e;exact hpd v q c0 g2 hp ha fun ha'=>g3 inv t rfl hp ha'
    ·refine⟨cu,look s' cu Cf g1,g2,fun inv2 t2 e hp ha=>?_⟩
     obtain⟨cv,csv⟩:=cu;simp only at e;subst e;exact(g3 inv2 t2 rfl hp ha).tr (show Ac5 G σ w s' t2 (val a w0 s')from h.Eb s' cv _ g1) (hk s' Cf)
   |pd s' v q=>
    obtain⟨cu,g1,g2,g3⟩:=h0;by_cases Cf:s'=s
    ·subst Cf;rw[hs]at g1;cases g1;refine⟨_,here,by simp only at g2 ⊢;omega,fun inv2 t2 e hp ha=>?_⟩
     cases e;exact hpd v q c g2 hp ha fun ha'=>g3 inv t rfl hp ha'
    ·refine⟨cu,look s' cu Cf g1,g2,fun inv2 t2 e hp ha=>?_⟩
     obtain⟨cv,csv⟩:=cu;simp only at e;subst e;exact(g3 inv2 t2 rfl hp ha).tr (show Ac5 G σ w s' t2 (val a w0 s')from h.Eb s' cv _ g1) (hk s' Cf)
   |bs s' v q lo n=>
    obtain⟨cu,g1,g2,g3⟩:=h0;by_cases Cf:s'=s
    ·subst Cf;rw[hs]at g1;cases g1;refine⟨_,here,by simp only at g2 ⊢;omega,fun e0 inv2 t2 e=>?_⟩
     cases e;simp only at g2 e0;exact absurd e0 (by omega)
    ·refine⟨cu,look s' cu Cf g1,g2,fun e0 inv2 t2 e=>?_⟩
     obtain⟨cv,csv⟩:=cu;simp only at e;subst e;exact⟨(g3 e0 inv2 t2 rfl).1,(g3 e0 inv2 t2 rfl).2.tr (show Ac5 G σ w s' t2 (val a w0 s')from h.Eb s' cv _ g1) (hk s' Cf)⟩
   |kcl f s' v q=>
    obtain⟨g,c0,ty,kk,hc0,hg1,hg2,h0⟩:=h0;obtain⟨cu,g1,g2,g3⟩:=h0;have hgk:=hk r hrs g kk hg1;refine⟨g,c0,ty,kk,hc0,hgk.1,by rw[hgk.2];exact hg2,?_⟩
    by_cases Cf:s'=s
    ·subst Cf;rw[hs]at g1;cases g1;refine⟨_,here,by simp only at g2 ⊢;omega,fun inv2 t2 e ha=>?_⟩
     cases e;exact hbd v q c0 g2 ha fun ha'=>g3 inv t rfl ha'
    ·refine⟨cu,look s' cu Cf g1,g2,fun inv2 t2 e ha=>?_⟩
     obtain⟨cv,csv⟩:=cu;simp only at e;subst e;exact(g3 inv2 t2 rfl ha).tr (show Ac5 G σ w s' t2 (val a w0 s')from h.Eb s' cv _ g1) (hk s' Cf)
   |bp s' v q=>
    obtain⟨g,c0,ty,kk,hc0,hg1,hg2,h0⟩:=h0;obtain⟨cu,g1,g2,g3⟩:=h0;have hgk:=hk r hrs g kk hg1;refine⟨g,c0,ty,kk,hc0,hgk.1,by rw[hgk.2];exact hg2,?_⟩
    by_cases Cf:s'=s
    ·subst Cf;rw[hs]at g1;cases g1;refine⟨_,here,by simp only at g2 ⊢;omega,fun inv2 t2 e hp ha=>?_⟩
     cases e;exact hpd v q c0 g2 hp ha fun ha'=>g3 inv t rfl hp ha'
    ·refine⟨cu,look s' cu Cf g1,g2,fun inv2 t2 e hp ha=>?_⟩
     obtain⟨cv,csv⟩:=cu;simp only at e;subst e;exact(g3 inv2 t2 rfl hp ha).tr (show Ac5 G σ w s' t2 (val a w0 s')from h.Eb s' cv _ g1) (hk s' Cf)
   |ocl fb yb s' v q=>
    obtain⟨gb,xb,tb,kb,hb1,hb2,hb3,h0⟩:=h0;obtain⟨g,c0,ty,kk,hc0,hg1,hg2,h0⟩:=h0;obtain⟨cu,g1,g2,g3⟩:=h0;have hgk:=hk r hrs g kk hg1;have hbk:=hk r hrs gb kb hb1;refine⟨gb,xb,tb,kb,hbk.1,by rw[hbk.2];exact hb2,(by first|exact D8.mono hG yb _ hb3|exact hb3),?_⟩
    refine⟨g,c0,ty,kk,hc0,hgk.1,by rw[hgk.2];exact hg2,?_⟩
    by_cases Cf:s'=s
    ·subst Cf;rw[hs]at g1;cases g1;refine⟨_,here,by simp only at g2 ⊢;omega,fun inv2 t2 e hp ha=>?_⟩
     cases e;exact hpd v q c0 g2 hp ha fun ha'=>g3 inv t rfl hp ha'
    ·refine⟨cu,look s' cu Cf g1,g2,fun inv2 t2 e hp ha=>?_⟩
     obtain⟨cv,csv⟩:=cu;simp only at e;subst e;exact(g3 inv2 t2 rfl hp ha).tr (show Ac5 G σ w s' t2 (val a w0 s')from h.Eb s' cv _ g1) (hk s' Cf)
   |bd s' v q=>
    obtain⟨cu,g1,g2,g3⟩:=h0;by_cases Cf:s'=s
    ·subst Cf;rw[hs]at g1;cases g1;refine⟨_,here,by simp only at g2 ⊢;omega,fun inv2 t2 e ha=>?_⟩
     cases e;exact hbd v q c g2 ha fun ha'=>g3 inv t rfl ha'
    ·refine⟨cu,look s' cu Cf g1,g2,fun inv2 t2 e ha=>?_⟩
     obtain⟨cv,csv⟩:=cu;simp only at e;subst e;exact(g3 inv2 t2 rfl ha).tr (show Ac5 G σ w s' t2 (val a w0 s')from h.Eb s' cv _ g1) (hk s' Cf)
   |cl f fs cs=>
    refine Ay0.tr h0 fun s' cu g1=>?_
    by_cases Cf:s'=s
    ·subst Cf;rw[hs]at g1;cases g1;exact⟨_,here,by simp only;omega,fun _=>rfl⟩
    ·exact⟨cu,look s' cu Cf g1,Bz _,fun _=>rfl⟩
   |al s' v=>
    obtain⟨cu,g1,g2,g3⟩:=h0;by_cases Cf:s'=s
    ·subst Cf;rw[hs]at g1;cases g1;exact⟨_,here,by simp only at g2 ⊢;omega,fun e=>by first|exact g3 (by simp only at g2 e ⊢;omega)|(exfalso;simp only at g2 e;omega)⟩
    ·exact⟨cu,look s' cu Cf g1,g2,g3⟩
   |_=>
    rw[Ait.own rfl]at h0 ⊢;exact Ab1.tr h0 hG fun b k hb=>hk r hrs b k hb
 ·intro r ver hh hr;by_cases hrs:r=s
  ·subst hrs;rw[here]at hr;cases hr
  ·rw[B3 (Ne.symm hrs)]at hr;exact h.As8 r ver hh hr
def Lab.Ax3(σ:Lab)(bs:List Nat):Lab:=fun b=>if b∈bs then none else σ b
theorem Lab.Atv{bs:List Nat}{b:Nat}{Gf:Nat × Nat}:σ.Ax3 bs b=some Gf↔b ∉ bs∧σ b=some Gf:=by
 unfold Lab.Ax3;split<;>simp_all
theorem WOk.Ax3{bs:List Nat}(h:WOk G σ Fr w0 w):WOk G (σ.Ax3 bs) Fr w0 w:=
 ⟨h.fixed,fun b Gf hb=>h.own b Gf (Lab.Atv.1 hb).2,fun b b' Gf hb Sy=>h.inj b b' Gf (Lab.Atv.1 hb).2 (Lab.Atv.1 Sy).2,h.frame,h.os,h.tape,h.output,h.size,h.apart,h.amb⟩
theorem Lie.same{m:Lie}{bs ubs:List Nat}{s s':Avv}(h:m.fits w bs ubs s s'):m.new w w bs ubs s'.2 s'.2∧m.cells s.2 s'.2=s.2:=by
 cases m with
 |inl pre post=>exact⟨fun _ _ _=>rfl,h.1.symm⟩
 |blk g pre post ty fz=>
  obtain⟨_,_,⟨row,h1,_,h2⟩,_⟩:=h;exact⟨⟨by rw[h1, ←h2],fun _ _ _ _=>rfl⟩,rfl⟩
 |val=>exact⟨⟨rfl,fun _ _ _=>rfl⟩,rfl⟩
theorem Focus.refs{G:Mem}{w w':World}{t t' u:D}{cr:Value}{p:List Nat}{inv:Inv}{cur:Nat} 
 (hst:∀q,Xz p u q→∀v,t.at q=some v→∀z,spot w q t (none,cr.cells.toList)=some z→∃v' z',t'.at q=some v'∧spot w' q t' (none,cr.cells.toList)=some z'∧z'.1=z.1∧
   (v.head=true→(Axz p q=false∨u.leaf=true)→v'.head=true∧z'.2=z.2)):
 (∀v q c,v≤cur→q≠[]→alive v (if u.leaf then inv else bump inv p (cur+1)) q=true→(alive v inv q=true→PtD w t cr q c)→PtD w' t' cr q c)∧
 (∀v q c,v≤cur→J7 v (if u.leaf then inv else bump inv p (cur+1)) q=true→(J7 v inv q=true→HdD w t cr q c)→HdD w' t' cr q c):=by
 constructor
 ·intro v q c hv hq ha hold;have:Xz p u q∧alive v inv q=true:=by
   by_cases hl:u.leaf=true
   ·rw[if_pos hl]at ha;exact⟨.inr hl,ha⟩
   ·rw[if_neg hl]at ha;obtain⟨h1,h2⟩:=Acw (by omega) ha
    exact⟨.inl h1,h2⟩
  obtain⟨x,b,o,cs,h1,h2,rfl⟩:=hold this.2;obtain⟨v',z',h3,h4,h5,_⟩:=hst q this.1 x h1 _ h2;obtain⟨z1,z2⟩:=z';simp only at h5;subst h5;exact⟨v',b,o,z2,h3,h4,rfl⟩
 ·intro v q c hv ha hold;have:Xz p u q∧J7 v inv q=true∧(Axz p q=false∨u.leaf=true):=by
   by_cases hl:u.leaf=true
   ·rw[if_pos hl]at ha;exact⟨.inr hl,ha,.inr hl⟩
   ·rw[if_neg hl]at ha;obtain⟨h1,h2⟩:=Aac (by omega) ha
    exact⟨.inl (Aba h1),h2,.inl h1⟩
  obtain⟨x,hh,h1,h0,h2⟩:=hold this.2.1;obtain⟨v',z',h3,h4,h5,h6⟩:=hst q this.1 x h1 _ h2;obtain⟨h7,h8⟩:=h6 h0 this.2.2;obtain⟨z1,z2⟩:=z';simp only at h5 h8;subst h5 h8;exact⟨v',z1,h3,h7,h4⟩
theorem Rel.A6c{s cur:Nat}{inv:Inv}{p:List Nat}{t t' u:D}{y:I}(h:Rel G σ Fr w0 st a w)(hs:st[s]?=some (cur,.own inv t))(C3:t.at p=some u)(hul:u.leaf=false)(hy:u.Bx=some y)(Aof:t.put p (.it y)=some t'):
 ∃G' σ',G.le G'∧Rel G' σ' Fr w0 (st.set s (cur+1,.own (bump inv p (cur+1)) t')) a w∧(∀hh cs,spot w p t (none,(val a w0 s).cells.toList)=some (hh,cs)→D8 G' y cs)∧∀b,σ b=none→G b=none→σ' b=none∧G' b=none:=by
 obtain⟨bs,Dh,hva,hnd,Aoe⟩:=show Ac5 G σ w s t (val a w0 s)from h.Eb s cur _ hs;obtain⟨m,s',ubs,f1,f2,f3,f4,f5,f6⟩:=focus (here:=none) Dh hnd C3
 let G':Mem:=fun b=>if b∈ubs then w.heap[b]? else G b
 have Atb:∀b∈ubs,G b=none∧Fr b=none∧∃k,σ b=some (s,k):=fun b hb=>by
  obtain⟨k,hk⟩:=Aoe b (f4 b hb);obtain⟨k1,k2,k3⟩:=h.Fc.own b _ hk;exact⟨k1,k2,k,hk⟩
 have hG:G.le G':=fun b o hb=>by
  show(if b∈ubs then w.heap[b]? else G b)=some o
  rw[if_neg fun hm=>by rw[(Atb b hm).1]at hb;cases hb]
  exact hb
 have Bnx:∀b∈ubs,G' b=w.heap[b]?:=fun b hb=>if_pos hb
 have hI:D8 G' y s'.2:=Fe.Bx hG f2 hy Bnx;obtain⟨Hr,hag⟩:=Avb hy;obtain⟨Ak3,Auv⟩:=Lie.same f5;obtain⟨bs',r1,r2,r3,r4,r5⟩:=f6 G' w (.it y) s'.2 [] t' hG rfl hag (by simp only[Fe,and_true];exact hI) Ach (by simp) Ak3 Aof
 simp only at Auv r1 r5;rw[Auv]at r1 r5;refine⟨G',σ.Ax3 ubs,hG,?_,fun hh cs hsp=>?_,fun b h1 h2=>⟨?_,?_⟩⟩
 ·obtain⟨hpd,hbd⟩:=Focus.refs (G:=G) (inv:=inv) (cur:=cur) r5;rw[hul]at hpd hbd;have H2:WOk G' (σ.Ax3 ubs) Fr w0 w:=by
   refine⟨fun b o hb=>?_,fun b Gf hb=>?_,h.Fc.Ax3.inj,h.Fc.frame,h.Fc.os,h.Fc.tape,h.Fc.output,h.Fc.size,fun b o hb=>?_,Amb.mono hG h.Fc.amb⟩
   ·by_cases hm:b∈ubs
    ·rwa [Bnx b hm]at hb
    ·exact h.Fc.fixed b o (by rwa [show G' b=G b from if_neg hm]at hb)
   ·obtain⟨h1,h2⟩:=Lab.Atv.1 hb;obtain⟨k1,k2,k3⟩:=h.Fc.own b Gf h2;exact⟨by rw[show G' b=G b from if_neg h1];exact k1,k2,k3⟩
   ·by_cases hm:b∈ubs
    ·rw[(Atb b hm).2.1]at hb;cases hb
    ·rw[show G' b=G b from if_neg hm];exact h.Fc.apart b o hb
  refine h.tree H2 hG hs (Ej _) ?_ (fun e=>by omega) ?_ hpd hbd
  ·intro s1 hs1 x k hx;refine⟨Lab.Atv.2 ⟨fun hm=>?_,hx⟩,rfl⟩
   obtain⟨_,_,k',hk'⟩:=Atb x hm;rw[hx]at hk';cases hk';exact hs1 rfl
  ·refine⟨bs',r1,?_,r2,fun x hx=>?_⟩
   ·rw[r4];split
    ·rename_i hp;subst hp;simp only[D.at,A0]at C3;subst C3;rw[show(D.it y).isAgg=t.isAgg from hag];exact hva
    ·exact hva
   ·rcases(r3 x).1 hx with⟨h1,h2⟩|h1
    ·obtain⟨k,hk⟩:=Aoe x h1;exact⟨k,Lab.Atv.2 ⟨h2,hk⟩⟩
    ·cases h1
 ·rw[f1]at hsp;obtain rfl:=Aag hsp;exact hI
 ·unfold Lab.Ax3;split
  ·rfl
  ·exact h1
 ·show(if b∈ubs then w.heap[b]? else G b)=none
  rw[if_neg]
  ·exact h2
  ·intro hm;obtain⟨_,_,k,hk⟩:=Atb b hm;rw[h1]at hk;cases hk
theorem Rel.Bmw{n ver:Nat}{inv:Inv}{t:D}{y:I}(h:Rel G σ Fr w0 st a w)(hs:st[n]?=some (ver,.own inv t))(hul:t.leaf=false)(hy:t.Bx=some y):
 ∃G' σ',G.le G'∧Rel G' σ' Fr w0 (st.set n (ver+2,.v y)) a w∧C7 G' y (val a w0 n)∧∀b,σ b=none→G b=none→σ' b=none∧G' b=none:=by
 obtain⟨G',σ',hG,r1,r2,r3⟩:=h.A6c hs (p:=[]) rfl hul hy rfl;have Ze:n<st.length:=(A7.1 hs).1;have Akd:Ac5 G σ w n t (val a w0 n):=h.Eb n ver _ hs;have hI:=r2 none _ rfl;have hv:C7 G' y (val a w0 n):=by
  obtain⟨bs,h1,h2,_⟩:=Akd;rw[←(Avb hy).2]at h2;unfold C7;cases hag:y.isAgg with
  |true=>
   rw[hag]at h2;obtain⟨a',ha'⟩:=Nr h2;rw[ha']at hI;rw[if_pos rfl];exact⟨a',ha',hI⟩
  |false=>
   rw[hag]at h2;rw[J9 h2]at hI;rw[if_neg (by simp)]
   exact hI
 refine⟨G',σ',hG,?_,hv,r3⟩;have:=Rel.self (new:=.v y) (ver:=ver+2) (d:=n) r1 r1.Fc (Mem.le.refl G') (old:=(ver+1,_)) (by simp[Ze];rfl) (by simp only;omega) (fun s' _ b k hb=>⟨hb,rfl⟩) hv
 rwa [Ame]at this
end

def rdP(x:D6)(k:(s k ver off:Nat)→List Nat→M)(kr:I→M):M:=match x with
 | .t n=>.get n fun ver sv=>match sv with
   | .box _=>k n 0 ver 0 []
   | .pt s kk v off r=>k s kk v off r
   | .rp y=>kr y
   | .par h=>.get h fun Gu sv'=>match sv' with
     | .box _=>k h 0 Gu 0 []
     |_=>.fail
   |_=>.fail
 |_=>.fail
def Asu(P:Program)(t:TypeId)(agg:Bool)(sz:Nat):Bool:=
 (match P.underlying t with
   |some (.struct _)|some (.array _ _)=>agg
   |some _=> !agg
   |none=>false)&&
 (match P.info? t with
   |some i=>i.size==sz
   |none=>false)
section
variable{P:Program}{N:Nat}{G:Mem}{σ:Lab}{Fr:Mem}{w0:Base}{w:World}{st:St}{a:Act}
theorem U9{x:Operand}{y:D6}{k:(s k ver off:Nat)→List Nat→M}{kr:I→M}{Q:St→Prop}(h:Rel G σ Fr w0 st a w)(ho:Jj w0.n x y=true)(hq:(rdP y k kr).wp P Q st):
 (∃s kk ver off r cur,(k s kk ver off r).wp P Q st∧st[s]?=some cur∧(ver=cur.1→∃b,σ b=some (s,kk)∧a.eval x= .pointer (some ⟨b,off,none⟩)))∨
 (∃u,(kr u).wp P Q st∧Azz G u (a.eval x)):=by
 cases y with
 |t n=>
  obtain⟨rfl,Agv⟩:=J0 ho;simp only[rdP,M.wp]at hq;cases hs:st[n]? with
  |none=>simp[hs]at hq
  |some cur=>
   obtain⟨ver,sv⟩:=cur;simp only[hs]at hq;have Dh:=h.slot Agv hs;cases sv with
   |box t=>
    obtain⟨b,cells,ty,h1,h2,_⟩:=Dh;exact .inl ⟨n,0,ver,0,[],_,hq,hs,fun _=>⟨b,h2,h1⟩⟩
   |pt s kk v off r=>
    obtain⟨cur,h1,h2,h3⟩:=Dh;exact .inl ⟨s,kk,v,off,r,cur,hq,h1,h3⟩
   |rp u=>exact .inr ⟨u,hq,Dh⟩
   |par hh=>
    obtain⟨hv,_⟩:=h.As8 n ver hh hs;rw[J2 (by rw[h.n];exact Agv)]at hv
    simp only[M.wp]at hq;cases hs2:st[hh]? with
    |none=>simp[hs2]at hq
    |some A4j=>
     obtain⟨Bfm,sv2⟩:=A4j;simp only[hs2]at hq;cases sv2 with
     |box t=>
      obtain⟨b,cells,ty,h1,h2,_⟩:=(show Ab1 G σ w hh (.box t) (val a w0 hh)from h.Eb hh Bfm _ hs2);exact .inl ⟨hh,0,Bfm,0,[],_,hq,hs2,fun _=>⟨b,h2,by rw[hv];exact h1⟩⟩
     |_=>exact hq.elim
   |_=>exact hq.elim
 |_=>exact hq.elim
theorem Q6{t:TypeId}{agg:Bool}{sz:Nat}(h:Asu P t agg sz=true)(w:World):(isAgg t).run P w= .ok agg w∧(sizeOf t).run P w= .ok sz w:=by
 unfold Asu at h;simp only[Ap]at h;obtain⟨h1,h2⟩:=h;constructor
 ·cases hu:P.underlying t with
  |none=>simp[hu]at h1
  |some d=>
   unfold isAgg;rw[Sem.run_bind,run_underlying hu w];cases d<;>simp_all
 ·cases hi:P.info? t with
  |none=>simp[hi]at h2
  |some i=>
   simp only[hi,beq_iff_eq]at h2;simp[sizeOf,typeInfo,hi,h2]
theorem add_lit(b o j:Nat):(⟨b,o,none⟩:Addr).add j=⟨b,o+j,none⟩:=by unfold Addr.add;split<;>simp_all
theorem Kd{t:TypeId}{agg:Bool}{b off:Nat}{bl:Array Value}{ty:TypeId}{fz:Nat × Nat}{pre cs post:List Value}(h:Asu P t agg cs.length=true)
 (hh:w.heap[b]?=some (.cells bl ty fz)) (hs:bl.toList=pre++cs++post) (hp:pre.length=off):
 (agg=true→(loadVar t ⟨b,off,none⟩).run P w= .ok (.agg cs.toArray) w)∧(∀c,agg=false→cs=[c]→(loadVar t ⟨b,off,none⟩).run P w= .ok c w):=by
 obtain⟨h1,h2⟩:=Q6 h w;have Auv:∀j v,cs[j]?=some v→w.cell? ((⟨b,off,none⟩:Addr).add j)=some v:=by
  intro j v hv;rw[add_lit,cell_of_row w b (off+j) bl ty fz hh];have:bl[off+j]?=bl.toList[off+j]?:=by simp
  rw[this,hs,Df,G4 (by omega), ←hp,Nat.add_sub_cancel_left,Fi (by exact(A7.1 hv).1)]
  exact hv
 constructor
 ·rintro rfl;have hl:=run_loadCells_list (P:=P) w ⟨b,off,none⟩ cs Auv;simp[loadVar,Sem.run_bind,h1,h2,hl]
 ·rintro c rfl rfl;have hc:=Auv 0 c rfl;rw[add_lit,Amf]at hc;simp[loadVar,Sem.run_bind,h1,run_load,hc]
theorem Nk{t:TypeId}{u:I}{b off:Nat}{bl:Array Value}{ty:TypeId}{fz:Nat × Nat}{pre cs post:List Value}(h:Asu P t u.isAgg u.size=true)
 (hh:w.heap[b]?=some (.cells bl ty fz)) (hs:bl.toList=pre++cs++post) (hp:pre.length=off) (hr:D8 G u cs):
 ∃v,(loadVar t ⟨b,off,none⟩).run P w= .ok v w∧C7 G u v:=by
 have hl:=D8.length u cs hr;obtain⟨h1,h2⟩:=Kd (P:=P) (w:=w) (cs:=cs) (by rw[hl];exact h) hh hs hp
 cases hu:u.isAgg with
 |true=>exact⟨_,h1 hu,by unfold C7;rw[if_pos hu];exact⟨_,rfl,by simpa using hr⟩⟩
 |false=>
  have A0o:u.size=1:=by cases u<;>simp_all [I.isAgg,I.size]
  rw[A0o]at hl
  match cs,hl with
  | [c],_=>exact⟨c,h2 c hu rfl,by unfold C7;rw[if_neg (by simp[hu])];exact hr⟩
def Abp(d:Option Nat)(agg:Bool)(sz:Nat)(x:D6):M:=rdP x
 (fun s k ver off r=>.get s fun cur sv=>.Hh (ver=cur) fun _=>match sv.hit k r with
   |some (Axx,.item u)=>.Hh (Axx=off∧u.isAgg=agg∧u.size=sz) fun _=>Gj d (.v u) .done
   |some (Axx,.vec k')=>.Hh (Axx=off∧agg=false∧sz=1∧d≠some s) fun _=>Gj d (.bor s k' ver) .done
   |none=>.fail)
 (fun y=>.Hh (y.isAgg=agg∧y.size=sz) fun _=>Gj d (.v y) .done)
theorem Ahr{s k off b k':Nat}{sv:SV}{r:List Nat}{c:Value}(H2:WOk G σ Fr w0 w)(ho:Ab1 G σ w s sv c)(hh:sv.hit k r=some (off,.vec k'))(hb:σ b=some (s,k)):
 ∃bl ty pre v post e sz l,w.heap[b]?=some (.cells bl ty (0,0))∧bl.toList=pre++[v]++post∧pre.length=off∧sv.Aka k'=some (e,sz,l)∧Aiu G σ w (s,k') e sz l v:=by
 have nov:∀{o:Nat} {q:Option (Nat × I)},A4u o q=some (off,.vec k')→False:=by
  intro o q h;obtain⟨_,_,_,_,h⟩:=Pg h;cases h
 have Bpg:∀{sz:Nat} {l:List I} {r:List Nat},A8b sz l r=some (off,.vec k')→False:=by
  intro sz l r h;cases r with
  |nil=>cases h
  |cons i r=>
   simp only[A8b]at h;split at h
   ·exact nov h
   ·cases h
 cases k with
 |zero=>
  simp only[SV.hit]at hh;cases sv with
  |vec e sz l=>exact(Bpg hh).elim
  |box t=>
   obtain⟨b',cells,ty,h1,h2,h3,h4⟩:=ho;obtain rfl:=H2.inj b b' _ hb h2;cases t with
   |one f=>
    cases f with
    |i x=>exact(nov hh).elim
    |vec e sz l=>
     cases r with
     |nil=>
      cases hh;obtain⟨v,hv,h4⟩:=h4;exact⟨cells,ty,[],v,[],e,sz,l,h3,by simp[hv],rfl,rfl,h4⟩
     |cons _ _=>cases hh
   |st fs=>
    cases r with
    |nil=>simp only at hh;split at hh<;>cases hh
    |cons j r=>
     simp only at hh;split at hh
     ·exact(nov hh).elim
     ·rename_i e sz l hy;split at hh
      ·cases hh;obtain⟨c1,cc,c2,e1,e2,e3,_⟩:=Amt.nth h4 hy;rw[E3]at e3;obtain⟨v,rfl,e3⟩:=e3;exact⟨cells,ty,c1,v,c2,e,sz,l,h3,e1,e2,by simp[SV.Aka,hy],e3⟩
      ·cases hh
     ·cases hh
  |_=>cases hh
 |succ j=>
  simp only[SV.hit]at hh;split at hh
  ·exact(Bpg hh).elim
  ·cases hh
theorem Ad6{o:Oper}{t:TypeId}{x:Operand}{x':D6}{agg:Bool}{sz:Nat}(ho:o.op= .load t x)(hx:Jj N x x'=true)(ht:Asu P t agg sz=true):Sound P N o (Abp o.dst agg sz x'):=by
 intro G σ Fr w0 st a w Q next E hN hr hw hn C2
 subst hN;have run:∀{b off:Nat} {v:Value},a.eval x= .pointer (some ⟨b,off,none⟩)→(loadVar t ⟨b,off,none⟩).run P w= .ok v w→(execOp a.eval o).run P w= .ok (.value v) w:=by
  intro b off v hp hl;simp[execOp,ho,hp,Instr.loadAt,Instr.sureAddr,hl]
 rcases U9 hr hx hw with⟨s,k,ver,off,r,cur,h1,hs,hp⟩|⟨u,h1,hp⟩
 ·simp only[M.wp,hs]at h1;obtain⟨hv,h1⟩:=h1;obtain⟨b,hb,hp⟩:=hp hv;split at h1
  ·rename_i Axx u hh;obtain⟨⟨rfl,rfl,rfl⟩,h1⟩:=h1;have Asb:cur.2.root=none:=by
    generalize cur.2=sv at hh;cases sv<;>first|rfl|(cases k<;>simp[SV.hit,SV.Aka]at hh)
   have Dh:=hr.Eb s cur.1 cur.2 hs;rw[Ait.own Asb]at Dh;obtain⟨bl,ty,fz,pre,cs,post,g1,_,g2,g3,g4,_⟩:=Qv hr.Fc Dh hh hb;obtain⟨v,hl,hv⟩:=Nk (P:=P) ht g1 g2 g3 g4;exact J1 hr hn C2 hv h1 (run hp hl)
  ·rename_i Axx k' hh;obtain⟨⟨rfl,rfl,rfl,Cf⟩,h1⟩:=h1;have Asb:cur.2.root=none:=by
    generalize cur.2=sv at hh;cases sv<;>first|rfl|(cases k<;>simp[SV.hit,SV.Aka]at hh)
   have Dh:=hr.Eb s cur.1 cur.2 hs;rw[Ait.own Asb]at Dh;obtain⟨bl,ty,pre,v,post,e,sz,l,g1,g2,g3,g4,g5⟩:=Ahr hr.Fc Dh hh hb;have hl:=(Kd (P:=P) (cs:=[v]) ht g1 g2 g3).2 v rfl rfl;obtain⟨σ',st',r1,r2⟩:=hr.Gj C2 (sv:=.bor s k' ver) (c:=v) (fun d' hd Gu _=>by
    refine⟨cur,?_,by omega,fun _=>⟨e,sz,l,g4,?_⟩⟩
    ·rw[B3 (by rintro rfl;exact Cf hd)];exact hs
    ·exact g5.tr (Mem.le.refl G) fun b hb=>⟨Lab.Ade.2 ⟨by rintro rfl;exact Cf hd,hb⟩,rfl⟩) h1
   exact Jt (run hp hl) (hn G σ' st' _ w (Mem.le.refl G) r1 r2)
  ·exact h1.elim
 ·obtain⟨⟨rfl,rfl⟩,h1⟩:=h1;obtain⟨b,off,bl,ty,fz,pre,cs,post,p1,p2,p3,p4,p5⟩:=hp;obtain⟨v,hl,hv⟩:=Nk (P:=P) ht (hr.Fc.fixed _ _ p2) p3 p4 p5;exact J1 hr hn C2 hv h1 (run p1 hl)
def Lw(x:D6)(k:I→M):M:=match x with
 | .c x=>k x
 | .Ahc _ _=>k (.list [])
 | .t n=>.get n fun ver sv=>match sv with
   | .v x=>k x
   | .vec _ _ l=>.set n (ver+1) (.v (.list l)) (k (.list l))
   | .bor s kk v=>.get s fun cur sv'=>.Hh (v=cur) fun _=>match sv'.Aka kk with
     |some (_,_,l)=>.set s (cur+1) (sv'.A08 kk) (k (.list l))
     |none=>.fail
   | .sub s kk v m=>.get s fun cur sv'=>.Hh (v=cur) fun _=>match sv'.Aka kk with
     |some (_,_,l)=>.set s (cur+1) (sv'.A08 kk) (k (.list (l.take m)))
     |none=>.fail
   | .own _ t=>match t.Bx with
     |some y=>.Hh (t.leaf=false) fun _=>.set n (ver+2) (.v y) (k y)
     |none=>.fail
   | .bd s v p=>.get s fun cur sv'=>match sv' with
     | .own inv t=>.Hh (J7 v inv p=true) fun _=>match D.at p t with
       |some u=>match u.Bx with
        |some y=>match D.put p t (.it y)with
         |some t'=>.set s (cur+1) (.own (bump inv p (cur+1)) t') (k y)
         |none=>.fail
        |none=>.fail
       |none=>.fail
     |_=>.fail
   |_=>.fail
theorem Wg{x:Operand}{y:D6}{k:I→M}{Q:St→Prop}(h:Rel G σ Fr w0 st a w)(ho:Jj w0.n x y=true)(hq:(Lw y k).wp P Q st):
 ∃i G' σ' st',G.le G'∧Rel G' σ' Fr w0 st' a w∧(k i).wp P Q st'∧C7 G' i (a.eval x)∧∀b,σ b=none→G b=none→σ' b=none∧G' b=none:=by
 cases y with
 |c i=>exact⟨i,G,σ,st,Mem.le.refl G,h,hq,Nn ho G,fun _ h1 h2=>⟨h1,h2⟩⟩
 |Ahc e sz=>
  refine⟨_,G,σ,st,Mem.le.refl G,h,hq,?_,fun _ h1 h2=>⟨h1,h2⟩⟩
  rw[Le ho];unfold C7;rw[if_neg (by simp[I.isAgg])]
  exact⟨none,0,rfl,Bz _,by simp[maxLen],.inl rfl⟩
 |t n=>
  obtain⟨rfl,Agv⟩:=J0 ho;simp only[Lw,M.wp]at hq;cases hs:st[n]? with
  |none=>simp[hs]at hq
  |some cur=>
   obtain⟨ver,sv⟩:=cur;simp only[hs]at hq;have Dh:=h.slot Agv hs;cases sv with
   |v y=>exact⟨y,G,σ,st,Mem.le.refl G,h,hq,Dh,fun _ h1 h2=>⟨h1,h2⟩⟩
   |vec e sz l=>
    obtain⟨G',σ',h1,h2,h3,h9⟩:=h.freeze (k:=0) hs rfl (Ej ver);exact⟨_,G',σ',_,h1,h2,hq,h3 l _ Dh,h9⟩
   |bor s kk v=>
    obtain⟨cur,h1,h2,h3⟩:=Dh;simp only[M.wp,h1]at hq;obtain⟨hv,hq⟩:=hq;obtain⟨e,sz,l,h4,h5⟩:=h3 hv;simp only[h4,M.wp]at hq;obtain⟨G',σ',g1,g2,g3,g9⟩:=h.freeze (k:=kk) h1 h4 (Ej cur.1);exact⟨_,G',σ',_,g1,g2,hq,g3 l _ h5,g9⟩
   |sub s kk v m=>
    obtain⟨cur,h1,h2,h3⟩:=Dh;simp only[M.wp,h1]at hq;obtain⟨hv,hq⟩:=hq;obtain⟨e,sz,l,h4,h5⟩:=h3 hv;simp only[h4,M.wp]at hq;obtain⟨G',σ',g1,g2,g3,g9⟩:=h.freeze (k:=kk) h1 h4 (Ej cur.1);exact⟨_,G',σ',_,g1,g2,hq,g3 _ _ h5,g9⟩
   |own inv t=>
    simp only at hq;split at hq
    ·rename_i y hy;obtain⟨hul,hq⟩:=hq;obtain⟨G',σ',h1,h2,h3,h9⟩:=h.Bmw hs hul hy;rw[J2 (by rw[h.n];exact Agv)]at h3
     exact⟨_,G',σ',_,h1,h2,hq,h3,h9⟩
    ·exact hq.elim
   |bd s v p=>
    obtain⟨cur,h1,h2,h3⟩:=Dh;simp only[M.wp,h1]at hq;obtain⟨cv,csv⟩:=cur;cases csv with
    |own inv t=>
     obtain⟨ha,hq⟩:=hq;split at hq
     ·rename_i u C3;split at hq
      ·rename_i y hy;split at hq
       ·rename_i t' Aof;obtain⟨u1,hh,e1,e0,e2⟩:=h3 inv t rfl ha;rw[C3]at e1;obtain rfl:=Aag e1;have hul:u.leaf=false:=by cases u<;>first|rfl|cases e0
        obtain⟨G',σ',g1,g2,g3,g9⟩:=h.A6c h1 C3 hul hy Aof;refine⟨_,G',σ',_,g1,g2,hq,?_,g9⟩;have hag:y.isAgg=false:=by
         rw[(Avb hy).2];cases u<;>first|rfl|cases e0
        unfold C7;rw[if_neg (by rw[hag];simp)]
        exact g3 _ _ e2
       ·exact hq.elim
      ·exact hq.elim
     ·exact hq.elim
    |_=>exact hq.elim
   |_=>exact hq.elim
theorem L6{x:Operand}{y:D6}{k:I→M}{Q:St→Prop}(h:Rel G σ Fr w0 st a w)(ho:Jj w0.n x y=true)(hq:(Lw y k).wp P Q st):
 ∃i G' σ' st',G.le G'∧Rel G' σ' Fr w0 st' a w∧(k i).wp P Q st'∧C7 G' i (a.eval x):=by
 obtain⟨i,G',σ',st',h1,h2,h3,h4,_⟩:=Wg h ho hq;exact⟨i,G',σ',st',h1,h2,h3,h4⟩
end

theorem Ahh(inv:Inv)(d:D)(k:Nat)(r:List Nat):(SV.own inv d).hit k r=none:=by cases k<;>simp[SV.hit,SV.Aka]
theorem Ahk(h k:Nat)(r:List Nat):(SV.par h).hit k r=none:=by cases k<;>simp[SV.hit,Tr]
def T9(s k ver off:Nat)(r:List Nat)(sz:Nat)(u:I):M:=.get s fun cur sv=>.Hh (ver=cur) fun _=>match sv.hit k r with
 |some (Axx,.item u0)=>.Hh (Axx=off∧u.size=u0.size∧u.size=sz) fun _=>match k,sv with
  |0,.box _=>.set s cur (sv.putAt 0 r u) .done
  |k,sv=>.set s (cur+1) (sv.putAt k r u) .done
 |some (Axx,.vec _)=>match k,sv,r with
  |0,.box (.st fs),[j]=>.Hh (Axx=off∧u.size=1∧sz=1) fun _=>.set s (cur+1) (.box (.st (fs.set j (.i u)))) .done
  |_,_,_=>.fail
 |none=>.fail
def Zq(sz:Nat)(ax vx:D6):M:=Lw vx fun u=>rdP ax (fun s k ver off r=>T9 s k ver off r sz u) (fun _=>.fail)
section
variable{P:Program}{N:Nat}{G:Mem}{σ:Lab}{Fr:Mem}{w0:Base}{w:World}{st:St}{a:Act}
theorem WOk.setRow(h:WOk G σ Fr w0 w){b:Nat}{Gf:Nat × Nat}(hb:σ b=some Gf)(row:Array Value):WOk G σ Fr w0 (w.setRow b row):=by
 obtain⟨h1,h2,h3⟩:=h.own b Gf hb;refine⟨?_,?_,h.inj,?_,h.os,h.tape,h.output,?_,h.apart,h.amb⟩
 ·intro b' o Sy;rw[setRow_other w b b' row (by rintro rfl;rw[h1]at Sy;cases Sy)]
  exact h.fixed b' o Sy
 ·intro b' Avk Sy;obtain⟨k1,k2,k3⟩:=h.own b' Avk Sy;exact⟨k1,k2,by simpa[World.setRow]using k3⟩
 ·intro b' o Sy;rw[setRow_other w b b' row (by rintro rfl;rw[h2]at Sy;cases Sy)]
  exact h.frame b' o Sy
 ·simpa[World.setRow]using h.size
theorem N5(P:Program)(g o:Nat)(t:TypeId)(fz:Nat × Nat):∀(vs:List Value) (i:Nat) (cur:Array Value) (w:World),w.heap[g]?=some (.cells cur t fz)→cur.size≤fz.1→o+i+vs.length≤cur.size→(∀v∈vs,v.oneCell'=true)→
 (storeCells ⟨g,o,none⟩ vs i).run P w= .ok () (w.setRow g (cur.toList.take (o+i)++vs++cur.toList.drop (o+i+vs.length)).toArray)
 | [],i,cur,w,hg,_,_,_=>by
   simp only[storeCells,R2,Ak7,Amf,Fj,Array.toArray_toList];rw[setRow_self w g cur t fz hg];rfl
 |v::rest,i,cur,w,hg,hf,hl,h1=>by
  have hi:o+i<cur.size:=by simp at hl;omega
  have A79:(⟨g,o,none⟩:Addr).add i=⟨g,o+i,none⟩:=by unfold Addr.add;split<;>simp_all
  have Auv:w.cell? ⟨g,o+i,none⟩=some cur[o+i]:=by simp[World.cell?,hg,hi]
  have Btr:w.frozen? ⟨g,o+i,none⟩=false:=by
   simp[World.frozen?,hg];omega
  have hst:(store ((⟨g,o,none⟩:Addr).add i) v).run P w= .ok () (w.setRow g (cur.setIfInBounds (o+i) v)):=by
   rw[A79,run_store P w _ v _ (h1 v (by simp)),Auv]
   simp[Btr,setCell_eq_setRow w g (o+i) cur t fz v hg]
  have ih:=N5 P g o t fz rest (i+1) (cur.setIfInBounds (o+i) v) (w.setRow g (cur.setIfInBounds (o+i) v)) (setRow_heap w g cur _ t _ hg) (by simpa using hf) (by simp at hl ⊢;omega) (fun x hx=>h1 x (by simp[hx]))
  simp only[storeCells,Sem.run_bind,hst,Result.andThen_ok,ih,setRow_setRow]
  congr 3
  have e:=list_seg_step cur.toList (o+i) v rest (by simp at hl ⊢;omega)
  simpa[Array.toList_setIfInBounds,Nat.add_assoc]using e
theorem Pk(P:Program)(g o:Nat)(t:TypeId)(fz:Nat × Nat)(vs:List Value)(i:Nat)(cur:Array Value)(w:World)(hg:w.heap[g]?=some (.cells cur t fz))(hf:fz=(0,0)∨cur.size≤fz.1)(hl:o+i+vs.length≤cur.size)(h1:∀v∈vs,v.oneCell'=true):
 (storeCells ⟨g,o,none⟩ vs i).run P w= .ok () (w.setRow g (cur.toList.take (o+i)++vs++cur.toList.drop (o+i+vs.length)).toArray):=by
 rcases hf with rfl|hf
 ·exact run_storeCells_at P g o t vs i cur w hg hl h1
 ·exact N5 P g o t fz vs i cur w hg hf hl h1
theorem Rb{fz:Nat × Nat}{t:TypeId}{agg:Bool}{b off:Nat}{bl:Array Value}{ty:TypeId}{pre cs post:List Value}{v:Value}{u:I}(h:Asu P t agg cs.length=true)
 (hh:w.heap[b]?=some (.cells bl ty fz)) (hfz:fz=(0,0)∨bl.size≤fz.1) (hs:bl.toList=pre++cs++post) (hp:pre.length=off) (hv:C7 G u v) (hu:u.size=cs.length):
 (storeVar t ⟨b,off,none⟩ v).run P w= .ok () (w.setRow b (pre++v.cells.toList++post).toArray):=by
 obtain⟨_,h2⟩:=Q6 h w;have hc:=hv.cells;have hl:=D8.length _ _ hc;have hlen:v.cells.toList.length=cs.length:=by rw[hl,hu]
 have Beb:bl.size=pre.length+cs.length+post.length:=by
  have:bl.size=bl.toList.length:=by simp
  rw[this,hs];simp;omega
 have hst:=Pk P b off ty fz v.cells.toList 0 bl w hh hfz (by rw[hlen,Beb,hp];omega) (D8.one _ _ hc)
 have e1:bl.toList.take (off+0)=pre:=by rw[hs,Df,Amf, ←hp,Amq]
 have e2:bl.toList.drop (off+0+v.cells.toList.length)=post:=by
  rw[hs,hlen,Amf, ←hp, ←Hq,Aog]
 rw[e1,e2]at hst;have Hr:v.cells.size=cs.length:=by rw[←hlen];simp
 simp[storeVar,h2,Hr,hst]
theorem Kept.setRow{b:Nat}{Gf:Nat × Nat}{s':Nat}(hb:σ b=some Gf)(hs:s'≠Gf.1)(row:Array Value):Kept σ σ w (w.setRow b row) s':=by
 intro b' k Sy;refine⟨Sy,setRow_other w b b' row ?_⟩;rintro rfl;rw[hb]at Sy;cases Sy;exact hs rfl
theorem Z8{t:T}{r:List Nat}{u:I}{off:Nat}{u0:I}(h:(SV.box t).hit 0 r=some (off,.item u0))(k:Nat):((SV.box t).putAt 0 r u).Aka k=(SV.box t).Aka k:=by
 cases t with
 |one f=>
  cases f with
  |i x=>cases k<;>simp[SV.putAt,SV.Aka]
  |vec e sz l=>cases r<;>simp[SV.hit]at h
 |st fs=>
  cases r with
  |nil=>
   simp only[SV.hit]at h;split at h
   ·rename_i l hl;have:∀(fs:List F) (l:List I) (j:Nat) (e:TypeId) (sz:Nat) (m:List I),allI fs=some l→fs[j]?≠some (.vec e sz m):=by
     intro fs;induction fs with
     |nil=>intro l j e sz m _ h;simp at h
     |cons f fs ih=>
      intro l j e sz m hl h;cases f with
      |vec _ _ _=>simp[allI]at hl
      |i x=>
       simp only[allI]at hl;split at hl
       ·rename_i l' hl';cases j with
        |zero=>simp at h
        |succ j=>exact ih l' j e sz m hl' (by simpa using h)
       ·cases hl
    cases k with
    |zero=>simp[SV.putAt,SV.Aka]
    |succ j=>
     simp only[SV.putAt,SV.Aka];cases hf:fs[j]? with
     |none=>rfl
     |some f=>
      cases f with
      |i x=>rfl
      |vec e sz m=>exact absurd hf (this fs l j e sz m hl)
   ·cases h
  |cons j r=>
   simp only[SV.hit]at h;split at h
   ·rename_i y hy;simp only[SV.putAt,hy];cases k with
    |zero=>simp[SV.Aka]
    |succ i=>
     simp only[SV.Aka];by_cases hij:i=j
     ·subst hij;have:i<fs.length:=(A7.1 hy).1;rw[hy,Aiq this]
     ·rw[B3 (Ne.symm hij)]
   ·split at h<;>cases h
   ·cases h
theorem Yz{s k ver off:Nat}{r:List Nat}{sz:Nat}{u:I}{v:Value}{t:TypeId}{agg:Bool}{b:Nat}{cur:Nat × SV}{Q:St→Prop}(h:Rel G σ Fr w0 st a w)(hs:st[s]?=some cur)
 (hp:ver=cur.1→σ b=some (s,k)) (ht:Asu P t agg sz=true) (hv:C7 G u v) (hq:(T9 s k ver off r sz u).wp P Q st):
 ver=cur.1∧∃w' σ' st',(storeVar t ⟨b,off,none⟩ v).run P w= .ok () w'∧Rel G σ' Fr w0 st' a w'∧Q st':=by
 simp only[T9,M.wp,hs]at hq;obtain⟨At9,hq⟩:=hq;refine⟨At9,?_⟩;have hb:=hp At9;obtain⟨cv,sv⟩:=cur;simp only at hq At9;split at hq
 ·rename_i Axx u0 hh;obtain⟨⟨rfl,Hr,rfl⟩,hq⟩:=hq;have Asb:sv.root=none:=by
   cases sv<;>first|rfl|(cases k<;>simp[SV.hit,SV.Aka]at hh)
  have Dh:=h.Eb s cv sv hs;rw[Ait.own Asb]at Dh;obtain⟨bl,ty,fz,pre,cs,post,g1,g1',g2,g3,g4,g5⟩:=Qv h.Fc Dh hh hb;clear g5;have hl:=D8.length _ _ g4;have Aih:=Rb (P:=P) (cs:=cs) (agg:=agg) (by rw[hl, ←Hr];exact ht) g1 g1' g2 g3 hv (by rw[hl];exact Hr)
  refine⟨w.setRow b (pre++v.cells.toList++post).toArray,?_⟩;split at hq
  ·rename_i t';refine⟨σ,_,Aih,?_,hq⟩;refine h.But (h.Fc.setRow hb _) hs (fun s' hs'=>Kept.setRow hb hs' _) rfl ?_ ?_ ?_ ?_ ?_
   ·have:∃t'',(SV.box t').putAt 0 r u= .box t'':=by
     unfold SV.putAt;repeat' split
     all_goals first|exact⟨_,rfl⟩|simp_all
    obtain⟨t'',e⟩:=this;rw[e];rfl
   ·intro h e;unfold SV.putAt at e;repeat' split at e
    all_goals first|cases e|simp_all
   ·intro inv t e;unfold SV.putAt at e;repeat' split at e
    all_goals first|cases e|simp_all
   ·intro c hc;obtain⟨bl',ty',fz',Bb4,cs',A1i,k1,_,k2,k3,k4,k5⟩:=Qv h.Fc hc hh hb;rw[g1]at k1;cases k1;have Aw5:Bb4=pre∧cs'++A1i=cs++post:=by
     have:Bb4++(cs'++A1i)=pre++(cs++post):=by rw[←Df, ←k2,g2,Df]
     exact List.append_inj this (by rw[k3,g3])
    have A7h:A1i=post:=(List.append_inj Aw5.2 (by rw[D8.length _ _ k4,D8.length _ _ g4])).2
    have:=k5 u _ Hr hv.cells;rwa [Aw5.1,A7h]at this
   ·intro k' e sz' l c Bit;refine⟨l,by rw[Z8 hh];exact Bit,?_,?_⟩
    all_goals
     have hk:∀b',σ b'=some (s,k')→σ b'=some (s,k')∧(w.setRow b (pre++v.cells.toList++post).toArray).heap[b']?=w.heap[b']?:=fun b' Sy=>
      ⟨Sy,setRow_other w b b' _ (by
        rintro rfl;rw[hb]at Sy;cases Sy;cases t' with
        |one f=>cases f<;>simp[SV.Aka]at Bit
        |st fs=>simp[SV.Aka]at Bit)⟩
    ·exact fun hc=>hc.tr (Mem.le.refl G) hk
    ·exact fun n hc=>hc.tr (Mem.le.refl G) hk
  ·refine⟨σ,_,Aih,?_,hq⟩;refine Rel.self (new:=sv.putAt k r u) (ver:=cv+1) h (h.Fc.setRow hb _) (Mem.le.refl G) hs (Ej _) (fun s' hs'=>Kept.setRow hb hs' _) (w':=w.setRow b (pre++v.cells.toList++post).toArray) ?_ (by
    intro h e;unfold SV.putAt at e;repeat' split at e
    all_goals first|(subst e;rw[Ahk]at hh;cases hh)|cases e) (by
    intro inv t e;exfalso;unfold SV.putAt at e;repeat' split at e
    all_goals first|(subst e;rw[Ahh]at hh;cases hh)|cases e)
   ·obtain⟨bl',ty',fz',Bb4,cs',A1i,k1,_,k2,k3,k4,k5⟩:=Qv h.Fc Dh hh hb;rw[g1]at k1;cases k1;have Aw5:Bb4=pre∧cs'++A1i=cs++post:=by
     have:Bb4++(cs'++A1i)=pre++(cs++post):=by rw[←Df, ←k2,g2,Df]
     exact List.append_inj this (by rw[k3,g3])
    have A7h:A1i=post:=(List.append_inj Aw5.2 (by rw[D8.length _ _ k4,D8.length _ _ g4])).2
    have:=k5 u _ Hr hv.cells;rw[Aw5.1,A7h]at this;rw[Ait.own]
    ·exact this
    ·have:(sv.putAt k r u).root=none:=by
      unfold SV.putAt;repeat' split
      all_goals first|rfl|exact Asb
     exact this
 ·rename_i Axx k' hh;split at hq
  ·rename_i fs j;obtain⟨⟨rfl,hu,rfl⟩,hq⟩:=hq;have Dh:=h.Eb s cv _ hs;rw[Ait.own rfl]at Dh;obtain⟨b',cells,ty,h1,h2,h3,h4⟩:=Dh;obtain rfl:=h.Fc.inj b b' _ hb h2;simp only[SV.hit]at hh;split at hh
   ·obtain⟨_,_,_,_,hh⟩:=Pg hh;cases hh
   ·rename_i e sz l hy;cases hh;obtain⟨c1,cc,c2,e1,e2,e3,Akv⟩:=Amt.nth h4 hy;have hcc:cc.length=1:=by obtain⟨c',rfl,_⟩:=e3;rfl
    have Aih:=Rb (P:=P) (cs:=cc) (agg:=agg) (by rw[hcc];exact ht) h3 (.inl rfl) e1 e2 hv (by rw[hcc,hu])
    refine⟨_,σ,_,Aih,?_,hq⟩;refine Rel.self (new:=.box (.st (fs.set j (.i u)))) (ver:=cv+1) h (h.Fc.setRow hb _) (Mem.le.refl G) hs (Ej _) (fun s' hs'=>Kept.setRow hb hs' _) (w':=w.setRow b (c1++v.cells.toList++c2).toArray) ?_
    ·refine⟨b,_,ty,h1,h2,setRow_heap w b cells _ ty (0,0) h3,?_⟩;show Amt _ _ _ _ _ _ _;have:=Akv (.i u) v.cells.toList hv.cells;exact Amt.far (b:=b) this (fun k hk e=>by rw[h2]at e;cases e;omega) _
   ·cases hh
  ·exact hq.elim
 ·exact hq.elim
end
end Go.Ab
