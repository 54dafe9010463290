/- Lemmas -/
import Derived.Test.YtkpojedpcabojaaGreatDoorAb18b
import Derived.RangeFuncRecord
set_option linter.unusedVariables false
set_option linter.unusedSimpArgs false
namespace Go.Ab
def Lab.shift(σ:Lab)(N:Nat):Lab:=fun b=>(σ b).map fun p=>(p.1+N,p.2)
def Lab.Gr(σ:Lab)(N:Nat):Lab:=fun b=>match σ b with
 |some (s,k)=>if N≤s then some (s - N,k)else none
 |none=>none
def upR(k:Nat)(r:List (Nat × Nat)):List (Nat × Nat):=r.map fun e=>(e.1+k,e.2)
def geR(k:Nat)(r:List (Nat × Nat)):Bool:=r.all fun e=>Nat.ble k e.1
def A9r(k:Nat)(r:List (Nat × Nat)):List (Nat × Nat):=r.map fun e=>(e.1 - k,e.2)
def SV.up(k:Nat):SV→SV
 | .Km s j ver=>.Km (s+k) j ver
 | .sub s j ver n=>.sub (s+k) j ver n
 | .Q2 s j ver n=>.Q2 (s+k) j ver n
 | .pt s j ver off r=>.pt (s+k) j ver off r
 | .par h=>.par (h+k)
 | .pd s ver p=>.pd (s+k) ver p
 | .Lv s ver p b=>.Lv (s+k) ver p b
 | .bd s ver p=>.bd (s+k) ver p
 | .bs s ver p lo n=>.bs (s+k) ver p lo n
 | .cl f fs cs=>.cl f (upR k fs) (upR k cs)
 | .al s ver=>.al (s+k) ver
 | .bp s ver p=>.bp (s+k) ver p
 | .Qg _ _ _ _=>.no
 | .Px _ _ _ _ _=>.no
 |sv=>sv
def SV.down(k N:Nat):SV→SV
 | .Km s j ver=>if k≤s then .Km (s - k) j ver else .no
 | .sub s j ver n=>if k≤s then .sub (s - k) j ver n else .no
 | .Q2 s j ver n=>if k≤s then .Q2 (s - k) j ver n else .no
 | .pt s j ver off r=>if k≤s then .pt (s - k) j ver off r else .no
 | .par h=>if N+k≤h then .par (h - k)else .no
 | .pd s ver p=>if k≤s then .pd (s - k) ver p else .no
 | .Lv s ver p b=>if k≤s then .Lv (s - k) ver p b else .no
 | .bd s ver p=>if k≤s then .bd (s - k) ver p else .no
 | .bs s ver p lo n=>if k≤s then .bs (s - k) ver p lo n else .no
 | .cl f fs cs=>if geR k fs=true∧geR k cs=true then .cl f (A9r k fs) (A9r k cs)else .no
 | .al s ver=>if k≤s then .al (s - k) ver else .no
 | .bp s ver p=>if k≤s then .bp (s - k) ver p else .no
 | .Qg _ _ _ _=>.no
 | .Px _ _ _ _ _=>.no
 |sv=>sv
def Mo(k:Nat):St→St
 | []=>[]
 |(v,sv)::r=>(v,sv.up k)::Mo k r
def H8(k N:Nat):St→St
 | []=>[]
 |(v,sv)::r=>(v,sv.down k N)::H8 k N r
theorem Y2{k:Nat}:∀{st:St} {i:Nat},(Mo k st)[i]?=(st[i]?).map fun p=>(p.1,p.2.up k)
 | [],_=>by simp[Mo]
 |(v,sv)::r,0=>by simp[Mo]
 |(v,sv)::r,i+1=>by simp only[Mo,Bn];exact Y2
theorem Xt{k N:Nat}:∀{st:St} {i:Nat},(H8 k N st)[i]?=(st[i]?).map fun p=>(p.1,p.2.down k N)
 | [],_=>by simp[H8]
 |(v,sv)::r,0=>by simp[H8]
 |(v,sv)::r,i+1=>by simp only[H8,Bn];exact Xt
theorem Aqm{k:Nat}:∀{st:St},(Mo k st).length=st.length
 | []=>rfl
 |(v,sv)::r=>by simp[Mo,Aqm (st:=r)]
theorem Ako{k N:Nat}:∀{st:St},(H8 k N st).length=st.length
 | []=>rfl
 |(v,sv)::r=>by simp[H8,Ako (st:=r)]
theorem Ar8{k j:Nat}{sv:SV}:(sv.up k).Fu j=sv.Fu j:=by
 cases sv<;>first|rfl|(cases j<;>rfl)
theorem Ahz{k N j:Nat}{sv:SV}{p:TypeId × Nat × List I}(h:sv.Fu j=some p):(sv.down k N).Fu j=some p:=by
 cases sv<;>first|exact h|(cases j<;>cases h)
theorem Ahh{k:Nat}{sv:SV}{inv:Inv}{d:D}(h:sv.up k= .own inv d):sv= .own inv d:=by
 cases sv<;>first|exact h|cases h
theorem Ab2{k N:Nat}{sv:SV}{inv:Inv}{d:D}(h:sv.down k N= .own inv d):sv= .own inv d:=by
 cases sv<;>first|exact h|cases h|(simp only[SV.down]at h;split at h<;>cases h)
section
variable{P:Program}{G:Mem}{σ:Lab}{Fr:Mem}{w0:Base}{w:World}{st:St}{a:Act}
theorem Uj{N b s k:Nat}(h:σ.shift N b=some (s,k)):∃i,s=i+N∧σ b=some (i,k):=by
 unfold Lab.shift at h;cases hσ:σ b with
 |none=>simp[hσ]at h
 |some p=>
  obtain⟨i,k'⟩:=p;simp only[hσ,Bx,Af,B6]at h;exact⟨i,h.1.symm,by rw[h.2]⟩
theorem Y0{N b i k:Nat}(h:σ b=some (i,k)):σ.shift N b=some (i+N,k):=by
 unfold Lab.shift;rw[h];rfl
theorem Adg{N b s k:Nat}(h:σ.Gr N b=some (s,k)):σ b=some (s+N,k):=by
 unfold Lab.Gr at h;split at h
 ·rename_i s' k' h1;split at h
  ·simp only[Af,B6]at h;obtain⟨rfl,rfl⟩:=h;rw[h1,show s' - N+N=s' by omega]
  ·cases h
 ·cases h
theorem Aju{N b i k:Nat}(h:σ b=some (i+N,k)):σ.Gr N b=some (i,k):=by
 unfold Lab.Gr;simp[h]
theorem Fg.Ao7{σ':Lab}{l l':Nat × Nat}{e:TypeId}{sz:Nat}{xs:List I}{c:Value}(h:Fg G σ w l e sz xs c)(hs:∀b,σ b=some l→σ' b=some l'):Fg G σ' w l' e sz xs c:=by
 obtain⟨ys,h1,h2,h3,h4⟩:=h;exact⟨ys,h1,h2,h3,fun b hb=>hs b (h4 b hb)⟩
theorem Hu.up{pre st:St}{vv vv':Nat→Value}{k:Nat}(hl:pre.length=k)(hv:∀i,vv' (i+k)=vv i):
 ∀{r:List (Nat × Nat)} {cs:List Value},Hu st vv r cs→Hu (pre++Mo k st) vv' (upR k r) cs
 | [],[],_=>trivial
 |(h,v)::r,c::cs,⟨⟨cur,h1,h2,h3⟩,h4⟩=>
  ⟨⟨(cur.1,cur.2.up k),by rw[Cf (by omega),hl,F8,Y2,h1];rfl,h2,fun e=>by rw[hv];exact h3 e⟩,Hu.up hl hv h4⟩
 | [],_::_,h=>h.elim
 |_::_,[],h=>by cases h
theorem Hu.down{st':St}{vv vv':Nat→Value}{k N:Nat}(hv:∀i,vv' (i+k)=vv i):
 ∀{r:List (Nat × Nat)} {cs:List Value},geR k r=true→Hu st' vv' r cs→Hu (H8 k N (st'.drop k)) vv (A9r k r) cs
 | [],[],_,_=>trivial
 |(h,v)::r,c::cs,hg,⟨⟨cur,h1,h2,h3⟩,h4⟩=>by
  simp only[geR,List.all_cons,Ad]at hg;have hle:k≤h:=Nat.le_of_ble_eq_true hg.1;exact⟨⟨(cur.1,cur.2.down k N),by rw[Xt,Ei,show k+(h - k)=h by omega,h1];rfl,h2,fun e=>by rw[←hv (h - k),show h - k+k=h by omega];exact h3 e⟩,Hu.down hv hg.2 h4⟩
 | [],_::_,_,h=>h.elim
 |_::_,[],_,h=>by cases h
theorem Fa.up{k:Nat}{pre:St}{vv vv':Nat→Value}{s:Nat}{sv:SV}{c:Value}(hl:pre.length=k)(hv:∀i,vv' (i+k)=vv i)(h:Fa G σ w st vv s sv c):
 Fa G (σ.shift k) w (pre++Mo k st) vv' (s+k) (sv.up k) c:=by
 have get:∀{s':Nat} {cur:Nat × SV},st[s']?=some cur→(pre++Mo k st)[s'+k]?=some (cur.1,cur.2.up k):=by
  intro s' cur hs;rw[Cf (by omega),hl,F8,Y2,hs];rfl
 have own:Dx G σ w s sv c→Dx G (σ.shift k) w (s+k) sv c:=fun h=>Dx.tr h (Mem.le.refl G) fun b j hb=>⟨Y0 hb,rfl⟩
 cases sv with
 |Km s' j ver=>
  obtain⟨cur,g1,g2,g3⟩:=h;refine⟨_,get g1,g2,fun hc=>?_⟩
  obtain⟨e,sz,l,g4,g5⟩:=g3 hc;exact⟨e,sz,l,by rw[Ar8];exact g4,g5.Ao7 fun b=>Y0⟩
 |sub s' j ver n=>
  obtain⟨cur,g1,g2,g3⟩:=h;refine⟨_,get g1,g2,fun hc=>?_⟩
  obtain⟨e,sz,l,g4,g5⟩:=g3 hc;exact⟨e,sz,l,by rw[Ar8];exact g4,g5.Ao7 fun b=>Y0⟩
 |Q2 s' j ver n=>
  obtain⟨cur,g1,g2,g3⟩:=h;refine⟨_,get g1,g2,fun hc=>?_⟩
  obtain⟨e,sz,l,c0,g4,g5,g6⟩:=g3 hc;exact⟨e,sz,l,c0,by rw[Ar8];exact g4,g5.Ao7 fun b=>Y0,g6⟩
 |pt s' j ver off r=>
  obtain⟨cur,g1,g2,g3⟩:=h;refine⟨_,get g1,g2,fun hc=>?_⟩
  obtain⟨b,g4,g5⟩:=g3 hc;exact⟨b,Y0 g4,g5⟩
 |Lv s' ver p b=>
  obtain⟨c0,Gq,h⟩:=h;obtain⟨cur,g1,g2,g3⟩:=h;refine⟨c0,Gq,?_⟩;refine⟨_,get g1,g2,fun inv d e hp ha=>?_⟩
  have:=g3 inv d (Ahh e) hp ha;rw[←hv s']at this;exact this
 |pd s' ver p=>
  obtain⟨cur,g1,g2,g3⟩:=h;refine⟨_,get g1,g2,fun inv d e hp ha=>?_⟩
  have:=g3 inv d (Ahh e) hp ha;rw[←hv s']at this;exact this
 |bs s' ver p lo n=>
  obtain⟨cur,g1,g2,g3⟩:=h;refine⟨_,get g1,g2,fun e0 inv d e=>?_⟩
  have:=g3 e0 inv d (Ahh e);rw[←hv s']at this;exact this
 |bd s' ver p=>
  obtain⟨cur,g1,g2,g3⟩:=h;refine⟨_,get g1,g2,fun inv d e ha=>?_⟩
  have:=g3 inv d (Ahh e) ha;rw[←hv s']at this;exact this
 |par hh=>trivial
 |cl f fs cs=>
  obtain⟨us,ws,g1,g2,g3⟩:=h;exact⟨us,ws,g1,g2.up hl hv,g3.up hl hv⟩
 |al s' ver=>
  obtain⟨cur,g1,g2,g3⟩:=h;exact⟨_,get g1,g2,fun e=>by rw[hv s'];exact g3 e⟩
 |bp s' ver p=>
  obtain⟨g,c0,ty,kk,Gq,Le,Kh,cur,g1,g2,g3⟩:=h;refine⟨g,c0,ty,kk,Gq,Y0 Le,Kh,_,get g1,g2,fun inv d e hp ha=>?_⟩
  have:=g3 inv d (Ahh e) hp ha;rw[←hv s']at this;exact this
 |Qg f s' ver p=>trivial
 |Px _ _ _ _ _=>trivial
 |_=>exact own h
def Azz(w0 w:World):Prop:=w.os=w0.os∧w.tape=w0.tape∧w.output=w0.output∧w0.heap.size≤w.heap.size
theorem Rel.A9i(h:Rel G σ Fr w0 st a w):Azz w0.w w:=⟨h.Bz.os,h.Bz.tape,h.Bz.output,h.Bz.size⟩
theorem Rel.up{pre:St}{a':Act}(h:Rel G σ Fr w0 st a w)(hd:a'.defers=[])(hl:pre.length=a'.tmps.size)
 (hp:∀s ver sv,pre[s]?=some (ver,sv)→Fa G (σ.shift a'.tmps.size) w (pre++Mo a'.tmps.size st) (val a' ⟨w,a'.tmps.size,a.tmps++w0.Lk⟩) s sv (a'.tmps.getD s undef)∧
   ∀hh,sv= .par hh→a'.tmps.getD s undef=val a' ⟨w,a'.tmps.size,a.tmps++w0.Lk⟩ hh∧a'.tmps.size≤hh):
 Rel G (σ.shift a'.tmps.size) Fr ⟨w,a'.tmps.size,a.tmps++w0.Lk⟩ (pre++Mo a'.tmps.size st) a' w:=by
 have A5d:∀i,i<a'.tmps.size→val a' ⟨w,a'.tmps.size,a.tmps++w0.Lk⟩ i=a'.tmps.getD i undef:=by
  intro i hi;unfold val;rw[Aq,D4 hi,Aq]
 have Re:∀i,val a' ⟨w,a'.tmps.size,a.tmps++w0.Lk⟩ (i+a'.tmps.size)=val a w0 i:=by
  intro i;unfold val;rw[Aq,Dm (by omega),F8,Aq]
 refine⟨⟨h.Bz.fixed,?_,?_,h.Bz.frame,rfl,rfl,rfl,Ay _,h.Bz.apart,h.Bz.Mv⟩,by rw[hd];exact Marks.nil _ _,rfl,?_,?_,?_⟩
 ·rintro b ⟨s,k⟩ hb;obtain⟨i,_,h1⟩:=Uj hb;exact h.Bz.own b _ h1
 ·rintro b b' ⟨s,k⟩ hb Dc;obtain⟨i,h1,h2⟩:=Uj hb;obtain⟨i',h3,h4⟩:=Uj Dc;obtain rfl:i=i':=by omega
  exact h.Bz.inj b b' _ h2 h4
 ·simp only[Array.size_append,Cw,Aqm,hl,h.len]
 ·intro s ver sv hs;by_cases h1:s<a'.tmps.size
  ·rw[B0 (by omega)]at hs
   rw[A5d s h1];exact(hp s ver sv hs).1
  ·rw[Cf (by omega),hl,Y2]at hs
   cases h0:st[s - a'.tmps.size]? with
   |none=>simp[h0]at hs
   |some p=>
    obtain⟨v0,Vi⟩:=p;simp only[h0,Bx,Af,B6]at hs;obtain⟨rfl,rfl⟩:=hs;have:=Fa.up (vv':=val a' ⟨w,a'.tmps.size,a.tmps++w0.Lk⟩) hl Re (h.Bj _ _ _ h0);have hv:=Re (s - a'.tmps.size);rw[show s - a'.tmps.size+a'.tmps.size=s by omega]at this hv
    rw[hv];exact this
 ·intro s ver hh hs;by_cases h1:s<a'.tmps.size
  ·rw[B0 (by omega)]at hs
   rw[A5d s h1];exact(hp s ver _ hs).2 hh rfl
  ·rw[Cf (by omega),hl,Y2]at hs
   cases h0:st[s - a'.tmps.size]? with
   |none=>simp[h0]at hs
   |some p=>
    obtain⟨v0,Vi⟩:=p;simp only[h0,Bx,Af,B6]at hs;obtain⟨rfl,hs⟩:=hs;have:∃h0,Vi= .par h0∧hh=h0+a'.tmps.size:=by
     cases Vi with
     |par h9=>simp only[SV.up,SV.par.injEq]at hs;exact⟨h9,rfl,hs.symm⟩
     |_=>cases hs
    obtain⟨h1',rfl,rfl⟩:=this;have hv:=Re (s - a'.tmps.size);rw[show s - a'.tmps.size+a'.tmps.size=s by omega]at hv
    rw[hv,Re];exact⟨(h.Nv _ _ _ h0).1,Nat.le_add_left _ _⟩
theorem Fa.down{k N:Nat}{st':St}{vv vv':Nat→Value}{s:Nat}{sv:SV}{c:Value}(hv:∀i,vv' (i+k)=vv i)(h:Fa G σ w st' vv' (s+k) sv c)(hk:k≤st'.length):
 Fa G (σ.Gr k) w (H8 k N (st'.drop k)) vv s (sv.down k N) c:=by
 have get:∀{s':Nat} {cur:Nat × SV},k≤s'→st'[s']?=some cur→(H8 k N (st'.drop k))[s' - k]?=some (cur.1,cur.2.down k N):=by
  intro s' cur hle hs;rw[Xt,Ei,show k+(s' - k)=s' by omega,hs];rfl
 have Ca:∀{s' j b:Nat},k≤s'→σ b=some (s',j)→σ.Gr k b=some (s' - k,j):=fun hle hb=>Aju (by rw[hb,Nat.sub_add_cancel hle])
 have own:Dx G σ w (s+k) sv c→Dx G (σ.Gr k) w s sv c:=fun h=>Dx.tr h (Mem.le.refl G) fun b j hb=>⟨Aju hb,rfl⟩
 cases sv with
 |Km s' j ver=>
  obtain⟨cur,g1,g2,g3⟩:=h;simp only[SV.down];split
  ·rename_i hle;refine⟨_,get hle g1,g2,fun hc=>?_⟩
   obtain⟨e,sz,l,g4,g5⟩:=g3 hc;exact⟨e,sz,l,Ahz g4,g5.Ao7 fun b=>Ca hle⟩
  ·trivial
 |sub s' j ver n=>
  obtain⟨cur,g1,g2,g3⟩:=h;simp only[SV.down];split
  ·rename_i hle;refine⟨_,get hle g1,g2,fun hc=>?_⟩
   obtain⟨e,sz,l,g4,g5⟩:=g3 hc;exact⟨e,sz,l,Ahz g4,g5.Ao7 fun b=>Ca hle⟩
  ·trivial
 |Q2 s' j ver n=>
  obtain⟨cur,g1,g2,g3⟩:=h;simp only[SV.down];split
  ·rename_i hle;refine⟨_,get hle g1,g2,fun hc=>?_⟩
   obtain⟨e,sz,l,c0,g4,g5,g6⟩:=g3 hc;exact⟨e,sz,l,c0,Ahz g4,g5.Ao7 fun b=>Ca hle,g6⟩
  ·trivial
 |pt s' j ver off r=>
  obtain⟨cur,g1,g2,g3⟩:=h;simp only[SV.down];split
  ·rename_i hle;refine⟨_,get hle g1,g2,fun hc=>?_⟩
   obtain⟨b,g4,g5⟩:=g3 hc;exact⟨b,Ca hle g4,g5⟩
  ·trivial
 |Lv s' ver p b=>
  obtain⟨c0,Gq,h⟩:=h;obtain⟨cur,g1,g2,g3⟩:=h;simp only[SV.down];split
  ·rename_i hle;refine⟨c0,Gq,_,get hle g1,g2,fun inv d e hp ha=>?_⟩
   have:=g3 inv d (Ab2 e) hp ha;rw[←hv (s' - k),show s' - k+k=s' by omega]
   exact this
  ·trivial
 |pd s' ver p=>
  obtain⟨cur,g1,g2,g3⟩:=h;simp only[SV.down];split
  ·rename_i hle;refine⟨_,get hle g1,g2,fun inv d e hp ha=>?_⟩
   have:=g3 inv d (Ab2 e) hp ha;rw[←hv (s' - k),show s' - k+k=s' by omega]
   exact this
  ·trivial
 |bs s' ver p lo n=>
  obtain⟨cur,g1,g2,g3⟩:=h;simp only[SV.down];split
  ·rename_i hle;refine⟨_,get hle g1,g2,fun e0 inv d e=>?_⟩
   have:=g3 e0 inv d (Ab2 e);rw[←hv (s' - k),show s' - k+k=s' by omega]
   exact this
  ·trivial
 |bd s' ver p=>
  obtain⟨cur,g1,g2,g3⟩:=h;simp only[SV.down];split
  ·rename_i hle;refine⟨_,get hle g1,g2,fun inv d e ha=>?_⟩
   have:=g3 inv d (Ab2 e) ha;rw[←hv (s' - k),show s' - k+k=s' by omega]
   exact this
  ·trivial
 |par hh=>
  simp only[SV.down];split<;>trivial
 |cl f fs cs=>
  obtain⟨us,ws,g1,g2,g3⟩:=h;simp only[SV.down];split
  ·rename_i hle;exact⟨us,ws,g1,g2.down hv hle.1,g3.down hv hle.2⟩
  ·trivial
 |al s' ver=>
  obtain⟨cur,g1,g2,g3⟩:=h;simp only[SV.down];split
  ·rename_i hle;refine⟨_,get hle g1,g2,fun e=>?_⟩
   rw[←hv (s' - k),show s' - k+k=s' by omega]
   exact g3 e
  ·trivial
 |bp s' ver p=>
  obtain⟨g,c0,ty,kk,Gq,Le,Kh,cur,g1,g2,g3⟩:=h;simp only[SV.down];split
  ·rename_i hle;refine⟨g,c0,ty,kk,Gq,Aju Le,Kh,_,get hle g1,g2,fun inv d e hp ha=>?_⟩
   have:=g3 inv d (Ab2 e) hp ha;rw[←hv (s' - k),show s' - k+k=s' by omega]
   exact this
  ·trivial
 |Qg f s' ver p=>trivial
 |Px _ _ _ _ _=>trivial
 |_=>exact own h
theorem Rel.down{B:Base}{st':St}{a':Act}{n:Nat}(h:Rel G σ Fr B st' a' w)(hw:Azz w0.w B.w)(hh:B.Lk=a.tmps++w0.Lk)(hn:B.n=n)(had:Marks Fr w0.w a.defers)(han:a.tmps.size=w0.n):
 Rel G (σ.Gr n) Fr w0 (H8 n w0.n (st'.drop n)) a w:=by
 have Cq:a'.tmps.size=n:=by rw[h.n,hn]
 have hlen:n+(a.tmps.size+w0.Lk.size)=st'.length:=by
  have:=h.len;rw[hh,Array.size_append,Cq]at this;omega
 have Re:∀i,val a' B (i+n)=val a w0 i:=by
  intro i;unfold val;rw[Aq,Dm (by omega),Cq,F8,hh,Aq]
 refine⟨⟨h.Bz.fixed,?_,?_,h.Bz.frame,h.Bz.os.trans hw.1,h.Bz.tape.trans hw.2.1,h.Bz.output.trans hw.2.2.1,C2 hw.2.2.2 h.Bz.size,h.Bz.apart,h.Bz.Mv⟩,had,han,?_,?_,?_⟩
 ·rintro b ⟨s,k⟩ hb;exact h.Bz.own b _ (Adg hb)
 ·rintro b b' ⟨s,k⟩ hb Dc;exact h.Bz.inj b b' _ (Adg hb) (Adg Dc)
 ·rw[Ako,Br];omega
 ·intro s ver sv hs;rw[Xt,Ei,Nat.add_comm]at hs;cases h0:st'[s+n]? with
  |none=>simp[h0]at hs
  |some p=>
   obtain⟨v0,Vi⟩:=p;simp only[h0,Bx,Af,B6]at hs;obtain⟨rfl,rfl⟩:=hs;have h1:=h.Bj _ _ _ h0;rw[Re]at h1;exact Fa.down Re h1 (by omega)
 ·intro s ver hp hs;rw[Xt,Ei,Nat.add_comm]at hs;cases h0:st'[s+n]? with
  |none=>simp[h0]at hs
  |some p=>
   obtain⟨v0,Vi⟩:=p;simp only[h0,Bx,Af,B6]at hs;obtain⟨rfl,hs⟩:=hs;cases Vi with
   |par h1=>
    simp only[SV.down]at hs;split at hs
    ·rename_i hle;cases hs;have h2:=(h.Nv _ _ _ h0).1;rw[Re, ←Nat.sub_add_cancel (show n≤h1 by omega),Re]at h2
     exact⟨h2,by omega⟩
    ·cases hs
   |own inv t=>cases hs
   |Km=>simp only[SV.down]at hs;split at hs<;>cases hs
   |sub=>simp only[SV.down]at hs;split at hs<;>cases hs
   |Q2=>simp only[SV.down]at hs;split at hs<;>cases hs
   |pt=>simp only[SV.down]at hs;split at hs<;>cases hs
   |pd=>simp only[SV.down]at hs;split at hs<;>cases hs
   |Lv=>simp only[SV.down]at hs;split at hs<;>cases hs
   |bd=>simp only[SV.down]at hs;split at hs<;>cases hs
   |bs=>simp only[SV.down]at hs;split at hs<;>cases hs
   |bp=>simp only[SV.down]at hs;split at hs<;>cases hs
   |al=>simp only[SV.down]at hs;split at hs<;>cases hs
   |cl=>simp only[SV.down]at hs;split at hs<;>cases hs
   |_=>cases hs
end
def Vm(k:Nat)(st:St):Bh→SV
 | .c x=>.v x
 | .Fo e sz=>.vec e sz []
 | .t m=>match st[m]? with
   |some (_,sv)=>match sv with
    | .v x=>.v x
    | .rp x=>.rp x
    | .Km s j ver=>.Km (s+k) j ver
    | .sub s j ver n=>.sub (s+k) j ver n
    | .Q2 s j ver n=>.Q2 (s+k) j ver n
    | .pt s j ver off r=>.pt (s+k) j ver off r
    | .pd s ver p=>.pd (s+k) ver p
    | .bd s ver p=>.bd (s+k) ver p
    | .bs s ver p lo n=>.bs (s+k) ver p lo n
    | .par h=>.par (h+k)
    | .box _=>.par (m+k)
    | .vec _ _ _=>.par (m+k)
    | .own _ _=>.par (m+k)
    | .bp _ _ _=>.par (m+k)
    |_=>.no
   |none=>.no
def Wt(k:Nat)(st:St):List Bh→St
 | []=>[]
 |x::xs=>(0,Vm k st x)::Wt k st xs
def noN:Nat→St→St
 |0,r=>r
 |n+1,r=>(0,.no)::noN n r
def Ub(n:Nat)(az:List Bh)(st:St):St:=Wt n st az++noN (n - az.length) (Mo n st)
theorem Asp{k:Nat}{st:St}:∀{az:List Bh} {i:Nat},(Wt k st az)[i]?=(az[i]?).map fun x=>(0,Vm k st x)
 | [],_=>by simp[Wt]
 |x::xs,0=>by simp[Wt]
 |x::xs,i+1=>by simp only[Wt,Bn];exact Asp
theorem Sr{k:Nat}{st:St}:∀{az:List Bh},(Wt k st az).length=az.length
 | []=>rfl
 |x::xs=>by simp[Wt,Sr (az:=xs)]
theorem Aue:∀(n:Nat) (r:St),noN n r=List.replicate n (0,SV.no)++r
 |0,r=>rfl
 |n+1,r=>by simp[noN,Aue n r,List.replicate_succ]
theorem Y7{N:Nat}:∀{xs:List Operand} {az:List Bh},Lo N xs az=true→xs.length=az.length
 | [],[],_=>rfl
 |x::xs,y::ys,h=>by
  simp only[Lo,Ad]at h;simp[Y7 h.2]
 | [],_::_,h=>by cases h
 |_::_,[],h=>by cases h
theorem Arh{N:Nat}:∀{xs:List Operand} {az:List Bh} {i:Nat} {y:Bh},Lo N xs az=true→az[i]?=some y→∃x,xs[i]?=some x∧Bu N x y=true
 |x::xs,y::ys,0,_,h,hy=>by
  simp only[Lo,Ad]at h;cases hy;exact⟨x,rfl,h.1⟩
 |x::xs,y::ys,i+1,_,h,hy=>by
  simp only[Lo,Ad]at h;exact Arh (xs:=xs) h.2 hy
 | [],[],_,_,_,hy=>by cases hy
 | [],_::_,_,_,h,_=>by cases h
 |_::_,[],_,_,h,_=>by cases h
section
variable{P:Program}{G:Mem}{σ:Lab}{Fr:Mem}{w0:Base}{w:World}{st:St}{a:Act}
theorem Ama{k:Nat}{pre:St}{a':Act}{m s:Nat}(h:Rel G σ Fr w0 st a w)(hl:pre.length=k)(hk:a'.tmps.size=k):
 Fa G (σ.shift k) w (pre++Mo k st) (val a' ⟨w,k,a.tmps++w0.Lk⟩) s (Vm k st (.t m)) (val a w0 m)∧
  ∀hh,Vm k st (.t m)= .par hh→val a w0 m=val a' ⟨w,k,a.tmps++w0.Lk⟩ hh∧k≤hh:=by
 have Re:∀i,val a' ⟨w,k,a.tmps++w0.Lk⟩ (i+k)=val a w0 i:=by
  intro i;unfold val;rw[Aq,Dm (by omega),hk,F8,Aq]
 simp only[Vm];cases hs:st[m]? with
 |none=>exact⟨trivial,fun hh e=>by cases e⟩
 |some cur=>
  obtain⟨ver,sv⟩:=cur;have h1:=h.Bj m ver sv hs;have h2:=Fa.up (pre:=pre) (vv':=val a' ⟨w,k,a.tmps++w0.Lk⟩) hl Re h1;cases sv with
  |v x=>exact⟨h1,fun hh e=>by cases e⟩
  |rp x=>exact⟨h1,fun hh e=>by cases e⟩
  |Km s' j ver=>exact⟨h2,fun hh e=>by cases e⟩
  |sub s' j ver n=>exact⟨h2,fun hh e=>by cases e⟩
  |Q2 s' j ver n=>exact⟨h2,fun hh e=>by cases e⟩
  |pt s' j ver off r=>exact⟨h2,fun hh e=>by cases e⟩
  |pd s' ver p=>exact⟨h2,fun hh e=>by cases e⟩
  |bd s' ver p=>exact⟨h2,fun hh e=>by cases e⟩
  |bs s' ver p lo n=>exact⟨h2,fun hh e=>by cases e⟩
  |par h0=>exact⟨trivial,fun hh e=>by cases e;rw[Re];exact⟨(h.Nv _ _ _ hs).1,Nat.le_add_left _ _⟩⟩
  |box t=>exact⟨trivial,fun hh e=>by cases e;rw[Re];exact⟨rfl,Nat.le_add_left _ _⟩⟩
  |vec e sz l=>exact⟨trivial,fun hh e=>by cases e;rw[Re];exact⟨rfl,Nat.le_add_left _ _⟩⟩
  |own inv t=>exact⟨trivial,fun hh e=>by cases e;rw[Re];exact⟨rfl,Nat.le_add_left _ _⟩⟩
  |bp s' ver p=>exact⟨trivial,fun hh e=>by cases e;rw[Re];exact⟨rfl,Nat.le_add_left _ _⟩⟩
  |_=>exact⟨trivial,fun hh e=>by cases e⟩
theorem Aw4{k:Nat}{pre:St}{a':Act}{x:Operand}{y:Bh}{s:Nat}(h:Rel G σ Fr w0 st a w)(ho:Bu w0.n x y=true)(hl:pre.length=k)(hk:a'.tmps.size=k):
 Fa G (σ.shift k) w (pre++Mo k st) (val a' ⟨w,k,a.tmps++w0.Lk⟩) s (Vm k st y) (a.eval x)∧
  ∀hh,Vm k st y= .par hh→a.eval x=val a' ⟨w,k,a.tmps++w0.Lk⟩ hh∧k≤hh:=by
 cases y with
 |c i=>
  refine⟨?_,fun hh e=>by cases e⟩
  exact Ud ho G
 |Fo e sz=>
  refine⟨?_,fun hh e=>by cases e⟩
  have:=Nj (a:=a) ho;show Fg _ _ _ _ _ _ _ _;rw[this];exact⟨[],Lx.nil _ _ _,by simp[B4],by simp,by simp[Value.ownBlock]⟩
 |t m=>
  obtain⟨rfl,hm⟩:=Gb ho;rw[←G9 (B:=w0) (by rw[h.n];exact hm)]
  exact Ama h hl hk
end

def Mem.Dy(Fr:Mem)(b:Nat)(o:Obj):Mem:=fun x=>if x=b then some o else Fr x
theorem Mem.T5{Fr:Mem}{b:Nat}{o:Obj}:(Fr.Dy b o) b=some o:=by simp[Mem.Dy]
theorem Mem.Q7{Fr:Mem}{b x:Nat}{o:Obj}(h:x≠b):(Fr.Dy b o) x=Fr x:=by simp[Mem.Dy,h]
theorem Mem.Br8{Fr:Mem}{b:Nat}{o:Obj}(h:Fr b=none):Fr.le (Fr.Dy b o):=fun x o' hx=>by
 rw[Mem.Q7 (by rintro rfl;rw[h]at hx;cases hx)];exact hx
theorem Marks.mono{Fr H2:Mem}{w0:World}{ds:List Deferred}(h:Marks Fr w0 ds)(hle:∀b,Fr b=some (.deferred (some []))→H2 b=some (.deferred (some []))):Marks H2 w0 ds:=by
 obtain⟨rs,h1,h2,h3⟩:=h;exact⟨rs,h1,h2,fun r hr=>⟨(h3 r hr).1,hle r (h3 r hr).2⟩⟩
section
variable{P:Program}{G:Mem}{σ:Lab}{Fr:Mem}{w0:Base}{w:World}{st:St}{a:Act}
theorem Rel.Abv(h:Rel G σ Fr w0 st a w){w':World}{H2:Mem}{a':Act}(b:Nat)(hσ:σ b=none)(hG:G b=none)(hw:∀x,x≠b→w'.heap[x]?=w.heap[x]?)(Cq:w'.heap.size=w.heap.size)
 (hos:w'.os=w.os) (htp:w'.tape=w.tape) (hou:w'.output=w.output) (hFr:∀x o,H2 x=some o→(x≠b∧Fr x=some o)∨(x=b∧w'.heap[b]?=some o))
 (ha:a'.tmps=a.tmps) (hm:Marks H2 w0.w a'.defers):Rel G σ H2 w0 st a' w':=by
 have hv:val a' w0=val a w0:=by funext s;unfold val;rw[ha]
 have A2:∀{x Ca},σ x=some Ca→x≠b:=fun hx e=>by rw[e,hσ]at hx;cases hx
 refine⟨⟨?_,?_,h.Bz.inj,?_,hos.trans h.Bz.os,htp.trans h.Bz.tape,hou.trans h.Bz.output,by rw[Cq];exact h.Bz.size,?_,h.Bz.Mv⟩,hm,by rw[ha];exact h.n,by rw[ha];exact h.len,?_,?_⟩
 ·intro x o hx;rw[hw x (by rintro rfl;rw[hG]at hx;cases hx)]
  exact h.Bz.fixed x o hx
 ·intro x Ca hx;obtain⟨h1,h2,h3⟩:=h.Bz.own x Ca hx;refine⟨h1,?_,by rw[Cq];exact h3⟩
  cases hf:H2 x with
  |none=>rfl
  |some o=>
   rcases hFr x o hf with⟨_,k⟩|⟨k,_⟩
   ·rw[h2]at k;cases k
   ·exact absurd k (A2 hx)
 ·intro x o hx;rcases hFr x o hx with⟨k1,k2⟩|⟨rfl,k2⟩
  ·rw[hw x k1];exact h.Bz.frame x o k2
  ·exact k2
 ·intro x o hx;rcases hFr x o hx with⟨k1,k2⟩|⟨rfl,k2⟩
  ·exact h.Bz.apart x o k2
  ·exact hG
 ·intro s ver sv hs;rw[hv];exact(h.Bj s ver sv hs).Mk (Mem.le.refl G) (fun s' x k hx=>⟨hx,hw x (A2 hx)⟩) h.Bj
 ·intro s ver hh hs;rw[hv];exact h.Nv s ver hh hs
theorem Vw(h:Rel G σ Fr w0 st a w){b:Nat}{o:Obj}(hb:Fr b=some o):b<w.heap.size:=(C3.1 (h.Bz.frame b o hb)).1
theorem Bh5(h:Rel G σ Fr w0 st a w){b:Nat}{o:Obj}(hb:G b=some o):b<w.heap.size:=(C3.1 (h.Bz.fixed b o hb)).1
theorem Rel.restrict(h:Rel G σ Fr w0 st a w){H2:Mem}(hle:H2.le Fr)(hm:Marks H2 w0.w a.defers):Rel G σ H2 w0 st a w:=
 ⟨⟨h.Bz.fixed,fun b Ca hb=>⟨(h.Bz.own b Ca hb).1,Option.eq_none_iff_forall_ne_some.2 fun o hf=>(by
    have:=hle b o hf;rw[(h.Bz.own b Ca hb).2.1]at this;cases this),(h.Bz.own b Ca hb).2.2⟩,h.Bz.inj,fun b o hb=>h.Bz.frame b o (hle b o hb),h.Bz.os,h.Bz.tape,h.Bz.output,h.Bz.size,fun b o hb=>h.Bz.apart b o (hle b o hb),h.Bz.Mv⟩,hm,h.n,h.len,h.Bj,h.Nv⟩
theorem A3h:∀{l l':List Nat},l.map mark=l'.map mark→l=l'
 | [],[],_=>rfl
 |x::l,y::l',e=>by
  simp only[A0,Em,mark,Deferred.mk.injEq,Target.collected.injEq,and_true]at e;rw[e.1,A3h e.2]
 | [],_::_,e=>by simp at e
 |_::_,[],e=>by simp at e
theorem Rel.Bg8{F:Fence}{n:Nat}{fn:Func}{R:Ending→World→Prop}{u:FrameMode}(hu:u≠ .run):∀(rs:List Nat) {Fr Fr1:Mem} {a:Act} {w:World},Rel G σ Fr w0 st a w→a.defers=rs.map mark→rs.Nodup→
 (∀r∈rs,Fr r=some (.deferred (some []))∧Fr1 r=none)→Fr1.le Fr→
 (∀w'',Rel G σ Fr1 w0 st {a with defers:=[]} w''→LeavesIn F n P fn a.tmps R [] u w'')→LeavesInM F n P fn a.tmps R a.defers u w
 | [],Fr,Fr1,a,w,h,hd,_,_,hle,hk=>by
   rw[hd];exact hk w ((show Rel G σ Fr w0 st {a with defers:=[]} w from⟨h.Bz,Marks.nil _ _,h.n,h.len,h.Bj,h.Nv⟩).restrict hle (Marks.nil _ _))
 |r::rs,Fr,Fr1,a,w,h,hd,F5,hr,hle,hk=>by
  rw[hd];have hFr:=(hr r (Ar ..)).1;have Ao3:=h.Bz.frame r _ hFr;have Di:=Vw h hFr;refine⟨hu,.inl ⟨r,w.putObj r (.deferred none),rfl,run_takeDeferred Ao3,?_⟩⟩;have hσ:σ r=none:=by
   cases hs:σ r with
   |none=>rfl
   |some Ca=>have:=(h.Bz.own r Ca hs).2.1;rw[hFr]at this;cases this
  rw[Bs]at F5
  let Fr2:Mem:=fun x=>if x=r then none else Fr x
  have Vz:Rel G σ Fr2 w0 st {a with defers:=rs.map mark} (w.putObj r (.deferred none)):=by
   refine h.Abv (a':={a with defers:=rs.map mark}) r hσ (h.Bz.apart r _ hFr) (fun x hx=>World.putObj_heap_other hx) (by simp) rfl rfl rfl (fun x o hx=>?_) rfl ?_
   ·simp only[Fr2]at hx;split at hx
    ·cases hx
    ·rename_i A2;exact .inl ⟨A2,hx⟩
   ·obtain⟨rs',h1,h2,h3⟩:=h.defers;rw[hd]at h1;obtain rfl:=A3h h1;refine⟨rs,rfl,F5.2,fun x hx=>⟨(h3 x (Au _ hx)).1,?_⟩⟩
    simp only[Fr2];rw[if_neg (by rintro rfl;exact F5.1 hx)]
    exact(h3 x (Au _ hx)).2
  have:=Rel.Bg8 (F:=F) (n:=n) (fn:=fn) (R:=R) (Fr1:=Fr1) hu rs Vz rfl F5.2 (fun x hx=>⟨by
   simp only[Fr2];rw[if_neg (by rintro rfl;exact F5.1 hx)]
   exact(hr x (Au _ hx)).1,(hr x (Au _ hx)).2⟩) (fun b o hb=>by
   simp only[Fr2];rw[if_neg (by rintro rfl;rw[(hr b (Ar ..)).2]at hb;cases hb)]
   exact hle b o hb) hk
  exact this
theorem Rel.leave{F:Fence}{n:Nat}{fn:Func}{R:Ending→World→Prop}{u:FrameMode}(hu:u≠ .run){Fr1:Mem}(h:Rel G σ Fr w0 st a w)(hle:Fr1.le Fr)(Di:∀b o,Fr1 b=some o→b<w0.w.heap.size)
 (hk:∀w'',Rel G σ Fr1 w0 st {a with defers:=[]} w''→LeavesIn F n P fn a.tmps R [] u w''):LeavesInM F n P fn a.tmps R a.defers u w:=by
 obtain⟨rs,h1,h2,h3⟩:=h.defers;refine Rel.Bg8 hu rs h h1 h2 (fun r hr=>⟨(h3 r hr).2,?_⟩) hle hk
 cases hf:Fr1 r with
 |none=>rfl
 |some o=>have:=Di r o hf;have:=(h3 r hr).1;omega
end

structure D8 where
 Sx:St→Prop
 ex:Nat→St→Prop
 ret:St→Prop
inductive Ee where
 |skip
 |ops (l:List Ao)
 |Kf (ms:List Nat) (l:List Ao)
 |A1a (ms:List Nat) (l:List Ao) (x:Ao)
 |seq (a b:Ee)
 |Aww (ks:List Nat) (a b:Ee)
 |cond (c:Bh) (a b:Ee)
 |block (id:Nat) (a:Ee)
 |loop (ks:List Nat) (a:Ee)
 |exit (id:Nat)
 |ret
 |Ajh (g:Nat) (f:FuncId) (n nc:Nat) (ps:List Nat) (it sa sb:Ee)
 deriving Inhabited
def Ee.N4:Ee→Bool
 | .seq a b=>a.N4&&b.N4
 | .Aww _ a b=>a.N4&&b.N4
 | .cond _ a b=>a.N4&&b.N4
 | .block _ a=>a.N4
 | .loop _ a=>a.N4
 | .Ajh .. =>false
 |_=>true
def Ji(ks:List Nat)(st:St):SV→SV
 | .Km s k v=>match st[s]? with
   |some cur=>if v=cur.1∧ks.contains s=false then .Km s k 0 else .no
   |none=>.no
 | .sub s k v n=>match st[s]? with
   |some cur=>if v=cur.1∧ks.contains s=false then .sub s k 0 n else .no
   |none=>.no
 | .Q2 _ _ _ _=>.no
 | .bs s v p lo n=>match st[s]? with
   |some cur=>if v=cur.1∧ks.contains s=false then .bs s 0 p lo n else .no
   |none=>.no
 | .pt s k v off r=>match st[s]? with
   |some cur=>if v=cur.1∧ks.contains s=false then .pt s k 0 off r else .no
   |none=>.no
 | .Lv s v p b=>match st[s]? with
   |some (_,.own inv _)=>if alive v inv p=true∧ks.contains s=false then .Lv s 0 p b else .no
   |_=>.no
 | .pd s v p=>match st[s]? with
   |some (_,.own inv _)=>if alive v inv p=true∧ks.contains s=false then .pd s 0 p else .no
   |_=>.no
 | .bd s v p=>match st[s]? with
   |some (_,.own inv _)=>if Hv v inv p=true∧ks.contains s=false then .bd s 0 p else .no
   |_=>.no
 | .own _ t=>.own [] t
 | .cl f fs cs=>if Ba6 st fs=true∧Ba6 st cs=true then .cl f (Bc1 fs) (Bc1 cs)else .no
 | .Qg _ _ _ _=>.no
 | .Px _ _ _ _ _=>.no
 | .al _ _=>.no
 | .bp s v p=>match st[s]? with
   |some (_,.own inv _)=>if alive v inv p=true∧ks.contains s=false then .bp s 0 p else .no
   |_=>.no
 |sv=>sv
def Ty(ks:List Nat)(st:St):Nat→St→St
 |_,[]=>[]
 |i,(_,sv)::r=>(0,if ks.contains i then .no else Ji ks st sv)::Ty ks st (i+1) r
def norm(ks:List Nat)(st:St):St:=Ty ks st 0 st
def A68{X:Type}(ks:List Nat)(J:X→St)(R:X→Prop)(μ:X→Nat)(x:X)(st:St):Prop:=∃x',norm ks st=J x'∧R x'∧μ x'<μ x
def brk(id:Nat)(Q:D8)(i:Nat):St→Prop:=if i=id then Q.Sx else Q.ex i
def Bj1(c:Bh)(k:Bool→M):M:=Qi c fun i=>match i with
 | .bool t=>k t
 |_=>.fail
structure Bov(ks:List Nat)(body:(St→Prop)→St→Prop)(st:St):Prop where
 out:∃(X:Type) (J:X→St) (R:X→Prop) (μ:X→Nat),(∃x,norm ks st=J x∧R x)∧∀x,R x→body (A68 ks J R μ x) (J x)
structure Bs4(ks:List Nat)(fa:(St→Prop)→St→Prop)(fb:St→Prop)(st:St):Prop where
 out:∃(X:Type) (J:X→St) (R:X→Prop),(∀x,R x→fb (J x))∧fa (fun st'=>∃x,norm ks st'=J x∧R x) st
def Bnp(k:Nat)(st:St)(h v:Nat):SV:=match st[h]? with
 |some cur=>if v=cur.1 then Vm k st (.t h)else .no
 |none=>.no
def Pm(k:Nat)(st:St):List (Nat × Nat)→St→St
 | [],r=>r
 |(h,v)::l,r=>(0,Bnp k st h v)::Pm k st l r
def Agx(n:Nat)(st:St)(fs cs:List (Nat × Nat))(l:Nat)(rec:Loop):St:=
 Pm n st fs ((1,.yl (.ready l rec))::Pm n st cs (noN (n - (fs.length+1+cs.length)) (Mo n st)))
def P4(nc off:Nat)(st:St):Nat→Nat→St→St
 |_,0,r=>r
 |i,m+1,r=>(0,Vm nc st (.t (off+i)))::P4 nc off st (i+1) m r
def Xp(nc:Nat)(st:St):List Nat→List Bh→St→St
 |p::ps,x::xs,r=>Xp nc st ps xs (r.set p (0,Vm nc st x))
 |_,_,r=>r
def Yz(nc off:Nat)(ps:List Nat)(xs:List Bh)(st:St):St:=Xp nc st ps xs (P4 nc off st 0 nc (Mo nc st))
def Bc0(l:Nat)(rec:Loop):Option (Option Nat)→YV
 |none=>.ready l rec
 |some j=>.jump l rec j
def Ac7(P:Program)(n nc y l:Nat)(rec:Loop)(d:Option Nat)(K:St→Prop)(j:Option (Option Nat))(st:St):Prop:=
 match(H8 nc n (st.drop nc))[y]? with
 |some cur=>(Ci d (.v (.bool j.isNone)) .done).wp P K ((H8 nc n (st.drop nc)).set y (cur.1+1,.yl (Bc0 l rec j)))
 |none=>False
def An2(P:Program)(fa fb:D8→St→Prop)(n nc off:Nat)(ps:List Nat)(l:Nat)(rec:Loop):Hd:=fun y d xs K st=>
 match st[y]? with
 |some (v,.yl (.ready l' J7))=>l'=l∧J7=rec∧xs.length=ps.length∧
  fa ⟨fb ⟨Ac7 P n nc y l rec d K none,fun id=>Ac7 P n nc y l rec d K (some (some id)),Ac7 P n nc y l rec d K (some none)⟩,fun _ _=>False,fun _=>False⟩
   (Yz nc off ps xs (st.set y (v+1,.no)))
 |_=>False
def Y8(n N y l:Nat)(rec:Loop)(Q:D8)(st:St):Prop:=match st[y]? with
 |some (_,.yl (.ready l' J7))=>l'=l∧J7=rec∧Q.Sx (H8 n N (st.drop n))
 |some (_,.yl (.jump l' _ none))=>l'=l∧Q.ret (H8 n N (st.drop n))
 |some (_,.yl (.jump l' _ (some id)))=>l'=l∧Q.ex id (H8 n N (st.drop n))
 |_=>False
def Acu(n g v:Nat)(x:I)(s ver:Nat)(p:List Nat)(st:St)(l:Nat)(rec:Loop):St:=
 (1,.yl (.ready l rec))::(1,.box (.one (.i x)))::(1,.bp (s+n) ver p)::noN (n - 3) (Mo n (st.set g (v+1,.no)))
def Bho(st:St)(g:Nat)(f:FuncId)(K:List (Nat × Nat)→List (Nat × Nat)→Prop)(K':Nat→I→Nat→Nat→List Nat→Prop):Prop:=match st[g]? with
 |some (_,.cl f' fs cs)=>f'=f∧K fs cs
 |some (v,.Px f' x s ver p)=>f'=f∧K' v x s ver p
 |_=>False
def wpS(P:Program):Ee→Hd→D8→St→Prop
 | .skip,_,Q,st=>Q.Sx st
 | .ops l,Y,Q,st=>A0m P Y l Q.Sx st
 | .Kf ms l,_,Q,st=>Abk P l (Dw st ms Q.Sx) [] st
 | .A1a ms l x,Y,Q,st=>Abk P l (Dw st ms (x.run P Y Q.Sx)) [] st
 | .seq a b,Y,Q,st=>wpS P a Y ⟨wpS P b Y Q,Q.ex,Q.ret⟩ st
 | .Aww ks a b,Y,Q,st=>Bs4 ks (fun K=>wpS P a Y ⟨K,Q.ex,Q.ret⟩) (wpS P b Y Q) st
 | .cond c a b,Y,Q,st=>(Bj1 c fun t=>.ite t (.K8 (wpS P a Y Q)) (.K8 (wpS P b Y Q))).wp P (fun _=>False) st
 | .block id a,Y,Q,st=>wpS P a Y ⟨Q.Sx,brk id Q,Q.ret⟩ st
 | .loop ks a,Y,Q,st=>Bov ks (fun K=>wpS P a Y ⟨K,Q.ex,Q.ret⟩) st
 | .exit id,_,Q,st=>Q.ex id st
 | .ret,_,Q,st=>Q.ret st
 | .Ajh g f n nc ps it sa sb,_,Q,st=>Bho st g f (fun fs cs=>fs.length+1+cs.length≤n∧∀(l:Nat) (rec:Loop),
  wpS P it (An2 P (wpS P sa Lu) (wpS P sb Lu) n nc n ps l rec) ⟨Y8 n nc fs.length l rec Q,fun _ _=>False,Y8 n nc fs.length l rec Q⟩ (Agx n st fs cs l rec))
  fun v x s ver p=>(3≤n∧s≠g)∧∀(l:Nat) (rec:Loop),
  wpS P it (An2 P (wpS P sa Lu) (wpS P sb Lu) n nc n ps l rec) ⟨Y8 n nc 0 l rec Q,fun _ _=>False,Y8 n nc 0 l rec Q⟩ (Acu n g v x s ver p st l rec)
section
variable{P:Program}{N:Nat}{G:Mem}{σ:Lab}{Fr:Mem}{w0:Base}{w:World}{st:St}{a:Act}
theorem Anp{ks:List Nat}{st:St}:∀(r:St) (i j:Nat),(Ty ks st i r)[j]?=(r[j]?).map fun p=>(0,if ks.contains (i+j)then .no else Ji ks st p.2)
 | [],i,j=>by simp[Ty]
 |p::r,i,0=>by simp[Ty]
 |p::r,i,j+1=>by
  simp only[Ty,Bn];rw[Anp r (i+1) j,show i+(j+1)=i+1+j by omega]
theorem Rb{ks:List Nat}(j:Nat):(norm ks st)[j]?=(st[j]?).map fun p=>(0,if ks.contains j then .no else Ji ks st p.2):=by
 unfold norm;rw[Anp st 0 j,Bm]
theorem Aep{ks:List Nat}{st:St}:∀(r:St) (i:Nat),(Ty ks st i r).length=r.length
 | [],_=>rfl
 |_::r,i=>by simp[Ty,Aep r]
theorem Ba5{ks:List Nat}{sv:SV}{inv:Inv}{t:D}(h:Ji ks st sv= .own inv t):∃Ari,sv= .own Ari t∧inv=[]:=by
 cases sv<;>simp only[Ji]at h<;>first
  |(cases h;exact⟨_,rfl,rfl⟩)
  |(cases h;done)
  |(split at h<;>first|(cases h;done)|(split at h<;>cases h))
theorem Rel.norm(h:Rel G σ Fr w0 st a w)(ks:List Nat):Rel G σ Fr w0 (Ab.norm ks st) a w:=by
 have vec:∀{s k:Nat} {cur:Nat × SV} {p:TypeId × Nat × List I},st[s]?=some cur→ks.contains s=false→cur.2.Fu k=some p→∃Gu,(Ab.norm ks st)[s]?=some Gu∧Gu.1=0∧Gu.2.Fu k=some p:=by
  intro s k cur p h1 h2 h3;refine⟨_,by rw[Rb,h1];rfl,rfl,?_⟩
  simp only[h2];obtain⟨v,sv⟩:=cur;cases sv<;>first|exact h3|(cases k<;>cases h3)
 refine⟨h.Bz,h.defers,h.n,by rw[h.len];exact(Aep st 0).symm,?_,?_⟩
 ·intro s ver sv hs;rw[Rb]at hs;cases h0:st[s]? with
  |none=>simp[h0]at hs
  |some p=>
   obtain⟨v,Vi⟩:=p;simp only[h0,Bx,Af,B6]at hs;obtain⟨rfl,hs⟩:=hs;have Ba:=h.Bj s v Vi h0;split at hs
   ·subst hs;trivial
   ·subst hs;generalize val a w0 s=c at Ba ⊢;cases Vi with
    |Km s' k Cn=>
     obtain⟨cur,g1,g2,g3⟩:=Ba;simp only[Ji,g1];split
     ·rename_i hc;obtain⟨e,sz,l,g4,g5⟩:=g3 hc.1;obtain⟨Gu,q1,q2,q3⟩:=vec g1 hc.2 g4;exact⟨Gu,q1,A3 _,fun _=>⟨e,sz,l,q3,g5⟩⟩
     ·trivial
    |sub s' k Cn n=>
     obtain⟨cur,g1,g2,g3⟩:=Ba;simp only[Ji,g1];split
     ·rename_i hc;obtain⟨e,sz,l,g4,g5⟩:=g3 hc.1;obtain⟨Gu,q1,q2,q3⟩:=vec g1 hc.2 g4;exact⟨Gu,q1,A3 _,fun _=>⟨e,sz,l,q3,g5⟩⟩
     ·trivial
    |Q2 s' k Cn n=>trivial
    |bs s' Cn p lo n=>
     obtain⟨cur,g1,g2,g3⟩:=Ba;simp only[Ji,g1];split
     ·rename_i hc;refine⟨_,by rw[Rb,g1];rfl,A3 _,fun _ Kj t' e=>?_⟩
      simp only[hc.2,D0,if_false]at e;obtain⟨Ari,e1,rfl⟩:=Ba5 e;exact⟨by simp[alive,Hv],(g3 hc.1 Ari t' e1).2⟩
     ·trivial
    |pt s' k Cn off r=>
     obtain⟨cur,g1,g2,g3⟩:=Ba;simp only[Ji,g1];split
     ·rename_i hc;obtain⟨b,g4,g5⟩:=g3 hc.1;exact⟨_,by rw[Rb,g1];rfl,A3 _,fun _=>⟨b,g4,g5⟩⟩
     ·trivial
    |Lv s' Cn p b=>
     obtain⟨c0,Gq,Ba⟩:=Ba;obtain⟨cur,g1,g2,g3⟩:=Ba;obtain⟨cv,Hh⟩:=cur;simp only[Ji,g1];split
     ·rename_i cv' inv t e;cases e;split
      ·rename_i hc;refine⟨c0,Gq,(0,.own [] t),by rw[Rb,g1];simp only[Bx,hc.2];rfl,Ay _,fun Kj t' e hp _=>?_⟩
       cases e;exact g3 inv t rfl hp hc.1
      ·trivial
     ·trivial
    |bp s' Cn p=>
     obtain⟨g,c0,ty,kk,Gq,Le,Kh,cur,g1,g2,g3⟩:=Ba;obtain⟨cv,Hh⟩:=cur;simp only[Ji,g1];split
     ·rename_i cv' inv t e;cases e;split
      ·rename_i hc;refine⟨g,c0,ty,kk,Gq,Le,Kh,(0,.own [] t),by rw[Rb,g1];simp only[Bx,hc.2];rfl,Ay _,fun Kj t' e hp _=>?_⟩
       cases e;exact g3 inv t rfl hp hc.1
      ·trivial
     ·trivial
    |pd s' Cn p=>
     obtain⟨cur,g1,g2,g3⟩:=Ba;obtain⟨cv,Hh⟩:=cur;simp only[Ji,g1];split
     ·rename_i cv' inv t e;cases e;split
      ·rename_i hc;refine⟨(0,.own [] t),by rw[Rb,g1];simp only[Bx,hc.2];rfl,Ay _,fun Kj t' e hp _=>?_⟩
       cases e;exact g3 inv t rfl hp hc.1
      ·trivial
     ·trivial
    |bd s' Cn p=>
     obtain⟨cur,g1,g2,g3⟩:=Ba;obtain⟨cv,Hh⟩:=cur;simp only[Ji,g1];split
     ·rename_i cv' inv t e;cases e;split
      ·rename_i hc;refine⟨(0,.own [] t),by rw[Rb,g1];simp only[Bx,hc.2];rfl,Ay _,fun Kj t' e _=>?_⟩
       cases e;exact g3 inv t rfl hc.1
      ·trivial
     ·trivial
    |cl f fs cs=>
     obtain⟨us,ws,e1,e2,e3⟩:=Ba;simp only[Ji];split
     ·rename_i hc;have hz:∀(h:Nat) (cur:Nat × SV),st[h]?=some cur→∃sv,(Ab.norm ks st)[h]?=some (0,sv):=fun h cur hh=>⟨_,by rw[Rb,hh];rfl⟩
      exact⟨us,ws,e1,e2.norm hz hc.1,e3.norm hz hc.2⟩
     ·trivial
    |Qg _ _ _ _=>trivial
    |Px _ _ _ _ _=>trivial
    |al _ _=>trivial
    |_=>exact Ba
 ·intro s ver hh hs;rw[Rb]at hs;cases h0:st[s]? with
  |none=>simp[h0]at hs
  |some p=>
   obtain⟨v,Vi⟩:=p;simp only[h0,Bx,Af,B6]at hs;obtain⟨rfl,hs⟩:=hs;split at hs
   ·cases hs
   ·have:Vi= .par hh:=by
     cases Vi with
     |Km s' k Cn=>
      simp only[Ji]at hs;split at hs
      ·split at hs<;>cases hs
      ·cases hs
     |sub s' k Cn n=>
      simp only[Ji]at hs;split at hs
      ·split at hs<;>cases hs
      ·cases hs
     |Q2 s' k Cn n=>simp only[Ji]at hs;cases hs
     |bs s' Cn p lo n=>
      simp only[Ji]at hs;split at hs
      ·split at hs<;>cases hs
      ·cases hs
     |pt s' k Cn off r=>
      simp only[Ji]at hs;split at hs
      ·split at hs<;>cases hs
      ·cases hs
     |Lv s' Cn p b=>
      simp only[Ji]at hs;split at hs
      ·split at hs<;>cases hs
      ·cases hs
     |bp s' Cn p=>
      simp only[Ji]at hs;split at hs
      ·split at hs<;>cases hs
      ·cases hs
     |pd s' Cn p=>
      simp only[Ji]at hs;split at hs
      ·split at hs<;>cases hs
      ·cases hs
     |bd s' Cn p=>
      simp only[Ji]at hs;split at hs
      ·split at hs<;>cases hs
      ·cases hs
     |cl _ _ _=>simp only[Ji]at hs;split at hs<;>cases hs
     |Qg _ _ _ _=>simp only[Ji]at hs;cases hs
     |Px _ _ _ _ _=>simp only[Ji]at hs;cases hs
     |al _ _=>simp only[Ji]at hs;cases hs
     |own inv t=>simp only[Ji]at hs;cases hs
     |_=>exact hs
    subst this;exact h.Nv s v hh h0
def lift(G:Mem)(Fr:Mem)(w0:Base)(Q:D8):Exit→Act→World→Prop:=fun e a w=>∃G' σ' H2 st,G.le G'∧Fr.le H2∧Rel G' σ' H2 w0 st a w∧match e with
 | .normal=>Q.Sx st
 | .exit i=>Q.ex i st
 | .ret=>Q.ret st
 |_=>False
theorem A79{G' H2:Mem}{Q:D8}(hG:G.le G')(hF:Fr.le H2){e:Exit}{a:Act}{w:World}(h:lift G' H2 w0 Q e a w):lift G Fr w0 Q e a w:=by
 obtain⟨G1,σ1,F1,st,h1,h2,h3,h4⟩:=h;exact⟨G1,σ1,F1,st,hG.trans h1,hF.trans h2,h3,h4⟩
def Gy(P:Program)(N:Nat):Code→Ee→Bool
 | .skip,.skip=>true
 | .label _,.skip=>true
 | .scope c,.seq x .skip=>Gy P N c x
 | .region _ ops false,.ops l=>Z8 P N ops ops.toList l
 | .region _ ops true,.Kf ms l=>P.follows .mixedOrders&&Z8 P N ops ops.toList l&&Yo (Yn ops.toList) 0 ops.toList&&Aiv (Yn ops.toList) []==ms
 | .region _ ops true,.A1a ms l x=>P.follows .mixedOrders&&Z8 P N ops ops.toList (l++[x])&&Yo ((Yn ops.toList).dropLast++[(Yn ops.toList).getLast?.getD []]) 0 ops.toList&&At6 (Yn ops.toList).dropLast ((Yn ops.toList).getLast?.getD [])&&Aiv (Yn ops.toList).dropLast []==ms
 | .seq a b,.seq x y=>Gy P N a x&&Gy P N b y
 | .seq a b,.Aww _ x y=>Gy P N a x&&Gy P N b y
 | .cond c a b,.cond c' x y=>Bu N c c'&&Gy P N a x&&Gy P N b y
 | .block id c,.block id' x=>id==id'&&Gy P N c x
 | .loop c,.loop _ x=>Gy P N c x
 | .exit id,.exit id'=>id==id'
 | .ret,.ret=>true
 | .rangeFunc (.tmp g) ps ca cb,.Ajh g' f n nc Qh it sa sb=>g==g'&&decide (g<N)&&nc==N&&ps.toList==Qh&&(Qh.all fun p=>decide (p<N))&&Gy P N ca sa&&Gy P N cb sb&&sa.N4&&sb.N4&&Ke P f&&
  (match P.funcs[f]? with
    |some fn=>fn.ntmps==n&&fn.results.isEmpty&&(match fn.body with
     |some c=>Gy P n c it
     |none=>false)
    |none=>false)
 |_,_=>false
end
section
variable{P:Program}{G:Mem}{σ:Lab}{Fr:Mem}{w0:Base}{w:World}{st:St}{a:Act}
theorem Ag8{nc off:Nat}{st:St}:∀(m i:Nat) {r:St},(P4 nc off st i m r).length=m+r.length
 |0,i,r=>by simp[P4]
 |m+1,i,r=>by simp only[P4,Cg,Ag8 m];omega
theorem Auu{nc off:Nat}{st:St}:∀(m i:Nat) {r:St},P4 nc off st i m r=P4 nc off st i m []++r
 |0,i,r=>rfl
 |m+1,i,r=>by simp only[P4,C4];rw[Auu m (i+1)]
theorem Aqf{nc off:Nat}{st:St}:∀(m i:Nat) {r:St} (s:Nat),s<m→(P4 nc off st i m r)[s]?=some (0,Vm nc st (.t (off+(i+s))))
 |m+1,i,r,0,_=>by simp[P4]
 |m+1,i,r,s+1,h=>by
  simp only[P4,Bn];rw[Aqf m (i+1) s (by omega),show i+1+s=i+(s+1)by omega]
theorem An8{nc:Nat}{st:St}:∀{ps:List Nat} {xs:List Bh} {r:St},(Xp nc st ps xs r).length=r.length
 | [],_,_=>rfl
 |_::_,[],_=>rfl
 |p::ps,x::xs,r=>by simp only[Xp];rw[An8];simp
theorem A4r{nc:Nat}{st:St}:∀{ps:List Nat} {xs:List Bh} {r t:St},(∀p∈ps,p<r.length)→Xp nc st ps xs (r++t)=Xp nc st ps xs r++t
 | [],_,_,_,_=>rfl
 |_::_,[],_,_,_=>rfl
 |p::ps,x::xs,r,t,h=>by
  simp only[Xp];rw[List.set_append_left _ _ (h p (Ar ..))];exact A4r fun q hq=>by rw[List.length_set];exact h q (Au _ hq)
theorem Ayq{nc:Nat}{st:St}{R:Nat→SV→Value→Prop}:∀{ps:List Nat} {xs:List Bh} {vs:List Value} {r:St} {arr:Array Value},xs.length=vs.length→arr.size=r.length→
 (∀(i:Nat) (x:Bh) (v:Value),xs[i]?=some x→vs[i]?=some v→∀s,R s (Vm nc st x) v)→(∀(s ver:Nat) (sv:SV),r[s]?=some (ver,sv)→R s sv (arr.getD s undef))→
 ∀(s ver:Nat) (sv:SV),(Xp nc st ps xs r)[s]?=some (ver,sv)→R s sv (((ps.zip vs).foldl (fun t (p,v)=>t.setIfInBounds p v) arr).getD s undef)
 | [],_,_,_,_,_,_,_,h0=>h0
 |p::ps,[],[],r,arr,_,_,_,h0=>h0
 |p::ps,x::xs,v::vs,r,arr,hl,hs,hx,h0=>by
  simp only[Xp,List.zip_cons_cons,List.foldl_cons];refine Ayq (by simpa using hl) (by simp[hs]) (fun i y u h1 h2=>hx (i+1) y u h1 h2) ?_
  intro s ver sv Nr;by_cases e:p=s
  ·subst e;by_cases Di:p<r.length
   ·rw[E7 Di]at Nr;cases Nr;have:((arr.setIfInBounds p v).getD p undef)=v:=by
     rw[Aq];simp[show p<arr.size by omega]
    rw[this];exact hx 0 x v rfl rfl p
   ·rw[List.set_eq_of_length_le (by omega)]at Nr
    have:=(Ak.1 Nr).1;omega
  ·rw[Az e]at Nr;have:((arr.setIfInBounds p v).getD s undef)=arr.getD s undef:=by
    rw[Aq,Aq,Array.getElem?_setIfInBounds_ne e]
   rw[this];exact h0 s ver sv Nr
 |_::_,[],_::_,_,_,h,_,_,_=>by cases h
 |_::_,_::_,[],_,_,h,_,_,_=>by cases h
theorem A6f{arr:Array Value}:∀{l:List (Nat × Value)},(l.foldl (fun t (p,v)=>t.setIfInBounds p v) arr).size=arr.size:=by
 intro l;induction l generalizing arr with
 |nil=>rfl
 |cons x l ih=>simp only[List.foldl_cons];rw[ih];simp
end
end Go.Ab
