/- Lemmas -/
import Derived.Test.YtkpojedpcabojaaGreatDoorAb18b
import Derived.RangeFuncRecord
set_option linter.unusedVariables false
set_option linter.unusedSimpArgs false
namespace Go.Ab
def Lab.shift(σ:Lab)(N:Nat):Lab:=fun b=>(σ b).map fun p=>(p.1+N,p.2)
def Lab.Amk(σ:Lab)(N:Nat):Lab:=fun b=>match σ b with
 |some (s,k)=>if N≤s then some (s - N,k)else none
 |none=>none
def upR(k:Nat)(r:List (Nat × Nat)):List (Nat × Nat):=r.map fun e=>(e.1+k,e.2)
def geR(k:Nat)(r:List (Nat × Nat)):Bool:=r.all fun e=>Nat.ble k e.1
def F6(k:Nat)(r:List (Nat × Nat)):List (Nat × Nat):=r.map fun e=>(e.1 - k,e.2)
def SV.up(k:Nat):SV→SV
 | .bor s j ver=>.bor (s+k) j ver
 | .sub s j ver n=>.sub (s+k) j ver n
 | .suf s j ver n=>.suf (s+k) j ver n
 | .pt s j ver off r=>.pt (s+k) j ver off r
 | .par h=>.par (h+k)
 | .pd s ver p=>.pd (s+k) ver p
 | .pdt s ver p b=>.pdt (s+k) ver p b
 | .bd s ver p=>.bd (s+k) ver p
 | .bs s ver p lo n=>.bs (s+k) ver p lo n
 | .cl f fs cs=>.cl f (upR k fs) (upR k cs)
 | .al s ver=>.al (s+k) ver
 | .bp s ver p=>.bp (s+k) ver p
 | .kcl _ _ _ _=>.no
 | .ocl _ _ _ _ _=>.no
 |sv=>sv
def SV.down(k N:Nat):SV→SV
 | .bor s j ver=>if k≤s then .bor (s - k) j ver else .no
 | .sub s j ver n=>if k≤s then .sub (s - k) j ver n else .no
 | .suf s j ver n=>if k≤s then .suf (s - k) j ver n else .no
 | .pt s j ver off r=>if k≤s then .pt (s - k) j ver off r else .no
 | .par h=>if N+k≤h then .par (h - k)else .no
 | .pd s ver p=>if k≤s then .pd (s - k) ver p else .no
 | .pdt s ver p b=>if k≤s then .pdt (s - k) ver p b else .no
 | .bd s ver p=>if k≤s then .bd (s - k) ver p else .no
 | .bs s ver p lo n=>if k≤s then .bs (s - k) ver p lo n else .no
 | .cl f fs cs=>if geR k fs=true∧geR k cs=true then .cl f (F6 k fs) (F6 k cs)else .no
 | .al s ver=>if k≤s then .al (s - k) ver else .no
 | .bp s ver p=>if k≤s then .bp (s - k) ver p else .no
 | .kcl _ _ _ _=>.no
 | .ocl _ _ _ _ _=>.no
 |sv=>sv
def Ast(k:Nat):St→St
 | []=>[]
 |(v,sv)::r=>(v,sv.up k)::Ast k r
def Bn(k N:Nat):St→St
 | []=>[]
 |(v,sv)::r=>(v,sv.down k N)::Bn k N r
theorem Jc{k:Nat}:∀{st:St} {i:Nat},(Ast k st)[i]?=(st[i]?).map fun p=>(p.1,p.2.up k)
 | [],_=>by simp[Ast]
 |(v,sv)::r,0=>by simp[Ast]
 |(v,sv)::r,i+1=>by simp only[Ast,Du];exact Jc
theorem Ha{k N:Nat}:∀{st:St} {i:Nat},(Bn k N st)[i]?=(st[i]?).map fun p=>(p.1,p.2.down k N)
 | [],_=>by simp[Bn]
 |(v,sv)::r,0=>by simp[Bn]
 |(v,sv)::r,i+1=>by simp only[Bn,Du];exact Ha
theorem Pv{k:Nat}:∀{st:St},(Ast k st).length=st.length
 | []=>rfl
 |(v,sv)::r=>by simp[Ast,Pv (st:=r)]
theorem Mc{k N:Nat}:∀{st:St},(Bn k N st).length=st.length
 | []=>rfl
 |(v,sv)::r=>by simp[Bn,Mc (st:=r)]
theorem Qi{k j:Nat}{sv:SV}:(sv.up k).Aka j=sv.Aka j:=by
 cases sv<;>first|rfl|(cases j<;>rfl)
theorem K3{k N j:Nat}{sv:SV}{p:TypeId × Nat × List I}(h:sv.Aka j=some p):(sv.down k N).Aka j=some p:=by
 cases sv<;>first|exact h|(cases j<;>cases h)
theorem Ku{k:Nat}{sv:SV}{inv:Inv}{d:D}(h:sv.up k= .own inv d):sv= .own inv d:=by
 cases sv<;>first|exact h|cases h
theorem Hs{k N:Nat}{sv:SV}{inv:Inv}{d:D}(h:sv.down k N= .own inv d):sv= .own inv d:=by
 cases sv<;>first|exact h|cases h|(simp only[SV.down]at h;split at h<;>cases h)
section
variable{P:Program}{G:Mem}{σ:Lab}{Fr:Mem}{w0:Base}{w:World}{st:St}{a:Act}
theorem Eu{N b s k:Nat}(h:σ.shift N b=some (s,k)):∃i,s=i+N∧σ b=some (i,k):=by
 unfold Lab.shift at h;cases hσ:σ b with
 |none=>simp[hσ]at h
 |some p=>
  obtain⟨i,k'⟩:=p;simp only[hσ,Fq,A0,He]at h;exact⟨i,h.1.symm,by rw[h.2]⟩
theorem Gd{N b i k:Nat}(h:σ b=some (i,k)):σ.shift N b=some (i+N,k):=by
 unfold Lab.shift;rw[h];rfl
theorem Je{N b s k:Nat}(h:σ.Amk N b=some (s,k)):σ b=some (s+N,k):=by
 unfold Lab.Amk at h;split at h
 ·rename_i s' k' h1;split at h
  ·simp only[A0,He]at h;obtain⟨rfl,rfl⟩:=h;rw[h1,show s' - N+N=s' by omega]
  ·cases h
 ·cases h
theorem L7{N b i k:Nat}(h:σ b=some (i+N,k)):σ.Amk N b=some (i,k):=by
 unfold Lab.Amk;simp[h]
theorem Aiu.A5n{σ':Lab}{l l':Nat × Nat}{e:TypeId}{sz:Nat}{xs:List I}{c:Value}(h:Aiu G σ w l e sz xs c)(hs:∀b,σ b=some l→σ' b=some l'):Aiu G σ' w l' e sz xs c:=by
 obtain⟨ys,h1,h2,h3,h4⟩:=h;exact⟨ys,h1,h2,h3,fun b hb=>hs b (h4 b hb)⟩
theorem Anm.up{pre st:St}{vv vv':Nat→Value}{k:Nat}(hl:pre.length=k)(hv:∀i,vv' (i+k)=vv i):
 ∀{r:List (Nat × Nat)} {cs:List Value},Anm st vv r cs→Anm (pre++Ast k st) vv' (upR k r) cs
 | [],[],_=>trivial
 |(h,v)::r,c::cs,⟨⟨cur,h1,h2,h3⟩,h4⟩=>
  ⟨⟨(cur.1,cur.2.up k),by rw[G4 (by omega),hl,Amh,Jc,h1];rfl,h2,fun e=>by rw[hv];exact h3 e⟩,Anm.up hl hv h4⟩
 | [],_::_,h=>h.elim
 |_::_,[],h=>by cases h
theorem Anm.down{st':St}{vv vv':Nat→Value}{k N:Nat}(hv:∀i,vv' (i+k)=vv i):
 ∀{r:List (Nat × Nat)} {cs:List Value},geR k r=true→Anm st' vv' r cs→Anm (Bn k N (st'.drop k)) vv (F6 k r) cs
 | [],[],_,_=>trivial
 |(h,v)::r,c::cs,hg,⟨⟨cur,h1,h2,h3⟩,h4⟩=>by
  simp only[geR,List.all_cons,Ap]at hg;have hle:k≤h:=Nat.le_of_ble_eq_true hg.1;exact⟨⟨(cur.1,cur.2.down k N),by rw[Ha,Ae3,show k+(h - k)=h by omega,h1];rfl,h2,fun e=>by rw[←hv (h - k),show h - k+k=h by omega];exact h3 e⟩,Anm.down hv hg.2 h4⟩
 | [],_::_,_,h=>h.elim
 |_::_,[],_,h=>by cases h
theorem Ait.up{k:Nat}{pre:St}{vv vv':Nat→Value}{s:Nat}{sv:SV}{c:Value}(hl:pre.length=k)(hv:∀i,vv' (i+k)=vv i)(h:Ait G σ w st vv s sv c):
 Ait G (σ.shift k) w (pre++Ast k st) vv' (s+k) (sv.up k) c:=by
 have get:∀{s':Nat} {cur:Nat × SV},st[s']?=some cur→(pre++Ast k st)[s'+k]?=some (cur.1,cur.2.up k):=by
  intro s' cur hs;rw[G4 (by omega),hl,Amh,Jc,hs];rfl
 have own:Ab1 G σ w s sv c→Ab1 G (σ.shift k) w (s+k) sv c:=fun h=>Ab1.tr h (Mem.le.refl G) fun b j hb=>⟨Gd hb,rfl⟩
 cases sv with
 |bor s' j ver=>
  obtain⟨cur,g1,g2,g3⟩:=h;refine⟨_,get g1,g2,fun hc=>?_⟩
  obtain⟨e,sz,l,g4,g5⟩:=g3 hc;exact⟨e,sz,l,by rw[Qi];exact g4,g5.A5n fun b=>Gd⟩
 |sub s' j ver n=>
  obtain⟨cur,g1,g2,g3⟩:=h;refine⟨_,get g1,g2,fun hc=>?_⟩
  obtain⟨e,sz,l,g4,g5⟩:=g3 hc;exact⟨e,sz,l,by rw[Qi];exact g4,g5.A5n fun b=>Gd⟩
 |suf s' j ver n=>
  obtain⟨cur,g1,g2,g3⟩:=h;refine⟨_,get g1,g2,fun hc=>?_⟩
  obtain⟨e,sz,l,c0,g4,g5,g6⟩:=g3 hc;exact⟨e,sz,l,c0,by rw[Qi];exact g4,g5.A5n fun b=>Gd,g6⟩
 |pt s' j ver off r=>
  obtain⟨cur,g1,g2,g3⟩:=h;refine⟨_,get g1,g2,fun hc=>?_⟩
  obtain⟨b,g4,g5⟩:=g3 hc;exact⟨b,Gd g4,g5⟩
 |pdt s' ver p b=>
  obtain⟨c0,hc0,h⟩:=h;obtain⟨cur,g1,g2,g3⟩:=h;refine⟨c0,hc0,?_⟩;refine⟨_,get g1,g2,fun inv d e hp ha=>?_⟩
  have:=g3 inv d (Ku e) hp ha;rw[←hv s']at this;exact this
 |pd s' ver p=>
  obtain⟨cur,g1,g2,g3⟩:=h;refine⟨_,get g1,g2,fun inv d e hp ha=>?_⟩
  have:=g3 inv d (Ku e) hp ha;rw[←hv s']at this;exact this
 |bs s' ver p lo n=>
  obtain⟨cur,g1,g2,g3⟩:=h;refine⟨_,get g1,g2,fun e0 inv d e=>?_⟩
  have:=g3 e0 inv d (Ku e);rw[←hv s']at this;exact this
 |bd s' ver p=>
  obtain⟨cur,g1,g2,g3⟩:=h;refine⟨_,get g1,g2,fun inv d e ha=>?_⟩
  have:=g3 inv d (Ku e) ha;rw[←hv s']at this;exact this
 |par hh=>trivial
 |cl f fs cs=>
  obtain⟨us,ws,g1,g2,g3⟩:=h;exact⟨us,ws,g1,g2.up hl hv,g3.up hl hv⟩
 |al s' ver=>
  obtain⟨cur,g1,g2,g3⟩:=h;exact⟨_,get g1,g2,fun e=>by rw[hv s'];exact g3 e⟩
 |bp s' ver p=>
  obtain⟨g,c0,ty,kk,hc0,hg1,hg2,cur,g1,g2,g3⟩:=h;refine⟨g,c0,ty,kk,hc0,Gd hg1,hg2,_,get g1,g2,fun inv d e hp ha=>?_⟩
  have:=g3 inv d (Ku e) hp ha;rw[←hv s']at this;exact this
 |kcl f s' ver p=>trivial
 |ocl _ _ _ _ _=>trivial
 |_=>exact own h
def Uc(w0 w:World):Prop:=w.os=w0.os∧w.tape=w0.tape∧w.output=w0.output∧w0.heap.size≤w.heap.size
theorem Rel.Bd0(h:Rel G σ Fr w0 st a w):Uc w0.w w:=⟨h.Fc.os,h.Fc.tape,h.Fc.output,h.Fc.size⟩
theorem Rel.up{pre:St}{a':Act}(h:Rel G σ Fr w0 st a w)(hd:a'.defers=[])(hl:pre.length=a'.tmps.size)
 (hp:∀s ver sv,pre[s]?=some (ver,sv)→Ait G (σ.shift a'.tmps.size) w (pre++Ast a'.tmps.size st) (val a' ⟨w,a'.tmps.size,a.tmps++w0.hid⟩) s sv (a'.tmps.getD s undef)∧
   ∀hh,sv= .par hh→a'.tmps.getD s undef=val a' ⟨w,a'.tmps.size,a.tmps++w0.hid⟩ hh∧a'.tmps.size≤hh):
 Rel G (σ.shift a'.tmps.size) Fr ⟨w,a'.tmps.size,a.tmps++w0.hid⟩ (pre++Ast a'.tmps.size st) a' w:=by
 have Bck:∀i,i<a'.tmps.size→val a' ⟨w,a'.tmps.size,a.tmps++w0.hid⟩ i=a'.tmps.getD i undef:=by
  intro i hi;unfold val;rw[Bt,Aez hi,Bt]
 have Aup:∀i,val a' ⟨w,a'.tmps.size,a.tmps++w0.hid⟩ (i+a'.tmps.size)=val a w0 i:=by
  intro i;unfold val;rw[Bt,Aah (by omega),Amh,Bt]
 refine⟨⟨h.Fc.fixed,?_,?_,h.Fc.frame,rfl,rfl,rfl,Bz _,h.Fc.apart,h.Fc.amb⟩,by rw[hd];exact Marks.nil _ _,rfl,?_,?_,?_⟩
 ·rintro b ⟨s,k⟩ hb;obtain⟨i,_,h1⟩:=Eu hb;exact h.Fc.own b _ h1
 ·rintro b b' ⟨s,k⟩ hb Sy;obtain⟨i,h1,h2⟩:=Eu hb;obtain⟨i',h3,h4⟩:=Eu Sy;obtain rfl:i=i':=by omega
  exact h.Fc.inj b b' _ h2 h4
 ·simp only[Array.size_append,Hq,Pv,hl,h.len]
 ·intro s ver sv hs;by_cases h1:s<a'.tmps.size
  ·rw[Fi (by omega)]at hs
   rw[Bck s h1];exact(hp s ver sv hs).1
  ·rw[G4 (by omega),hl,Jc]at hs
   cases h0:st[s - a'.tmps.size]? with
   |none=>simp[h0]at hs
   |some p=>
    obtain⟨v0,sv0⟩:=p;simp only[h0,Fq,A0,He]at hs;obtain⟨rfl,rfl⟩:=hs;have:=Ait.up (vv':=val a' ⟨w,a'.tmps.size,a.tmps++w0.hid⟩) hl Aup (h.Eb _ _ _ h0);have hv:=Aup (s - a'.tmps.size);rw[show s - a'.tmps.size+a'.tmps.size=s by omega]at this hv
    rw[hv];exact this
 ·intro s ver hh hs;by_cases h1:s<a'.tmps.size
  ·rw[Fi (by omega)]at hs
   rw[Bck s h1];exact(hp s ver _ hs).2 hh rfl
  ·rw[G4 (by omega),hl,Jc]at hs
   cases h0:st[s - a'.tmps.size]? with
   |none=>simp[h0]at hs
   |some p=>
    obtain⟨v0,sv0⟩:=p;simp only[h0,Fq,A0,He]at hs;obtain⟨rfl,hs⟩:=hs;have:∃h0,sv0= .par h0∧hh=h0+a'.tmps.size:=by
     cases sv0 with
     |par h9=>simp only[SV.up,SV.par.injEq]at hs;exact⟨h9,rfl,hs.symm⟩
     |_=>cases hs
    obtain⟨h1',rfl,rfl⟩:=this;have hv:=Aup (s - a'.tmps.size);rw[show s - a'.tmps.size+a'.tmps.size=s by omega]at hv
    rw[hv,Aup];exact⟨(h.As8 _ _ _ h0).1,Nat.le_add_left _ _⟩
theorem Ait.down{k N:Nat}{st':St}{vv vv':Nat→Value}{s:Nat}{sv:SV}{c:Value}(hv:∀i,vv' (i+k)=vv i)(h:Ait G σ w st' vv' (s+k) sv c)(hk:k≤st'.length):
 Ait G (σ.Amk k) w (Bn k N (st'.drop k)) vv s (sv.down k N) c:=by
 have get:∀{s':Nat} {cur:Nat × SV},k≤s'→st'[s']?=some cur→(Bn k N (st'.drop k))[s' - k]?=some (cur.1,cur.2.down k N):=by
  intro s' cur hle hs;rw[Ha,Ae3,show k+(s' - k)=s' by omega,hs];rfl
 have Gf:∀{s' j b:Nat},k≤s'→σ b=some (s',j)→σ.Amk k b=some (s' - k,j):=fun hle hb=>L7 (by rw[hb,Nat.sub_add_cancel hle])
 have own:Ab1 G σ w (s+k) sv c→Ab1 G (σ.Amk k) w s sv c:=fun h=>Ab1.tr h (Mem.le.refl G) fun b j hb=>⟨L7 hb,rfl⟩
 cases sv with
 |bor s' j ver=>
  obtain⟨cur,g1,g2,g3⟩:=h;simp only[SV.down];split
  ·rename_i hle;refine⟨_,get hle g1,g2,fun hc=>?_⟩
   obtain⟨e,sz,l,g4,g5⟩:=g3 hc;exact⟨e,sz,l,K3 g4,g5.A5n fun b=>Gf hle⟩
  ·trivial
 |sub s' j ver n=>
  obtain⟨cur,g1,g2,g3⟩:=h;simp only[SV.down];split
  ·rename_i hle;refine⟨_,get hle g1,g2,fun hc=>?_⟩
   obtain⟨e,sz,l,g4,g5⟩:=g3 hc;exact⟨e,sz,l,K3 g4,g5.A5n fun b=>Gf hle⟩
  ·trivial
 |suf s' j ver n=>
  obtain⟨cur,g1,g2,g3⟩:=h;simp only[SV.down];split
  ·rename_i hle;refine⟨_,get hle g1,g2,fun hc=>?_⟩
   obtain⟨e,sz,l,c0,g4,g5,g6⟩:=g3 hc;exact⟨e,sz,l,c0,K3 g4,g5.A5n fun b=>Gf hle,g6⟩
  ·trivial
 |pt s' j ver off r=>
  obtain⟨cur,g1,g2,g3⟩:=h;simp only[SV.down];split
  ·rename_i hle;refine⟨_,get hle g1,g2,fun hc=>?_⟩
   obtain⟨b,g4,g5⟩:=g3 hc;exact⟨b,Gf hle g4,g5⟩
  ·trivial
 |pdt s' ver p b=>
  obtain⟨c0,hc0,h⟩:=h;obtain⟨cur,g1,g2,g3⟩:=h;simp only[SV.down];split
  ·rename_i hle;refine⟨c0,hc0,_,get hle g1,g2,fun inv d e hp ha=>?_⟩
   have:=g3 inv d (Hs e) hp ha;rw[←hv (s' - k),show s' - k+k=s' by omega]
   exact this
  ·trivial
 |pd s' ver p=>
  obtain⟨cur,g1,g2,g3⟩:=h;simp only[SV.down];split
  ·rename_i hle;refine⟨_,get hle g1,g2,fun inv d e hp ha=>?_⟩
   have:=g3 inv d (Hs e) hp ha;rw[←hv (s' - k),show s' - k+k=s' by omega]
   exact this
  ·trivial
 |bs s' ver p lo n=>
  obtain⟨cur,g1,g2,g3⟩:=h;simp only[SV.down];split
  ·rename_i hle;refine⟨_,get hle g1,g2,fun e0 inv d e=>?_⟩
   have:=g3 e0 inv d (Hs e);rw[←hv (s' - k),show s' - k+k=s' by omega]
   exact this
  ·trivial
 |bd s' ver p=>
  obtain⟨cur,g1,g2,g3⟩:=h;simp only[SV.down];split
  ·rename_i hle;refine⟨_,get hle g1,g2,fun inv d e ha=>?_⟩
   have:=g3 inv d (Hs e) ha;rw[←hv (s' - k),show s' - k+k=s' by omega]
   exact this
  ·trivial
 |par hh=>
  simp only[SV.down];split<;>trivial
 |cl f fs cs=>
  obtain⟨us,ws,g1,g2,g3⟩:=h;simp only[SV.down];split
  ·rename_i hle;exact⟨us,ws,g1,g2.down hv hle.1,g3.down hv hle.2⟩
  ·trivial
 |al s' ver=>
  obtain⟨cur,g1,g2,g3⟩:=h;simp only[SV.down];split
  ·rename_i hle;refine⟨_,get hle g1,g2,fun e=>?_⟩
   rw[←hv (s' - k),show s' - k+k=s' by omega]
   exact g3 e
  ·trivial
 |bp s' ver p=>
  obtain⟨g,c0,ty,kk,hc0,hg1,hg2,cur,g1,g2,g3⟩:=h;simp only[SV.down];split
  ·rename_i hle;refine⟨g,c0,ty,kk,hc0,L7 hg1,hg2,_,get hle g1,g2,fun inv d e hp ha=>?_⟩
   have:=g3 inv d (Hs e) hp ha;rw[←hv (s' - k),show s' - k+k=s' by omega]
   exact this
  ·trivial
 |kcl f s' ver p=>trivial
 |ocl _ _ _ _ _=>trivial
 |_=>exact own h
theorem Rel.down{B:Base}{st':St}{a':Act}{n:Nat}(h:Rel G σ Fr B st' a' w)(hw:Uc w0.w B.w)(hh:B.hid=a.tmps++w0.hid)(hn:B.n=n)(had:Marks Fr w0.w a.defers)(han:a.tmps.size=w0.n):
 Rel G (σ.Amk n) Fr w0 (Bn n w0.n (st'.drop n)) a w:=by
 have Hr:a'.tmps.size=n:=by rw[h.n,hn]
 have hlen:n+(a.tmps.size+w0.hid.size)=st'.length:=by
  have:=h.len;rw[hh,Array.size_append,Hr]at this;omega
 have Aup:∀i,val a' B (i+n)=val a w0 i:=by
  intro i;unfold val;rw[Bt,Aah (by omega),Hr,Amh,hh,Bt]
 refine⟨⟨h.Fc.fixed,?_,?_,h.Fc.frame,h.Fc.os.trans hw.1,h.Fc.tape.trans hw.2.1,h.Fc.output.trans hw.2.2.1,Kq hw.2.2.2 h.Fc.size,h.Fc.apart,h.Fc.amb⟩,had,han,?_,?_,?_⟩
 ·rintro b ⟨s,k⟩ hb;exact h.Fc.own b _ (Je hb)
 ·rintro b b' ⟨s,k⟩ hb Sy;exact h.Fc.inj b b' _ (Je hb) (Je Sy)
 ·rw[Mc,Ei];omega
 ·intro s ver sv hs;rw[Ha,Ae3,Nat.add_comm]at hs;cases h0:st'[s+n]? with
  |none=>simp[h0]at hs
  |some p=>
   obtain⟨v0,sv0⟩:=p;simp only[h0,Fq,A0,He]at hs;obtain⟨rfl,rfl⟩:=hs;have h1:=h.Eb _ _ _ h0;rw[Aup]at h1;exact Ait.down Aup h1 (by omega)
 ·intro s ver hp hs;rw[Ha,Ae3,Nat.add_comm]at hs;cases h0:st'[s+n]? with
  |none=>simp[h0]at hs
  |some p=>
   obtain⟨v0,sv0⟩:=p;simp only[h0,Fq,A0,He]at hs;obtain⟨rfl,hs⟩:=hs;cases sv0 with
   |par h1=>
    simp only[SV.down]at hs;split at hs
    ·rename_i hle;cases hs;have h2:=(h.As8 _ _ _ h0).1;rw[Aup, ←Nat.sub_add_cancel (show n≤h1 by omega),Aup]at h2
     exact⟨h2,by omega⟩
    ·cases hs
   |own inv t=>cases hs
   |bor=>simp only[SV.down]at hs;split at hs<;>cases hs
   |sub=>simp only[SV.down]at hs;split at hs<;>cases hs
   |suf=>simp only[SV.down]at hs;split at hs<;>cases hs
   |pt=>simp only[SV.down]at hs;split at hs<;>cases hs
   |pd=>simp only[SV.down]at hs;split at hs<;>cases hs
   |pdt=>simp only[SV.down]at hs;split at hs<;>cases hs
   |bd=>simp only[SV.down]at hs;split at hs<;>cases hs
   |bs=>simp only[SV.down]at hs;split at hs<;>cases hs
   |bp=>simp only[SV.down]at hs;split at hs<;>cases hs
   |al=>simp only[SV.down]at hs;split at hs<;>cases hs
   |cl=>simp only[SV.down]at hs;split at hs<;>cases hs
   |_=>cases hs
end
def E0(k:Nat)(st:St):D6→SV
 | .c x=>.v x
 | .Ahc e sz=>.vec e sz []
 | .t m=>match st[m]? with
   |some (_,sv)=>match sv with
    | .v x=>.v x
    | .rp x=>.rp x
    | .bor s j ver=>.bor (s+k) j ver
    | .sub s j ver n=>.sub (s+k) j ver n
    | .suf s j ver n=>.suf (s+k) j ver n
    | .pt s j ver off r=>.pt (s+k) j ver off r
    | .pd s ver p=>.pd (s+k) ver p
    | .bd s ver p=>.bd (s+k) ver p
    | .bs s ver p lo n=>.bs (s+k) ver p lo n
    | .par h=>.par (h+k)
    | .box _=>.par (m+k)
    | .vec _ _ _=>.par (m+k)
    | .own _ _=>.par (m+k)
    | .bp _ _ _=>.par (m+k)
    |_=>.no
   |none=>.no
def Ff(k:Nat)(st:St):List D6→St
 | []=>[]
 |x::xs=>(0,E0 k st x)::Ff k st xs
def noN:Nat→St→St
 |0,r=>r
 |n+1,r=>(0,.no)::noN n r
def En(n:Nat)(az:List D6)(st:St):St:=Ff n st az++noN (n - az.length) (Ast n st)
theorem Qp{k:Nat}{st:St}:∀{az:List D6} {i:Nat},(Ff k st az)[i]?=(az[i]?).map fun x=>(0,E0 k st x)
 | [],_=>by simp[Ff]
 |x::xs,0=>by simp[Ff]
 |x::xs,i+1=>by simp only[Ff,Du];exact Qp
theorem D3{k:Nat}{st:St}:∀{az:List D6},(Ff k st az).length=az.length
 | []=>rfl
 |x::xs=>by simp[Ff,D3 (az:=xs)]
theorem Q8:∀(n:Nat) (r:St),noN n r=List.replicate n (0,SV.no)++r
 |0,r=>rfl
 |n+1,r=>by simp[noN,Q8 n r,List.replicate_succ]
theorem Gg{N:Nat}:∀{xs:List Operand} {az:List D6},As0 N xs az=true→xs.length=az.length
 | [],[],_=>rfl
 |x::xs,y::ys,h=>by
  simp only[As0,Ap]at h;simp[Gg h.2]
 | [],_::_,h=>by cases h
 |_::_,[],h=>by cases h
theorem P4{N:Nat}:∀{xs:List Operand} {az:List D6} {i:Nat} {y:D6},As0 N xs az=true→az[i]?=some y→∃x,xs[i]?=some x∧Jj N x y=true
 |x::xs,y::ys,0,_,h,hy=>by
  simp only[As0,Ap]at h;cases hy;exact⟨x,rfl,h.1⟩
 |x::xs,y::ys,i+1,_,h,hy=>by
  simp only[As0,Ap]at h;exact P4 (xs:=xs) h.2 hy
 | [],[],_,_,_,hy=>by cases hy
 | [],_::_,_,_,h,_=>by cases h
 |_::_,[],_,_,h,_=>by cases h
section
variable{P:Program}{G:Mem}{σ:Lab}{Fr:Mem}{w0:Base}{w:World}{st:St}{a:Act}
theorem Mw{k:Nat}{pre:St}{a':Act}{m s:Nat}(h:Rel G σ Fr w0 st a w)(hl:pre.length=k)(hk:a'.tmps.size=k):
 Ait G (σ.shift k) w (pre++Ast k st) (val a' ⟨w,k,a.tmps++w0.hid⟩) s (E0 k st (.t m)) (val a w0 m)∧
  ∀hh,E0 k st (.t m)= .par hh→val a w0 m=val a' ⟨w,k,a.tmps++w0.hid⟩ hh∧k≤hh:=by
 have Aup:∀i,val a' ⟨w,k,a.tmps++w0.hid⟩ (i+k)=val a w0 i:=by
  intro i;unfold val;rw[Bt,Aah (by omega),hk,Amh,Bt]
 simp only[E0];cases hs:st[m]? with
 |none=>exact⟨trivial,fun hh e=>by cases e⟩
 |some cur=>
  obtain⟨ver,sv⟩:=cur;have h1:=h.Eb m ver sv hs;have h2:=Ait.up (pre:=pre) (vv':=val a' ⟨w,k,a.tmps++w0.hid⟩) hl Aup h1;cases sv with
  |v x=>exact⟨h1,fun hh e=>by cases e⟩
  |rp x=>exact⟨h1,fun hh e=>by cases e⟩
  |bor s' j ver=>exact⟨h2,fun hh e=>by cases e⟩
  |sub s' j ver n=>exact⟨h2,fun hh e=>by cases e⟩
  |suf s' j ver n=>exact⟨h2,fun hh e=>by cases e⟩
  |pt s' j ver off r=>exact⟨h2,fun hh e=>by cases e⟩
  |pd s' ver p=>exact⟨h2,fun hh e=>by cases e⟩
  |bd s' ver p=>exact⟨h2,fun hh e=>by cases e⟩
  |bs s' ver p lo n=>exact⟨h2,fun hh e=>by cases e⟩
  |par h0=>exact⟨trivial,fun hh e=>by cases e;rw[Aup];exact⟨(h.As8 _ _ _ hs).1,Nat.le_add_left _ _⟩⟩
  |box t=>exact⟨trivial,fun hh e=>by cases e;rw[Aup];exact⟨rfl,Nat.le_add_left _ _⟩⟩
  |vec e sz l=>exact⟨trivial,fun hh e=>by cases e;rw[Aup];exact⟨rfl,Nat.le_add_left _ _⟩⟩
  |own inv t=>exact⟨trivial,fun hh e=>by cases e;rw[Aup];exact⟨rfl,Nat.le_add_left _ _⟩⟩
  |bp s' ver p=>exact⟨trivial,fun hh e=>by cases e;rw[Aup];exact⟨rfl,Nat.le_add_left _ _⟩⟩
  |_=>exact⟨trivial,fun hh e=>by cases e⟩
theorem Sq{k:Nat}{pre:St}{a':Act}{x:Operand}{y:D6}{s:Nat}(h:Rel G σ Fr w0 st a w)(ho:Jj w0.n x y=true)(hl:pre.length=k)(hk:a'.tmps.size=k):
 Ait G (σ.shift k) w (pre++Ast k st) (val a' ⟨w,k,a.tmps++w0.hid⟩) s (E0 k st y) (a.eval x)∧
  ∀hh,E0 k st y= .par hh→a.eval x=val a' ⟨w,k,a.tmps++w0.hid⟩ hh∧k≤hh:=by
 cases y with
 |c i=>
  refine⟨?_,fun hh e=>by cases e⟩
  exact Nn ho G
 |Ahc e sz=>
  refine⟨?_,fun hh e=>by cases e⟩
  have:=Le (a:=a) ho;show Aiu _ _ _ _ _ _ _ _;rw[this];exact⟨[],Arr.nil _ _ _,by simp[F9],by simp,by simp[Value.ownBlock]⟩
 |t m=>
  obtain⟨rfl,hm⟩:=J0 ho;rw[←J2 (B:=w0) (by rw[h.n];exact hm)]
  exact Mw h hl hk
end

def Mem.Cx(Fr:Mem)(b:Nat)(o:Obj):Mem:=fun x=>if x=b then some o else Fr x
theorem Mem.Awa{Fr:Mem}{b:Nat}{o:Obj}:(Fr.Cx b o) b=some o:=by simp[Mem.Cx]
theorem Mem.Auk{Fr:Mem}{b x:Nat}{o:Obj}(h:x≠b):(Fr.Cx b o) x=Fr x:=by simp[Mem.Cx,h]
theorem Mem.Bpe{Fr:Mem}{b:Nat}{o:Obj}(h:Fr b=none):Fr.le (Fr.Cx b o):=fun x o' hx=>by
 rw[Mem.Auk (by rintro rfl;rw[h]at hx;cases hx)];exact hx
theorem Marks.mono{Fr Fr':Mem}{w0:World}{ds:List Deferred}(h:Marks Fr w0 ds)(hle:∀b,Fr b=some (.deferred (some []))→Fr' b=some (.deferred (some []))):Marks Fr' w0 ds:=by
 obtain⟨rs,h1,h2,h3⟩:=h;exact⟨rs,h1,h2,fun r hr=>⟨(h3 r hr).1,hle r (h3 r hr).2⟩⟩
section
variable{P:Program}{G:Mem}{σ:Lab}{Fr:Mem}{w0:Base}{w:World}{st:St}{a:Act}
theorem Rel.Az9(h:Rel G σ Fr w0 st a w){w':World}{Fr':Mem}{a':Act}(b:Nat)(hσ:σ b=none)(hG:G b=none)(hw:∀x,x≠b→w'.heap[x]?=w.heap[x]?)(Hr:w'.heap.size=w.heap.size)
 (hos:w'.os=w.os) (htp:w'.tape=w.tape) (hou:w'.output=w.output) (hFr:∀x o,Fr' x=some o→(x≠b∧Fr x=some o)∨(x=b∧w'.heap[b]?=some o))
 (ha:a'.tmps=a.tmps) (hm:Marks Fr' w0.w a'.defers):Rel G σ Fr' w0 st a' w':=by
 have hv:val a' w0=val a w0:=by funext s;unfold val;rw[ha]
 have Cf:∀{x Gf},σ x=some Gf→x≠b:=fun hx e=>by rw[e,hσ]at hx;cases hx
 refine⟨⟨?_,?_,h.Fc.inj,?_,hos.trans h.Fc.os,htp.trans h.Fc.tape,hou.trans h.Fc.output,by rw[Hr];exact h.Fc.size,?_,h.Fc.amb⟩,hm,by rw[ha];exact h.n,by rw[ha];exact h.len,?_,?_⟩
 ·intro x o hx;rw[hw x (by rintro rfl;rw[hG]at hx;cases hx)]
  exact h.Fc.fixed x o hx
 ·intro x Gf hx;obtain⟨h1,h2,h3⟩:=h.Fc.own x Gf hx;refine⟨h1,?_,by rw[Hr];exact h3⟩
  cases hf:Fr' x with
  |none=>rfl
  |some o=>
   rcases hFr x o hf with⟨_,k⟩|⟨k,_⟩
   ·rw[h2]at k;cases k
   ·exact absurd k (Cf hx)
 ·intro x o hx;rcases hFr x o hx with⟨k1,k2⟩|⟨rfl,k2⟩
  ·rw[hw x k1];exact h.Fc.frame x o k2
  ·exact k2
 ·intro x o hx;rcases hFr x o hx with⟨k1,k2⟩|⟨rfl,k2⟩
  ·exact h.Fc.apart x o k2
  ·exact hG
 ·intro s ver sv hs;rw[hv];exact(h.Eb s ver sv hs).Asq (Mem.le.refl G) (fun s' x k hx=>⟨hx,hw x (Cf hx)⟩) h.Eb
 ·intro s ver hh hs;rw[hv];exact h.As8 s ver hh hs
theorem E2(h:Rel G σ Fr w0 st a w){b:Nat}{o:Obj}(hb:Fr b=some o):b<w.heap.size:=(Ht.1 (h.Fc.frame b o hb)).1
theorem Ady(h:Rel G σ Fr w0 st a w){b:Nat}{o:Obj}(hb:G b=some o):b<w.heap.size:=(Ht.1 (h.Fc.fixed b o hb)).1
theorem Rel.restrict(h:Rel G σ Fr w0 st a w){Fr':Mem}(hle:Fr'.le Fr)(hm:Marks Fr' w0.w a.defers):Rel G σ Fr' w0 st a w:=
 ⟨⟨h.Fc.fixed,fun b Gf hb=>⟨(h.Fc.own b Gf hb).1,Option.eq_none_iff_forall_ne_some.2 fun o hf=>(by
    have:=hle b o hf;rw[(h.Fc.own b Gf hb).2.1]at this;cases this),(h.Fc.own b Gf hb).2.2⟩,h.Fc.inj,fun b o hb=>h.Fc.frame b o (hle b o hb),h.Fc.os,h.Fc.tape,h.Fc.output,h.Fc.size,fun b o hb=>h.Fc.apart b o (hle b o hb),h.Fc.amb⟩,hm,h.n,h.len,h.Eb,h.As8⟩
theorem Vh:∀{l l':List Nat},l.map mark=l'.map mark→l=l'
 | [],[],_=>rfl
 |x::l,y::l',e=>by
  simp only[Cy,Ajg,mark,Deferred.mk.injEq,Target.collected.injEq,and_true]at e;rw[e.1,Vh e.2]
 | [],_::_,e=>by simp at e
 |_::_,[],e=>by simp at e
theorem Rel.Bho{F:Fence}{n:Nat}{fn:Func}{R:Ending→World→Prop}{u:FrameMode}(hu:u≠ .run):∀(rs:List Nat) {Fr Fr1:Mem} {a:Act} {w:World},Rel G σ Fr w0 st a w→a.defers=rs.map mark→rs.Nodup→
 (∀r∈rs,Fr r=some (.deferred (some []))∧Fr1 r=none)→Fr1.le Fr→
 (∀w'',Rel G σ Fr1 w0 st {a with defers:=[]} w''→LeavesIn F n P fn a.tmps R [] u w'')→LeavesInM F n P fn a.tmps R a.defers u w
 | [],Fr,Fr1,a,w,h,hd,_,_,hle,hk=>by
   rw[hd];exact hk w ((show Rel G σ Fr w0 st {a with defers:=[]} w from⟨h.Fc,Marks.nil _ _,h.n,h.len,h.Eb,h.As8⟩).restrict hle (Marks.nil _ _))
 |r::rs,Fr,Fr1,a,w,h,hd,hnd,hr,hle,hk=>by
  rw[hd];have hFr:=(hr r (B2 ..)).1;have A5k:=h.Fc.frame r _ hFr;have Ze:=E2 h hFr;refine⟨hu,.inl ⟨r,w.putObj r (.deferred none),rfl,run_takeDeferred A5k,?_⟩⟩;have hσ:σ r=none:=by
   cases hs:σ r with
   |none=>rfl
   |some Gf=>have:=(h.Fc.own r Gf hs).2.1;rw[hFr]at this;cases this
  rw[Hw]at hnd
  let Fr2:Mem:=fun x=>if x=r then none else Fr x
  have Aw6:Rel G σ Fr2 w0 st {a with defers:=rs.map mark} (w.putObj r (.deferred none)):=by
   refine h.Az9 (a':={a with defers:=rs.map mark}) r hσ (h.Fc.apart r _ hFr) (fun x hx=>World.putObj_heap_other hx) (by simp) rfl rfl rfl (fun x o hx=>?_) rfl ?_
   ·simp only[Fr2]at hx;split at hx
    ·cases hx
    ·rename_i Cf;exact .inl ⟨Cf,hx⟩
   ·obtain⟨rs',h1,h2,h3⟩:=h.defers;rw[hd]at h1;obtain rfl:=Vh h1;refine⟨rs,rfl,hnd.2,fun x hx=>⟨(h3 x (B4 _ hx)).1,?_⟩⟩
    simp only[Fr2];rw[if_neg (by rintro rfl;exact hnd.1 hx)]
    exact(h3 x (B4 _ hx)).2
  have:=Rel.Bho (F:=F) (n:=n) (fn:=fn) (R:=R) (Fr1:=Fr1) hu rs Aw6 rfl hnd.2 (fun x hx=>⟨by
   simp only[Fr2];rw[if_neg (by rintro rfl;exact hnd.1 hx)]
   exact(hr x (B4 _ hx)).1,(hr x (B4 _ hx)).2⟩) (fun b o hb=>by
   simp only[Fr2];rw[if_neg (by rintro rfl;rw[(hr b (B2 ..)).2]at hb;cases hb)]
   exact hle b o hb) hk
  exact this
theorem Rel.leave{F:Fence}{n:Nat}{fn:Func}{R:Ending→World→Prop}{u:FrameMode}(hu:u≠ .run){Fr1:Mem}(h:Rel G σ Fr w0 st a w)(hle:Fr1.le Fr)(Ze:∀b o,Fr1 b=some o→b<w0.w.heap.size)
 (hk:∀w'',Rel G σ Fr1 w0 st {a with defers:=[]} w''→LeavesIn F n P fn a.tmps R [] u w''):LeavesInM F n P fn a.tmps R a.defers u w:=by
 obtain⟨rs,h1,h2,h3⟩:=h.defers;refine Rel.Bho hu rs h h1 h2 (fun r hr=>⟨(h3 r hr).2,?_⟩) hle hk
 cases hf:Fr1 r with
 |none=>rfl
 |some o=>have:=Ze r o hf;have:=(h3 r hr).1;omega
end

structure Ad3 where
 nrm:St→Prop
 ex:Nat→St→Prop
 ret:St→Prop
inductive Stm where
 |skip
 |ops (l:List Ao)
 |drw (ms:List Nat) (l:List Ao)
 |Ban (ms:List Nat) (l:List Ao) (x:Ao)
 |seq (a b:Stm)
 |A8m (ks:List Nat) (a b:Stm)
 |cond (c:D6) (a b:Stm)
 |block (id:Nat) (a:Stm)
 |loop (ks:List Nat) (a:Stm)
 |exit (id:Nat)
 |ret
 |A5a (g:Nat) (f:FuncId) (n nc:Nat) (ps:List Nat) (it sa sb:Stm)
 deriving Inhabited
def Stm.noR:Stm→Bool
 | .seq a b=>a.noR&&b.noR
 | .A8m _ a b=>a.noR&&b.noR
 | .cond _ a b=>a.noR&&b.noR
 | .block _ a=>a.noR
 | .loop _ a=>a.noR
 | .A5a .. =>false
 |_=>true
def Bp(ks:List Nat)(st:St):SV→SV
 | .bor s k v=>match st[s]? with
   |some cur=>if v=cur.1∧ks.contains s=false then .bor s k 0 else .no
   |none=>.no
 | .sub s k v n=>match st[s]? with
   |some cur=>if v=cur.1∧ks.contains s=false then .sub s k 0 n else .no
   |none=>.no
 | .suf _ _ _ _=>.no
 | .bs s v p lo n=>match st[s]? with
   |some cur=>if v=cur.1∧ks.contains s=false then .bs s 0 p lo n else .no
   |none=>.no
 | .pt s k v off r=>match st[s]? with
   |some cur=>if v=cur.1∧ks.contains s=false then .pt s k 0 off r else .no
   |none=>.no
 | .pdt s v p b=>match st[s]? with
   |some (_,.own inv _)=>if alive v inv p=true∧ks.contains s=false then .pdt s 0 p b else .no
   |_=>.no
 | .pd s v p=>match st[s]? with
   |some (_,.own inv _)=>if alive v inv p=true∧ks.contains s=false then .pd s 0 p else .no
   |_=>.no
 | .bd s v p=>match st[s]? with
   |some (_,.own inv _)=>if J7 v inv p=true∧ks.contains s=false then .bd s 0 p else .no
   |_=>.no
 | .own _ t=>.own [] t
 | .cl f fs cs=>if Be5 st fs=true∧Be5 st cs=true then .cl f (Ae9 fs) (Ae9 cs)else .no
 | .kcl _ _ _ _=>.no
 | .ocl _ _ _ _ _=>.no
 | .al _ _=>.no
 | .bp s v p=>match st[s]? with
   |some (_,.own inv _)=>if alive v inv p=true∧ks.contains s=false then .bp s 0 p else .no
   |_=>.no
 |sv=>sv
def Eg(ks:List Nat)(st:St):Nat→St→St
 |_,[]=>[]
 |i,(_,sv)::r=>(0,if ks.contains i then .no else Bp ks st sv)::Eg ks st (i+1) r
def norm(ks:List Nat)(st:St):St:=Eg ks st 0 st
def Ya{X:Type}(ks:List Nat)(J:X→St)(R:X→Prop)(μ:X→Nat)(x:X)(st:St):Prop:=∃x',norm ks st=J x'∧R x'∧μ x'<μ x
def brk(id:Nat)(Q:Ad3)(i:Nat):St→Prop:=if i=id then Q.nrm else Q.ex i
def Bja(c:D6)(k:Bool→M):M:=rdI c fun i=>match i with
 | .bool t=>k t
 |_=>.fail
structure Bmd(ks:List Nat)(body:(St→Prop)→St→Prop)(st:St):Prop where
 out:∃(X:Type) (J:X→St) (R:X→Prop) (μ:X→Nat),(∃x,norm ks st=J x∧R x)∧∀x,R x→body (Ya ks J R μ x) (J x)
structure Bp2(ks:List Nat)(fa:(St→Prop)→St→Prop)(fb:St→Prop)(st:St):Prop where
 out:∃(X:Type) (J:X→St) (R:X→Prop),(∀x,R x→fb (J x))∧fa (fun st'=>∃x,norm ks st'=J x∧R x) st
def Aet(k:Nat)(st:St)(h v:Nat):SV:=match st[h]? with
 |some cur=>if v=cur.1 then E0 k st (.t h)else .no
 |none=>.no
def C0(k:Nat)(st:St):List (Nat × Nat)→St→St
 | [],r=>r
 |(h,v)::l,r=>(0,Aet k st h v)::C0 k st l r
def Kj(n:Nat)(st:St)(fs cs:List (Nat × Nat))(l:Nat)(rec:Loop):St:=
 C0 n st fs ((1,.yl (.ready l rec))::C0 n st cs (noN (n - (fs.length+1+cs.length)) (Ast n st)))
def C6(nc off:Nat)(st:St):Nat→Nat→St→St
 |_,0,r=>r
 |i,m+1,r=>(0,E0 nc st (.t (off+i)))::C6 nc off st (i+1) m r
def Fu(nc:Nat)(st:St):List Nat→List D6→St→St
 |p::ps,x::xs,r=>Fu nc st ps xs (r.set p (0,E0 nc st x))
 |_,_,r=>r
def Gc(nc off:Nat)(ps:List Nat)(xs:List D6)(st:St):St:=Fu nc st ps xs (C6 nc off st 0 nc (Ast nc st))
def Bfo(l:Nat)(rec:Loop):Option (Option Nat)→YV
 |none=>.ready l rec
 |some j=>.jump l rec j
def H9(P:Program)(n nc y l:Nat)(rec:Loop)(d:Option Nat)(K:St→Prop)(j:Option (Option Nat))(st:St):Prop:=
 match(Bn nc n (st.drop nc))[y]? with
 |some cur=>(Gj d (.v (.bool j.isNone)) .done).wp P K ((Bn nc n (st.drop nc)).set y (cur.1+1,.yl (Bfo l rec j)))
 |none=>False
def A49(P:Program)(fa fb:Ad3→St→Prop)(n nc off:Nat)(ps:List Nat)(l:Nat)(rec:Loop):Hd:=fun y d xs K st=>
 match st[y]? with
 |some (v,.yl (.ready l' Ao8))=>l'=l∧Ao8=rec∧xs.length=ps.length∧
  fa ⟨fb ⟨H9 P n nc y l rec d K none,fun id=>H9 P n nc y l rec d K (some (some id)),H9 P n nc y l rec d K (some none)⟩,fun _ _=>False,fun _=>False⟩
   (Gc nc off ps xs (st.set y (v+1,.no)))
 |_=>False
def Gh(n N y l:Nat)(rec:Loop)(Q:Ad3)(st:St):Prop:=match st[y]? with
 |some (_,.yl (.ready l' Ao8))=>l'=l∧Ao8=rec∧Q.nrm (Bn n N (st.drop n))
 |some (_,.yl (.jump l' _ none))=>l'=l∧Q.ret (Bn n N (st.drop n))
 |some (_,.yl (.jump l' _ (some id)))=>l'=l∧Q.ex id (Bn n N (st.drop n))
 |_=>False
def H5(n g v:Nat)(x:I)(s ver:Nat)(p:List Nat)(st:St)(l:Nat)(rec:Loop):St:=
 (1,.yl (.ready l rec))::(1,.box (.one (.i x)))::(1,.bp (s+n) ver p)::noN (n - 3) (Ast n (st.set g (v+1,.no)))
def Bhu(st:St)(g:Nat)(f:FuncId)(K:List (Nat × Nat)→List (Nat × Nat)→Prop)(K':Nat→I→Nat→Nat→List Nat→Prop):Prop:=match st[g]? with
 |some (_,.cl f' fs cs)=>f'=f∧K fs cs
 |some (v,.ocl f' x s ver p)=>f'=f∧K' v x s ver p
 |_=>False
def wpS(P:Program):Stm→Hd→Ad3→St→Prop
 | .skip,_,Q,st=>Q.nrm st
 | .ops l,Y,Q,st=>X9 P Y l Q.nrm st
 | .drw ms l,_,Q,st=>P0 P l (Ai2 st ms Q.nrm) [] st
 | .Ban ms l x,Y,Q,st=>P0 P l (Ai2 st ms (x.run P Y Q.nrm)) [] st
 | .seq a b,Y,Q,st=>wpS P a Y ⟨wpS P b Y Q,Q.ex,Q.ret⟩ st
 | .A8m ks a b,Y,Q,st=>Bp2 ks (fun K=>wpS P a Y ⟨K,Q.ex,Q.ret⟩) (wpS P b Y Q) st
 | .cond c a b,Y,Q,st=>(Bja c fun t=>.ite t (.chk (wpS P a Y Q)) (.chk (wpS P b Y Q))).wp P (fun _=>False) st
 | .block id a,Y,Q,st=>wpS P a Y ⟨Q.nrm,brk id Q,Q.ret⟩ st
 | .loop ks a,Y,Q,st=>Bmd ks (fun K=>wpS P a Y ⟨K,Q.ex,Q.ret⟩) st
 | .exit id,_,Q,st=>Q.ex id st
 | .ret,_,Q,st=>Q.ret st
 | .A5a g f n nc ps it sa sb,_,Q,st=>Bhu st g f (fun fs cs=>fs.length+1+cs.length≤n∧∀(l:Nat) (rec:Loop),
  wpS P it (A49 P (wpS P sa noY) (wpS P sb noY) n nc n ps l rec) ⟨Gh n nc fs.length l rec Q,fun _ _=>False,Gh n nc fs.length l rec Q⟩ (Kj n st fs cs l rec))
  fun v x s ver p=>(3≤n∧s≠g)∧∀(l:Nat) (rec:Loop),
  wpS P it (A49 P (wpS P sa noY) (wpS P sb noY) n nc n ps l rec) ⟨Gh n nc 0 l rec Q,fun _ _=>False,Gh n nc 0 l rec Q⟩ (H5 n g v x s ver p st l rec)
section
variable{P:Program}{N:Nat}{G:Mem}{σ:Lab}{Fr:Mem}{w0:Base}{w:World}{st:St}{a:Act}
theorem Nc{ks:List Nat}{st:St}:∀(r:St) (i j:Nat),(Eg ks st i r)[j]?=(r[j]?).map fun p=>(0,if ks.contains (i+j)then .no else Bp ks st p.2)
 | [],i,j=>by simp[Eg]
 |p::r,i,0=>by simp[Eg]
 |p::r,i,j+1=>by
  simp only[Eg,Du];rw[Nc r (i+1) j,show i+(j+1)=i+1+j by omega]
theorem Dz{ks:List Nat}(j:Nat):(norm ks st)[j]?=(st[j]?).map fun p=>(0,if ks.contains j then .no else Bp ks st p.2):=by
 unfold norm;rw[Nc st 0 j,E3]
theorem Jq{ks:List Nat}{st:St}:∀(r:St) (i:Nat),(Eg ks st i r).length=r.length
 | [],_=>rfl
 |_::r,i=>by simp[Eg,Jq r]
theorem Zx{ks:List Nat}{sv:SV}{inv:Inv}{t:D}(h:Bp ks st sv= .own inv t):∃Biw,sv= .own Biw t∧inv=[]:=by
 cases sv<;>simp only[Bp]at h<;>first
  |(cases h;exact⟨_,rfl,rfl⟩)
  |(cases h;done)
  |(split at h<;>first|(cases h;done)|(split at h<;>cases h))
theorem Rel.norm(h:Rel G σ Fr w0 st a w)(ks:List Nat):Rel G σ Fr w0 (Ab.norm ks st) a w:=by
 have vec:∀{s k:Nat} {cur:Nat × SV} {p:TypeId × Nat × List I},st[s]?=some cur→ks.contains s=false→cur.2.Aka k=some p→∃Amr,(Ab.norm ks st)[s]?=some Amr∧Amr.1=0∧Amr.2.Aka k=some p:=by
  intro s k cur p h1 h2 h3;refine⟨_,by rw[Dz,h1];rfl,rfl,?_⟩
  simp only[h2];obtain⟨v,sv⟩:=cur;cases sv<;>first|exact h3|(cases k<;>cases h3)
 refine⟨h.Fc,h.defers,h.n,by rw[h.len];exact(Jq st 0).symm,?_,?_⟩
 ·intro s ver sv hs;rw[Dz]at hs;cases h0:st[s]? with
  |none=>simp[h0]at hs
  |some p=>
   obtain⟨v,sv0⟩:=p;simp only[h0,Fq,A0,He]at hs;obtain⟨rfl,hs⟩:=hs;have Dh:=h.Eb s v sv0 h0;split at hs
   ·subst hs;trivial
   ·subst hs;generalize val a w0 s=c at Dh ⊢;cases sv0 with
    |bor s' k Gu=>
     obtain⟨cur,g1,g2,g3⟩:=Dh;simp only[Bp,g1];split
     ·rename_i hc;obtain⟨e,sz,l,g4,g5⟩:=g3 hc.1;obtain⟨Amr,q1,q2,q3⟩:=vec g1 hc.2 g4;exact⟨Amr,q1,Cr _,fun _=>⟨e,sz,l,q3,g5⟩⟩
     ·trivial
    |sub s' k Gu n=>
     obtain⟨cur,g1,g2,g3⟩:=Dh;simp only[Bp,g1];split
     ·rename_i hc;obtain⟨e,sz,l,g4,g5⟩:=g3 hc.1;obtain⟨Amr,q1,q2,q3⟩:=vec g1 hc.2 g4;exact⟨Amr,q1,Cr _,fun _=>⟨e,sz,l,q3,g5⟩⟩
     ·trivial
    |suf s' k Gu n=>trivial
    |bs s' Gu p lo n=>
     obtain⟨cur,g1,g2,g3⟩:=Dh;simp only[Bp,g1];split
     ·rename_i hc;refine⟨_,by rw[Dz,g1];rfl,Cr _,fun _ Ap9 t' e=>?_⟩
      simp only[hc.2,Ado,if_false]at e;obtain⟨Biw,e1,rfl⟩:=Zx e;exact⟨by simp[alive,J7],(g3 hc.1 Biw t' e1).2⟩
     ·trivial
    |pt s' k Gu off r=>
     obtain⟨cur,g1,g2,g3⟩:=Dh;simp only[Bp,g1];split
     ·rename_i hc;obtain⟨b,g4,g5⟩:=g3 hc.1;exact⟨_,by rw[Dz,g1];rfl,Cr _,fun _=>⟨b,g4,g5⟩⟩
     ·trivial
    |pdt s' Gu p b=>
     obtain⟨c0,hc0,Dh⟩:=Dh;obtain⟨cur,g1,g2,g3⟩:=Dh;obtain⟨cv,csv⟩:=cur;simp only[Bp,g1];split
     ·rename_i cv' inv t e;cases e;split
      ·rename_i hc;refine⟨c0,hc0,(0,.own [] t),by rw[Dz,g1];simp only[Fq,hc.2];rfl,Bz _,fun Ap9 t' e hp _=>?_⟩
       cases e;exact g3 inv t rfl hp hc.1
      ·trivial
     ·trivial
    |bp s' Gu p=>
     obtain⟨g,c0,ty,kk,hc0,hg1,hg2,cur,g1,g2,g3⟩:=Dh;obtain⟨cv,csv⟩:=cur;simp only[Bp,g1];split
     ·rename_i cv' inv t e;cases e;split
      ·rename_i hc;refine⟨g,c0,ty,kk,hc0,hg1,hg2,(0,.own [] t),by rw[Dz,g1];simp only[Fq,hc.2];rfl,Bz _,fun Ap9 t' e hp _=>?_⟩
       cases e;exact g3 inv t rfl hp hc.1
      ·trivial
     ·trivial
    |pd s' Gu p=>
     obtain⟨cur,g1,g2,g3⟩:=Dh;obtain⟨cv,csv⟩:=cur;simp only[Bp,g1];split
     ·rename_i cv' inv t e;cases e;split
      ·rename_i hc;refine⟨(0,.own [] t),by rw[Dz,g1];simp only[Fq,hc.2];rfl,Bz _,fun Ap9 t' e hp _=>?_⟩
       cases e;exact g3 inv t rfl hp hc.1
      ·trivial
     ·trivial
    |bd s' Gu p=>
     obtain⟨cur,g1,g2,g3⟩:=Dh;obtain⟨cv,csv⟩:=cur;simp only[Bp,g1];split
     ·rename_i cv' inv t e;cases e;split
      ·rename_i hc;refine⟨(0,.own [] t),by rw[Dz,g1];simp only[Fq,hc.2];rfl,Bz _,fun Ap9 t' e _=>?_⟩
       cases e;exact g3 inv t rfl hc.1
      ·trivial
     ·trivial
    |cl f fs cs=>
     obtain⟨us,ws,e1,e2,e3⟩:=Dh;simp only[Bp];split
     ·rename_i hc;have hz:∀(h:Nat) (cur:Nat × SV),st[h]?=some cur→∃sv,(Ab.norm ks st)[h]?=some (0,sv):=fun h cur hh=>⟨_,by rw[Dz,hh];rfl⟩
      exact⟨us,ws,e1,e2.norm hz hc.1,e3.norm hz hc.2⟩
     ·trivial
    |kcl _ _ _ _=>trivial
    |ocl _ _ _ _ _=>trivial
    |al _ _=>trivial
    |_=>exact Dh
 ·intro s ver hh hs;rw[Dz]at hs;cases h0:st[s]? with
  |none=>simp[h0]at hs
  |some p=>
   obtain⟨v,sv0⟩:=p;simp only[h0,Fq,A0,He]at hs;obtain⟨rfl,hs⟩:=hs;split at hs
   ·cases hs
   ·have:sv0= .par hh:=by
     cases sv0 with
     |bor s' k Gu=>
      simp only[Bp]at hs;split at hs
      ·split at hs<;>cases hs
      ·cases hs
     |sub s' k Gu n=>
      simp only[Bp]at hs;split at hs
      ·split at hs<;>cases hs
      ·cases hs
     |suf s' k Gu n=>simp only[Bp]at hs;cases hs
     |bs s' Gu p lo n=>
      simp only[Bp]at hs;split at hs
      ·split at hs<;>cases hs
      ·cases hs
     |pt s' k Gu off r=>
      simp only[Bp]at hs;split at hs
      ·split at hs<;>cases hs
      ·cases hs
     |pdt s' Gu p b=>
      simp only[Bp]at hs;split at hs
      ·split at hs<;>cases hs
      ·cases hs
     |bp s' Gu p=>
      simp only[Bp]at hs;split at hs
      ·split at hs<;>cases hs
      ·cases hs
     |pd s' Gu p=>
      simp only[Bp]at hs;split at hs
      ·split at hs<;>cases hs
      ·cases hs
     |bd s' Gu p=>
      simp only[Bp]at hs;split at hs
      ·split at hs<;>cases hs
      ·cases hs
     |cl _ _ _=>simp only[Bp]at hs;split at hs<;>cases hs
     |kcl _ _ _ _=>simp only[Bp]at hs;cases hs
     |ocl _ _ _ _ _=>simp only[Bp]at hs;cases hs
     |al _ _=>simp only[Bp]at hs;cases hs
     |own inv t=>simp only[Bp]at hs;cases hs
     |_=>exact hs
    subst this;exact h.As8 s v hh h0
def lift(G:Mem)(Fr:Mem)(w0:Base)(Q:Ad3):Exit→Act→World→Prop:=fun e a w=>∃G' σ' Fr' st,G.le G'∧Fr.le Fr'∧Rel G' σ' Fr' w0 st a w∧match e with
 | .normal=>Q.nrm st
 | .exit i=>Q.ex i st
 | .ret=>Q.ret st
 |_=>False
theorem Yh{G' Fr':Mem}{Q:Ad3}(hG:G.le G')(hF:Fr.le Fr'){e:Exit}{a:Act}{w:World}(h:lift G' Fr' w0 Q e a w):lift G Fr w0 Q e a w:=by
 obtain⟨G1,σ1,F1,st,h1,h2,h3,h4⟩:=h;exact⟨G1,σ1,F1,st,hG.trans h1,hF.trans h2,h3,h4⟩
def Be(P:Program)(N:Nat):Code→Stm→Bool
 | .skip,.skip=>true
 | .label _,.skip=>true
 | .scope c,.seq x .skip=>Be P N c x
 | .region _ ops false,.ops l=>Aze P N ops ops.toList l
 | .region _ ops true,.drw ms l=>P.follows .mixedOrders&&Aze P N ops ops.toList l&&N8 (N7 ops.toList) 0 ops.toList&&A3b (N7 ops.toList) []==ms
 | .region _ ops true,.Ban ms l x=>P.follows .mixedOrders&&Aze P N ops ops.toList (l++[x])&&N8 ((N7 ops.toList).dropLast++[(N7 ops.toList).getLast?.getD []]) 0 ops.toList&&Vq (N7 ops.toList).dropLast ((N7 ops.toList).getLast?.getD [])&&A3b (N7 ops.toList).dropLast []==ms
 | .seq a b,.seq x y=>Be P N a x&&Be P N b y
 | .seq a b,.A8m _ x y=>Be P N a x&&Be P N b y
 | .cond c a b,.cond c' x y=>Jj N c c'&&Be P N a x&&Be P N b y
 | .block id c,.block id' x=>id==id'&&Be P N c x
 | .loop c,.loop _ x=>Be P N c x
 | .exit id,.exit id'=>id==id'
 | .ret,.ret=>true
 | .rangeFunc (.tmp g) ps ca cb,.A5a g' f n nc ps' it sa sb=>g==g'&&decide (g<N)&&nc==N&&ps.toList==ps'&&(ps'.all fun p=>decide (p<N))&&Be P N ca sa&&Be P N cb sb&&sa.noR&&sb.noR&&Ko P f&&
  (match P.funcs[f]? with
    |some fn=>fn.ntmps==n&&fn.results.isEmpty&&(match fn.body with
     |some c=>Be P n c it
     |none=>false)
    |none=>false)
 |_,_=>false
end
section
variable{P:Program}{G:Mem}{σ:Lab}{Fr:Mem}{w0:Base}{w:World}{st:St}{a:Act}
theorem Kr{nc off:Nat}{st:St}:∀(m i:Nat) {r:St},(C6 nc off st i m r).length=m+r.length
 |0,i,r=>by simp[C6]
 |m+1,i,r=>by simp only[C6,Ho,Kr m];omega
theorem Ay{nc off:Nat}{st:St}:∀(m i:Nat) {r:St},C6 nc off st i m r=C6 nc off st i m []++r
 |0,i,r=>rfl
 |m+1,i,r=>by simp only[C6,H3];rw[Ay m (i+1)]
theorem Ps{nc off:Nat}{st:St}:∀(m i:Nat) {r:St} (s:Nat),s<m→(C6 nc off st i m r)[s]?=some (0,E0 nc st (.t (off+(i+s))))
 |m+1,i,r,0,_=>by simp[C6]
 |m+1,i,r,s+1,h=>by
  simp only[C6,Du];rw[Ps m (i+1) s (by omega),show i+1+s=i+(s+1)by omega]
theorem Nq{nc:Nat}{st:St}:∀{ps:List Nat} {xs:List D6} {r:St},(Fu nc st ps xs r).length=r.length
 | [],_,_=>rfl
 |_::_,[],_=>rfl
 |p::ps,x::xs,r=>by simp only[Fu];rw[Nq];simp
theorem Wh{nc:Nat}{st:St}:∀{ps:List Nat} {xs:List D6} {r t:St},(∀p∈ps,p<r.length)→Fu nc st ps xs (r++t)=Fu nc st ps xs r++t
 | [],_,_,_,_=>rfl
 |_::_,[],_,_,_=>rfl
 |p::ps,x::xs,r,t,h=>by
  simp only[Fu];rw[List.set_append_left _ _ (h p (B2 ..))];exact Wh fun q hq=>by rw[List.length_set];exact h q (B4 _ hq)
theorem Tj{nc:Nat}{st:St}{R:Nat→SV→Value→Prop}:∀{ps:List Nat} {xs:List D6} {vs:List Value} {r:St} {arr:Array Value},xs.length=vs.length→arr.size=r.length→
 (∀(i:Nat) (x:D6) (v:Value),xs[i]?=some x→vs[i]?=some v→∀s,R s (E0 nc st x) v)→(∀(s ver:Nat) (sv:SV),r[s]?=some (ver,sv)→R s sv (arr.getD s undef))→
 ∀(s ver:Nat) (sv:SV),(Fu nc st ps xs r)[s]?=some (ver,sv)→R s sv (((ps.zip vs).foldl (fun t (p,v)=>t.setIfInBounds p v) arr).getD s undef)
 | [],_,_,_,_,_,_,_,h0=>h0
 |p::ps,[],[],r,arr,_,_,_,h0=>h0
 |p::ps,x::xs,v::vs,r,arr,hl,hs,hx,h0=>by
  simp only[Fu,List.zip_cons_cons,List.foldl_cons];refine Tj (by simpa using hl) (by simp[hs]) (fun i y u h1 h2=>hx (i+1) y u h1 h2) ?_
  intro s ver sv hsv;by_cases e:p=s
  ·subst e;by_cases Ze:p<r.length
   ·rw[Aiq Ze]at hsv;cases hsv;have:((arr.setIfInBounds p v).getD p undef)=v:=by
     rw[Bt];simp[show p<arr.size by omega]
    rw[this];exact hx 0 x v rfl rfl p
   ·rw[List.set_eq_of_length_le (by omega)]at hsv
    have:=(A7.1 hsv).1;omega
  ·rw[B3 e]at hsv;have:((arr.setIfInBounds p v).getD s undef)=arr.getD s undef:=by
    rw[Bt,Bt,Array.getElem?_setIfInBounds_ne e]
   rw[this];exact h0 s ver sv hsv
 |_::_,[],_::_,_,_,h,_,_,_=>by cases h
 |_::_,_::_,[],_,_,h,_,_,_=>by cases h
theorem Xp{arr:Array Value}:∀{l:List (Nat × Value)},(l.foldl (fun t (p,v)=>t.setIfInBounds p v) arr).size=arr.size:=by
 intro l;induction l generalizing arr with
 |nil=>rfl
 |cons x l ih=>simp only[List.foldl_cons];rw[ih];simp
end
end Go.Ab
