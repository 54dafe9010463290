/- Lemmas -/
import Derived.Test.YtgcccllpegilnaaGreatDoorAb21
set_option linter.unusedVariables false
set_option linter.unusedSimpArgs false
namespace Go.Ab
def SV.up (k:Nat):SV→SV
 | .bor s j ver=>.bor (s+k) j ver
 | .sub s j ver n=>.sub (s+k) j ver n
 | .suf s j ver n=>.suf (s+k) j ver n
 | .pt s j ver off r=>.pt (s+k) j ver off r
 | .par h=>.par (h+k)
 | .pd s ver p=>.pd (s+k) ver p
 | .bd s ver p=>.bd (s+k) ver p
 | .bs s ver p lo n=>.bs (s+k) ver p lo n
 |sv=>sv
def SV.down (k N:Nat):SV→SV
 | .bor s j ver=>if k≤s then .bor (s - k) j ver else .no
 | .sub s j ver n=>if k≤s then .sub (s - k) j ver n else .no
 | .suf s j ver n=>if k≤s then .suf (s - k) j ver n else .no
 | .pt s j ver off r=>if k≤s then .pt (s - k) j ver off r else .no
 | .par h=>if N+k≤h then .par (h - k)else .no
 | .pd s ver p=>if k≤s then .pd (s - k) ver p else .no
 | .bd s ver p=>if k≤s then .bd (s - k) ver p else .no
 | .bs s ver p lo n=>if k≤s then .bs (s - k) ver p lo n else .no
 |sv=>sv
def stUp (k:Nat):St→St
 | []=>[]
 |(v,sv)::r=>(v,sv.up k)::stUp k r
def Ma (k N:Nat):St→St
 | []=>[]
 |(v,sv)::r=>(v,sv.down k N)::Ma k N r
theorem Ahn {k:Nat}:∀{st:St} {i:Nat},(stUp k st)[i]?=(st[i]?).map fun p=>(p.1,p.2.up k)
 | [],_=>by simp[stUp]
 |(v,sv)::r,0=>by simp[stUp]
 |(v,sv)::r,i+1=>by simp only[stUp,List.getElem?_cons_succ];exact Ahn
theorem X2 {k N:Nat}:∀{st:St} {i:Nat},(Ma k N st)[i]?=(st[i]?).map fun p=>(p.1,p.2.down k N)
 | [],_=>by simp[Ma]
 |(v,sv)::r,0=>by simp[Ma]
 |(v,sv)::r,i+1=>by simp only[Ma,List.getElem?_cons_succ];exact X2
theorem Am8 {k:Nat}:∀{st:St},(stUp k st).length=st.length
 | []=>rfl
 |(v,sv)::r=>by simp[stUp,Am8 (st:=r)]
theorem Aii {k N:Nat}:∀{st:St},(Ma k N st).length=st.length
 | []=>rfl
 |(v,sv)::r=>by simp[Ma,Aii (st:=r)]
theorem Aor {k j:Nat} {sv:SV}:(sv.up k).vecAt j=sv.vecAt j:=by
 cases sv<;>first|rfl|(cases j<;>rfl)
theorem Af9 {k N j:Nat} {sv:SV} {p:TypeId × Nat × List I} (h:sv.vecAt j=some p):(sv.down k N).vecAt j=some p:=by
 cases sv<;>first|exact h|(cases j<;>cases h)
theorem A2g {k:Nat} {sv:SV} {inv:List Nat} {d:D} (h:sv.up k= .own inv d):sv= .own inv d:=by
 cases sv<;>first|exact h|cases h
theorem Ano {k N:Nat} {sv:SV} {inv:List Nat} {d:D} (h:sv.down k N= .own inv d):sv= .own inv d:=by
 cases sv<;>first|exact h|(simp only[SV.down]at h;split at h<;>cases h)
section
variable{P:Program}{G:Mem}{σ:Lab}{Fr:Mem}{w0:Base}{w:World}{st:St}{a:Act}
theorem Ahi {N b s k:Nat} (h:σ.shift N b=some (s,k)):∃i,s=i+N∧σ b=some (i,k):=by
 unfold Lab.shift at h
 cases hσ:σ b with
 |none=>simp[hσ]at h
 |some p=>
  obtain⟨i,k'⟩:=p
  simp only[hσ,Option.map_some,Option.some.injEq,Prod.mk.injEq]at h
  exact⟨i,h.1.symm,by rw[h.2]⟩
theorem Zx {N b i k:Nat} (h:σ b=some (i,k)):σ.shift N b=some (i+N,k):=by
 unfold Lab.shift;rw[h];rfl
theorem Z3 {N b s k:Nat} (h:σ.unshift N b=some (s,k)):σ b=some (s+N,k):=by
 unfold Lab.unshift at h
 split at h
 ·rename_i s' k' h1
  split at h
  ·simp only[Option.some.injEq,Prod.mk.injEq]at h
   obtain⟨rfl,rfl⟩:=h
   rw[h1,show s' - N+N=s' by omega]
  ·cases h
 ·cases h
theorem Arn {N b i k:Nat} (h:σ b=some (i+N,k)):σ.unshift N b=some (i,k):=by
 unfold Lab.unshift;simp[h]
theorem VecAt.moved {σ':Lab} {l l':Nat × Nat} {e:TypeId} {sz:Nat} {xs:List I} {c:Value} (h:VecAt G σ w l e sz xs c) (hs:∀b,σ b=some l→σ' b=some l'):VecAt G σ' w l' e sz xs c:=by
 obtain⟨ys,h1,h2,h3,h4⟩:=h
 exact⟨ys,h1,h2,h3,fun b hb=>hs b (h4 b hb)⟩
theorem RepSV.up {k:Nat} {pre:St} {vv vv':Nat→Value} {s:Nat} {sv:SV} {c:Value} (hl:pre.length=k) (hv:∀i,vv' (i+k)=vv i) (h:RepSV G σ w st vv s sv c):
 RepSV G (σ.shift k) w (pre++stUp k st) vv' (s+k) (sv.up k) c:=by
 have get:∀{s':Nat} {cur:Nat × SV},st[s']?=some cur→(pre++stUp k st)[s'+k]?=some (cur.1,cur.2.up k):=by
  intro s' cur hs
  rw[List.getElem?_append_right (by omega),hl,Nat.add_sub_cancel,Ahn,hs];rfl
 have own:RepOwn G σ w s sv c→RepOwn G (σ.shift k) w (s+k) sv c:=fun h=>RepOwn.tr h (Mem.le.refl G) fun b j hb=>⟨Zx hb,rfl⟩
 cases sv with
 |bor s' j ver=>
  obtain⟨cur,g1,g2,g3⟩:=h
  refine⟨_,get g1,g2,fun hc=>?_⟩
  obtain⟨e,sz,l,g4,g5⟩:=g3 hc
  exact⟨e,sz,l,by rw[Aor];exact g4,g5.moved fun b=>Zx⟩
 |sub s' j ver n=>
  obtain⟨cur,g1,g2,g3⟩:=h
  refine⟨_,get g1,g2,fun hc=>?_⟩
  obtain⟨e,sz,l,g4,g5⟩:=g3 hc
  exact⟨e,sz,l,by rw[Aor];exact g4,g5.moved fun b=>Zx⟩
 |suf s' j ver n=>
  obtain⟨cur,g1,g2,g3⟩:=h
  refine⟨_,get g1,g2,fun hc=>?_⟩
  obtain⟨e,sz,l,c0,g4,g5,g6⟩:=g3 hc
  exact⟨e,sz,l,c0,by rw[Aor];exact g4,g5.moved fun b=>Zx,g6⟩
 |pt s' j ver off r=>
  obtain⟨cur,g1,g2,g3⟩:=h
  refine⟨_,get g1,g2,fun hc=>?_⟩
  obtain⟨b,g4,g5⟩:=g3 hc
  exact⟨b,Zx g4,g5⟩
 |pd s' ver p=>
  obtain⟨cur,g1,g2,g3⟩:=h
  refine⟨_,get g1,g2,fun inv d e hp ha=>?_⟩
  have:=g3 inv d (A2g e) hp ha
  rw[←hv s']at this
  exact this
 |bs s' ver p lo n=>
  obtain⟨cur,g1,g2,g3⟩:=h
  refine⟨_,get g1,g2,fun e0 inv d e=>?_⟩
  have:=g3 e0 inv d (A2g e)
  rw[←hv s']at this
  exact this
 |bd s' ver p=>
  obtain⟨cur,g1,g2,g3⟩:=h
  refine⟨_,get g1,g2,fun inv d e ha=>?_⟩
  have:=g3 inv d (A2g e) ha
  rw[←hv s']at this
  exact this
 |par hh=>trivial
 |_=>exact own h
theorem Rel.up {pre:St} {a':Act} (h:Rel G σ Fr w0 st a w) (hd:a'.defers=[]) (hl:pre.length=a'.tmps.size)
 (hp:∀s ver sv,pre[s]?=some (ver,sv)→RepSV G (σ.shift a'.tmps.size) w (pre++stUp a'.tmps.size st) (val a' ⟨w0.w,a'.tmps.size,a.tmps++w0.hid⟩) s sv (a'.tmps.getD s undef)∧
   ∀hh,sv= .par hh→a'.tmps.getD s undef=val a' ⟨w0.w,a'.tmps.size,a.tmps++w0.hid⟩ hh∧a'.tmps.size≤hh):
 Rel G (σ.shift a'.tmps.size) Fr ⟨w0.w,a'.tmps.size,a.tmps++w0.hid⟩ (pre++stUp a'.tmps.size st) a' w:=by
 have valT:∀i,i<a'.tmps.size→val a' ⟨w0.w,a'.tmps.size,a.tmps++w0.hid⟩ i=a'.tmps.getD i undef:=by
  intro i hi
  unfold val
  rw[Array.getD_eq_getD_getElem?,Array.getElem?_append_left hi,Array.getD_eq_getD_getElem?]
 have valH:∀i,val a' ⟨w0.w,a'.tmps.size,a.tmps++w0.hid⟩ (i+a'.tmps.size)=val a w0 i:=by
  intro i
  unfold val
  rw[Array.getD_eq_getD_getElem?,Array.getElem?_append_right (by omega),Nat.add_sub_cancel,Array.getD_eq_getD_getElem?]
 refine⟨⟨h.wok.fixed,?_,?_,h.wok.frame,h.wok.os,h.wok.tape,h.wok.output,h.wok.size,h.wok.apart,h.wok.amb⟩,hd,rfl,?_,?_,?_⟩
 ·rintro b ⟨s,k⟩ hb
  obtain⟨i,_,h1⟩:=Ahi hb
  exact h.wok.own b _ h1
 ·rintro b b' ⟨s,k⟩ hb hb'
  obtain⟨i,h1,h2⟩:=Ahi hb
  obtain⟨i',h3,h4⟩:=Ahi hb'
  obtain rfl:i=i':=by omega
  exact h.wok.inj b b' _ h2 h4
 ·simp only[Array.size_append,List.length_append,Am8,hl,h.len]
 ·intro s ver sv hs
  by_cases h1:s<a'.tmps.size
  ·rw[List.getElem?_append_left (by omega)]at hs
   rw[valT s h1]
   exact(hp s ver sv hs).1
  ·rw[List.getElem?_append_right (by omega),hl,Ahn]at hs
   cases h0:st[s - a'.tmps.size]? with
   |none=>simp[h0]at hs
   |some p=>
    obtain⟨v0,sv0⟩:=p
    simp only[h0,Option.map_some,Option.some.injEq,Prod.mk.injEq]at hs
    obtain⟨rfl,rfl⟩:=hs
    have:=RepSV.up (vv':=val a' ⟨w0.w,a'.tmps.size,a.tmps++w0.hid⟩) hl valH (h.slots _ _ _ h0)
    have hv:=valH (s - a'.tmps.size)
    rw[show s - a'.tmps.size+a'.tmps.size=s by omega]at this hv
    rw[hv]
    exact this
 ·intro s ver hh hs
  by_cases h1:s<a'.tmps.size
  ·rw[List.getElem?_append_left (by omega)]at hs
   rw[valT s h1]
   exact(hp s ver _ hs).2 hh rfl
  ·rw[List.getElem?_append_right (by omega),hl,Ahn]at hs
   cases h0:st[s - a'.tmps.size]? with
   |none=>simp[h0]at hs
   |some p=>
    obtain⟨v0,sv0⟩:=p
    simp only[h0,Option.map_some,Option.some.injEq,Prod.mk.injEq]at hs
    obtain⟨rfl,hs⟩:=hs
    have:∃h0,sv0= .par h0∧hh=h0+a'.tmps.size:=by
     cases sv0 with
     |par h9=>simp only[SV.up,SV.par.injEq]at hs;exact⟨h9,rfl,hs.symm⟩
     |_=>cases hs
    obtain⟨h1',rfl,rfl⟩:=this
    have hv:=valH (s - a'.tmps.size)
    rw[show s - a'.tmps.size+a'.tmps.size=s by omega]at hv
    rw[hv,valH]
    exact⟨(h.pars _ _ _ h0).1,Nat.le_add_left _ _⟩
theorem RepSV.down {k N:Nat} {st':St} {vv vv':Nat→Value} {s:Nat} {sv:SV} {c:Value} (hv:∀i,vv' (i+k)=vv i) (h:RepSV G σ w st' vv' (s+k) sv c) (hk:k≤st'.length):
 RepSV G (σ.unshift k) w (Ma k N (st'.drop k)) vv s (sv.down k N) c:=by
 have get:∀{s':Nat} {cur:Nat × SV},k≤s'→st'[s']?=some cur→(Ma k N (st'.drop k))[s' - k]?=some (cur.1,cur.2.down k N):=by
  intro s' cur hle hs
  rw[X2,List.getElem?_drop,show k+(s' - k)=s' by omega,hs];rfl
 have lab:∀{s' j b:Nat},k≤s'→σ b=some (s',j)→σ.unshift k b=some (s' - k,j):=fun hle hb=>Arn (by rw[hb,Nat.sub_add_cancel hle])
 have own:RepOwn G σ w (s+k) sv c→RepOwn G (σ.unshift k) w s sv c:=fun h=>RepOwn.tr h (Mem.le.refl G) fun b j hb=>⟨Arn hb,rfl⟩
 cases sv with
 |bor s' j ver=>
  obtain⟨cur,g1,g2,g3⟩:=h
  simp only[SV.down]
  split
  ·rename_i hle
   refine⟨_,get hle g1,g2,fun hc=>?_⟩
   obtain⟨e,sz,l,g4,g5⟩:=g3 hc
   exact⟨e,sz,l,Af9 g4,g5.moved fun b=>lab hle⟩
  ·trivial
 |sub s' j ver n=>
  obtain⟨cur,g1,g2,g3⟩:=h
  simp only[SV.down]
  split
  ·rename_i hle
   refine⟨_,get hle g1,g2,fun hc=>?_⟩
   obtain⟨e,sz,l,g4,g5⟩:=g3 hc
   exact⟨e,sz,l,Af9 g4,g5.moved fun b=>lab hle⟩
  ·trivial
 |suf s' j ver n=>
  obtain⟨cur,g1,g2,g3⟩:=h
  simp only[SV.down]
  split
  ·rename_i hle
   refine⟨_,get hle g1,g2,fun hc=>?_⟩
   obtain⟨e,sz,l,c0,g4,g5,g6⟩:=g3 hc
   exact⟨e,sz,l,c0,Af9 g4,g5.moved fun b=>lab hle,g6⟩
  ·trivial
 |pt s' j ver off r=>
  obtain⟨cur,g1,g2,g3⟩:=h
  simp only[SV.down]
  split
  ·rename_i hle
   refine⟨_,get hle g1,g2,fun hc=>?_⟩
   obtain⟨b,g4,g5⟩:=g3 hc
   exact⟨b,lab hle g4,g5⟩
  ·trivial
 |pd s' ver p=>
  obtain⟨cur,g1,g2,g3⟩:=h
  simp only[SV.down]
  split
  ·rename_i hle
   refine⟨_,get hle g1,g2,fun inv d e hp ha=>?_⟩
   have:=g3 inv d (Ano e) hp ha
   rw[←hv (s' - k),show s' - k+k=s' by omega]
   exact this
  ·trivial
 |bs s' ver p lo n=>
  obtain⟨cur,g1,g2,g3⟩:=h
  simp only[SV.down]
  split
  ·rename_i hle
   refine⟨_,get hle g1,g2,fun e0 inv d e=>?_⟩
   have:=g3 e0 inv d (Ano e)
   rw[←hv (s' - k),show s' - k+k=s' by omega]
   exact this
  ·trivial
 |bd s' ver p=>
  obtain⟨cur,g1,g2,g3⟩:=h
  simp only[SV.down]
  split
  ·rename_i hle
   refine⟨_,get hle g1,g2,fun inv d e ha=>?_⟩
   have:=g3 inv d (Ano e) ha
   rw[←hv (s' - k),show s' - k+k=s' by omega]
   exact this
  ·trivial
 |par hh=>
  simp only[SV.down]
  split<;>trivial
 |_=>exact own h
theorem Rel.down {B:Base} {st':St} {a':Act} {n:Nat} (h:Rel G σ Fr B st' a' w) (hw:B.w=w0.w) (hh:B.hid=a.tmps++w0.hid) (hn:B.n=n) (had:a.defers=[]) (han:a.tmps.size=w0.n):
 Rel G (σ.unshift n) Fr w0 (Ma n w0.n (st'.drop n)) a w:=by
 have hsz:a'.tmps.size=n:=by rw[h.n,hn]
 have hlen:n+(a.tmps.size+w0.hid.size)=st'.length:=by
  have:=h.len
  rw[hh,Array.size_append,hsz]at this
  omega
 have valH:∀i,val a' B (i+n)=val a w0 i:=by
  intro i
  unfold val
  rw[Array.getD_eq_getD_getElem?,Array.getElem?_append_right (by omega),hsz,Nat.add_sub_cancel,hh,Array.getD_eq_getD_getElem?]
 refine⟨⟨h.wok.fixed,?_,?_,h.wok.frame,by rw[←hw];exact h.wok.os,by rw[←hw];exact h.wok.tape,by rw[←hw];exact h.wok.output,by rw[←hw];exact h.wok.size,h.wok.apart,h.wok.amb⟩,had,han,?_,?_,?_⟩
 ·rintro b ⟨s,k⟩ hb
  exact h.wok.own b _ (Z3 hb)
 ·rintro b b' ⟨s,k⟩ hb hb'
  exact h.wok.inj b b' _ (Z3 hb) (Z3 hb')
 ·rw[Aii,List.length_drop];omega
 ·intro s ver sv hs
  rw[X2,List.getElem?_drop,Nat.add_comm]at hs
  cases h0:st'[s+n]? with
  |none=>simp[h0]at hs
  |some p=>
   obtain⟨v0,sv0⟩:=p
   simp only[h0,Option.map_some,Option.some.injEq,Prod.mk.injEq]at hs
   obtain⟨rfl,rfl⟩:=hs
   have h1:=h.slots _ _ _ h0
   rw[valH]at h1
   exact RepSV.down valH h1 (by omega)
 ·intro s ver hp hs
  rw[X2,List.getElem?_drop,Nat.add_comm]at hs
  cases h0:st'[s+n]? with
  |none=>simp[h0]at hs
  |some p=>
   obtain⟨v0,sv0⟩:=p
   simp only[h0,Option.map_some,Option.some.injEq,Prod.mk.injEq]at hs
   obtain⟨rfl,hs⟩:=hs
   cases sv0 with
   |par h1=>
    simp only[SV.down]at hs
    split at hs
    ·rename_i hle
     cases hs
     have h2:=(h.pars _ _ _ h0).1
     rw[valH, ←Nat.sub_add_cancel (show n≤h1 by omega),valH]at h2
     exact⟨h2,by omega⟩
    ·cases hs
   |own inv t=>cases hs
   |bor=>simp only[SV.down]at hs;split at hs<;>cases hs
   |sub=>simp only[SV.down]at hs;split at hs<;>cases hs
   |suf=>simp only[SV.down]at hs;split at hs<;>cases hs
   |pt=>simp only[SV.down]at hs;split at hs<;>cases hs
   |pd=>simp only[SV.down]at hs;split at hs<;>cases hs
   |bd=>simp only[SV.down]at hs;split at hs<;>cases hs
   |bs=>simp only[SV.down]at hs;split at hs<;>cases hs
   |_=>cases hs
end
def Ao1 (k:Nat) (st:St):Opd→SV
 | .c x=>.v x
 | .nils e sz=>.vec e sz []
 | .t m=>match st[m]? with
   |some (_,sv)=>match sv with
    | .v x=>.v x
    | .rp x=>.rp x
    | .bor s j ver=>.bor (s+k) j ver
    | .sub s j ver n=>.sub (s+k) j ver n
    | .suf s j ver n=>.suf (s+k) j ver n
    | .pt s j ver off r=>.pt (s+k) j ver off r
    | .pd s ver p=>.pd (s+k) ver p
    | .bd s ver p=>.bd (s+k) ver p
    | .bs s ver p lo n=>.bs (s+k) ver p lo n
    | .par h=>.par (h+k)
    | .box _=>.par (m+k)
    | .vec _ _ _=>.par (m+k)
    | .own _ _=>.par (m+k)
    |_=>.no
   |none=>.no
def S7 (k:Nat) (st:St):List Opd→St
 | []=>[]
 |x::xs=>(0,Ao1 k st x)::S7 k st xs
def noN:Nat→St→St
 |0,r=>r
 |n+1,r=>(0,.no)::noN n r
def Sw (n:Nat) (az:List Opd) (st:St):St:=S7 n st az++noN (n - az.length) (stUp n st)
def Bfe (P:Program) (n N:Nat) (rs:List Ret) (K:SV→St→Prop) (st:St):Prop:=
 (retI rs fun us=>.chk fun st'=>litK (Ma n N (st'.drop n)) fun st'=>K (Xw us) st').wp P (fun _=>False) st
def Kq (P:Program) (n N:Nat) (rs:List Ret) (K:SV→St→Prop) (st:St):Prop:=
 (retI rs fun us=>.chk fun st'=>litK (Ma n N (st'.drop n)) fun st'=>K (Xw us) st').wq P (fun _=>False) st
theorem Ao2 {k:Nat} {st:St}:∀{az:List Opd} {i:Nat},(S7 k st az)[i]?=(az[i]?).map fun x=>(0,Ao1 k st x)
 | [],_=>by simp[S7]
 |x::xs,0=>by simp[S7]
 |x::xs,i+1=>by simp only[S7,List.getElem?_cons_succ];exact Ao2
theorem Mu {k:Nat} {st:St}:∀{az:List Opd},(S7 k st az).length=az.length
 | []=>rfl
 |x::xs=>by simp[S7,Mu (az:=xs)]
theorem Ba8:∀(n:Nat) (r:St),noN n r=List.replicate n (0,SV.no)++r
 |0,r=>rfl
 |n+1,r=>by simp[noN,Ba8 n r,List.replicate_succ]
theorem Am1 {N:Nat}:∀{xs:List Operand} {az:List Opd},inOk N xs az=true→xs.length=az.length
 | [],[],_=>rfl
 |x::xs,y::ys,h=>by
  simp only[inOk,Bool.and_eq_true]at h
  simp[Am1 h.2]
 | [],_::_,h=>by cases h
 |_::_,[],h=>by cases h
theorem Azn {N:Nat}:∀{xs:List Operand} {az:List Opd} {i:Nat} {y:Opd},inOk N xs az=true→az[i]?=some y→∃x,xs[i]?=some x∧Ax N x y=true
 |x::xs,y::ys,0,_,h,hy=>by
  simp only[inOk,Bool.and_eq_true]at h
  cases hy
  exact⟨x,rfl,h.1⟩
 |x::xs,y::ys,i+1,_,h,hy=>by
  simp only[inOk,Bool.and_eq_true]at h
  exact Azn (xs:=xs) h.2 hy
 | [],[],_,_,_,hy=>by cases hy
 | [],_::_,_,_,h,_=>by cases h
 |_::_,[],_,_,h,_=>by cases h
section
variable{P:Program}{G:Mem}{σ:Lab}{Fr:Mem}{w0:Base}{w:World}{st:St}{a:Act}
theorem A9c {k:Nat} {pre:St} {a':Act} {x:Operand} {y:Opd} {s:Nat} (h:Rel G σ Fr w0 st a w) (ho:Ax w0.n x y=true) (hl:pre.length=k) (hk:a'.tmps.size=k):
 RepSV G (σ.shift k) w (pre++stUp k st) (val a' ⟨w0.w,k,a.tmps++w0.hid⟩) s (Ao1 k st y) (a.eval x)∧
  ∀hh,Ao1 k st y= .par hh→a.eval x=val a' ⟨w0.w,k,a.tmps++w0.hid⟩ hh∧k≤hh:=by
 have valH:∀i,val a' ⟨w0.w,k,a.tmps++w0.hid⟩ (i+k)=val a w0 i:=by
  intro i
  unfold val
  rw[Array.getD_eq_getD_getElem?,Array.getElem?_append_right (by omega),hk,Nat.add_sub_cancel,Array.getD_eq_getD_getElem?]
 cases y with
 |c i=>
  refine⟨?_,fun hh e=>by cases e⟩
  exact Sy ho G
 |nils e sz=>
  refine⟨?_,fun hh e=>by cases e⟩
  have:=H9 (a:=a) ho
  show VecAt _ _ _ _ _ _ _ _
  rw[this]
  exact⟨[],OwnsR.nil _ _ _,by simp[RepIs],by simp,by simp[Value.ownBlock]⟩
 |t m=>
  obtain⟨rfl,hm⟩:=Dm ho
  simp only[Ao1]
  cases hs:st[m]? with
  |none=>exact⟨trivial,fun hh e=>by cases e⟩
  |some cur=>
   obtain⟨ver,sv⟩:=cur
   have h1:=h.slot hm hs
   have h2:=RepSV.up (pre:=pre) (vv':=val a' ⟨w0.w,k,a.tmps++w0.hid⟩) hl valH h1
   have hv:a.eval (.tmp m)=val a w0 m:=(Ez (by rw[h.n];exact hm)).symm
   cases sv with
   |v x=>exact⟨h1,fun hh e=>by cases e⟩
   |rp x=>exact⟨h1,fun hh e=>by cases e⟩
   |bor s' j ver=>exact⟨h2,fun hh e=>by cases e⟩
   |sub s' j ver n=>exact⟨h2,fun hh e=>by cases e⟩
   |suf s' j ver n=>exact⟨h2,fun hh e=>by cases e⟩
   |pt s' j ver off r=>exact⟨h2,fun hh e=>by cases e⟩
   |pd s' ver p=>exact⟨h2,fun hh e=>by cases e⟩
   |bd s' ver p=>exact⟨h2,fun hh e=>by cases e⟩
   |bs s' ver p lo n=>exact⟨h2,fun hh e=>by cases e⟩
   |par h0=>exact⟨trivial,fun hh e=>by cases e;rw[hv,valH];exact⟨(h.pars _ _ _ hs).1,Nat.le_add_left _ _⟩⟩
   |box t=>exact⟨trivial,fun hh e=>by cases e;rw[hv,valH];exact⟨rfl,Nat.le_add_left _ _⟩⟩
   |vec e sz l=>exact⟨trivial,fun hh e=>by cases e;rw[hv,valH];exact⟨rfl,Nat.le_add_left _ _⟩⟩
   |own inv t=>exact⟨trivial,fun hh e=>by cases e;rw[hv,valH];exact⟨rfl,Nat.le_add_left _ _⟩⟩
   |_=>exact⟨trivial,fun hh e=>by cases e⟩
def A86 (P:Program) (fn:Func) (N:Nat) (K:SV→St→Prop) (E:St→Prop):Prop:=
 ∀{G:Mem} {σ:Lab} {Fr:Mem} {w0:Base} {B:Base} {a a':Act} {w:World} {st:St},w0.n=N→Rel G σ Fr B st a' w→B.w=w0.w→B.hid=a.tmps++w0.hid→B.n=fn.ntmps→a.defers=[]→a.tmps.size=w0.n→E st→
  ∃v,(results fn a'.tmps).run P w= .ok v w∧∃r G' σ' st',K r st'∧G.le G'∧Rel G' σ' Fr w0 st' a w∧Aow G' σ' w st' (val a w0) r v
theorem FnIn.of_code {f:FuncId} {fn:Func} {c:Code} {s:Stm} {N:Nat} {az:List Opd} {st:St} {K:SV→St→Prop} {E:St→Prop} (hf:P.funcs[f]?=some fn) (hb:fn.body=some c)
 (hc:chkC P fn.ntmps c s=true) (hn:az.length≤fn.ntmps) (hE:A86 P fn N K E) (h:wpS P s ⟨E,noEx,E⟩ (Sw fn.ntmps az st)):FnIn P f N az st K:=by
 intro G σ Fr w0 a w xs hN hr ho
 subst hN
 refine calls_of_wp hf hb ?_
 have hxl:=Am1 ho
 let cargs:=(xs.map a.eval).toArray
 let a0:Act:={tmps:=cargs++Array.replicate (fn.ntmps - cargs.size) undef,defers:=[]}
 have hcs:cargs.size=az.length:=by simp[cargs,hxl]
 have hsz:a0.tmps.size=fn.ntmps:=by simp only[a0,Array.size_append,Array.size_replicate,hcs];omega
 let pre:St:=S7 fn.ntmps st az++List.replicate (fn.ntmps - az.length) (0,SV.no)
 have hpl:pre.length=fn.ntmps:=by simp only[pre,List.length_append,Mu,List.length_replicate];omega
 have hst:Sw fn.ntmps az st=pre++stUp fn.ntmps st:=by
  simp only[Sw,Ba8,pre,List.append_assoc]
 have hrel:Rel G (σ.shift fn.ntmps) Fr ⟨w0.w,fn.ntmps,a.tmps++w0.hid⟩ (pre++stUp fn.ntmps st) a0 w:=by
  have:=Rel.up (pre:=pre) (a':=a0) hr rfl (by rw[hpl,hsz]) ?_
  ·rw[hsz]at this;exact this
  ·rw[hsz]
   intro i ver sv hi
   simp only[pre]at hi
   by_cases h1:i<az.length
   ·rw[List.getElem?_append_left (by rw[Mu];exact h1),Ao2,List.getElem?_eq_getElem h1]at hi
    simp only[Option.map_some,Option.some.injEq,Prod.mk.injEq]at hi
    obtain⟨rfl,rfl⟩:=hi
    obtain⟨x,h2,h3⟩:=Azn ho (List.getElem?_eq_getElem h1)
    have h4:a0.tmps.getD i undef=a.eval x:=by
     simp only[a0]
     rw[Array.getD_eq_getD_getElem?,Array.getElem?_append_left (by rw[hcs];exact h1)]
     simp only[cargs,List.getElem?_toArray,List.getElem?_map,h2]
     rfl
    rw[h4]
    exact A9c hr h3 hpl hsz
   ·rw[List.getElem?_append_right (by rw[Mu];omega),Mu,List.getElem?_replicate]at hi
    split at hi
    ·simp only[Option.some.injEq,Prod.mk.injEq]at hi
     obtain⟨rfl,rfl⟩:=hi
     exact⟨trivial,fun hh e=>by cases e⟩
    ·cases hi
 rw[hst]at h
 refine Code.wp_mono ?_ (Ao6 (w0:=⟨w0.w,fn.ntmps,a.tmps++w0.hid⟩) hc hrel h)
 rintro e a' w' ⟨G',σ',st',hG,hr',hq⟩
 have fin:E st'→a'.defers=[]∧∃v,(results fn a'.tmps).run P w'= .ok v w'∧∃r c G' σ' st',Ending.returned v= .returned c∧K r st'∧G.le G'∧Rel G' σ' Fr w0 st' a w'∧Aow G' σ' w' st' (val a w0) r c:=by
  intro hq
  obtain⟨v,h1,r,G2,σ2,st2,h2,h3,h4,h5⟩:=hE rfl hr' rfl rfl rfl hr.defers hr.n hq
  exact⟨hr'.defers,v,h1,r,v,G2,σ2,st2,rfl,h2,hG.trans h3,h4,h5⟩
 cases e with
 |normal=>exact fin hq
 |ret=>exact fin hq
 |_=>exact hq.elim
theorem A6h {fn:Func} {N:Nat} {rs:List Ret} {K:SV→St→Prop} (hr:Fx P fn.ntmps fn.results.toList rs=true):A86 P fn N K (Bfe P fn.ntmps N rs K):=by
 intro G σ Fr w0 B a a' w st hN hrel hBw hBh hBn had han hq
 subst hN
 obtain⟨us,cs,G2,σ2,st2,q1,q2,q3,q4,q5⟩:=Ahh hrel (by rw[hBn];exact hr) hq
 have hlcs:=RepTup.one q5
 have hresM:(fn.results.mapM (resV a'.tmps)).run P w= .ok cs.toArray w:=by
  rw[Array.mapM_eq_mapM_toList,Sem.run_map,q4]
  rfl
 have hd:=q2.down hBw hBh hBn had han
 have hresV:∃v,(results fn a'.tmps).run P w= .ok v w∧Aow G2 (σ2.unshift fn.ntmps) w (Ma fn.ntmps w0.n (st2.drop fn.ntmps)) (val a w0) (Xw us) v:=by
  rw[Xx,Sem.run_bind,hresM]
  match us,cs,q5,hlcs with
  | [],[],_,_=>exact⟨.tuple #[],by simp[Result.andThen],[], #[],rfl,rfl,rfl⟩
  | [u],[v],h5,_=>
    obtain⟨c',d',e',h6,_⟩:=h5
    cases e'
    exact⟨v,by simp[Result.andThen],h6⟩
  |u::u'::us,v::v'::cs,h5,_=>
   exact⟨.tuple (v::v'::cs).toArray,by simp[Result.andThen],u::u'::us,_,rfl,rfl,Ahg _ _ _ _ h5⟩
 obtain⟨v,h1,h2⟩:=hresV
 exact⟨v,h1,_,G2,_,_,P2 (K:=fun st'=>K (Xw us) st') q3,q1,hd,h2⟩
theorem Ax5 {n N:Nat} {rs:List Ret} {K:SV→St→Prop} {st:St} (h:Kq P n N rs K st):Bfe P n N rs K st:=M.wq_wp h
theorem InlWp.of_body {f:FuncId} {fn:Func} {c:Code} {s:Stm} {rs:List Ret} {n N:Nat} {az:List Opd} {st:St} {K:SV→St→Prop} (hf:P.funcs[f]?=some fn) (hb:fn.body=some c) (hN:fn.ntmps=n)
 (hc:chkC P n c s=true) (hr:Fx P n fn.results.toList rs=true) (hn:az.length≤n)
 (h:litK (Sw n az st) fun st=>wqS P s ⟨Kq P n N rs K,noEx,Kq P n N rs K⟩ st):InlWp P f N az st K:=by
 subst hN
 exact⟨FnIn.of_code hf hb hc hn (A6h hr) (Art (Q:=⟨Kq P fn.ntmps N rs K,noEx,Kq P fn.ntmps N rs K⟩) (fun _ h=>Ax5 h) (fun _ _ h=>h) (fun _ h=>Ax5 h)
  (P2 (K:=fun st=>wqS P s ⟨Kq P fn.ntmps N rs K,noEx,Kq P fn.ntmps N rs K⟩ st) h))⟩
end
end Go.Ab
