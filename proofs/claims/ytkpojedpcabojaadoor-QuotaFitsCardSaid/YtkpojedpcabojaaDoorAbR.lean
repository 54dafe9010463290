/- Lemmas -/
import Derived.Test.YtkpojedpcabojaaDoorAbQ
set_option linter.unusedVariables false
set_option linter.unusedSimpArgs false
namespace Go.Ab
def FinP(n N m1 m2:Nat)(K:SV→St→Prop)(st:St):Prop:=look st m1 fun _ sv=>look st m2 fun _ sv2=>match sv2 with
 | .v (.bool b)=>match sv with
   | .pd s ver p=>n≤s∧litK (Bn n N (st.drop n)) fun st'=>K (.pdt (s - n) ver p b) st'
   | .own _ t=>litK (Bn n N (st.drop n)) fun st'=>K (.tupd [t,.it (.bool b)]) st'
   |_=>False
 |_=>False
section
variable{P:Program}
theorem Adu{fn:Func}{N m1 m2:Nat}{K:SV→St→Prop}(hr:fn.results= #[.tmp m1,.tmp m2])(h1:m1<fn.ntmps)(h2:m2<fn.ntmps):Uq P fn N K (FinP fn.ntmps N m1 m2 K):=by
 intro G σ Fr w0 B a a' w st hN hrel hBw hBh hBn had han hq;subst hN;obtain⟨⟨v1,sv1⟩,k1,hq⟩:=Ca hq;obtain⟨⟨v2,sv2⟩,k2,hq⟩:=Ca hq;have hd:=hrel.down hBw hBh hBn had han;have hsz:a'.tmps.size=fn.ntmps:=by rw[hrel.n,hBn]
 have e1:=hrel.slot (by rw[hBn];exact h1) k1
 have e2:=hrel.slot (by rw[hBn];exact h2) k2
 have hres:(results fn a'.tmps).run P w= .ok (.tuple #[a'.eval (.tmp m1),a'.eval (.tmp m2)]) w:=by
  rw[Ft,Sem.run_bind,hr,Array.mapM_eq_mapM_toList,Sem.run_map];simp[resV,Result.andThen,Act.eval,Array.getD_eq_getD_getElem?]
 have valH:∀i,val a' B (i+fn.ntmps)=val a w0 i:=by
  intro i;unfold val;rw[Array.getD_eq_getD_getElem?,Array.getElem?_append_right (by omega),hsz,Nat.add_sub_cancel,hBh,Array.getD_eq_getD_getElem?]
 have hlen:fn.ntmps≤st.length:=by have:=hrel.len;omega
 obtain⟨b,rfl⟩:∃b,sv2= .v (.bool b):=by
  cases sv2 with
  |v x=>cases x with
   |bool b=>exact⟨b,rfl⟩
   |_=>exact hq.elim
  |_=>exact hq.elim
 have e2:a'.eval (.tmp m2)= .bool b:=by
  have:RepV G (.bool b) (a'.eval (.tmp m2)):=e2;rwa [RepV.bool]at this
 rw[e2]at hres;cases sv1 with
 |pd s ver p=>
  obtain⟨hle,hq⟩:=hq;have hq:=Bo (K:=fun st'=>K (.pdt (s - fn.ntmps) ver p b) st') hq
  refine⟨_,hres,_,G,_,_,hq,Mem.le.refl G,hd,?_⟩;refine⟨_,rfl,?_⟩;have:=RepSV.down (G:=G) (σ:=σ) (w:=w) (st':=st) (vv:=val a w0) (vv':=val a' B) (N:=w0.n) (s:=0) (sv:=.pd s ver p) (c:=a'.eval (.tmp m1)) valH e1 hlen;simp only[SV.down,if_pos hle]at this;exact this
 |own inv t=>
  have hq:=Bo (K:=fun st'=>K (.tupd [t,.it (.bool b)]) st') hq
  refine⟨_,hres,_,G,_,_,hq,Mem.le.refl G,hd,?_⟩;obtain⟨bs,q1,q2,q3,q4⟩:=(show OwnD G σ w m1 t (a'.eval (.tmp m1))from e1);refine⟨_,rfl,bs,q1,q2,q3,fun x hx=>?_⟩
  obtain⟨k,hk⟩:=q4 x hx;obtain⟨j1,j2,j3⟩:=hrel.wok.own x _ hk;refine⟨j1,j2,?_,j3⟩;unfold Lab.unshift;rw[hk];simp only;rw[if_neg (by omega)]
 |_=>exact hq.elim
theorem InlWp.of_bodyP{f:FuncId}{fn:Func}{c:Code}{s:Stm}{n N m1 m2:Nat}{az:List Opd}{st:St}{K:SV→St→Prop}(hf:P.funcs[f]?=some fn)(hb:fn.body=some c)(hN:fn.ntmps=n)
 (hc:Be P n c s=true) (hr:fn.results= #[.tmp m1,.tmp m2]) (h1:m1<n) (h2:m2<n) (hn:az.length≤n)
 (h:litK (En n az st) fun st=>F7 P s Hr ⟨FinP n N m1 m2 K,noEx,FinP n N m1 m2 K⟩ st):InlWp P f N az st K:=by
 subst hN;exact⟨FnIn.of_code hf hb hc hn (Adu hr h1 h2) (Ny (Q:=⟨FinP fn.ntmps N m1 m2 K,noEx,FinP fn.ntmps N m1 m2 K⟩) Fx (fun _ h=>h) (fun _ _ h=>h) (fun _ h=>h)
  (Bo (K:=fun st=>F7 P s Hr ⟨FinP fn.ntmps N m1 m2 K,noEx,FinP fn.ntmps N m1 m2 K⟩ st) h))⟩
end
end Go.Ab
