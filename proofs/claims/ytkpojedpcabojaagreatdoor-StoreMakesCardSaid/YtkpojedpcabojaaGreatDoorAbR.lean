/- Lemmas -/
import Derived.Test.YtkpojedpcabojaaGreatDoorAbQ
set_option linter.unusedVariables false
set_option linter.unusedSimpArgs false
namespace Go.Ab
def Ahr(n N m1 m2:Nat)(K:SV→St→Prop)(st:St):Prop:=look st m1 fun _ sv=>look st m2 fun _ sv2=>match sv2 with
 | .v (.bool b)=>match sv with
   | .pd s ver p=>n≤s∧M5 (H8 n N (st.drop n)) fun st'=>K (.Lv (s - n) ver p b) st'
   | .own _ t=>M5 (H8 n N (st.drop n)) fun st'=>K (.Mp [t,.it (.bool b)]) st'
   |_=>False
 |_=>False
section
variable{P:Program}
theorem Bhu{fn:Func}{N m1 m2:Nat}{K:SV→St→Prop}(hr:fn.results= #[.tmp m1,.tmp m2])(h1:m1<fn.ntmps)(h2:m2<fn.ntmps):A0p P fn N K (Ahr fn.ntmps N m1 m2 K):=by
 intro G σ Fr w0 B a a' w st hN Vz hBw hBh hBn had han hq;subst hN;obtain⟨⟨v1,sv1⟩,k1,hq⟩:=Lt hq;obtain⟨⟨v2,sv2⟩,k2,hq⟩:=Lt hq;have hd:=Vz.down hBw hBh hBn had han;have Cq:a'.tmps.size=fn.ntmps:=by rw[Vz.n,hBn]
 have e1:=Vz.slot (by rw[hBn];exact h1) k1
 have e2:=Vz.slot (by rw[hBn];exact h2) k2
 have Uv:(results fn a'.tmps).run P w= .ok (.tuple #[a'.eval (.tmp m1),a'.eval (.tmp m2)]) w:=by
  rw[Xn,Sem.run_bind,hr,Gd,Sem.run_map];simp[Xm,Result.andThen,Act.eval,Aq]
 have Re:∀i,val a' B (i+fn.ntmps)=val a w0 i:=by
  intro i;unfold val;rw[Aq,Dm (by omega),Cq,F8,hBh,Aq]
 have hlen:fn.ntmps≤st.length:=by have:=Vz.len;omega
 obtain⟨b,rfl⟩:∃b,sv2= .v (.bool b):=by
  cases sv2 with
  |v x=>cases x with
   |bool b=>exact⟨b,rfl⟩
   |_=>exact hq.elim
  |_=>exact hq.elim
 have e2:a'.eval (.tmp m2)= .bool b:=by
  have:Bb G (.bool b) (a'.eval (.tmp m2)):=e2;rwa [Bb.bool]at this
 rw[e2]at Uv;cases sv1 with
 |pd s ver p=>
  obtain⟨hle,hq⟩:=hq;have hq:=Jo (K:=fun st'=>K (.Lv (s - fn.ntmps) ver p b) st') hq
  refine⟨_,Uv,_,G,_,_,hq,Mem.le.refl G,hd,?_⟩;refine⟨_,rfl,?_⟩;have:=Fa.down (G:=G) (σ:=σ) (w:=w) (st':=st) (vv:=val a w0) (vv':=val a' B) (N:=w0.n) (s:=0) (sv:=.pd s ver p) (c:=a'.eval (.tmp m1)) Re e1 hlen;simp only[SV.down,if_pos hle]at this;exact this
 |own inv t=>
  have hq:=Jo (K:=fun st'=>K (.Mp [t,.it (.bool b)]) st') hq
  refine⟨_,Uv,_,G,_,_,hq,Mem.le.refl G,hd,?_⟩;obtain⟨bs,q1,q2,q3,q4⟩:=(show Dr G σ w m1 t (a'.eval (.tmp m1))from e1);refine⟨_,rfl,bs,q1,q2,q3,fun x hx=>?_⟩
  obtain⟨k,hk⟩:=q4 x hx;obtain⟨j1,j2,j3⟩:=Vz.Bz.own x _ hk;refine⟨j1,j2,?_,j3⟩;unfold Lab.Gr;rw[hk];simp only;rw[if_neg (by omega)]
 |_=>exact hq.elim
theorem Ky.Bjw{f:FuncId}{fn:Func}{c:Code}{s:Ee}{n N m1 m2:Nat}{az:List Bh}{st:St}{K:SV→St→Prop}(hf:P.funcs[f]?=some fn)(hb:fn.body=some c)(hN:fn.ntmps=n)
 (hc:Gy P n c s=true) (hr:fn.results= #[.tmp m1,.tmp m2]) (h1:m1<n) (h2:m2<n) (hn:az.length≤n)
 (h:M5 (Ub n az st) fun st=>Mc P s Lu ⟨Ahr n N m1 m2 K,Pe,Ahr n N m1 m2 K⟩ st):Ky P f N az st K:=by
 subst hN;exact⟨A0s.Abs hf hb hc hn (Bhu hr h1 h2) (Aor (Q:=⟨Ahr fn.ntmps N m1 m2 K,Pe,Ahr fn.ntmps N m1 m2 K⟩) Xw (fun _ h=>h) (fun _ _ h=>h) (fun _ h=>h)
  (Jo (K:=fun st=>Mc P s Lu ⟨Ahr fn.ntmps N m1 m2 K,Pe,Ahr fn.ntmps N m1 m2 K⟩ st) h))⟩
end
end Go.Ab
