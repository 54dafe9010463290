/- Lemmas -/
import Derived.Test.YtkpojedpcabojaaDoorAbP
set_option linter.unusedVariables false
set_option linter.unusedSimpArgs false
namespace Go.Ab
open Go.RowKit
section
variable{P:Program}
def OfC(P:Program)(f F:FuncId)(T1 T2:TypeId):Prop:=
 ∀(v1 v2:Value) (W:World),v1.oneCell'=true→v2.oneCell'=true→Calls P f #[v1,v2] W fun e w'=>e= .returned (.func (.func F) #[] #[.pointer (some ⟨W.heap.size+1,0,none⟩),.pointer (some ⟨W.heap.size,0,none⟩)])∧w'=(W.alloc (.cells #[v1] T1)).alloc (.cells #[v2] T2)
theorem Abo{f F:FuncId}{T1 T2:TypeId}{N n m:Nat}{st:St}{K:SV→St→Prop}(hC:OfC P f F T1 T2)
 (hq:(A3n (.t n) X3 fun s v p _=>rdI (.t m) fun x=>.Hh (x.isAgg=false) fun _=>.chk fun st=>K (.ocl F x s v p) st).wq P (fun _=>False) st):Aqw P f N [.t n,.t m] st K:=by
 refine⟨fun G σ Fr w0 a w xs hN hr ho=>?_⟩
 subst hN
 match xs,ho with
 | [],ho=>simp[As0]at ho
 | [x],ho=>simp[As0]at ho
 |x::y::z::r,ho=>simp[As0]at ho
 | [x,y],ho=>
   simp only[As0,Bool.and_true,Ap]at ho;obtain⟨s,cur,inv,tr,p,u,r,v,h1,hs,hp0,hpt,hat,hf,hle⟩:=Mo hr ho.1 (M.At1 hq);obtain⟨i,h2,hi⟩:=J8 hr ho.2 h1;obtain⟨hag,hK⟩:=h2;have Azi:([x,y].map a.eval).toArray= #[a.eval x,a.eval y]:=by simp
   rw[Azi];have Bud:=hpt;obtain⟨v0,b,off,cs,g1,g2,g3⟩:=Bud;have hy:D8 G i [a.eval y]:=by
    unfold C7 at hi;rw[hag]at hi;exact hi
   refine(hC (a.eval x) (a.eval y) w (by rw[g3];rfl) (D8.one i _ hy _ (by simp))).mono ?_
   rintro e w' ⟨rfl,rfl⟩;have hr1:Rel G σ Fr w0 st a (w.alloc (.cells #[a.eval x] T1)):=hr.A5e (World.grownBy_alloc _ _ none) (by intro b e;cases e)
   obtain⟨k1,k2,k3⟩:=hr.Fc.fresh (Bz w.heap.size);obtain⟨j1,j2,j3⟩:=hr1.Fc.fresh (Bz _);have hr2:Rel G σ Fr w0 st a ((w.alloc (.cells #[a.eval x] T1)).alloc (.cells #[a.eval y] T2)):=hr1.A5e (World.grownBy_alloc _ _ none) (by intro b e;cases e)
   have Hr:(w.alloc (.cells #[a.eval x] T1)).heap.size=w.heap.size+1:=by simp
   rw[Hr]at j1 j2 j3;have Ak3:=heap_alloc_new (w.alloc (.cells #[a.eval x] T1)) (.cells #[a.eval y] T2);rw[Hr]at Ak3;refine⟨.ocl F i s v p,_,G,σ,st,rfl,hK,Mem.le.refl G,hr2,w.heap.size+1, #[a.eval y],T2,⟨j1,j2,j3,by simp⟩,Ak3,hy,w.heap.size,a.eval x,T1,⟨rfl,by omega⟩,⟨k1,k2,k3,by simp;omega⟩,?_,_,hs,hle,fun Ap9 t' e' _ _=>?_⟩
   ·rw[K8 _ _ _ (by rw[Hr];omega)]
    exact heap_alloc_new w _
   ·cases e';refine hpt.tr (show Ac5 G σ w s tr (val a w0 s)from hr.Eb s cur _ hs) fun b' k hb=>⟨hb,?_⟩
    have Ze:=(hr.Fc.own b' _ hb).2.2;rw[K8 _ _ b' (by rw[Hr];omega)]
    exact K8 w _ b' Ze
end

def A2y(n N m1 m2:Nat)(K:SV→St→Prop)(st:St):Prop:=look st m1 fun _ sv=>look st m2 fun _ sv2=>match sv2 with
 | .v (.bool b)=>match sv with
   | .pd s ver p=>n≤s∧As1 (Bn n N (st.drop n)) fun st'=>K (.pdt (s - n) ver p b) st'
   | .own _ t=>As1 (Bn n N (st.drop n)) fun st'=>K (.Ati [t,.it (.bool b)]) st'
   |_=>False
 |_=>False
section
variable{P:Program}
theorem Adu{fn:Func}{N m1 m2:Nat}{K:SV→St→Prop}(hr:fn.results= #[.tmp m1,.tmp m2])(h1:m1<fn.ntmps)(h2:m2<fn.ntmps):Uq P fn N K (A2y fn.ntmps N m1 m2 K):=by
 intro G σ Fr w0 B a a' w st hN Aw6 hBw hBh hBn had han hq;subst hN;obtain⟨⟨v1,sv1⟩,k1,hq⟩:=Ca hq;obtain⟨⟨v2,sv2⟩,k2,hq⟩:=Ca hq;have hd:=Aw6.down hBw hBh hBn had han;have Hr:a'.tmps.size=fn.ntmps:=by rw[Aw6.n,hBn]
 have e1:=Aw6.slot (by rw[hBn];exact h1) k1
 have e2:=Aw6.slot (by rw[hBn];exact h2) k2
 have Aw7:(results fn a'.tmps).run P w= .ok (.tuple #[a'.eval (.tmp m1),a'.eval (.tmp m2)]) w:=by
  rw[Ft,Sem.run_bind,hr,Ak1,Sem.run_map];simp[Ax0,Result.andThen,Act.eval,Bt]
 have Aup:∀i,val a' B (i+fn.ntmps)=val a w0 i:=by
  intro i;unfold val;rw[Bt,Aah (by omega),Hr,Amh,hBh,Bt]
 have hlen:fn.ntmps≤st.length:=by have:=Aw6.len;omega
 obtain⟨b,rfl⟩:∃b,sv2= .v (.bool b):=by
  cases sv2 with
  |v x=>cases x with
   |bool b=>exact⟨b,rfl⟩
   |_=>exact hq.elim
  |_=>exact hq.elim
 have e2:a'.eval (.tmp m2)= .bool b:=by
  have:C7 G (.bool b) (a'.eval (.tmp m2)):=e2;rwa [C7.bool]at this
 rw[e2]at Aw7;cases sv1 with
 |pd s ver p=>
  obtain⟨hle,hq⟩:=hq;have hq:=Bo (K:=fun st'=>K (.pdt (s - fn.ntmps) ver p b) st') hq
  refine⟨_,Aw7,_,G,_,_,hq,Mem.le.refl G,hd,?_⟩;refine⟨_,rfl,?_⟩;have:=Ait.down (G:=G) (σ:=σ) (w:=w) (st':=st) (vv:=val a w0) (vv':=val a' B) (N:=w0.n) (s:=0) (sv:=.pd s ver p) (c:=a'.eval (.tmp m1)) Aup e1 hlen;simp only[SV.down,if_pos hle]at this;exact this
 |own inv t=>
  have hq:=Bo (K:=fun st'=>K (.Ati [t,.it (.bool b)]) st') hq
  refine⟨_,Aw7,_,G,_,_,hq,Mem.le.refl G,hd,?_⟩;obtain⟨bs,q1,q2,q3,q4⟩:=(show Ac5 G σ w m1 t (a'.eval (.tmp m1))from e1);refine⟨_,rfl,bs,q1,q2,q3,fun x hx=>?_⟩
  obtain⟨k,hk⟩:=q4 x hx;obtain⟨j1,j2,j3⟩:=Aw6.Fc.own x _ hk;refine⟨j1,j2,?_,j3⟩;unfold Lab.Amk;rw[hk];simp only;rw[if_neg (by omega)]
 |_=>exact hq.elim
theorem Aqw.Bi6{f:FuncId}{fn:Func}{c:Code}{s:Stm}{n N m1 m2:Nat}{az:List D6}{st:St}{K:SV→St→Prop}(hf:P.funcs[f]?=some fn)(hb:fn.body=some c)(hN:fn.ntmps=n)
 (hc:Be P n c s=true) (hr:fn.results= #[.tmp m1,.tmp m2]) (h1:m1<n) (h2:m2<n) (hn:az.length≤n)
 (h:As1 (En n az st) fun st=>F7 P s noY ⟨A2y n N m1 m2 K,Atg,A2y n N m1 m2 K⟩ st):Aqw P f N az st K:=by
 subst hN;exact⟨A99.Az8 hf hb hc hn (Adu hr h1 h2) (Ny (Q:=⟨A2y fn.ntmps N m1 m2 K,Atg,A2y fn.ntmps N m1 m2 K⟩) Fx (fun _ h=>h) (fun _ _ h=>h) (fun _ h=>h)
  (Bo (K:=fun st=>F7 P s noY ⟨A2y fn.ntmps N m1 m2 K,Atg,A2y fn.ntmps N m1 m2 K⟩ st) h))⟩
end
end Go.Ab
