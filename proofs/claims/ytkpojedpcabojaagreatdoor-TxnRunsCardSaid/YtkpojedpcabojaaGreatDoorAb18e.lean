/- Lemmas -/
import Derived.Test.YtkpojedpcabojaaGreatDoorAb18
set_option linter.unusedVariables false
set_option linter.unusedSimpArgs false
namespace Go.Ab
section
variable{P:Program}
theorem Ab8{G:Mem}{σ:Lab}{Fr:Mem}{w0:Base}{w:World}{st:St}{a:Act}(h:Rel G σ Fr w0 st a w){nc off:Nat}{ps:List Nat}{xs:List D6}{args:List Operand}{tmps:Array Value}
 (hx:As0 w0.n args xs=true) (hps:∀p∈ps,p<nc) (ht:tmps.size=nc) (hv:∀i,i<nc→tmps.getD i undef=val a w0 (off+i)):
 Rel G (σ.shift nc) Fr ⟨w,nc,a.tmps++w0.hid⟩ (Gc nc off ps xs st) {tmps:=(ps.zip (args.map a.eval)).foldl (fun t (p,v)=>t.setIfInBounds p v) tmps,defers:=[]} w:=by
 let a':Act:={tmps:=(ps.zip (args.map a.eval)).foldl (fun t (p,v)=>t.setIfInBounds p v) tmps,defers:=[]}
 have Hr:a'.tmps.size=nc:=Xp.trans ht
 let pre:St:=Fu nc st ps xs (C6 nc off st 0 nc [])
 have hrl:(C6 nc off st 0 nc []).length=nc:=by rw[Kr];rfl
 have hpl:pre.length=nc:=by show(Fu nc st ps xs _).length=nc;rw[Nq,hrl]
 have hst:Gc nc off ps xs st=pre++Ast nc st:=by
  unfold Gc;rw[Ay,Wh (by rw[hrl];exact hps)]
 rw[hst];have:=Rel.up (pre:=pre) (a':=a') h rfl (by rw[hpl,Hr]) ?_
 ·rw[Hr]at this;exact this
 rw[Hr];refine Tj (R:=fun s sv c=>Ait G (σ.shift nc) w (pre++Ast nc st) (val a' ⟨w,nc,a.tmps++w0.hid⟩) s sv c∧∀hh,sv= .par hh→c=val a' ⟨w,nc,a.tmps++w0.hid⟩ hh∧nc≤hh)
  (by rw[Bh];exact(Gg hx).symm) (by rw[ht,hrl]) ?_ ?_
 ·intro i x v h1 h2 s;obtain⟨y,h3,h4⟩:=P4 hx h1;rw[Ev,h3]at h2;cases h2;exact Sq h h4 hpl Hr
 ·intro s ver sv hs;have Ze:s<nc:=by have:=(A7.1 hs).1;omega
  rw[Ps nc 0 s Ze,E3]at hs;cases hs;rw[hv s Ze];exact Mw h hpl Hr
theorem Aer{G:Mem}{σ:Lab}{Fr:Mem}{w0:Base}{w:World}{st:St}{a:Act}(h:Rel G σ Fr w0 st a w){b:Nat}{o:Obj}(hb:Fr b=some o):σ b=none:=by
 cases hs:σ b with
 |none=>rfl
 |some Gf=>have:=(h.Fc.own b Gf hs).2.1;rw[hb]at this;cases this
theorem Aa8{Fr:Mem}{w0:Base}{fa fb:Ad3→St→Prop}{n nc off l:Nat}{ps:List Nat}{rec:Loop}{ca cb:Code}
 (ihA:∀{G:Mem} {σ:Lab} {Fr:Mem} {w0:Base} {st:St} {a:Act} {w:World} {Q:Ad3},w0.n=nc→Rel G σ Fr w0 st a w→fa Q st→ca.wpIn (Wd (some l)) 0 P (lift G Fr w0 Q) a w)
 (ihB:∀{G:Mem} {σ:Lab} {Fr:Mem} {w0:Base} {st:St} {a:Act} {w:World} {Q:Ad3},w0.n=nc→Rel G σ Fr w0 st a w→fb Q st→cb.wpIn (Wd (some l)) 0 P (lift G Fr w0 Q) a w)
 (hr1:rec.state= .ready) (hr2:rec.pending=none) (hr3:rec.params=ps.toArray) (hr4:rec.assign=ca) (hr5:rec.body=cb) (hr6:rec.tmps.size=nc) (hps:∀p∈ps,p<nc)
 (hv:∀i,i<nc→rec.tmps.getD i undef=w0.hid.getD (off - n+i) undef) (A24:n≤off) (hn:w0.n=n):Auy P (A49 P fa fb n nc off ps l rec) Fr w0:=by
 intro ro o y y' args ts az G σ Fr' st a w K next E ho hy hin hle hr hY Atc C2
 unfold A49 at hY;split at hY
 case h_2=>exact hY.elim
 rename_i v l' Ao8 hsy;obtain⟨rfl,rfl,hlen,hfa⟩:=hY;have Dh:=hr.Eb y v _ hsy;obtain⟨Art,Aoe,A5k⟩:=(show A20 σ w y (.ready l' Ao8) (val a w0 y)from Dh);rw[←hy]at Art;have Akd:=hr.Fc.own l' _ Aoe;have Buq:(Ao8.params.zip (args.map a.eval)).foldl (fun tmps (t,a)=>tmps.setIfInBounds t a) Ao8.tmps=(ps.zip (args.toList.map a.eval)).foldl (fun t (p,v)=>t.setIfInBounds p v) Ao8.tmps:=by
  rw[hr3, ←Array.foldl_toList,Array.toList_zip,Array.toList_map]
 have Ar2:(args.map a.eval).size=Ao8.params.size:=by
  rw[hr3,Array.size_map, ←Array.length_toList,Gg hin,hlen];simp
 have Aih:(execOp a.eval o).run P w= .ok (.round l' Ao8.fn ((ps.zip (args.toList.map a.eval)).foldl (fun t (p,v)=>t.setIfInBounds p v) Ao8.tmps) ca cb) w:=by
  have h1:=run_yield (P:=P) (args:=args.map a.eval) A5k Ar2;rw[Buq,hr4,hr5]at h1;simp only[execOp,ho,resolve,Art,Deferred.ofValue,Sem.run_bind,Sem.run_pure,Result.andThen,invoke,Array.empty_append];exact h1
 refine⟨fun _ _=>trivial,?_⟩
 rw[Oper.semAt_eq _ _ _ (by rw[ho];intro c e;cases e),Aih,Oper.uponIn_round]
 refine⟨fun k=>absurd k (by simp[Wd,Fence.wide]),roundIn_of_wpIn trivial ?_⟩
 have hL0:(σ.drop y) l'=none:=by simp[Lab.drop,Aoe]
 have hFl:Fr' l'=none:=Akd.2.1;have hM:=hr.defers;have r1:=hr.drop (ver:=v+1) hsy (Ej _);have r2:Rel G (σ.drop y) (Fr'.Cx l' (.loop Ao8)) w0 (st.set y (v+1,.no)) a w:=by
  refine r1.Az9 l' hL0 Akd.1 (fun _ _=>rfl) rfl rfl rfl rfl (fun x o hx=>?_) rfl (hM.mono fun b hb=>?_)
  ·by_cases e:x=l'
   ·subst e;rw[Mem.Awa]at hx;cases hx;exact .inr ⟨rfl,A5k⟩
   ·rw[Mem.Auk e]at hx;exact .inl ⟨e,hx⟩
  ·rw[Mem.Auk (by rintro rfl;rw[hFl]at hb;cases hb)];exact hb
 have Btu:∀i,i<nc→Ao8.tmps.getD i undef=val a w0 (off+i):=by
  intro i hi;rw[hv i hi];unfold val;have Hr:=hr.n;rw[hn]at Hr;rw[Bt,Bt,Aah (by omega),Hr,show off+i - n=off - n+i by omega]
 have r3:=Ab8 r2 hin hps hr6 Btu;refine wpIn_mono (ihA rfl r3 hfa) ?_;rintro e a2 w2 ⟨G2,σ2,Fr3,st2,hG2,hF3,r4,hq⟩;cases e with
 |exit i=>exact hq.elim
 |ret=>exact hq.elim
 |goto i=>exact hq.elim
 |panic c=>exact hq.elim
 |outgrown=>exact hq.elim
 |normal=>
 have Baz:Fr3 l'=some (.loop Ao8):=hF3 _ _ Mem.Awa;have hh2:=r4.Fc.frame _ _ Baz;refine⟨_,run_beginRound hh2 hr1,?_⟩;have r5:Rel G2 σ2 (Fr3.Cx l' (.loop {Ao8 with state:=.busy})) ⟨w,nc,a.tmps++w0.hid⟩ st2 a2 (w2.putObj l' (.loop {Ao8 with state:=.busy})):=by
  refine r4.Az9 l' (Aer r4 Baz) (r4.Fc.apart _ _ Baz) (fun x hx=>World.putObj_heap_other hx) (by simp) rfl rfl rfl (fun x o hx=>?_) rfl (r4.defers.mono fun b hb=>?_)
  ·by_cases e:x=l'
   ·subst e;rw[Mem.Awa]at hx;cases hx;exact .inr ⟨rfl,World.putObj_heap_same (E2 r4 Baz)⟩
   ·rw[Mem.Auk e]at hx;exact .inl ⟨e,hx⟩
  ·rw[Mem.Auk (by rintro rfl;rw[Baz]at hb;cases hb)];exact hb
 refine wpIn_mono (ihB rfl r5 hq) ?_;have fin:∀{G5:Mem} {σ5:Lab} {Fr5:Mem} {st5:St} {a5:Act} {w5:World} (j:Option (Option Nat)),G2.le G5→(Fr3.Cx l' (.loop {Ao8 with state:=.busy})).le Fr5→Rel G5 σ5 Fr5 ⟨w,nc,a.tmps++w0.hid⟩ st5 a5 w5→
  H9 P n nc y l' Ao8 o.dst K j st5→∃v w',(Instr.endRound l' (j.map A5m)).run P w5= .ok v w'∧next (a.put o.dst v) w':=by
  intro G5 σ5 Fr5 st5 a5 w5 j hG5 hF5 r6 Azj;have Ba0:Fr5 l'=some (.loop {Ao8 with state:=.busy}):=hF5 _ _ Mem.Awa
  have hh5:=r6.Fc.frame _ _ Ba0;have A8c:=E2 r6 Ba0;have Bn6:Fr'.le Fr5:=fun b o hb=>by
   have Cf:b≠l':=by rintro rfl;rw[hFl]at hb;cases hb
   refine hF5 b o ?_;rw[Mem.Auk Cf];refine hF3 b o ?_;rw[Mem.Auk Cf];exact hb
  refine⟨_,_,run_endRound (j.map A5m) hh5,?_⟩;obtain⟨A44,Ak3⟩:∃r:Loop,r=(match j with|none=>Ao8|some j=>A91 Ao8 j):=⟨_,rfl⟩
  have Azm:({({Ao8 with state:=.busy}:Loop)with state:=if(j.map A5m).isNone=true then .ready else .done,pending:=j.map A5m}:Loop)=A44:=by
   rw[Ak3];cases j with
   |none=>
    obtain⟨s1,s2,s3,s4,s5,s6,s7,s8⟩:=Ao8;simp only at hr1 hr2;subst hr1 hr2;rfl
   |some j=>rfl
  have hjn:(j.map A5m).isNone=j.isNone:=by cases j<;>rfl
  rw[Azm,hjn];have hb:Uc w0.w w:=hr.Bd0;have r7:=r6.down (w0:=w0) (a:=a) (n:=nc) hb rfl rfl (hM.mono fun b hb=>Bn6 b _ hb) hr.n
  have hσ5:=Aer r6 Ba0;have r8:Rel G5 (σ5.Amk nc) Fr' w0 (Bn nc w0.n (st5.drop nc)) a (w5.putObj l' (.loop A44)):=by
   refine r7.Az9 l' ?_ (r6.Fc.apart _ _ Ba0) (fun x hx=>World.putObj_heap_other hx) (by simp) rfl rfl rfl (fun x o hx=>.inl ⟨?_,Bn6 x o hx⟩) rfl hM
   ·simp[Lab.Amk,hσ5]
   ·rintro rfl;rw[hFl]at hx;cases hx
  unfold H9 at Azj;rw[←hn]at Azj;split at Azj
  case h_2=>exact Azj.elim
  rename_i cur Au0;have hL5:(σ5.Amk nc) l'=none:=by simp[Lab.Amk,hσ5]
  obtain⟨σ9,h9⟩:∃σ9:Lab,σ9=fun b=>if b=l' then some (y,0)else((σ5.Amk nc).drop y) b:=⟨_,rfl⟩
  have r9:Rel G5 σ9 Fr' w0 ((Bn nc w0.n (st5.drop nc)).set y (cur.1+1,.yl (Bfo l' Ao8 j))) a (w5.putObj l' (.loop A44)):=by
   have hd:=r8.Fc.drop y;refine r8.self (old:=cur) ⟨hd.fixed,?_,?_,hd.frame,hd.os,hd.tape,hd.output,hd.size,hd.apart,hd.amb⟩ (Mem.le.refl G5) Au0 (Ej _) ?_ ?_
   ·intro b Gf hb;rw[h9]at hb;simp only at hb;split at hb
    ·rename_i e;subst e;exact⟨r6.Fc.apart _ _ Ba0,hFl,by rw[World.putObj_size];exact A8c⟩
    ·exact hd.own b Gf hb
   ·intro b b' Gf hb Sy;rw[h9]at hb Sy;simp only at hb Sy;split at hb<;>split at Sy
    ·rename_i e e';rw[e,e']
    ·cases hb;exact absurd rfl (Lab.Ade.1 Sy).1
    ·cases Sy;exact absurd rfl (Lab.Ade.1 hb).1
    ·exact hd.inj b b' Gf hb Sy
   ·intro s' hs' b k hb;refine⟨?_,rfl⟩;rw[h9];simp only;rw[if_neg (by rintro rfl;rw[hL5]at hb;cases hb)]
    exact Lab.Ade.2 ⟨hs',hb⟩
   ·have hvy:val a w0 y= .func (.yield l') #[] #[]:=by rw[←hy];exact Art
    have h9l:σ9 l'=some (y,0):=by rw[h9];simp
    have Boi:(w5.putObj l' (.loop A44)).heap[l']?=some (.loop A44):=World.putObj_heap_same A8c;cases j with
    |none=>exact⟨hvy,h9l,by rw[Boi,Ak3]⟩
    |some j=>exact⟨hvy,h9l,by rw[Boi,Ak3]⟩
  obtain⟨σ10,Bux,r10,hk⟩:=r9.Gj (sv:=.v (.bool j.isNone)) (c:=.bool j.isNone) C2 (fun _ _ _ _=>(by
   show C7 G5 (.bool j.isNone) (.bool j.isNone);unfold C7;rw[if_neg (by simp[I.isAgg])]
   rfl)) Azj
  exact Atc G5 σ10 Bux _ _ (hG2.trans hG5) r10 hk
 rintro e a5 w5 ⟨G5,σ5,Fr5,st5,hG5,hF5,r6,hq5⟩;cases e with
 |normal=>exact fin none hG5 hF5 r6 hq5
 |exit i=>exact fin (some (some i)) hG5 hF5 r6 hq5
 |ret=>exact fin (some none) hG5 hF5 r6 hq5
 |goto i=>exact hq5.elim
 |panic c=>exact hq5.elim
 |outgrown=>exact hq5.elim
end

section
variable{P:Program}
theorem Nj{k:Nat}{st:St}:∀{l:List (Nat × Nat)} {r:St},C0 k st l r=C0 k st l []++r
 | [],r=>rfl
 |(h,v)::l,r=>by simp only[C0,H3];rw[Nj]
theorem Br{k:Nat}{st:St}:∀{l:List (Nat × Nat)},(C0 k st l []).length=l.length
 | []=>rfl
 |(h,v)::l=>by simp only[C0,Ho];rw[Br]
theorem D4{st:St}{vv:Nat→Value}:∀{l:List (Nat × Nat)} {us:List Value},Anm st vv l us→us.length=l.length
 | [],[],_=>rfl
 |(h,v)::l,u::us,hr=>by simp only[Ho];rw[D4 hr.2]
 | [],_::_,h=>h.elim
 |_::_,[],h=>by cases h
theorem Qd{G:Mem}{σ:Lab}{Fr:Mem}{w0:Base}{w:World}{st:St}{a:Act}(h:Rel G σ Fr w0 st a w){k:Nat}{pre:St}{a':Act}(hl:pre.length=k)(hk:a'.tmps.size=k):
 ∀{l:List (Nat × Nat)} {us:List Value},Anm st (val a w0) l us→∀(i ver:Nat) (sv:SV),(C0 k st l [])[i]?=some (ver,sv)→∃u:Value,us[i]?=some u∧∀s:Nat,
  Ait G (σ.shift k) w (pre++Ast k st) (val a' ⟨w,k,a.tmps++w0.hid⟩) s sv u∧∀hh,sv= .par hh→u=val a' ⟨w,k,a.tmps++w0.hid⟩ hh∧k≤hh
 | [],_,_,i,ver,sv,hi=>by simp[C0]at hi
 |(m,v)::l,u::us,⟨⟨cur,h1,h2,h3⟩,h4⟩,0,ver,sv,hi=>by
  simp only[C0,Fa,A0,He]at hi;obtain⟨rfl,rfl⟩:=hi;refine⟨u,rfl,fun s=>?_⟩
  simp only[Aet,h1];split
  ·rename_i e;rw[h3 e];exact Mw h hl hk
  ·exact⟨trivial,fun hh e=>by cases e⟩
 |(m,v)::l,u::us,⟨_,h4⟩,i+1,ver,sv,hi=>by
  simp only[C0,Du]at hi ⊢;exact Qd h hl hk h4 i ver sv hi
 |_::_,[],hr,_,_,_,_=>by cases hr
theorem Abh{f:FuncId}{fn:Func}(hfn:P.funcs[f]?=some fn)(hf:Ko P f=true){ws args:Array Value}{w:World}:(invoke (.fn (.func f) ws) args).run P w= .ok (.enter f (args++ws)) w:=by
 unfold Ko at hf;rw[hfn]at hf;simp only[Ap,Ad8,beq_eq_false_iff_ne,ne_eq]at hf;obtain⟨h1,h2⟩:=hf;have h4:fn.body≠none:=by rintro e;rw[e]at h1;cases h1
 simp[invoke,callFunc,hfn,h2,h4]
theorem Vs{G:Mem}{σ:Lab}{Fr:Mem}{w0:Base}{w:World}{st:St}{a:Act}{g:Nat}{f:FuncId}{fn:Func}{n nc:Nat}{ps:List Nat}{psA:Array Nat}{it sa sb:Stm}{ca cb ci:Code}{Q:Ad3}{us ws:List Value}{stI:Nat→Loop→St}
 (ihI:∀{Y:Hd} {G:Mem} {σ:Lab} {Fr:Mem} {w0:Base} {st:St} {a:Act} {w:World} {Q:Ad3},w0.n=n→Auy P Y Fr w0→Rel G σ Fr w0 st a w→wpS P it Y Q st→ci.wpIn (Wd none) 0 P (lift G Fr w0 Q) a w)
 (ihA:∀{l:Nat} {G:Mem} {σ:Lab} {Fr:Mem} {w0:Base} {st:St} {a:Act} {w:World} {Q:Ad3},w0.n=nc→Rel G σ Fr w0 st a w→wpS P sa noY Q st→ca.wpIn (Wd (some l)) 0 P (lift G Fr w0 Q) a w)
 (ihB:∀{l:Nat} {G:Mem} {σ:Lab} {Fr:Mem} {w0:Base} {st:St} {a:Act} {w:World} {Q:Ad3},w0.n=nc→Rel G σ Fr w0 st a w→wpS P sb noY Q st→cb.wpIn (Wd (some l)) 0 P (lift G Fr w0 Q) a w)
 (hN:w0.n=nc) (hg:g<nc) (Ber:psA.toList=ps) (hps:∀p∈ps,p<nc) (hfo:Ko P f=true) (hfn:P.funcs[f]?=some fn) (hnt:fn.ntmps=n) (Aw7:fn.results.isEmpty=true) (A9x:fn.body=some ci)
 (hr:Rel G σ Fr w0 st a w) (hva:a.eval (.tmp g)= .func (.func f) us.toArray ws.toArray) (hle:us.length+1+ws.length≤n)
 (hst:∀{Fr1:Mem} {a1 ai:Act} {W:World} {l:Nat} {rec:Loop},Rel G σ Fr1 w0 st a1 W→a1.tmps=a.tmps→ai.defers=[]→ai.tmps.size=n→
   (∀i,ai.tmps.getD i undef=(us++ .func (.yield l) #[] #[]::ws++List.replicate (n - (us.length+1+ws.length)) undef).getD i undef)→G l=none→Fr1 l=none→σ l=none→l<W.heap.size→W.heap[l]?=some (.loop rec)→
   ∃σ3,Rel G σ3 Fr1 ⟨W,n,a1.tmps++w0.hid⟩ (stI l rec) ai W)
 (hq:∀(l:Nat) (rec:Loop),wpS P it (A49 P (wpS P sa noY) (wpS P sb noY) n nc n ps l rec) ⟨Gh n nc us.length l rec Q,fun _ _=>False,Gh n nc us.length l rec Q⟩ (stI l rec)):(Code.rangeFunc (.tmp g) psA ca cb).wpIn (Wd none) 0 P (lift G Fr w0 Q) a w:=by
 refine wpIn_rangeFunc ?_;intro fn0 _;obtain⟨D,hD⟩:∃D,D=w.heap.size:=⟨_,rfl⟩;obtain⟨rec,Azm⟩:∃rec:Loop,rec= {state:=.ready,pending:=none,fn:=fn0,tmps:=a.tmps,params:=psA,assign:=ca,body:=cb,defers:=w.heap.size}:=⟨_,rfl⟩;obtain⟨W,hW⟩:∃W,W=(w.alloc (.deferred (some []))).alloc (.loop rec):=⟨_,rfl⟩
 let a1:Act:={a with defers:=mark D::a.defers}
 have Bs6:W.heap.size=D+2:=by rw[hW,World.size_alloc,World.size_alloc,hD]
 have hWD:W.heap[D]?=some (.deferred (some [])):=by
  rw[hW,hD];show(Array.push (Array.push w.heap _) _)[w.heap.size]?=_;simp[Am3]
 have hWL:W.heap[D+1]?=some (.loop rec):=by
  rw[hW,hD];have:=World.alloc_heap_new (w.alloc (.deferred (some []))) (.loop rec);rwa [World.size_alloc]at this
 have hold:∀b,b<w.heap.size→W.heap[b]?=w.heap[b]?:=by
  intro b hb;rw[hW];show(Array.push (Array.push w.heap _) _)[b]?=_;rw[Am3,Am3];simp[show ¬b=w.heap.size+1 by omega,show ¬b=w.heap.size by omega]
 have r0:Rel G σ Fr w0 st a W:=hr.grow (by rw[hW];rfl) (by rw[hW];rfl) (by rw[hW];rfl) (by omega) hold
 have noF:∀b,D≤b→Fr b=none:=fun b hb=>by
  cases hf:Fr b with
  |none=>rfl
  |some o=>have:=E2 hr hf;omega
 have noG:∀b,D≤b→G b=none:=fun b hb=>by
  cases hf:G b with
  |none=>rfl
  |some o=>have:=Ady hr hf;omega
 have noS:∀b,D≤b→σ b=none:=fun b hb=>by
  cases hf:σ b with
  |none=>rfl
  |some o=>have:=(hr.Fc.own b o hf).2.2;omega
 have hF1:Fr.le (Fr.Cx D (.deferred (some []))):=Mem.Bpe (noF D (Bz _));have r1:Rel G σ (Fr.Cx D (.deferred (some []))) w0 st a1 W:=by
  refine r0.Az9 D (noS D (Bz _)) (noG D (Bz _)) (fun _ _=>rfl) rfl rfl rfl rfl (fun x o hx=>?_) rfl ?_
  ·by_cases e:x=D
   ·subst e;rw[Mem.Awa]at hx;cases hx;exact .inr ⟨rfl,hWD⟩
   ·rw[Mem.Auk e]at hx;exact .inl ⟨e,hx⟩
  ·obtain⟨rs,k1,k2,k3⟩:=hr.defers;refine⟨D::rs,by show mark D::a.defers=_;rw[k1];rfl,Hw.2 ⟨fun hm=>?_,k2⟩,fun r hm=>?_⟩
   ·have:=(k3 D hm).2;rw[noF D (Bz _)]at this;cases this
   ·rcases Bg.1 hm with e|hm
    ·rw[e];exact⟨by rw[hD];exact hr.Fc.size,Mem.Awa⟩
    ·refine⟨(k3 r hm).1,?_⟩;rw[Mem.Auk (by intro e;have:=(k3 r hm).2;rw[noF r (by omega)]at this;cases this)]
     exact(k3 r hm).2
 obtain⟨yv,hyv⟩:∃yv:Value,yv= .func (.yield (D+1)) #[] #[]:=⟨_,rfl⟩;have Bgf:=run_enterLoop_outer (P:=P) (w:=w) fn0 a.tmps psA ca cb;rw[←Azm, ←hW, ←hD]at Bgf;refine⟨D+1,[mark D],W,{target:=.fn (.func f) ws.toArray,args:=us.toArray++ #[yv]},W,f,us.toArray++ #[yv]++ws.toArray,W,Bgf,?_,fun _ _=>trivial,Abh hfn hfo,fun k=>absurd k (by simp[Wd,Fence.wide]),?_⟩
 ·simp only[resolve,rangeCall,hva,Deferred.ofValue,Sem.run_pure];simp[Act.eval,hyv]
 refine callsIn_of_wp_marks hfn A9x trivial ?_;have Bnk:(us.toArray++ #[yv]++ws.toArray).size=us.length+1+ws.length:=by simp;omega
 let ai:Act:={tmps:=us.toArray++ #[yv]++ws.toArray++Array.replicate (fn.ntmps - (us.toArray++ #[yv]++ws.toArray).size) undef,defers:=[]}
 have Ayt:ai.tmps.size=n:=by
  show(us.toArray++ #[yv]++ws.toArray++Array.replicate (fn.ntmps - (us.toArray++ #[yv]++ws.toArray).size) undef).size=n;rw[Array.size_append,Array.size_replicate,Bnk,hnt];omega
 have Az3:∀i,ai.tmps.getD i undef=(us++yv::ws++List.replicate (n - (us.length+1+ws.length)) undef).getD i undef:=by
  intro i;show(us.toArray++ #[yv]++ws.toArray++Array.replicate (fn.ntmps - (us.toArray++ #[yv]++ws.toArray).size) undef).getD i undef=_;rw[Bnk,hnt,Bt, ←Array.getElem?_toList,Amw];simp
 obtain⟨σ3,r3⟩:=hst (l:=D+1) (rec:=rec) (ai:=ai) r1 rfl rfl Ayt (fun i=>by rw[Az3 i,hyv]) (noG _ (by omega)) (by rw[Mem.Auk (by omega)];exact noF _ (by omega)) (noS _ (by omega)) (by rw[Bs6];omega) hWL
 have hY:Auy P (A49 P (wpS P sa noY) (wpS P sb noY) n nc n ps (D+1) rec) (Fr.Cx D (.deferred (some []))) ⟨W,n,a1.tmps++w0.hid⟩:=by
  refine Aa8 (ca:=ca) (cb:=cb) ihA ihB (by rw[Azm]) (by rw[Azm]) (by rw[Azm, ←Ber]) (by rw[Azm]) (by rw[Azm]) (by rw[Azm];show a.tmps.size=nc;rw[hr.n,hN]) hps (fun i hi=>?_) (Bz _) rfl
  rw[Azm,Nat.sub_self,E3];show a.tmps.getD i undef=(a.tmps++w0.hid).getD i undef;rw[Bt,Bt,Aez (by rw[hr.n,hN];exact hi)]
 refine wpIn_mono (ihI rfl hY r3 (hq (D+1) rec)) ?_;have fin:∀{G':Mem} {σ':Lab} {Fr':Mem} {st':St} {a':Act} {w':World},G.le G'→(Fr.Cx D (.deferred (some []))).le Fr'→Rel G' σ' Fr' ⟨W,n,a1.tmps++w0.hid⟩ st' a' w'→Gh n nc us.length (D+1) rec Q st'→
  LeavesInM (Wd none) 0 P fn a'.tmps (rangePost (Wd none) 0 P (D+1) (lift G Fr w0 Q) a1) a'.defers .returning w':=by
  intro G' σ' Fr' st' a' w' hG' hF' r4 Azj;refine r4.leave (by simp) (hF') (fun b o hb=>?_) ?_
  ·exact E2 r1 hb
  intro w2 r5;refine⟨.tuple #[],?_,?_⟩
  ·have hre:fn.results= #[]:=by simpa using Aw7
   simp[results,hre,Sem.run_bind,Result.andThen]
  have Bi2:∀{nr:Loop} {st2:St},st2=Bn n nc (st'.drop n)→σ' (D+1)=some (us.length,0)→w2.heap[D+1]?=some (.loop nr)→nr.state≠ .busy→
   (Q':St→Prop)→Q' st2→(∀{a2:Act} {w3:World} {σ2:Lab},Rel G' σ2 (Fr.Cx D (.deferred (some []))) w0 st2 a2 w3→(match nr.pending with
     |none=>lift G Fr w0 Q .normal a2 w3
     |some c=>c.wpIn (Wd none) 0 P (lift G Fr w0 Q) a2 w3))→
   rangePost (Wd none) 0 P (D+1) (lift G Fr w0 Q) a1 (.returned (.tuple #[])) w2:=by
   intro nr st2 Bug Aoe A5k Bp6 Q' _ hgo;refine⟨nr.pending,_,run_endLoop A5k Bp6,?_⟩;have Akd:=r5.Fc.own _ _ Aoe;have r6:=r5.down (w0:=w0) (a:=a1) (n:=n) r1.Bd0 rfl rfl r1.defers r1.n;have r7:Rel G' (σ'.Amk n) (Fr.Cx D (.deferred (some []))) w0 (Bn n w0.n (st'.drop n)) a1 (w2.putObj (D+1) (.loop {nr with state:=.exhausted})):=by
    refine r6.Az9 (D+1) ?_ Akd.1 (fun x hx=>World.putObj_heap_other hx) (by simp) rfl rfl rfl (fun x o hx=>.inl ⟨?_,hx⟩) rfl r1.defers
    ·unfold Lab.Amk;rw[Aoe];simp only;rw[if_neg (by omega)]
    ·rintro rfl;rw[Akd.2.1]at hx;cases hx
   rw[hN, ←Bug]at r7;exact hgo r7
  unfold Gh at Azj;split at Azj
  ·rename_i v l' Ao8 hs;obtain⟨rfl,rfl,hq'⟩:=Azj;obtain⟨_,k2,k3⟩:=(show A20 σ' w2 us.length (.ready (D+1) Ao8) _ from r5.Eb _ _ _ hs);refine Bi2 rfl k2 k3 (by rw[Azm];simp) Q.nrm hq' fun r7=>?_
   rw[Azm];exact⟨G',_,_,_,hG',hF1,r7,hq'⟩
  ·rename_i v l' Ao8 hs;obtain⟨rfl,hq'⟩:=Azj;obtain⟨_,k2,k3⟩:=(show A20 σ' w2 us.length (.jump (D+1) Ao8 none) _ from r5.Eb _ _ _ hs);refine Bi2 rfl k2 k3 (by simp[A91]) Q.ret hq' fun r7=>?_
   exact wpIn_ret ⟨G',_,_,_,hG',hF1,r7,hq'⟩
  ·rename_i v l' Ao8 id hs;obtain⟨rfl,hq'⟩:=Azj;obtain⟨_,k2,k3⟩:=(show A20 σ' w2 us.length (.jump (D+1) Ao8 (some id)) _ from r5.Eb _ _ _ hs);refine Bi2 rfl k2 k3 (by simp[A91]) (Q.ex id) hq' fun r7=>?_
   exact wpIn_exit ⟨G',_,_,_,hG',hF1,r7,hq'⟩
  ·exact Azj.elim
 rintro e a' w' ⟨G',σ',Fr',st',hG',hF',r4,hq'⟩;cases e with
 |normal=>exact fin hG' hF' r4 hq'
 |ret=>exact fin hG' hF' r4 hq'
 |exit i=>exact hq'.elim
 |goto i=>exact hq'.elim
 |panic c=>exact hq'.elim
 |outgrown=>exact hq'.elim
theorem Adr{G:Mem}{σ:Lab}{w0:Base}{st:St}{a:Act}{fs cs:List (Nat × Nat)}{us ws:List Value}{n:Nat}(hus:Anm st (val a w0) fs us)(hws:Anm st (val a w0) cs ws)(hle:fs.length+1+cs.length≤n):
 ∀{Fr1:Mem} {a1 ai:Act} {W:World} {l:Nat} {rec:Loop},Rel G σ Fr1 w0 st a1 W→a1.tmps=a.tmps→ai.defers=[]→ai.tmps.size=n→
  (∀i,ai.tmps.getD i undef=(us++ .func (.yield l) #[] #[]::ws++List.replicate (n - (us.length+1+ws.length)) undef).getD i undef)→G l=none→Fr1 l=none→σ l=none→l<W.heap.size→W.heap[l]?=some (.loop rec)→
  ∃σ3,Rel G σ3 Fr1 ⟨W,n,a1.tmps++w0.hid⟩ (Kj n st fs cs l rec) ai W:=by
 intro Fr1 a1 ai W l rec r1 ha1 had Ayt Az3 hGl hFl hSl hlW hWL;have hvv:val a1 w0=val a w0:=by unfold val;rw[ha1]
 rw[←hvv]at hus hws;have hul:=D4 hus;have hwl:=D4 hws;obtain⟨yv,hyv⟩:∃yv:Value,yv= .func (.yield l) #[] #[]:=⟨_,rfl⟩;rw[←hyv,hul,hwl]at Az3
 let pre:St:=C0 n st fs []++(0,SV.no)::(C0 n st cs []++List.replicate (n - (fs.length+1+cs.length)) (0,SV.no))
 have hpl:pre.length=n:=by
  show(C0 n st fs []++(0,SV.no)::(C0 n st cs []++List.replicate _ (0,SV.no))).length=n;simp only[Hq,Ho,Br,An1];omega
 have r2:Rel G (σ.shift n) Fr1 ⟨W,n,a1.tmps++w0.hid⟩ (pre++Ast n st) ai W:=by
  have:=Rel.up (pre:=pre) (a':=ai) r1 had (by rw[hpl,Ayt]) ?_
  ·rw[Ayt]at this;exact this
  rw[Ayt];intro s ver sv hs;rw[Az3];simp only[pre]at hs;by_cases h1:s<fs.length
  ·rw[Fi (by rw[Br];exact h1)]at hs
   obtain⟨u,hu,Dh⟩:=Qd r1 hpl Ayt hus s ver sv hs;have:(us++yv::ws++List.replicate (n - (fs.length+1+cs.length)) undef).getD s undef=u:=by
    rw[Amw,Df,Fi (by omega),hu]
    rfl
   rw[this];exact Dh s
  ·rw[G4 (by rw[Br];omega),Br]at hs
   by_cases h2:s=fs.length
   ·subst h2;rw[Nat.sub_self]at hs;cases hs;exact⟨trivial,fun hh e=>by cases e⟩
   ·obtain⟨i,rfl⟩:∃i,s=fs.length+1+i:=⟨s - (fs.length+1),by omega⟩
    rw[show fs.length+1+i - fs.length=i+1 by omega,Du]at hs
    by_cases h3:i<cs.length
    ·rw[Fi (by rw[Br];exact h3)]at hs
     obtain⟨u,hu,Dh⟩:=Qd r1 hpl Ayt hws i ver sv hs;have:(us++yv::ws++List.replicate (n - (fs.length+1+cs.length)) undef).getD (fs.length+1+i) undef=u:=by
      rw[Amw,Df,G4 (by omega),show fs.length+1+i - us.length=i+1 by omega,H3,Du,
       Fi (by omega),hu]
      rfl
     rw[this];exact Dh _
    ·rw[G4 (by rw[Br];omega),Amo]at hs
     split at hs
     ·cases hs;exact⟨trivial,fun hh e=>by cases e⟩
     ·cases hs
 have hyT:val ai ⟨W,n,a1.tmps++w0.hid⟩ fs.length=yv:=by
  rw[J2 (by rw[Ayt];omega)]
  show ai.tmps.getD fs.length undef=yv;rw[Az3,Amw,Df,G4 (by omega),hul,Nat.sub_self]
  rfl
 have hpy:(pre++Ast n st)[fs.length]?=some (0,.no):=by
  rw[Fi (by omega)]
  simp only[pre];rw[G4 (by rw[Br];exact Bz _),Br,Nat.sub_self]
  rfl
 have hSh:(σ.shift n) l=none:=by unfold Lab.shift;rw[hSl];rfl
 obtain⟨σ3,hσ3⟩:∃σ3:Lab,σ3=fun b=>if b=l then some (fs.length,0)else σ.shift n b:=⟨_,rfl⟩
 have r3:Rel G σ3 Fr1 ⟨W,n,a1.tmps++w0.hid⟩ ((pre++Ast n st).set fs.length (1,.yl (.ready l rec))) ai W:=by
  have hd:=r2.Fc;refine r2.self (old:=(0,.no)) ⟨hd.fixed,?_,?_,hd.frame,hd.os,hd.tape,hd.output,hd.size,hd.apart,hd.amb⟩ (Mem.le.refl G) hpy (Ej 0) ?_ ?_
  ·intro b Gf hb;rw[hσ3]at hb;simp only at hb;split at hb
   ·rename_i e;subst e;exact⟨hGl,hFl,hlW⟩
   ·exact hd.own b Gf hb
  ·intro b b' Gf hb Sy;rw[hσ3]at hb Sy;simp only at hb Sy;split at hb<;>split at Sy
   ·rename_i e e';rw[e,e']
   ·cases hb;obtain⟨i,k1,_⟩:=Eu Sy;omega
   ·cases Sy;obtain⟨i,k1,_⟩:=Eu hb;omega
   ·exact hd.inj b b' Gf hb Sy
  ·intro s' hs' b k hb;refine⟨?_,rfl⟩;rw[hσ3];simp only;rw[if_neg (by rintro rfl;rw[hSh]at hb;cases hb)]
   exact hb
  ·exact⟨by rw[hyT,hyv],by rw[hσ3];simp,hWL⟩
 have hst:(pre++Ast n st).set fs.length (1,.yl (.ready l rec))=Kj n st fs cs l rec:=by
  unfold Kj;rw[Q8,Nj (l:=cs),Nj (l:=fs)];simp only[pre,Df,H3];rw[List.set_append_right _ _ (by rw[Br];exact Bz _),Br,Nat.sub_self]
  rfl
 rw[hst]at r3;exact⟨_,r3⟩
theorem Rel.Be1{G:Mem}{σ:Lab}{Fr:Mem}{w0:Base}{w:World}{st:St}{a:Act}{d v b:Nat}{new:SV}(h:Rel G σ Fr w0 st a w)(hd:st[d]?=some (v,.no))(h1:G b=none)(h2:Fr b=none)(h3:σ b=none)(h4:b<w.heap.size)
 (hno:∀b k,σ b≠some (d,k)) (Ak3:Ait G (fun x=>if x=b then some (d,0)else σ x) w (st.set d (v+1,new)) (val a w0) d new (val a w0 d)) (hp:∀h,new= .par h→val a w0 d=val a w0 h∧w0.n≤h:=by intro _ e;cases e)
 (Aw2:∀inv t,new≠ .own inv t:=by intro _ _ e;cases e):Rel G (fun x=>if x=b then some (d,0)else σ x) Fr w0 (st.set d (v+1,new)) a w:=by
 have hw:=h.Fc;refine h.self (old:=(v,.no)) ⟨hw.fixed,?_,?_,hw.frame,hw.os,hw.tape,hw.output,hw.size,hw.apart,hw.amb⟩ (Mem.le.refl G) hd (Ej v) ?_ Ak3 hp (fun inv t e=>absurd e (Aw2 inv t))
 ·intro x Gf hx;try dsimp only at hx
  split at hx
  ·rename_i e;subst e;exact⟨h1,h2,h4⟩
  ·exact hw.own x Gf hx
 ·intro x x' Gf hx hx'
  (try dsimp only at hx hx')
  split at hx<;>split at hx'
  ·rename_i e e';rw[e,e']
  ·cases hx;exact absurd hx' (hno _ _)
  ·cases hx';exact absurd hx (hno _ _)
  ·exact hw.inj x x' Gf hx hx'
 ·intro s' hs' x k hx;refine⟨?_,rfl⟩;try dsimp only
  rw[if_neg (by rintro rfl;rw[h3]at hx;cases hx)]
  exact hx
theorem Ab2{G:Mem}{σ:Lab}{w0:Base}{st:St}{a:Act}{g v:Nat}{f:FuncId}{x:I}{s ver:Nat}{p:List Nat}{ws:List Value}{n:Nat}(hsg:st[g]?=some (v,.ocl f x s ver p))(Art:val a w0 g= .func (.func f) #[] ws.toArray)(hn:3≤n)(Bip:s≠g):
 ∀{Fr1:Mem} {a1 ai:Act} {W:World} {l:Nat} {rec:Loop},Rel G σ Fr1 w0 st a1 W→a1.tmps=a.tmps→ai.defers=[]→ai.tmps.size=n→
  (∀i,ai.tmps.getD i undef=(([]:List Value)++ .func (.yield l) #[] #[]::ws++List.replicate (n - (([]:List Value).length+1+ws.length)) undef).getD i undef)→G l=none→Fr1 l=none→σ l=none→l<W.heap.size→W.heap[l]?=some (.loop rec)→
  ∃σ3,Rel G σ3 Fr1 ⟨W,n,a1.tmps++w0.hid⟩ (H5 n g v x s ver p st l rec) ai W:=by
 intro Fr1 a1 ai W l rec r1 ha1 had Ayt Az3 hGl hFl hSl hlW hWL;have hvv:val a1 w0=val a w0:=by unfold val;rw[ha1]
 obtain⟨gb,xs,tb,kb,hb1,hb2,hb3,gq,c0,ty,kk,⟨hc,hbq⟩,hg1,hg2,cur,q1,q2,q3⟩:=r1.Eb g v _ hsg;rw[hvv,Art]at hc;simp only[Value.func.injEq,true_and]at hc;obtain rfl:ws=[.pointer (some ⟨gb,0,none⟩),.pointer (some ⟨gq,0,none⟩)]:=by
  have:=congrArg Array.toList hc;simpa using this
 obtain⟨e1,e2,e3⟩:=r1.Fc.own gb _ hb1;obtain⟨e4,e5,e6⟩:=r1.Fc.own gq _ hg1;have hlb:l≠gb:=by rintro rfl;rw[hSl]at hb1;cases hb1
 have hlq:l≠gq:=by rintro rfl;rw[hSl]at hg1;cases hg1
 have ra:=r1.drop (ver:=v+1) hsg (Ej _)
 let B:Base:=⟨W,n,a1.tmps++w0.hid⟩
 let S0:St:=Ast n (st.set g (v+1,.no))
 have rb:Rel G ((σ.drop g).shift n) Fr1 B (List.replicate n (0,SV.no)++S0) ai W:=by
  have:=Rel.up (pre:=List.replicate n (0,SV.no)) (a':=ai) ra had (by rw[An1,Ayt]) ?_
  ·rw[Ayt]at this;exact this
  intro s' Gu sv hs;rw[Amo]at hs;split at hs
  ·cases hs;exact⟨trivial,fun hh e=>by cases e⟩
  ·cases hs
 obtain⟨m,rfl⟩:∃m,n=m+3:=⟨n - 3,by omega⟩
 have Dh:List.replicate (m+3) (0,SV.no)++S0=(0,SV.no)::(0,SV.no)::(0,SV.no)::(List.replicate m (0,SV.no)++S0):=by simp[List.replicate_succ]
 rw[Dh]at rb;have vT:∀i,i<3→val ai B i=ai.tmps.getD i undef:=by
  intro i hi;rw[J2 (by rw[Ayt];omega)]
  rfl
 have v0:val ai B 0= .func (.yield l) #[] #[]:=by rw[vT 0 (by omega),Az3];rfl
 have v1:val ai B 1= .pointer (some ⟨gb,0,none⟩):=by rw[vT 1 (by omega),Az3];rfl
 have v2:val ai B 2= .pointer (some ⟨gq,0,none⟩):=by rw[vT 2 (by omega),Az3];rfl
 have vH:∀i,val ai B (i+(m+3))=val a1 w0 i:=by
  intro i;show(ai.tmps++(a1.tmps++w0.hid)).getD _ _=(a1.tmps++w0.hid).getD _ _;rw[Bt,Aah (by omega),Ayt,Amh,Bt]
 have sD:∀b,(∃k,σ b=some (g,k))→((σ.drop g).shift (m+3)) b=none:=by
  rintro b ⟨k,hb⟩;simp[Lab.shift,Lab.drop,hb]
 have sL:((σ.drop g).shift (m+3)) l=none:=by simp[Lab.shift,Lab.drop,hSl]
 have sN:∀b d k,d<3→((σ.drop g).shift (m+3)) b≠some (d,k):=by
  intro b d k hd e;obtain⟨i,h1,_⟩:=Eu e;omega
 have r3:=rb.Be1 (d:=0) (v:=0) (b:=l) (new:=.yl (.ready l rec)) rfl hGl hFl sL hlW (fun b k=>sN b 0 k (by omega)) ⟨v0,by simp,hWL⟩
 have r4:=r3.Be1 (d:=1) (v:=0) (b:=gb) (new:=.box (.one (.i x))) rfl e1 e2 (by(try dsimp only);rw[if_neg (Ne.symm hlb)];exact sD gb ⟨_,hb1⟩) e3
  (fun b k=>by
    try dsimp only
    split
    ·intro e;cases e
    ·exact sN b 1 k (by omega)) ⟨gb,xs,tb,v1,by simp,hb2,hb3⟩
 have r5:=r4.Be1 (d:=2) (v:=0) (b:=gq) (new:=.bp (s+(m+3)) ver p) rfl e4 e5 (by(try dsimp only);rw[if_neg (Ne.symm hbq),if_neg (Ne.symm hlq)];exact sD gq ⟨_,hg1⟩) e6
  (fun b k=>by
    try dsimp only
    split
    ·intro e;cases e
    ·split
     ·intro e;cases e
     ·exact sN b 2 k (by omega)) ⟨gq,c0,ty,0,v2,by simp,hg2,(cur.1,cur.2.up (m+3)),?_,q2,fun inv d e hp ha=>?_⟩
 ·exact⟨_,by
   have:H5 (m+3) g v x s ver p st l rec=(((((0,SV.no)::(0,SV.no)::(0,SV.no)::(List.replicate m (0,SV.no)++S0)).set 0 (0+1,.yl (.ready l rec))).set 1 (0+1,.box (.one (.i x)))).set 2 (0+1,.bp (s+(m+3)) ver p)):=by
    unfold H5;rw[Q8,show m+3 - 3=m by omega]
    rfl
   rw[this];exact r5⟩
 ·show(List.replicate m (0,SV.no)++S0)[s+m]?=_;rw[G4 (by rw[An1];omega),An1,Amh,Jc,B3 (Ne.symm Bip),q1]
  rfl
 ·have:=q3 inv d (Ku e) hp ha;rw[vH s];exact this
theorem Ab7{G:Mem}{σ:Lab}{Fr:Mem}{w0:Base}{w:World}{st:St}{a:Act}{g:Nat}{f:FuncId}{fn:Func}{n nc:Nat}{ps:List Nat}{psA:Array Nat}{it sa sb:Stm}{ca cb ci:Code}{Q:Ad3}
 (ihI:∀{Y:Hd} {G:Mem} {σ:Lab} {Fr:Mem} {w0:Base} {st:St} {a:Act} {w:World} {Q:Ad3},w0.n=n→Auy P Y Fr w0→Rel G σ Fr w0 st a w→wpS P it Y Q st→ci.wpIn (Wd none) 0 P (lift G Fr w0 Q) a w)
 (ihA:∀{l:Nat} {G:Mem} {σ:Lab} {Fr:Mem} {w0:Base} {st:St} {a:Act} {w:World} {Q:Ad3},w0.n=nc→Rel G σ Fr w0 st a w→wpS P sa noY Q st→ca.wpIn (Wd (some l)) 0 P (lift G Fr w0 Q) a w)
 (ihB:∀{l:Nat} {G:Mem} {σ:Lab} {Fr:Mem} {w0:Base} {st:St} {a:Act} {w:World} {Q:Ad3},w0.n=nc→Rel G σ Fr w0 st a w→wpS P sb noY Q st→cb.wpIn (Wd (some l)) 0 P (lift G Fr w0 Q) a w)
 (hN:w0.n=nc) (hg:g<nc) (Ber:psA.toList=ps) (hps:∀p∈ps,p<nc) (hfo:Ko P f=true) (hfn:P.funcs[f]?=some fn) (hnt:fn.ntmps=n) (Aw7:fn.results.isEmpty=true) (A9x:fn.body=some ci)
 (hr:Rel G σ Fr w0 st a w) (hq:wpS P (.A5a g f n nc ps it sa sb) noY Q st):(Code.rangeFunc (.tmp g) psA ca cb).wpIn (Wd none) 0 P (lift G Fr w0 Q) a w:=by
 unfold wpS Bhu at hq;split at hq
 ·rename_i vg f' fs cs hsg;obtain⟨rfl,hle,hq⟩:=hq;obtain⟨us,ws,Art,hus,hws⟩:=(show Ay0 st (val a w0) f' fs cs (val a w0 g)from hr.Eb g vg _ hsg);have hul:=D4 hus;have hwl:=D4 hws;refine Vs ihI ihA ihB hN hg Ber hps hfo hfn hnt Aw7 A9x hr (us:=us) (ws:=ws) ?_ (by omega) (Adr hus hws hle) (fun l rec=>?_)
  ·rw[←Art,J2 (by rw[hr.n,hN];exact hg)]
  ·rw[hul];exact hq l rec
 ·rename_i v f' x s ver p hsg;obtain⟨rfl,⟨hn3,Bip⟩,hq⟩:=hq;obtain⟨ws,hws,Art⟩:∃ws:List Value,ws.length=2∧val a w0 g= .func (.func f') #[] ws.toArray:=by
   obtain⟨gb,xs,tb,kb,hb1,hb2,hb3,gq,c0,ty,kk,⟨hc,_⟩,_⟩:=hr.Eb g v _ hsg;exact⟨[_,_],rfl,hc⟩
  refine Vs ihI ihA ihB hN hg Ber hps hfo hfn hnt Aw7 A9x hr (us:=[]) (ws:=ws) ?_ (by simp[hws];omega) (Ab2 hsg Art hn3 Bip) (fun l rec=>hq l rec)
  rw[←Art,J2 (by rw[hr.n,hN];exact hg)]
 ·exact hq.elim
end

section
theorem A4{P:Program}{b:Frame}{a:Act}{k:List Item}{cs:List Frame}{w:World}{c:Code}:step P (lone (b.atR a (.code (.scope c)::k)) cs w)= .next (lone (b.atR a (.code c::.inScope c::k)) cs w):=
 step_lone_go (by simp[stepG,stepG.exec,Frame.atR])
theorem E9{P:Program}{b:Frame}{a:Act}{k:List Item}{cs:List Frame}{w:World}{c:Code}:step P (lone (b.atR a (.inScope c::k)) cs w)= .next (lone (b.atR a k) cs w):=
 step_lone_go (by simp[stepG,stepG.exec,Frame.atR])
theorem Gk{F:Fence}{n:Nat}{P:Program}{Q:Exit→Act→World→Prop}{a:Act}{w:World}{c:Code}(h:c.wpIn F n P (Exit.noGoto Q) a w):(Code.scope c).wpIn F n P Q a w:=by
 intro b k cs hro hb hr;have h0:(lone (b.atR a (.code (.scope c)::k)) cs w).fenced P F:=fenced_calm hb hr rfl;obtain⟨e,a₁,w₁,hq,Azi⟩:=h b (.inScope c::k) cs hro hb hr;cases e with
 |normal=>exact⟨.normal,a₁,w₁,hq,.head h0 A4 (StepsIn.trans Azi (.one (fenced_calm hb hr rfl) E9))⟩
 |exit id=>
  have hx:exitTo id (.inScope c::k)=exitTo id k:=by simp[exitTo]
  exact⟨.exit id,a₁,w₁,hq,fun k' hk=>.head h0 A4 (Azi.1 k' (by rw[hx];exact hk)),
   fun Hm hk=>let⟨k₁,h1,h2⟩:=Azi.2 Hm (by rw[hx];exact hk);⟨k₁,h1,.head h0 A4 h2⟩⟩
 |goto l=>exact hq.elim
 |ret=>exact⟨_,a₁,w₁,hq,.of_steps (.one h0 A4) Azi⟩
 |panic ch=>exact⟨_,a₁,w₁,hq,.of_steps (.one h0 A4) Azi⟩
 |outgrown=>exact⟨_,a₁,w₁,hq,.of_steps (.one h0 A4) Azi⟩
variable{P:Program}
theorem Qs:∀{s:Stm} {ro:Option Nat} {w0:Base} {Y:Hd} {c:Code} {Q:Ad3} {G:Mem} {σ:Lab} {Fr:Mem} {st:St} {a:Act} {w:World},
 (ro=none∨s.noR=true)→Auy P Y Fr w0→Be P w0.n c s=true→Rel G σ Fr w0 st a w→wpS P s Y Q st→c.wpIn (Wd ro) 0 P (lift G Fr w0 Q) a w:=by
 intro s;induction s with
 |skip=>
  intro ro w0 Y c Q G σ Fr st a w hro hY hc hr hq;cases c<;>first|(simp[Be]at hc;done)|skip
  ·exact wpIn_skip ⟨G,σ,Fr,st,Mem.le.refl G,Mem.le.refl Fr,hr,hq⟩
  ·exact wpIn_label ⟨G,σ,Fr,st,Mem.le.refl G,Mem.le.refl Fr,hr,hq⟩
 |ops l=>
  intro ro w0 Y c Q G σ Fr st a w hro hY hc hr hq;cases c<;>first|(simp[Be]at hc;done)|skip
  rename_i id ops A6v;cases A6v<;>first|(simp[Be]at hc;done)|skip
  simp only[Be]at hc;exact wpIn_region_list (Wz hY hc hr hq fun G' σ' st' a' w' hG Hm hq'=>⟨G',σ',Fr,st',hG,Mem.le.refl Fr,Hm,hq'⟩)
 |drw es l=>
  intro ro w0 Y c Q G σ Fr st a w hro hY hc hr hq;cases c<;>first|(simp[Be]at hc;done)|skip
  rename_i id ops A6v;cases A6v<;>first|(simp[Be]at hc;done)|skip
  simp only[Be,Ap,beq_iff_eq]at hc;exact Acx hc.1.1.1 hc.2 hc.1.1.2 hc.1.2 hr hq fun G' σ' st' a' w' hG Hm hq'=>⟨G',σ',Fr,st',hG,Mem.le.refl Fr,Hm,hq'⟩
 |Ban ms l x=>
  intro ro w0 Y c Q G σ Fr st a w hro hY hc hr hq;cases c<;>first|(simp[Be]at hc;done)|skip
  rename_i id ops A6v;cases A6v<;>first|(simp[Be]at hc;done)|skip
  simp only[Be,Ap,beq_iff_eq]at hc;exact Afk hY hc.1.1.1.1 hc.2 hc.1.2 hc.1.1.1.2 hc.1.1.2 hr hq fun G' σ' st' a' w' hG Hm hq'=>⟨G',σ',Fr,st',hG,Mem.le.refl Fr,Hm,hq'⟩
 |seq x y ihx ihy=>
  intro ro w0 Y c Q G σ Fr st a w hro hY hc hr hq;cases c<;>first|(cases y<;>simp[Be]at hc;done)|skip
  case scope c'=>
   cases y<;>first|(simp[Be]at hc;done)|skip
   simp only[Be]at hc;have hx:ro=none∨x.noR=true:=hro.imp id fun h=>by simp only[Stm.noR,Ap]at h;exact h.1
   refine Gk (wpIn_mono (ihx hx hY hc hr hq) ?_);rintro e a' w' ⟨G',σ',Fr',st',hG,hF,Hm,hq'⟩;cases e with
   |normal=>exact⟨G',σ',Fr',st',hG,hF,Hm,hq'⟩
   |exit i=>exact⟨G',σ',Fr',st',hG,hF,Hm,hq'⟩
   |ret=>exact⟨G',σ',Fr',st',hG,hF,Hm,hq'⟩
   |_=>exact hq'.elim
  simp only[Be,Ap]at hc;have hx:ro=none∨x.noR=true:=hro.imp id fun h=>by simp only[Stm.noR,Ap]at h;exact h.1
  have hy:ro=none∨y.noR=true:=hro.imp id fun h=>by simp only[Stm.noR,Ap]at h;exact h.2
  refine wpIn_seq (wpIn_mono (ihx hx hY hc.1 hr hq) ?_);rintro e a' w' ⟨G',σ',Fr',st',hG,hF,Hm,hq'⟩;cases e with
  |normal=>exact wpIn_mono (ihy hy (hY.le hF) hc.2 Hm hq') (fun e a w h=>Yh hG hF h)
  |exit i=>exact⟨G',σ',Fr',st',hG,hF,Hm,hq'⟩
  |ret=>exact⟨G',σ',Fr',st',hG,hF,Hm,hq'⟩
  |_=>exact hq'.elim
 |A8m ks x y ihx ihy=>
  intro ro w0 Y c Q G σ Fr st a w hro hY hc hr hq;cases c<;>first|(simp[Be]at hc;done)|skip
  simp only[Be,Ap]at hc;have hx:ro=none∨x.noR=true:=hro.imp id fun h=>by simp only[Stm.noR,Ap]at h;exact h.1
  have hy:ro=none∨y.noR=true:=hro.imp id fun h=>by simp only[Stm.noR,Ap]at h;exact h.2
  obtain⟨X,J,R,hb,ha⟩:=hq;refine wpIn_seq (wpIn_mono (ihx hx hY hc.1 hr ha) ?_);rintro e a' w' ⟨G',σ',Fr',st',hG,hF,Hm,hq'⟩;cases e with
  |normal=>
   obtain⟨z,h1,h2⟩:=hq';exact wpIn_mono (ihy hy (hY.le hF) hc.2 (by rw[←h1];exact Hm.norm ks) (hb z h2)) (fun e a w h=>Yh hG hF h)
  |exit i=>exact⟨G',σ',Fr',st',hG,hF,Hm,hq'⟩
  |ret=>exact⟨G',σ',Fr',st',hG,hF,Hm,hq'⟩
  |_=>exact hq'.elim
 |cond c' x y ihx ihy=>
  intro ro w0 Y c Q G σ Fr st a w hro hY hc hr hq;cases c<;>first|(simp[Be]at hc;done)|skip
  simp only[Be,Ap]at hc;obtain⟨⟨h1,h2⟩,h3⟩:=hc;have hx:ro=none∨x.noR=true:=hro.imp id fun h=>by simp only[Stm.noR,Ap]at h;exact h.1
  have hy:ro=none∨y.noR=true:=hro.imp id fun h=>by simp only[Stm.noR,Ap]at h;exact h.2
  obtain⟨i,h4,h5⟩:=J8 hr h1 hq;split at h4
  ·rename_i t;rw[C7.bool]at h5;refine wpIn_cond h5 ?_;cases t with
   |true=>exact ihx hx hY h2 hr (h4.1 rfl)
   |false=>exact ihy hy hY h3 hr (h4.2 rfl)
  ·exact h4.elim
 |block id x ih=>
  intro ro w0 Y c Q G σ Fr st a w hro hY hc hr hq;cases c<;>first|(simp[Be]at hc;done)|skip
  simp only[Be,Ap,beq_iff_eq]at hc;obtain⟨rfl,h1⟩:=hc;refine wpIn_block (wpIn_mono (ih hro hY h1 hr hq) ?_);rintro e a' w' ⟨G',σ',Fr',st',hG,hF,Hm,hq'⟩;cases e with
  |exit i=>
   simp only[Exit.inBlock];simp only[brk]at hq';split
   ·rename_i hi;rw[if_pos hi]at hq';exact⟨G',σ',Fr',st',hG,hF,Hm,hq'⟩
   ·rename_i hi;rw[if_neg hi]at hq';exact⟨G',σ',Fr',st',hG,hF,Hm,hq'⟩
  |normal=>exact⟨G',σ',Fr',st',hG,hF,Hm,hq'⟩
  |ret=>exact⟨G',σ',Fr',st',hG,hF,Hm,hq'⟩
  |_=>exact hq'.elim
 |loop ks x ih=>
  intro ro w0 Y c Q G σ Fr st a w hro hY hc hr hq;cases c<;>first|(simp[Be]at hc;done)|skip
  simp only[Be]at hc;obtain⟨⟨X,J,R,μ,⟨x0,hx0,hR0⟩,Bos⟩⟩:=hq;refine wpIn_loop_ghost (fun n a w=>∃G' σ' Fr' x,G.le G'∧Fr.le Fr'∧Rel G' σ' Fr' w0 (J x) a w∧R x∧μ x=n) (μ x0) ⟨G,σ,Fr,x0,Mem.le.refl G,Mem.le.refl Fr,by rw[←hx0];exact hr.norm ks,hR0,rfl⟩ ?_
  rintro n a1 w1 ⟨G1,σ1,F1,x1,hG1,hF1,hr1,hR1,rfl⟩;refine wpIn_mono (ih hro (hY.le hF1) hc hr1 (Bos x1 hR1)) ?_;rintro e a' w' ⟨G',σ',Fr',st',hG,hF,Hm,hq'⟩;cases e with
  |normal=>
   obtain⟨x',h1,h2,h3⟩:=hq';exact⟨μ x',h3,G',σ',Fr',x',hG1.trans hG,hF1.trans hF,by rw[←h1];exact Hm.norm ks,h2,rfl⟩
  |exit i=>exact⟨G',σ',Fr',st',hG1.trans hG,hF1.trans hF,Hm,hq'⟩
  |ret=>exact⟨G',σ',Fr',st',hG1.trans hG,hF1.trans hF,Hm,hq'⟩
  |_=>exact hq'.elim
 |exit id=>
  intro ro w0 Y c Q G σ Fr st a w hro hY hc hr hq;cases c<;>first|(simp[Be]at hc;done)|skip
  simp only[Be,beq_iff_eq]at hc;subst hc;exact wpIn_exit ⟨G,σ,Fr,st,Mem.le.refl G,Mem.le.refl Fr,hr,hq⟩
 |ret=>
  intro ro w0 Y c Q G σ Fr st a w hro hY hc hr hq;cases c<;>first|(simp[Be]at hc;done)|skip
  exact wpIn_ret ⟨G,σ,Fr,st,Mem.le.refl G,Mem.le.refl Fr,hr,hq⟩
 |A5a g f n nc ps it sa sb ihI ihA ihB=>
  intro ro w0 Y c Q G σ Fr st a w hro hY hc hr hq;cases c<;>first|(simp[Be]at hc;done)|skip
  rename_i g' psA ca cb;cases g'<;>first|(simp[Be]at hc;done)|skip
  obtain rfl:ro=none:=hro.resolve_right (by simp[Stm.noR])
  simp only[Be,Ap,beq_iff_eq,decide_eq_true_eq,Aia]at hc;obtain⟨⟨⟨⟨⟨⟨⟨⟨⟨⟨rfl,h2⟩,h3⟩,h4⟩,h5⟩,h6⟩,h7⟩,h8⟩,h9⟩,h10⟩,h11⟩:=hc;split at h11
  case h_2=>cases h11
  rename_i fn hfn;simp only[Ap,beq_iff_eq]at h11;obtain⟨⟨k1,k2⟩,k3⟩:=h11;split at k3
  case h_2=>cases k3
  rename_i ci hci;refine Ab7 (ci:=ci) (fn:=fn) (f:=f) (n:=n) (nc:=nc) (ps:=ps) (it:=it) (sa:=sa) (sb:=sb) (fun hw hY hr hq=>ihI (.inl rfl) hY (by rw[hw];exact k3) hr hq) (fun {l} {G} {σ} {Fr} {w0'} {st} {a} {w} {Q} hw hr hq=>ihA (.inr h8) Nt (by rw[hw,h3];exact h6) hr hq)
   (fun {l} {G} {σ} {Fr} {w0'} {st} {a} {w} {Q} hw hr hq=>ihB (.inr h9) Nt (by rw[hw,h3];exact h7) hr hq) h3.symm (by rw[h3];exact h2) h4 (fun p hp=>by rw[h3];exact h5 p hp) h10 hfn k1 k2 hci hr ?_
  unfold wpS at hq ⊢;exact hq
end
end Go.Ab
