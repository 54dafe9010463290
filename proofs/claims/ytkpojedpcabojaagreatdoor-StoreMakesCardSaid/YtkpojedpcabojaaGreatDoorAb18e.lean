/- Lemmas -/
import Derived.Test.YtkpojedpcabojaaGreatDoorAb18
set_option linter.unusedVariables false
set_option linter.unusedSimpArgs false
namespace Go.Ab
section
variable{P:Program}
theorem Bf9{G:Mem}{σ:Lab}{Fr:Mem}{w0:Base}{w:World}{st:St}{a:Act}(h:Rel G σ Fr w0 st a w){nc off:Nat}{ps:List Nat}{xs:List Bh}{args:List Operand}{tmps:Array Value}
 (hx:Lo w0.n args xs=true) (hps:∀p∈ps,p<nc) (ht:tmps.size=nc) (hv:∀i,i<nc→tmps.getD i undef=val a w0 (off+i)):
 Rel G (σ.shift nc) Fr ⟨w,nc,a.tmps++w0.Lk⟩ (Yz nc off ps xs st) {tmps:=(ps.zip (args.map a.eval)).foldl (fun t (p,v)=>t.setIfInBounds p v) tmps,defers:=[]} w:=by
 let a':Act:={tmps:=(ps.zip (args.map a.eval)).foldl (fun t (p,v)=>t.setIfInBounds p v) tmps,defers:=[]}
 have Cq:a'.tmps.size=nc:=A6f.trans ht
 let pre:St:=Xp nc st ps xs (P4 nc off st 0 nc [])
 have hrl:(P4 nc off st 0 nc []).length=nc:=by rw[Ag8];rfl
 have Ju:pre.length=nc:=by show(Xp nc st ps xs _).length=nc;rw[An8,hrl]
 have Ga:Yz nc off ps xs st=pre++Mo nc st:=by
  unfold Yz;rw[Auu,A4r (by rw[hrl];exact hps)]
 rw[Ga];have:=Rel.up (pre:=pre) (a':=a') h rfl (by rw[Ju,Cq]) ?_
 ·rw[Cq]at this;exact this
 rw[Cq];refine Ayq (R:=fun s sv c=>Fa G (σ.shift nc) w (pre++Mo nc st) (val a' ⟨w,nc,a.tmps++w0.Lk⟩) s sv c∧∀hh,sv= .par hh→c=val a' ⟨w,nc,a.tmps++w0.Lk⟩ hh∧nc≤hh)
  (by rw[An];exact(Y7 hx).symm) (by rw[ht,hrl]) ?_ ?_
 ·intro i x v h1 h2 s;obtain⟨y,h3,h4⟩:=Arh hx h1;rw[B2,h3]at h2;cases h2;exact Aw4 h h4 Ju Cq
 ·intro s ver sv hs;have Di:s<nc:=by have:=(Ak.1 hs).1;omega
  rw[Aqf nc 0 s Di,Bm]at hs;cases hs;rw[hv s Di];exact Ama h Ju Cq
theorem Bnk{G:Mem}{σ:Lab}{Fr:Mem}{w0:Base}{w:World}{st:St}{a:Act}(h:Rel G σ Fr w0 st a w){b:Nat}{o:Obj}(hb:Fr b=some o):σ b=none:=by
 cases hs:σ b with
 |none=>rfl
 |some Ca=>have:=(h.Bz.own b Ca hs).2.1;rw[hb]at this;cases this
theorem Bcz{Fr:Mem}{w0:Base}{fa fb:D8→St→Prop}{n nc off l:Nat}{ps:List Nat}{rec:Loop}{ca cb:Code}
 (ihA:∀{G:Mem} {σ:Lab} {Fr:Mem} {w0:Base} {st:St} {a:Act} {w:World} {Q:D8},w0.n=nc→Rel G σ Fr w0 st a w→fa Q st→ca.wpIn (Wd (some l)) 0 P (lift G Fr w0 Q) a w)
 (ihB:∀{G:Mem} {σ:Lab} {Fr:Mem} {w0:Base} {st:St} {a:Act} {w:World} {Q:D8},w0.n=nc→Rel G σ Fr w0 st a w→fb Q st→cb.wpIn (Wd (some l)) 0 P (lift G Fr w0 Q) a w)
 (Hr:rec.state= .ready) (Kn:rec.pending=none) (hr3:rec.params=ps.toArray) (hr4:rec.assign=ca) (hr5:rec.body=cb) (hr6:rec.tmps.size=nc) (hps:∀p∈ps,p<nc)
 (hv:∀i,i<nc→rec.tmps.getD i undef=w0.Lk.getD (off - n+i) undef) (Aif:n≤off) (hn:w0.n=n):Rs P (An2 P fa fb n nc off ps l rec) Fr w0:=by
 intro ro o y y' args ts az G σ H2 st a w K next E ho hy hin hle hr hY N3 A9
 unfold An2 at hY;split at hY
 case h_2=>exact hY.elim
 rename_i v l' J7 hsy;obtain⟨rfl,rfl,hlen,hfa⟩:=hY;have Ba:=hr.Bj y v _ hsy;obtain⟨L2,Jj,Ao3⟩:=(show Ahu σ w y (.ready l' J7) (val a w0 y)from Ba);rw[←hy]at L2;have Fm:=hr.Bz.own l' _ Jj;have Bxy:(J7.params.zip (args.map a.eval)).foldl (fun tmps (t,a)=>tmps.setIfInBounds t a) J7.tmps=(ps.zip (args.toList.map a.eval)).foldl (fun t (p,v)=>t.setIfInBounds p v) J7.tmps:=by
  rw[hr3, ←Array.foldl_toList,Array.toList_zip,Array.toList_map]
 have Ms:(args.map a.eval).size=J7.params.size:=by
  rw[hr3,Array.size_map, ←Array.length_toList,Y7 hin,hlen];simp
 have Ez:(execOp a.eval o).run P w= .ok (.round l' J7.fn ((ps.zip (args.toList.map a.eval)).foldl (fun t (p,v)=>t.setIfInBounds p v) J7.tmps) ca cb) w:=by
  have h1:=run_yield (P:=P) (args:=args.map a.eval) Ao3 Ms;rw[Bxy,hr4,hr5]at h1;simp only[execOp,ho,resolve,L2,Deferred.ofValue,Sem.run_bind,Sem.run_pure,Result.andThen,invoke,Array.empty_append];exact h1
 refine⟨fun _ _=>trivial,?_⟩
 rw[Oper.semAt_eq _ _ _ (by rw[ho];intro c e;cases e),Ez,Oper.uponIn_round]
 refine⟨fun k=>absurd k (by simp[Wd,Fence.wide]),roundIn_of_wpIn trivial ?_⟩
 have hL0:(σ.drop y) l'=none:=by simp[Lab.drop,Jj]
 have hFl:H2 l'=none:=Fm.2.1;have hM:=hr.defers;have r1:=hr.drop (ver:=v+1) hsy (Bk _);have r2:Rel G (σ.drop y) (H2.Dy l' (.loop J7)) w0 (st.set y (v+1,.no)) a w:=by
  refine r1.Abv l' hL0 Fm.1 (fun _ _=>rfl) rfl rfl rfl rfl (fun x o hx=>?_) rfl (hM.mono fun b hb=>?_)
  ·by_cases e:x=l'
   ·subst e;rw[Mem.T5]at hx;cases hx;exact .inr ⟨rfl,Ao3⟩
   ·rw[Mem.Q7 e]at hx;exact .inl ⟨e,hx⟩
  ·rw[Mem.Q7 (by rintro rfl;rw[hFl]at hb;cases hb)];exact hb
 have Bwz:∀i,i<nc→J7.tmps.getD i undef=val a w0 (off+i):=by
  intro i hi;rw[hv i hi];unfold val;have Cq:=hr.n;rw[hn]at Cq;rw[Aq,Aq,Dm (by omega),Cq,show off+i - n=off - n+i by omega]
 have r3:=Bf9 r2 hin hps hr6 Bwz;refine wpIn_mono (ihA rfl r3 hfa) ?_;rintro e a2 w2 ⟨G2,σ2,Fr3,st2,Zp,hF3,r4,hq⟩;cases e with
 |exit i=>exact hq.elim
 |ret=>exact hq.elim
 |goto i=>exact hq.elim
 |panic c=>exact hq.elim
 |outgrown=>exact hq.elim
 |normal=>
 have A1v:Fr3 l'=some (.loop J7):=hF3 _ _ Mem.T5;have hh2:=r4.Bz.frame _ _ A1v;refine⟨_,run_beginRound hh2 Hr,?_⟩;have r5:Rel G2 σ2 (Fr3.Dy l' (.loop {J7 with state:=.busy})) ⟨w,nc,a.tmps++w0.Lk⟩ st2 a2 (w2.putObj l' (.loop {J7 with state:=.busy})):=by
  refine r4.Abv l' (Bnk r4 A1v) (r4.Bz.apart _ _ A1v) (fun x hx=>World.putObj_heap_other hx) (by simp) rfl rfl rfl (fun x o hx=>?_) rfl (r4.defers.mono fun b hb=>?_)
  ·by_cases e:x=l'
   ·subst e;rw[Mem.T5]at hx;cases hx;exact .inr ⟨rfl,World.putObj_heap_same (Vw r4 A1v)⟩
   ·rw[Mem.Q7 e]at hx;exact .inl ⟨e,hx⟩
  ·rw[Mem.Q7 (by rintro rfl;rw[A1v]at hb;cases hb)];exact hb
 refine wpIn_mono (ihB rfl r5 hq) ?_;have fin:∀{G5:Mem} {σ5:Lab} {Fr5:Mem} {st5:St} {a5:Act} {w5:World} (j:Option (Option Nat)),G2.le G5→(Fr3.Dy l' (.loop {J7 with state:=.busy})).le Fr5→Rel G5 σ5 Fr5 ⟨w,nc,a.tmps++w0.Lk⟩ st5 a5 w5→
  Ac7 P n nc y l' J7 o.dst K j st5→∃v w',(Instr.endRound l' (j.map Ao4)).run P w5= .ok v w'∧next (a.put o.dst v) w':=by
  intro G5 σ5 Fr5 st5 a5 w5 j hG5 hF5 r6 Aac;have A1w:Fr5 l'=some (.loop {J7 with state:=.busy}):=hF5 _ _ Mem.T5
  have hh5:=r6.Bz.frame _ _ A1w;have Awd:=Vw r6 A1w;have Bqs:H2.le Fr5:=fun b o hb=>by
   have A2:b≠l':=by rintro rfl;rw[hFl]at hb;cases hb
   refine hF5 b o ?_;rw[Mem.Q7 A2];refine hF3 b o ?_;rw[Mem.Q7 A2];exact hb
  refine⟨_,_,run_endRound (j.map Ao4) hh5,?_⟩;obtain⟨Ano,Ge⟩:∃r:Loop,r=(match j with|none=>J7|some j=>A0c J7 j):=⟨_,rfl⟩
  have Aaf:({({J7 with state:=.busy}:Loop)with state:=if(j.map Ao4).isNone=true then .ready else .done,pending:=j.map Ao4}:Loop)=Ano:=by
   rw[Ge];cases j with
   |none=>
    obtain⟨s1,s2,s3,s4,s5,s6,s7,s8⟩:=J7;simp only at Hr Kn;subst Hr Kn;rfl
   |some j=>rfl
  have hjn:(j.map Ao4).isNone=j.isNone:=by cases j<;>rfl
  rw[Aaf,hjn];have hb:Azz w0.w w:=hr.A9i;have r7:=r6.down (w0:=w0) (a:=a) (n:=nc) hb rfl rfl (hM.mono fun b hb=>Bqs b _ hb) hr.n
  have hσ5:=Bnk r6 A1w;have r8:Rel G5 (σ5.Gr nc) H2 w0 (H8 nc w0.n (st5.drop nc)) a (w5.putObj l' (.loop Ano)):=by
   refine r7.Abv l' ?_ (r6.Bz.apart _ _ A1w) (fun x hx=>World.putObj_heap_other hx) (by simp) rfl rfl rfl (fun x o hx=>.inl ⟨?_,Bqs x o hx⟩) rfl hM
   ·simp[Lab.Gr,hσ5]
   ·rintro rfl;rw[hFl]at hx;cases hx
  unfold Ac7 at Aac;rw[←hn]at Aac;split at Aac
  case h_2=>exact Aac.elim
  rename_i cur S9;have hL5:(σ5.Gr nc) l'=none:=by simp[Lab.Gr,hσ5]
  obtain⟨σ9,h9⟩:∃σ9:Lab,σ9=fun b=>if b=l' then some (y,0)else((σ5.Gr nc).drop y) b:=⟨_,rfl⟩
  have r9:Rel G5 σ9 H2 w0 ((H8 nc w0.n (st5.drop nc)).set y (cur.1+1,.yl (Bc0 l' J7 j))) a (w5.putObj l' (.loop Ano)):=by
   have hd:=r8.Bz.drop y;refine r8.self (old:=cur) ⟨hd.fixed,?_,?_,hd.frame,hd.os,hd.tape,hd.output,hd.size,hd.apart,hd.Mv⟩ (Mem.le.refl G5) S9 (Bk _) ?_ ?_
   ·intro b Ca hb;rw[h9]at hb;simp only at hb;split at hb
    ·rename_i e;subst e;exact⟨r6.Bz.apart _ _ A1w,hFl,by rw[World.putObj_size];exact Awd⟩
    ·exact hd.own b Ca hb
   ·intro b b' Ca hb Dc;rw[h9]at hb Dc;simp only at hb Dc;split at hb<;>split at Dc
    ·rename_i e e';rw[e,e']
    ·cases hb;exact absurd rfl (Lab.D1.1 Dc).1
    ·cases Dc;exact absurd rfl (Lab.D1.1 hb).1
    ·exact hd.inj b b' Ca hb Dc
   ·intro s' Hf b k hb;refine⟨?_,rfl⟩;rw[h9];simp only;rw[if_neg (by rintro rfl;rw[hL5]at hb;cases hb)]
    exact Lab.D1.2 ⟨Hf,hb⟩
   ·have hvy:val a w0 y= .func (.yield l') #[] #[]:=by rw[←hy];exact L2
    have h9l:σ9 l'=some (y,0):=by rw[h9];simp
    have Bq6:(w5.putObj l' (.loop Ano)).heap[l']?=some (.loop Ano):=World.putObj_heap_same Awd;cases j with
    |none=>exact⟨hvy,h9l,by rw[Bq6,Ge]⟩
    |some j=>exact⟨hvy,h9l,by rw[Bq6,Ge]⟩
  obtain⟨σ10,Bx4,r10,hk⟩:=r9.Ci (sv:=.v (.bool j.isNone)) (c:=.bool j.isNone) A9 (fun _ _ _ _=>(by
   show Bb G5 (.bool j.isNone) (.bool j.isNone);unfold Bb;rw[if_neg (by simp[I.isAgg])]
   rfl)) Aac
  exact N3 G5 σ10 Bx4 _ _ (Zp.trans hG5) r10 hk
 rintro e a5 w5 ⟨G5,σ5,Fr5,st5,hG5,hF5,r6,hq5⟩;cases e with
 |normal=>exact fin none hG5 hF5 r6 hq5
 |exit i=>exact fin (some (some i)) hG5 hF5 r6 hq5
 |ret=>exact fin (some none) hG5 hF5 r6 hq5
 |goto i=>exact hq5.elim
 |panic c=>exact hq5.elim
 |outgrown=>exact hq5.elim
end

section
variable{P:Program}
theorem An1{k:Nat}{st:St}:∀{l:List (Nat × Nat)} {r:St},Pm k st l r=Pm k st l []++r
 | [],r=>rfl
 |(h,v)::l,r=>by simp only[Pm,C4];rw[An1]
theorem J8{k:Nat}{st:St}:∀{l:List (Nat × Nat)},(Pm k st l []).length=l.length
 | []=>rfl
 |(h,v)::l=>by simp only[Pm,Cg];rw[J8]
theorem Sy{st:St}{vv:Nat→Value}:∀{l:List (Nat × Nat)} {us:List Value},Hu st vv l us→us.length=l.length
 | [],[],_=>rfl
 |(h,v)::l,u::us,hr=>by simp only[Cg];rw[Sy hr.2]
 | [],_::_,h=>h.elim
 |_::_,[],h=>by cases h
theorem Ary{G:Mem}{σ:Lab}{Fr:Mem}{w0:Base}{w:World}{st:St}{a:Act}(h:Rel G σ Fr w0 st a w){k:Nat}{pre:St}{a':Act}(hl:pre.length=k)(hk:a'.tmps.size=k):
 ∀{l:List (Nat × Nat)} {us:List Value},Hu st (val a w0) l us→∀(i ver:Nat) (sv:SV),(Pm k st l [])[i]?=some (ver,sv)→∃u:Value,us[i]?=some u∧∀s:Nat,
  Fa G (σ.shift k) w (pre++Mo k st) (val a' ⟨w,k,a.tmps++w0.Lk⟩) s sv u∧∀hh,sv= .par hh→u=val a' ⟨w,k,a.tmps++w0.Lk⟩ hh∧k≤hh
 | [],_,_,i,ver,sv,hi=>by simp[Pm]at hi
 |(m,v)::l,u::us,⟨⟨cur,h1,h2,h3⟩,h4⟩,0,ver,sv,hi=>by
  simp only[Pm,B9,Af,B6]at hi;obtain⟨rfl,rfl⟩:=hi;refine⟨u,rfl,fun s=>?_⟩
  simp only[Bnp,h1];split
  ·rename_i e;rw[h3 e];exact Ama h hl hk
  ·exact⟨trivial,fun hh e=>by cases e⟩
 |(m,v)::l,u::us,⟨_,h4⟩,i+1,ver,sv,hi=>by
  simp only[Pm,Bn]at hi ⊢;exact Ary h hl hk h4 i ver sv hi
 |_::_,[],hr,_,_,_,_=>by cases hr
theorem Bdp{f:FuncId}{fn:Func}(Mh:P.funcs[f]?=some fn)(hf:Ke P f=true){ws args:Array Value}{w:World}:(invoke (.fn (.func f) ws) args).run P w= .ok (.enter f (args++ws)) w:=by
 unfold Ke at hf;rw[Mh]at hf;simp only[Ad,Ds,beq_eq_false_iff_ne,ne_eq]at hf;obtain⟨h1,h2⟩:=hf;have h4:fn.body≠none:=by rintro e;rw[e]at h1;cases h1
 simp[invoke,callFunc,Mh,h2,h4]
theorem A35{G:Mem}{σ:Lab}{Fr:Mem}{w0:Base}{w:World}{st:St}{a:Act}{g:Nat}{f:FuncId}{fn:Func}{n nc:Nat}{ps:List Nat}{psA:Array Nat}{it sa sb:Ee}{ca cb ci:Code}{Q:D8}{us ws:List Value}{stI:Nat→Loop→St}
 (ihI:∀{Y:Hd} {G:Mem} {σ:Lab} {Fr:Mem} {w0:Base} {st:St} {a:Act} {w:World} {Q:D8},w0.n=n→Rs P Y Fr w0→Rel G σ Fr w0 st a w→wpS P it Y Q st→ci.wpIn (Wd none) 0 P (lift G Fr w0 Q) a w)
 (ihA:∀{l:Nat} {G:Mem} {σ:Lab} {Fr:Mem} {w0:Base} {st:St} {a:Act} {w:World} {Q:D8},w0.n=nc→Rel G σ Fr w0 st a w→wpS P sa Lu Q st→ca.wpIn (Wd (some l)) 0 P (lift G Fr w0 Q) a w)
 (ihB:∀{l:Nat} {G:Mem} {σ:Lab} {Fr:Mem} {w0:Base} {st:St} {a:Act} {w:World} {Q:D8},w0.n=nc→Rel G σ Fr w0 st a w→wpS P sb Lu Q st→cb.wpIn (Wd (some l)) 0 P (lift G Fr w0 Q) a w)
 (hN:w0.n=nc) (hg:g<nc) (Baf:psA.toList=ps) (hps:∀p∈ps,p<nc) (hfo:Ke P f=true) (Mh:P.funcs[f]?=some fn) (hnt:fn.ntmps=n) (Uv:fn.results.isEmpty=true) (Az6:fn.body=some ci)
 (hr:Rel G σ Fr w0 st a w) (H7:a.eval (.tmp g)= .func (.func f) us.toArray ws.toArray) (hle:us.length+1+ws.length≤n)
 (Ga:∀{Fr1:Mem} {a1 ai:Act} {W:World} {l:Nat} {rec:Loop},Rel G σ Fr1 w0 st a1 W→a1.tmps=a.tmps→ai.defers=[]→ai.tmps.size=n→
   (∀i,ai.tmps.getD i undef=(us++ .func (.yield l) #[] #[]::ws++List.replicate (n - (us.length+1+ws.length)) undef).getD i undef)→G l=none→Fr1 l=none→σ l=none→l<W.heap.size→W.heap[l]?=some (.loop rec)→
   ∃σ3,Rel G σ3 Fr1 ⟨W,n,a1.tmps++w0.Lk⟩ (stI l rec) ai W)
 (hq:∀(l:Nat) (rec:Loop),wpS P it (An2 P (wpS P sa Lu) (wpS P sb Lu) n nc n ps l rec) ⟨Y8 n nc us.length l rec Q,fun _ _=>False,Y8 n nc us.length l rec Q⟩ (stI l rec)):(Code.rangeFunc (.tmp g) psA ca cb).wpIn (Wd none) 0 P (lift G Fr w0 Q) a w:=by
 refine wpIn_rangeFunc ?_;intro fn0 _;obtain⟨D,hD⟩:∃D,D=w.heap.size:=⟨_,rfl⟩;obtain⟨rec,Aaf⟩:∃rec:Loop,rec= {state:=.ready,pending:=none,fn:=fn0,tmps:=a.tmps,params:=psA,assign:=ca,body:=cb,defers:=w.heap.size}:=⟨_,rfl⟩;obtain⟨W,hW⟩:∃W,W=(w.alloc (.deferred (some []))).alloc (.loop rec):=⟨_,rfl⟩
 let a1:Act:={a with defers:=mark D::a.defers}
 have Bv9:W.heap.size=D+2:=by rw[hW,World.size_alloc,World.size_alloc,hD]
 have hWD:W.heap[D]?=some (.deferred (some [])):=by
  rw[hW,hD];show(Array.push (Array.push w.heap _) _)[w.heap.size]?=_;simp[J1]
 have hWL:W.heap[D+1]?=some (.loop rec):=by
  rw[hW,hD];have:=World.alloc_heap_new (w.alloc (.deferred (some []))) (.loop rec);rwa [World.size_alloc]at this
 have hold:∀b,b<w.heap.size→W.heap[b]?=w.heap[b]?:=by
  intro b hb;rw[hW];show(Array.push (Array.push w.heap _) _)[b]?=_;rw[J1,J1];simp[show ¬b=w.heap.size+1 by omega,show ¬b=w.heap.size by omega]
 have r0:Rel G σ Fr w0 st a W:=hr.grow (by rw[hW];rfl) (by rw[hW];rfl) (by rw[hW];rfl) (by omega) hold
 have noF:∀b,D≤b→Fr b=none:=fun b hb=>by
  cases hf:Fr b with
  |none=>rfl
  |some o=>have:=Vw hr hf;omega
 have noG:∀b,D≤b→G b=none:=fun b hb=>by
  cases hf:G b with
  |none=>rfl
  |some o=>have:=Bh5 hr hf;omega
 have noS:∀b,D≤b→σ b=none:=fun b hb=>by
  cases hf:σ b with
  |none=>rfl
  |some o=>have:=(hr.Bz.own b o hf).2.2;omega
 have hF1:Fr.le (Fr.Dy D (.deferred (some []))):=Mem.Br8 (noF D (Ay _));have r1:Rel G σ (Fr.Dy D (.deferred (some []))) w0 st a1 W:=by
  refine r0.Abv D (noS D (Ay _)) (noG D (Ay _)) (fun _ _=>rfl) rfl rfl rfl rfl (fun x o hx=>?_) rfl ?_
  ·by_cases e:x=D
   ·subst e;rw[Mem.T5]at hx;cases hx;exact .inr ⟨rfl,hWD⟩
   ·rw[Mem.Q7 e]at hx;exact .inl ⟨e,hx⟩
  ·obtain⟨rs,k1,k2,k3⟩:=hr.defers;refine⟨D::rs,by show mark D::a.defers=_;rw[k1];rfl,Bs.2 ⟨fun hm=>?_,k2⟩,fun r hm=>?_⟩
   ·have:=(k3 D hm).2;rw[noF D (Ay _)]at this;cases this
   ·rcases Ah.1 hm with e|hm
    ·rw[e];exact⟨by rw[hD];exact hr.Bz.size,Mem.T5⟩
    ·refine⟨(k3 r hm).1,?_⟩;rw[Mem.Q7 (by intro e;have:=(k3 r hm).2;rw[noF r (by omega)]at this;cases this)]
     exact(k3 r hm).2
 obtain⟨yv,hyv⟩:∃yv:Value,yv= .func (.yield (D+1)) #[] #[]:=⟨_,rfl⟩;have Ben:=run_enterLoop_outer (P:=P) (w:=w) fn0 a.tmps psA ca cb;rw[←Aaf, ←hW, ←hD]at Ben;refine⟨D+1,[mark D],W,{target:=.fn (.func f) ws.toArray,args:=us.toArray++ #[yv]},W,f,us.toArray++ #[yv]++ws.toArray,W,Ben,?_,fun _ _=>trivial,Bdp Mh hfo,fun k=>absurd k (by simp[Wd,Fence.wide]),?_⟩
 ·simp only[resolve,rangeCall,H7,Deferred.ofValue,Sem.run_pure];simp[Act.eval,hyv]
 refine callsIn_of_wp_marks Mh Az6 trivial ?_;have Bp1:(us.toArray++ #[yv]++ws.toArray).size=us.length+1+ws.length:=by simp;omega
 let ai:Act:={tmps:=us.toArray++ #[yv]++ws.toArray++Array.replicate (fn.ntmps - (us.toArray++ #[yv]++ws.toArray).size) undef,defers:=[]}
 have Yr:ai.tmps.size=n:=by
  show(us.toArray++ #[yv]++ws.toArray++Array.replicate (fn.ntmps - (us.toArray++ #[yv]++ws.toArray).size) undef).size=n;rw[Array.size_append,Array.size_replicate,Bp1,hnt];omega
 have Aa5:∀i,ai.tmps.getD i undef=(us++yv::ws++List.replicate (n - (us.length+1+ws.length)) undef).getD i undef:=by
  intro i;show(us.toArray++ #[yv]++ws.toArray++Array.replicate (fn.ntmps - (us.toArray++ #[yv]++ws.toArray).size) undef).getD i undef=_;rw[Bp1,hnt,Aq, ←Array.getElem?_toList,Gz];simp
 obtain⟨σ3,r3⟩:=Ga (l:=D+1) (rec:=rec) (ai:=ai) r1 rfl rfl Yr (fun i=>by rw[Aa5 i,hyv]) (noG _ (by omega)) (by rw[Mem.Q7 (by omega)];exact noF _ (by omega)) (noS _ (by omega)) (by rw[Bv9];omega) hWL
 have hY:Rs P (An2 P (wpS P sa Lu) (wpS P sb Lu) n nc n ps (D+1) rec) (Fr.Dy D (.deferred (some []))) ⟨W,n,a1.tmps++w0.Lk⟩:=by
  refine Bcz (ca:=ca) (cb:=cb) ihA ihB (by rw[Aaf]) (by rw[Aaf]) (by rw[Aaf, ←Baf]) (by rw[Aaf]) (by rw[Aaf]) (by rw[Aaf];show a.tmps.size=nc;rw[hr.n,hN]) hps (fun i hi=>?_) (Ay _) rfl
  rw[Aaf,Nat.sub_self,Bm];show a.tmps.getD i undef=(a.tmps++w0.Lk).getD i undef;rw[Aq,Aq,D4 (by rw[hr.n,hN];exact hi)]
 refine wpIn_mono (ihI rfl hY r3 (hq (D+1) rec)) ?_;have fin:∀{G':Mem} {σ':Lab} {H2:Mem} {st':St} {a':Act} {w':World},G.le G'→(Fr.Dy D (.deferred (some []))).le H2→Rel G' σ' H2 ⟨W,n,a1.tmps++w0.Lk⟩ st' a' w'→Y8 n nc us.length (D+1) rec Q st'→
  LeavesInM (Wd none) 0 P fn a'.tmps (rangePost (Wd none) 0 P (D+1) (lift G Fr w0 Q) a1) a'.defers .returning w':=by
  intro G' σ' H2 st' a' w' Wa hF' r4 Aac;refine r4.leave (by simp) (hF') (fun b o hb=>?_) ?_
  ·exact Vw r1 hb
  intro w2 r5;refine⟨.tuple #[],?_,?_⟩
  ·have hre:fn.results= #[]:=by simpa using Uv
   simp[results,hre,Sem.run_bind,Result.andThen]
  have Bjn:∀{nr:Loop} {st2:St},st2=H8 n nc (st'.drop n)→σ' (D+1)=some (us.length,0)→w2.heap[D+1]?=some (.loop nr)→nr.state≠ .busy→
   (Q':St→Prop)→Q' st2→(∀{a2:Act} {w3:World} {σ2:Lab},Rel G' σ2 (Fr.Dy D (.deferred (some []))) w0 st2 a2 w3→(match nr.pending with
     |none=>lift G Fr w0 Q .normal a2 w3
     |some c=>c.wpIn (Wd none) 0 P (lift G Fr w0 Q) a2 w3))→
   rangePost (Wd none) 0 P (D+1) (lift G Fr w0 Q) a1 (.returned (.tuple #[])) w2:=by
   intro nr st2 Bxi Jj Ao3 Bs9 Q' _ hgo;refine⟨nr.pending,_,run_endLoop Ao3 Bs9,?_⟩;have Fm:=r5.Bz.own _ _ Jj;have r6:=r5.down (w0:=w0) (a:=a1) (n:=n) r1.A9i rfl rfl r1.defers r1.n;have r7:Rel G' (σ'.Gr n) (Fr.Dy D (.deferred (some []))) w0 (H8 n w0.n (st'.drop n)) a1 (w2.putObj (D+1) (.loop {nr with state:=.exhausted})):=by
    refine r6.Abv (D+1) ?_ Fm.1 (fun x hx=>World.putObj_heap_other hx) (by simp) rfl rfl rfl (fun x o hx=>.inl ⟨?_,hx⟩) rfl r1.defers
    ·unfold Lab.Gr;rw[Jj];simp only;rw[if_neg (by omega)]
    ·rintro rfl;rw[Fm.2.1]at hx;cases hx
   rw[hN, ←Bxi]at r7;exact hgo r7
  unfold Y8 at Aac;split at Aac
  ·rename_i v l' J7 hs;obtain⟨rfl,rfl,Jb⟩:=Aac;obtain⟨_,k2,k3⟩:=(show Ahu σ' w2 us.length (.ready (D+1) J7) _ from r5.Bj _ _ _ hs);refine Bjn rfl k2 k3 (by rw[Aaf];simp) Q.Sx Jb fun r7=>?_
   rw[Aaf];exact⟨G',_,_,_,Wa,hF1,r7,Jb⟩
  ·rename_i v l' J7 hs;obtain⟨rfl,Jb⟩:=Aac;obtain⟨_,k2,k3⟩:=(show Ahu σ' w2 us.length (.jump (D+1) J7 none) _ from r5.Bj _ _ _ hs);refine Bjn rfl k2 k3 (by simp[A0c]) Q.ret Jb fun r7=>?_
   exact wpIn_ret ⟨G',_,_,_,Wa,hF1,r7,Jb⟩
  ·rename_i v l' J7 id hs;obtain⟨rfl,Jb⟩:=Aac;obtain⟨_,k2,k3⟩:=(show Ahu σ' w2 us.length (.jump (D+1) J7 (some id)) _ from r5.Bj _ _ _ hs);refine Bjn rfl k2 k3 (by simp[A0c]) (Q.ex id) Jb fun r7=>?_
   exact wpIn_exit ⟨G',_,_,_,Wa,hF1,r7,Jb⟩
  ·exact Aac.elim
 rintro e a' w' ⟨G',σ',H2,st',Wa,hF',r4,Jb⟩;cases e with
 |normal=>exact fin Wa hF' r4 Jb
 |ret=>exact fin Wa hF' r4 Jb
 |exit i=>exact Jb.elim
 |goto i=>exact Jb.elim
 |panic c=>exact Jb.elim
 |outgrown=>exact Jb.elim
theorem Bhp{G:Mem}{σ:Lab}{w0:Base}{st:St}{a:Act}{fs cs:List (Nat × Nat)}{us ws:List Value}{n:Nat}(hus:Hu st (val a w0) fs us)(hws:Hu st (val a w0) cs ws)(hle:fs.length+1+cs.length≤n):
 ∀{Fr1:Mem} {a1 ai:Act} {W:World} {l:Nat} {rec:Loop},Rel G σ Fr1 w0 st a1 W→a1.tmps=a.tmps→ai.defers=[]→ai.tmps.size=n→
  (∀i,ai.tmps.getD i undef=(us++ .func (.yield l) #[] #[]::ws++List.replicate (n - (us.length+1+ws.length)) undef).getD i undef)→G l=none→Fr1 l=none→σ l=none→l<W.heap.size→W.heap[l]?=some (.loop rec)→
  ∃σ3,Rel G σ3 Fr1 ⟨W,n,a1.tmps++w0.Lk⟩ (Agx n st fs cs l rec) ai W:=by
 intro Fr1 a1 ai W l rec r1 ha1 had Yr Aa5 hGl hFl hSl hlW hWL;have Tw:val a1 w0=val a w0:=by unfold val;rw[ha1]
 rw[←Tw]at hus hws;have Uq:=Sy hus;have hwl:=Sy hws;obtain⟨yv,hyv⟩:∃yv:Value,yv= .func (.yield l) #[] #[]:=⟨_,rfl⟩;rw[←hyv,Uq,hwl]at Aa5
 let pre:St:=Pm n st fs []++(0,SV.no)::(Pm n st cs []++List.replicate (n - (fs.length+1+cs.length)) (0,SV.no))
 have Ju:pre.length=n:=by
  show(Pm n st fs []++(0,SV.no)::(Pm n st cs []++List.replicate _ (0,SV.no))).length=n;simp only[Cw,Cg,J8,Je];omega
 have r2:Rel G (σ.shift n) Fr1 ⟨W,n,a1.tmps++w0.Lk⟩ (pre++Mo n st) ai W:=by
  have:=Rel.up (pre:=pre) (a':=ai) r1 had (by rw[Ju,Yr]) ?_
  ·rw[Yr]at this;exact this
  rw[Yr];intro s ver sv hs;rw[Aa5];simp only[pre]at hs;by_cases h1:s<fs.length
  ·rw[B0 (by rw[J8];exact h1)]at hs
   obtain⟨u,hu,Ba⟩:=Ary r1 Ju Yr hus s ver sv hs;have:(us++yv::ws++List.replicate (n - (fs.length+1+cs.length)) undef).getD s undef=u:=by
    rw[Gz,A8,B0 (by omega),hu]
    rfl
   rw[this];exact Ba s
  ·rw[Cf (by rw[J8];omega),J8]at hs
   by_cases h2:s=fs.length
   ·subst h2;rw[Nat.sub_self]at hs;cases hs;exact⟨trivial,fun hh e=>by cases e⟩
   ·obtain⟨i,rfl⟩:∃i,s=fs.length+1+i:=⟨s - (fs.length+1),by omega⟩
    rw[show fs.length+1+i - fs.length=i+1 by omega,Bn]at hs
    by_cases h3:i<cs.length
    ·rw[B0 (by rw[J8];exact h3)]at hs
     obtain⟨u,hu,Ba⟩:=Ary r1 Ju Yr hws i ver sv hs;have:(us++yv::ws++List.replicate (n - (fs.length+1+cs.length)) undef).getD (fs.length+1+i) undef=u:=by
      rw[Gz,A8,Cf (by omega),show fs.length+1+i - us.length=i+1 by omega,C4,Bn,
       B0 (by omega),hu]
      rfl
     rw[this];exact Ba _
    ·rw[Cf (by rw[J8];omega),Gs]at hs
     split at hs
     ·cases hs;exact⟨trivial,fun hh e=>by cases e⟩
     ·cases hs
 have hyT:val ai ⟨W,n,a1.tmps++w0.Lk⟩ fs.length=yv:=by
  rw[G9 (by rw[Yr];omega)]
  show ai.tmps.getD fs.length undef=yv;rw[Aa5,Gz,A8,Cf (by omega),Uq,Nat.sub_self]
  rfl
 have hpy:(pre++Mo n st)[fs.length]?=some (0,.no):=by
  rw[B0 (by omega)]
  simp only[pre];rw[Cf (by rw[J8];exact Ay _),J8,Nat.sub_self]
  rfl
 have hSh:(σ.shift n) l=none:=by unfold Lab.shift;rw[hSl];rfl
 obtain⟨σ3,hσ3⟩:∃σ3:Lab,σ3=fun b=>if b=l then some (fs.length,0)else σ.shift n b:=⟨_,rfl⟩
 have r3:Rel G σ3 Fr1 ⟨W,n,a1.tmps++w0.Lk⟩ ((pre++Mo n st).set fs.length (1,.yl (.ready l rec))) ai W:=by
  have hd:=r2.Bz;refine r2.self (old:=(0,.no)) ⟨hd.fixed,?_,?_,hd.frame,hd.os,hd.tape,hd.output,hd.size,hd.apart,hd.Mv⟩ (Mem.le.refl G) hpy (Bk 0) ?_ ?_
  ·intro b Ca hb;rw[hσ3]at hb;simp only at hb;split at hb
   ·rename_i e;subst e;exact⟨hGl,hFl,hlW⟩
   ·exact hd.own b Ca hb
  ·intro b b' Ca hb Dc;rw[hσ3]at hb Dc;simp only at hb Dc;split at hb<;>split at Dc
   ·rename_i e e';rw[e,e']
   ·cases hb;obtain⟨i,k1,_⟩:=Uj Dc;omega
   ·cases Dc;obtain⟨i,k1,_⟩:=Uj hb;omega
   ·exact hd.inj b b' Ca hb Dc
  ·intro s' Hf b k hb;refine⟨?_,rfl⟩;rw[hσ3];simp only;rw[if_neg (by rintro rfl;rw[hSh]at hb;cases hb)]
   exact hb
  ·exact⟨by rw[hyT,hyv],by rw[hσ3];simp,hWL⟩
 have Ga:(pre++Mo n st).set fs.length (1,.yl (.ready l rec))=Agx n st fs cs l rec:=by
  unfold Agx;rw[Aue,An1 (l:=cs),An1 (l:=fs)];simp only[pre,A8,C4];rw[List.set_append_right _ _ (by rw[J8];exact Ay _),J8,Nat.sub_self]
  rfl
 rw[Ga]at r3;exact⟨_,r3⟩
theorem Rel.Baz{G:Mem}{σ:Lab}{Fr:Mem}{w0:Base}{w:World}{st:St}{a:Act}{d v b:Nat}{new:SV}(h:Rel G σ Fr w0 st a w)(hd:st[d]?=some (v,.no))(h1:G b=none)(h2:Fr b=none)(h3:σ b=none)(h4:b<w.heap.size)
 (X9:∀b k,σ b≠some (d,k)) (Ge:Fa G (fun x=>if x=b then some (d,0)else σ x) w (st.set d (v+1,new)) (val a w0) d new (val a w0 d)) (hp:∀h,new= .par h→val a w0 d=val a w0 h∧w0.n≤h:=by intro _ e;cases e)
 (Vq:∀inv t,new≠ .own inv t:=by intro _ _ e;cases e):Rel G (fun x=>if x=b then some (d,0)else σ x) Fr w0 (st.set d (v+1,new)) a w:=by
 have hw:=h.Bz;refine h.self (old:=(v,.no)) ⟨hw.fixed,?_,?_,hw.frame,hw.os,hw.tape,hw.output,hw.size,hw.apart,hw.Mv⟩ (Mem.le.refl G) hd (Bk v) ?_ Ge hp (fun inv t e=>absurd e (Vq inv t))
 ·intro x Ca hx;try dsimp only at hx
  split at hx
  ·rename_i e;subst e;exact⟨h1,h2,h4⟩
  ·exact hw.own x Ca hx
 ·intro x x' Ca hx hx'
  (try dsimp only at hx hx')
  split at hx<;>split at hx'
  ·rename_i e e';rw[e,e']
  ·cases hx;exact absurd hx' (X9 _ _)
  ·cases hx';exact absurd hx (X9 _ _)
  ·exact hw.inj x x' Ca hx hx'
 ·intro s' Hf x k hx;refine⟨?_,rfl⟩;try dsimp only
  rw[if_neg (by rintro rfl;rw[h3]at hx;cases hx)]
  exact hx
theorem Bf0{G:Mem}{σ:Lab}{w0:Base}{st:St}{a:Act}{g v:Nat}{f:FuncId}{x:I}{s ver:Nat}{p:List Nat}{ws:List Value}{n:Nat}(hsg:st[g]?=some (v,.Px f x s ver p))(L2:val a w0 g= .func (.func f) #[] ws.toArray)(hn:3≤n)(Bi3:s≠g):
 ∀{Fr1:Mem} {a1 ai:Act} {W:World} {l:Nat} {rec:Loop},Rel G σ Fr1 w0 st a1 W→a1.tmps=a.tmps→ai.defers=[]→ai.tmps.size=n→
  (∀i,ai.tmps.getD i undef=(([]:List Value)++ .func (.yield l) #[] #[]::ws++List.replicate (n - (([]:List Value).length+1+ws.length)) undef).getD i undef)→G l=none→Fr1 l=none→σ l=none→l<W.heap.size→W.heap[l]?=some (.loop rec)→
  ∃σ3,Rel G σ3 Fr1 ⟨W,n,a1.tmps++w0.Lk⟩ (Acu n g v x s ver p st l rec) ai W:=by
 intro Fr1 a1 ai W l rec r1 ha1 had Yr Aa5 hGl hFl hSl hlW hWL;have Tw:val a1 w0=val a w0:=by unfold val;rw[ha1]
 obtain⟨gb,xs,tb,kb,Jx,Ku,Nq,gq,c0,ty,kk,⟨hc,hbq⟩,Le,Kh,cur,q1,q2,q3⟩:=r1.Bj g v _ hsg;rw[Tw,L2]at hc;simp only[Value.func.injEq,true_and]at hc;obtain rfl:ws=[.pointer (some ⟨gb,0,none⟩),.pointer (some ⟨gq,0,none⟩)]:=by
  have:=congrArg Array.toList hc;simpa using this
 obtain⟨e1,e2,e3⟩:=r1.Bz.own gb _ Jx;obtain⟨e4,e5,e6⟩:=r1.Bz.own gq _ Le;have hlb:l≠gb:=by rintro rfl;rw[hSl]at Jx;cases Jx
 have hlq:l≠gq:=by rintro rfl;rw[hSl]at Le;cases Le
 have ra:=r1.drop (ver:=v+1) hsg (Bk _)
 let B:Base:=⟨W,n,a1.tmps++w0.Lk⟩
 let S0:St:=Mo n (st.set g (v+1,.no))
 have rb:Rel G ((σ.drop g).shift n) Fr1 B (List.replicate n (0,SV.no)++S0) ai W:=by
  have:=Rel.up (pre:=List.replicate n (0,SV.no)) (a':=ai) ra had (by rw[Je,Yr]) ?_
  ·rw[Yr]at this;exact this
  intro s' Cn sv hs;rw[Gs]at hs;split at hs
  ·cases hs;exact⟨trivial,fun hh e=>by cases e⟩
  ·cases hs
 obtain⟨m,rfl⟩:∃m,n=m+3:=⟨n - 3,by omega⟩
 have Ba:List.replicate (m+3) (0,SV.no)++S0=(0,SV.no)::(0,SV.no)::(0,SV.no)::(List.replicate m (0,SV.no)++S0):=by simp[List.replicate_succ]
 rw[Ba]at rb;have vT:∀i,i<3→val ai B i=ai.tmps.getD i undef:=by
  intro i hi;rw[G9 (by rw[Yr];omega)]
  rfl
 have v0:val ai B 0= .func (.yield l) #[] #[]:=by rw[vT 0 (by omega),Aa5];rfl
 have v1:val ai B 1= .pointer (some ⟨gb,0,none⟩):=by rw[vT 1 (by omega),Aa5];rfl
 have v2:val ai B 2= .pointer (some ⟨gq,0,none⟩):=by rw[vT 2 (by omega),Aa5];rfl
 have vH:∀i,val ai B (i+(m+3))=val a1 w0 i:=by
  intro i;show(ai.tmps++(a1.tmps++w0.Lk)).getD _ _=(a1.tmps++w0.Lk).getD _ _;rw[Aq,Dm (by omega),Yr,F8,Aq]
 have sD:∀b,(∃k,σ b=some (g,k))→((σ.drop g).shift (m+3)) b=none:=by
  rintro b ⟨k,hb⟩;simp[Lab.shift,Lab.drop,hb]
 have sL:((σ.drop g).shift (m+3)) l=none:=by simp[Lab.shift,Lab.drop,hSl]
 have sN:∀b d k,d<3→((σ.drop g).shift (m+3)) b≠some (d,k):=by
  intro b d k hd e;obtain⟨i,h1,_⟩:=Uj e;omega
 have r3:=rb.Baz (d:=0) (v:=0) (b:=l) (new:=.yl (.ready l rec)) rfl hGl hFl sL hlW (fun b k=>sN b 0 k (by omega)) ⟨v0,by simp,hWL⟩
 have r4:=r3.Baz (d:=1) (v:=0) (b:=gb) (new:=.box (.one (.i x))) rfl e1 e2 (by(try dsimp only);rw[if_neg (Ne.symm hlb)];exact sD gb ⟨_,Jx⟩) e3
  (fun b k=>by
    try dsimp only
    split
    ·intro e;cases e
    ·exact sN b 1 k (by omega)) ⟨gb,xs,tb,v1,by simp,Ku,Nq⟩
 have r5:=r4.Baz (d:=2) (v:=0) (b:=gq) (new:=.bp (s+(m+3)) ver p) rfl e4 e5 (by(try dsimp only);rw[if_neg (Ne.symm hbq),if_neg (Ne.symm hlq)];exact sD gq ⟨_,Le⟩) e6
  (fun b k=>by
    try dsimp only
    split
    ·intro e;cases e
    ·split
     ·intro e;cases e
     ·exact sN b 2 k (by omega)) ⟨gq,c0,ty,0,v2,by simp,Kh,(cur.1,cur.2.up (m+3)),?_,q2,fun inv d e hp ha=>?_⟩
 ·exact⟨_,by
   have:Acu (m+3) g v x s ver p st l rec=(((((0,SV.no)::(0,SV.no)::(0,SV.no)::(List.replicate m (0,SV.no)++S0)).set 0 (0+1,.yl (.ready l rec))).set 1 (0+1,.box (.one (.i x)))).set 2 (0+1,.bp (s+(m+3)) ver p)):=by
    unfold Acu;rw[Aue,show m+3 - 3=m by omega]
    rfl
   rw[this];exact r5⟩
 ·show(List.replicate m (0,SV.no)++S0)[s+m]?=_;rw[Cf (by rw[Je];omega),Je,F8,Y2,Az (Ne.symm Bi3),q1]
  rfl
 ·have:=q3 inv d (Ahh e) hp ha;rw[vH s];exact this
theorem Bf8{G:Mem}{σ:Lab}{Fr:Mem}{w0:Base}{w:World}{st:St}{a:Act}{g:Nat}{f:FuncId}{fn:Func}{n nc:Nat}{ps:List Nat}{psA:Array Nat}{it sa sb:Ee}{ca cb ci:Code}{Q:D8}
 (ihI:∀{Y:Hd} {G:Mem} {σ:Lab} {Fr:Mem} {w0:Base} {st:St} {a:Act} {w:World} {Q:D8},w0.n=n→Rs P Y Fr w0→Rel G σ Fr w0 st a w→wpS P it Y Q st→ci.wpIn (Wd none) 0 P (lift G Fr w0 Q) a w)
 (ihA:∀{l:Nat} {G:Mem} {σ:Lab} {Fr:Mem} {w0:Base} {st:St} {a:Act} {w:World} {Q:D8},w0.n=nc→Rel G σ Fr w0 st a w→wpS P sa Lu Q st→ca.wpIn (Wd (some l)) 0 P (lift G Fr w0 Q) a w)
 (ihB:∀{l:Nat} {G:Mem} {σ:Lab} {Fr:Mem} {w0:Base} {st:St} {a:Act} {w:World} {Q:D8},w0.n=nc→Rel G σ Fr w0 st a w→wpS P sb Lu Q st→cb.wpIn (Wd (some l)) 0 P (lift G Fr w0 Q) a w)
 (hN:w0.n=nc) (hg:g<nc) (Baf:psA.toList=ps) (hps:∀p∈ps,p<nc) (hfo:Ke P f=true) (Mh:P.funcs[f]?=some fn) (hnt:fn.ntmps=n) (Uv:fn.results.isEmpty=true) (Az6:fn.body=some ci)
 (hr:Rel G σ Fr w0 st a w) (hq:wpS P (.Ajh g f n nc ps it sa sb) Lu Q st):(Code.rangeFunc (.tmp g) psA ca cb).wpIn (Wd none) 0 P (lift G Fr w0 Q) a w:=by
 unfold wpS Bho at hq;split at hq
 ·rename_i vg f' fs cs hsg;obtain⟨rfl,hle,hq⟩:=hq;obtain⟨us,ws,L2,hus,hws⟩:=(show Y3 st (val a w0) f' fs cs (val a w0 g)from hr.Bj g vg _ hsg);have Uq:=Sy hus;have hwl:=Sy hws;refine A35 ihI ihA ihB hN hg Baf hps hfo Mh hnt Uv Az6 hr (us:=us) (ws:=ws) ?_ (by omega) (Bhp hus hws hle) (fun l rec=>?_)
  ·rw[←L2,G9 (by rw[hr.n,hN];exact hg)]
  ·rw[Uq];exact hq l rec
 ·rename_i v f' x s ver p hsg;obtain⟨rfl,⟨hn3,Bi3⟩,hq⟩:=hq;obtain⟨ws,hws,L2⟩:∃ws:List Value,ws.length=2∧val a w0 g= .func (.func f') #[] ws.toArray:=by
   obtain⟨gb,xs,tb,kb,Jx,Ku,Nq,gq,c0,ty,kk,⟨hc,_⟩,_⟩:=hr.Bj g v _ hsg;exact⟨[_,_],rfl,hc⟩
  refine A35 ihI ihA ihB hN hg Baf hps hfo Mh hnt Uv Az6 hr (us:=[]) (ws:=ws) ?_ (by simp[hws];omega) (Bf0 hsg L2 hn3 Bi3) (fun l rec=>hq l rec)
  rw[←L2,G9 (by rw[hr.n,hN];exact hg)]
 ·exact hq.elim
end

section
theorem S5{P:Program}{b:Frame}{a:Act}{k:List Item}{cs:List Frame}{w:World}{c:Code}:step P (lone (b.atR a (.code (.scope c)::k)) cs w)= .next (lone (b.atR a (.code c::.inScope c::k)) cs w):=
 step_lone_go (by simp[stepG,stepG.exec,Frame.atR])
theorem Azv{P:Program}{b:Frame}{a:Act}{k:List Item}{cs:List Frame}{w:World}{c:Code}:step P (lone (b.atR a (.inScope c::k)) cs w)= .next (lone (b.atR a k) cs w):=
 step_lone_go (by simp[stepG,stepG.exec,Frame.atR])
theorem Bcu{F:Fence}{n:Nat}{P:Program}{Q:Exit→Act→World→Prop}{a:Act}{w:World}{c:Code}(h:c.wpIn F n P (Exit.noGoto Q) a w):(Code.scope c).wpIn F n P Q a w:=by
 intro b k cs Tv hb hr;have h0:(lone (b.atR a (.code (.scope c)::k)) cs w).fenced P F:=fenced_calm hb hr rfl;obtain⟨e,a₁,w₁,hq,W3⟩:=h b (.inScope c::k) cs Tv hb hr;cases e with
 |normal=>exact⟨.normal,a₁,w₁,hq,.head h0 S5 (StepsIn.trans W3 (.one (fenced_calm hb hr rfl) Azv))⟩
 |exit id=>
  have hx:exitTo id (.inScope c::k)=exitTo id k:=by simp[exitTo]
  exact⟨.exit id,a₁,w₁,hq,fun k' hk=>.head h0 S5 (W3.1 k' (by rw[hx];exact hk)),
   fun D2 hk=>let⟨k₁,h1,h2⟩:=W3.2 D2 (by rw[hx];exact hk);⟨k₁,h1,.head h0 S5 h2⟩⟩
 |goto l=>exact hq.elim
 |ret=>exact⟨_,a₁,w₁,hq,.of_steps (.one h0 S5) W3⟩
 |panic ch=>exact⟨_,a₁,w₁,hq,.of_steps (.one h0 S5) W3⟩
 |outgrown=>exact⟨_,a₁,w₁,hq,.of_steps (.one h0 S5) W3⟩
variable{P:Program}
theorem Ast:∀{s:Ee} {ro:Option Nat} {w0:Base} {Y:Hd} {c:Code} {Q:D8} {G:Mem} {σ:Lab} {Fr:Mem} {st:St} {a:Act} {w:World},
 (ro=none∨s.N4=true)→Rs P Y Fr w0→Gy P w0.n c s=true→Rel G σ Fr w0 st a w→wpS P s Y Q st→c.wpIn (Wd ro) 0 P (lift G Fr w0 Q) a w:=by
 intro s;induction s with
 |skip=>
  intro ro w0 Y c Q G σ Fr st a w Tv hY hc hr hq;cases c<;>first|(simp[Gy]at hc;done)|skip
  ·exact wpIn_skip ⟨G,σ,Fr,st,Mem.le.refl G,Mem.le.refl Fr,hr,hq⟩
  ·exact wpIn_label ⟨G,σ,Fr,st,Mem.le.refl G,Mem.le.refl Fr,hr,hq⟩
 |ops l=>
  intro ro w0 Y c Q G σ Fr st a w Tv hY hc hr hq;cases c<;>first|(simp[Gy]at hc;done)|skip
  rename_i id ops Asv;cases Asv<;>first|(simp[Gy]at hc;done)|skip
  simp only[Gy]at hc;exact wpIn_region_list (Ax5 hY hc hr hq fun G' σ' st' a' w' hG D2 Jb=>⟨G',σ',Fr,st',hG,Mem.le.refl Fr,D2,Jb⟩)
 |Kf es l=>
  intro ro w0 Y c Q G σ Fr st a w Tv hY hc hr hq;cases c<;>first|(simp[Gy]at hc;done)|skip
  rename_i id ops Asv;cases Asv<;>first|(simp[Gy]at hc;done)|skip
  simp only[Gy,Ad,beq_iff_eq]at hc;exact A9s hc.1.1.1 hc.2 hc.1.1.2 hc.1.2 hr hq fun G' σ' st' a' w' hG D2 Jb=>⟨G',σ',Fr,st',hG,Mem.le.refl Fr,D2,Jb⟩
 |A1a ms l x=>
  intro ro w0 Y c Q G σ Fr st a w Tv hY hc hr hq;cases c<;>first|(simp[Gy]at hc;done)|skip
  rename_i id ops Asv;cases Asv<;>first|(simp[Gy]at hc;done)|skip
  simp only[Gy,Ad,beq_iff_eq]at hc;exact Bdi hY hc.1.1.1.1 hc.2 hc.1.2 hc.1.1.1.2 hc.1.1.2 hr hq fun G' σ' st' a' w' hG D2 Jb=>⟨G',σ',Fr,st',hG,Mem.le.refl Fr,D2,Jb⟩
 |seq x y ihx ihy=>
  intro ro w0 Y c Q G σ Fr st a w Tv hY hc hr hq;cases c<;>first|(cases y<;>simp[Gy]at hc;done)|skip
  case scope c'=>
   cases y<;>first|(simp[Gy]at hc;done)|skip
   simp only[Gy]at hc;have hx:ro=none∨x.N4=true:=Tv.imp id fun h=>by simp only[Ee.N4,Ad]at h;exact h.1
   refine Bcu (wpIn_mono (ihx hx hY hc hr hq) ?_);rintro e a' w' ⟨G',σ',H2,st',hG,hF,D2,Jb⟩;cases e with
   |normal=>exact⟨G',σ',H2,st',hG,hF,D2,Jb⟩
   |exit i=>exact⟨G',σ',H2,st',hG,hF,D2,Jb⟩
   |ret=>exact⟨G',σ',H2,st',hG,hF,D2,Jb⟩
   |_=>exact Jb.elim
  simp only[Gy,Ad]at hc;have hx:ro=none∨x.N4=true:=Tv.imp id fun h=>by simp only[Ee.N4,Ad]at h;exact h.1
  have hy:ro=none∨y.N4=true:=Tv.imp id fun h=>by simp only[Ee.N4,Ad]at h;exact h.2
  refine wpIn_seq (wpIn_mono (ihx hx hY hc.1 hr hq) ?_);rintro e a' w' ⟨G',σ',H2,st',hG,hF,D2,Jb⟩;cases e with
  |normal=>exact wpIn_mono (ihy hy (hY.le hF) hc.2 D2 Jb) (fun e a w h=>A79 hG hF h)
  |exit i=>exact⟨G',σ',H2,st',hG,hF,D2,Jb⟩
  |ret=>exact⟨G',σ',H2,st',hG,hF,D2,Jb⟩
  |_=>exact Jb.elim
 |Aww ks x y ihx ihy=>
  intro ro w0 Y c Q G σ Fr st a w Tv hY hc hr hq;cases c<;>first|(simp[Gy]at hc;done)|skip
  simp only[Gy,Ad]at hc;have hx:ro=none∨x.N4=true:=Tv.imp id fun h=>by simp only[Ee.N4,Ad]at h;exact h.1
  have hy:ro=none∨y.N4=true:=Tv.imp id fun h=>by simp only[Ee.N4,Ad]at h;exact h.2
  obtain⟨X,J,R,hb,ha⟩:=hq;refine wpIn_seq (wpIn_mono (ihx hx hY hc.1 hr ha) ?_);rintro e a' w' ⟨G',σ',H2,st',hG,hF,D2,Jb⟩;cases e with
  |normal=>
   obtain⟨z,h1,h2⟩:=Jb;exact wpIn_mono (ihy hy (hY.le hF) hc.2 (by rw[←h1];exact D2.norm ks) (hb z h2)) (fun e a w h=>A79 hG hF h)
  |exit i=>exact⟨G',σ',H2,st',hG,hF,D2,Jb⟩
  |ret=>exact⟨G',σ',H2,st',hG,hF,D2,Jb⟩
  |_=>exact Jb.elim
 |cond c' x y ihx ihy=>
  intro ro w0 Y c Q G σ Fr st a w Tv hY hc hr hq;cases c<;>first|(simp[Gy]at hc;done)|skip
  simp only[Gy,Ad]at hc;obtain⟨⟨h1,h2⟩,h3⟩:=hc;have hx:ro=none∨x.N4=true:=Tv.imp id fun h=>by simp only[Ee.N4,Ad]at h;exact h.1
  have hy:ro=none∨y.N4=true:=Tv.imp id fun h=>by simp only[Ee.N4,Ad]at h;exact h.2
  obtain⟨i,h4,h5⟩:=Hs hr h1 hq;split at h4
  ·rename_i t;rw[Bb.bool]at h5;refine wpIn_cond h5 ?_;cases t with
   |true=>exact ihx hx hY h2 hr (h4.1 rfl)
   |false=>exact ihy hy hY h3 hr (h4.2 rfl)
  ·exact h4.elim
 |block id x ih=>
  intro ro w0 Y c Q G σ Fr st a w Tv hY hc hr hq;cases c<;>first|(simp[Gy]at hc;done)|skip
  simp only[Gy,Ad,beq_iff_eq]at hc;obtain⟨rfl,h1⟩:=hc;refine wpIn_block (wpIn_mono (ih Tv hY h1 hr hq) ?_);rintro e a' w' ⟨G',σ',H2,st',hG,hF,D2,Jb⟩;cases e with
  |exit i=>
   simp only[Exit.inBlock];simp only[brk]at Jb;split
   ·rename_i hi;rw[if_pos hi]at Jb;exact⟨G',σ',H2,st',hG,hF,D2,Jb⟩
   ·rename_i hi;rw[if_neg hi]at Jb;exact⟨G',σ',H2,st',hG,hF,D2,Jb⟩
  |normal=>exact⟨G',σ',H2,st',hG,hF,D2,Jb⟩
  |ret=>exact⟨G',σ',H2,st',hG,hF,D2,Jb⟩
  |_=>exact Jb.elim
 |loop ks x ih=>
  intro ro w0 Y c Q G σ Fr st a w Tv hY hc hr hq;cases c<;>first|(simp[Gy]at hc;done)|skip
  simp only[Gy]at hc;obtain⟨⟨X,J,R,μ,⟨x0,hx0,hR0⟩,Brd⟩⟩:=hq;refine wpIn_loop_ghost (fun n a w=>∃G' σ' H2 x,G.le G'∧Fr.le H2∧Rel G' σ' H2 w0 (J x) a w∧R x∧μ x=n) (μ x0) ⟨G,σ,Fr,x0,Mem.le.refl G,Mem.le.refl Fr,by rw[←hx0];exact hr.norm ks,hR0,rfl⟩ ?_
  rintro n a1 w1 ⟨G1,σ1,F1,x1,hG1,hF1,Hr,hR1,rfl⟩;refine wpIn_mono (ih Tv (hY.le hF1) hc Hr (Brd x1 hR1)) ?_;rintro e a' w' ⟨G',σ',H2,st',hG,hF,D2,Jb⟩;cases e with
  |normal=>
   obtain⟨x',h1,h2,h3⟩:=Jb;exact⟨μ x',h3,G',σ',H2,x',hG1.trans hG,hF1.trans hF,by rw[←h1];exact D2.norm ks,h2,rfl⟩
  |exit i=>exact⟨G',σ',H2,st',hG1.trans hG,hF1.trans hF,D2,Jb⟩
  |ret=>exact⟨G',σ',H2,st',hG1.trans hG,hF1.trans hF,D2,Jb⟩
  |_=>exact Jb.elim
 |exit id=>
  intro ro w0 Y c Q G σ Fr st a w Tv hY hc hr hq;cases c<;>first|(simp[Gy]at hc;done)|skip
  simp only[Gy,beq_iff_eq]at hc;subst hc;exact wpIn_exit ⟨G,σ,Fr,st,Mem.le.refl G,Mem.le.refl Fr,hr,hq⟩
 |ret=>
  intro ro w0 Y c Q G σ Fr st a w Tv hY hc hr hq;cases c<;>first|(simp[Gy]at hc;done)|skip
  exact wpIn_ret ⟨G,σ,Fr,st,Mem.le.refl G,Mem.le.refl Fr,hr,hq⟩
 |Ajh g f n nc ps it sa sb ihI ihA ihB=>
  intro ro w0 Y c Q G σ Fr st a w Tv hY hc hr hq;cases c<;>first|(simp[Gy]at hc;done)|skip
  rename_i g' psA ca cb;cases g'<;>first|(simp[Gy]at hc;done)|skip
  obtain rfl:ro=none:=Tv.resolve_right (by simp[Ee.N4])
  simp only[Gy,Ad,beq_iff_eq,decide_eq_true_eq,Ew]at hc;obtain⟨⟨⟨⟨⟨⟨⟨⟨⟨⟨rfl,h2⟩,h3⟩,h4⟩,h5⟩,h6⟩,h7⟩,h8⟩,h9⟩,h10⟩,h11⟩:=hc;split at h11
  case h_2=>cases h11
  rename_i fn Mh;simp only[Ad,beq_iff_eq]at h11;obtain⟨⟨k1,k2⟩,k3⟩:=h11;split at k3
  case h_2=>cases k3
  rename_i ci hci;refine Bf8 (ci:=ci) (fn:=fn) (f:=f) (n:=n) (nc:=nc) (ps:=ps) (it:=it) (sa:=sa) (sb:=sb) (fun hw hY hr hq=>ihI (.inl rfl) hY (by rw[hw];exact k3) hr hq) (fun {l} {G} {σ} {Fr} {w0'} {st} {a} {w} {Q} hw hr hq=>ihA (.inr h8) Wm (by rw[hw,h3];exact h6) hr hq)
   (fun {l} {G} {σ} {Fr} {w0'} {st} {a} {w} {Q} hw hr hq=>ihB (.inr h9) Wm (by rw[hw,h3];exact h7) hr hq) h3.symm (by rw[h3];exact h2) h4 (fun p hp=>by rw[h3];exact h5 p hp) h10 Mh k1 k2 hci hr ?_
  unfold wpS at hq ⊢;exact hq
end
end Go.Ab
