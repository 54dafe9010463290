/- Lemmas -/
import Derived.Test.YtkpojedpcabojaaGreatDoorAb16
set_option linter.unusedVariables false
set_option linter.unusedSimpArgs false
namespace Go.Ab
def Ko(P:Program)(f:FuncId):Bool:=match P.funcs[f]? with
 |some fn=>fn.body.isSome&& !(fn.name== "runtime.NumGoroutine")
 |none=>false
section
variable{P:Program}{N:Nat}{G:Mem}{σ:Lab}{Fr:Mem}{w0:Base}{w:World}{st:St}{a:Act}
theorem U1{o:Oper}{f:FuncId}{args:Array Operand}{ts:Array TypeId}(ho:o.op= .call {callee:=.value (.func f),args,argTypes:=ts})(hf:Ko P f=true):
 (execOp a.eval o).run P w= .ok (.enter f (args.map a.eval)) w:=by
 unfold Ko at hf;split at hf
 ·rename_i fn hfn;simp only[Ap,Ad8,beq_eq_false_iff_ne,ne_eq]at hf;obtain⟨h1,h2⟩:=hf;have h4:fn.body≠none:=by rintro e;rw[e]at h1;cases h1
  simp[execOp,ho,resolve,Deferred.ofValue,Act.eval,invoke,callFunc,hfn,h2,h4]
 ·cases hf
theorem Ag3{f:FuncId}{svs:List SV}{rs:List (Option Nat)}{xs:List Operand}{Ad3:SV→List SV→Prop}(hr:Rel G σ Fr w0 st a w)(hn:(Ao3 rs).Nodup)
 (hl1:svs.length=xs.length) (hl2:rs.length=xs.length)
 (Ar2:∀(i:Nat) (sv:SV) (x:Operand),svs[i]?=some sv→xs[i]?=some x→(rs[i]?=some none∧((∃u,sv= .v u∧C7 G u (a.eval x))∨∃e sz,sv= .vec e sz []∧a.eval x= .slice none 0 0))∨(∃s ver,rs[i]?=some (some s)∧st[s]?=some ver∧sv.Ay1=true∧Ab1 G σ w s sv (a.eval x)∧a.eval x=val a w0 s))
 (hfn:Fn P f svs Ad3):
 Calls P f (xs.map a.eval).toArray w fun e w'=>∃r outs c G' σ',e= .returned c∧Ad3 r outs∧G.le G'∧WOk G' (σ.outer σ' rs) Fr w0 w'∧r.root=none∧Ab1 G' σ' w' svs.length r c∧outs.length=rs.length∧
  (∀s,s ∉ Ao3 rs→Kept σ (σ.outer σ' rs) w w' s)∧
  (∀(i:Nat) s sv,rs[i]?=some (some s)→outs[i]?=some sv→sv.root=none∧Ab1 G' (σ.outer σ' rs) w' s sv (a.eval (xs.getD i (.tmp 0))))∧
  (∀b k,σ' b=some (svs.length,k)→σ.outer σ' rs b=none∧G' b=none∧Fr b=none∧b<w'.heap.size)∧(∀b b' k,σ' b=some (svs.length,k)→σ' b'=some (svs.length,k)→b=b'):=by
 have hw:=hr.Fc;have A41:∀{b i k},σ.inner rs b=some (i,k)→∃s,σ b=some (s,k)∧rs[i]?=some (some s):=by
  intro b i k h;unfold Lab.inner at h;split at h
  ·rename_i s k' hb;split at h
   ·rename_i j hj;cases h;exact⟨s,hb,Afv hj⟩
   ·cases h
  ·cases h
 have H2:WOk G (σ.inner rs) (Fr.inner σ w rs) ⟨w,0, #[]⟩ w:=by
  refine⟨hw.fixed,?_,?_,?_,rfl,rfl,rfl,Bz _,?_,hw.amb⟩
  ·rintro b ⟨i,k⟩ hb;obtain⟨s,h1,h2⟩:=A41 hb;obtain⟨h3,h4,h5⟩:=hw.own b _ h1;refine⟨h3,?_,h5⟩;unfold Mem.inner;simp[h1,Cb h2]
  ·rintro b b' ⟨i,k⟩ hb Sy;obtain⟨s,h1,h2⟩:=A41 hb;obtain⟨s',h3,h4⟩:=A41 Sy;rw[h2]at h4;cases h4;exact hw.inj b b' _ h1 h3
  ·intro b o hb;unfold Mem.inner at hb;split at hb
   ·split at hb
    ·cases hb
    ·exact hb
   ·exact hw.frame b o hb
  ·intro b o hb;unfold Mem.inner at hb;split at hb
   ·rename_i h;exact(hw.own b _ h).1
   ·exact hw.apart b o hb
 have hin:∀i sv,svs[i]?=some sv→sv.root=none∧Ab1 G (σ.inner rs) w i sv (((xs.map a.eval).toArray).getD i undef):=by
  intro i sv hi;have Ze:i<xs.length:=by rw[←hl1];exact(A7.1 hi).1
  have hx:xs[i]?=some xs[i]:=Ae Ze;have hc:((xs.map a.eval).toArray).getD i undef=a.eval xs[i]:=by simp[Ze]
  rw[hc];rcases Ar2 i sv _ hi hx with⟨h1,⟨u,rfl,h2⟩|⟨e,sz,rfl,h2⟩⟩|⟨s,ver,h1,h2,h3,h4,h4'⟩
  ·exact⟨rfl,h2⟩
  ·refine⟨rfl,[],?_,rfl,by simp,?_⟩
   ·rw[h2];exact Arr.nil w e sz
   ·rw[h2];simp[Value.ownBlock]
  ·refine⟨SV.Be2 h3,Ab1.tr h4 (Mem.le.refl G) fun b k hb=>⟨?_,rfl⟩⟩
   simp[Lab.inner,hb,Ss hn h1]
 have Bec:=hfn G (σ.inner rs) (Fr.inner σ w rs) w (xs.map a.eval).toArray H2 (by simp[hl1]) hin
 refine Bec.mono ?_;rintro e w' ⟨r,outs,c,G',σ',he,hp,hG,At8,Asb,Dh,hlen,Bqd⟩;have far:∀{b s k},σ b=some (s,k)→s ∉ Ao3 rs→Fr.inner σ w rs b=w.heap[b]?∧σ' b=none∧∃o,w.heap[b]?=some o:=by
  intro b s k hb hs;have h1:Fr.inner σ w rs b=w.heap[b]?:=by
   unfold Mem.inner;simp[hb,L4,hs]
  have h2:∃o,w.heap[b]?=some o:=⟨_,E6 (hw.own b _ hb).2.2⟩;refine⟨h1,?_,h2⟩;cases h3:σ' b with
  |none=>rfl
  |some Gf=>
   have:=(At8.own b Gf h3).2.1;rw[h1]at this;obtain⟨o,ho⟩:=h2;rw[ho]at this;cases this
 have Bhx:∀{b s k},σ b=some (s,k)→s ∉ Ao3 rs→σ.outer σ' rs b=some (s,k):=by
  intro b s k hb hs;unfold Lab.outer;simp[hb,L4,hs]
 have A3g:∀{b s k},σ.outer σ' rs b=some (s,k)→(s ∉ Ao3 rs∧σ b=some (s,k))∨∃i,σ' b=some (i,k)∧rs[i]?=some (some s):=by
  intro b s k h;unfold Lab.outer at h;split at h
  ·rename_i s' k' hb;split at h
   ·split at h
    ·rename_i i k'' hi;split at h
     ·rename_i s'' Bio;cases h;exact .inr ⟨i,hi,Bio⟩
     ·cases h
    ·cases h
   ·rename_i hs';cases h;exact .inl ⟨by rwa [L4]at hs',hb⟩
  ·split at h
   ·rename_i i k'' hi;split at h
    ·rename_i s'' Bio;cases h;exact .inr ⟨i,hi,Bio⟩
    ·cases h
   ·cases h
 have Bew:∀{b i s k},σ' b=some (i,k)→rs[i]?=some (some s)→σ.outer σ' rs b=some (s,k):=by
  intro b i s k h1 h2;unfold Lab.outer;split
  ·rename_i s' k' hb;split
   ·simp[h1,h2]
   ·rename_i hs';obtain⟨_,h3,_⟩:=far hb (by rwa [L4]at hs')
    rw[h1]at h3;cases h3
  ·simp[h1,h2]
 refine⟨r,outs,c,G',σ',he,hp,hG,?_,Asb,Dh,by rw[hlen,hl1,hl2],?_,?_,?_,?_⟩
 ·refine⟨At8.fixed,?_,?_,?_,At8.os.trans hw.os,At8.tape.trans hw.tape,At8.output.trans hw.output,Kq hw.size At8.size,?_,At8.amb⟩
  ·rintro b ⟨s,k⟩ hb;rcases A3g hb with⟨h1,h2⟩|⟨i,h1,h2⟩
   ·obtain⟨h3,h4,o,h5⟩:=far h2 h1;obtain⟨h6,h7,h8⟩:=hw.own b _ h2;rw[h5]at h3;have h9:=At8.frame b o h3;exact⟨At8.apart b o h3,h7,(Ht.1 h9).1⟩
   ·obtain⟨h3,h4,h5⟩:=At8.own b _ h1;refine⟨h3,?_,h5⟩;cases hf:Fr b with
    |none=>rfl
    |some o=>
     have hσ:σ b=none:=by
      cases hh:σ b with
      |none=>rfl
      |some Gf=>have:=(hw.own b _ hh).2.1;rw[hf]at this;cases this
     have:Fr.inner σ w rs b=some o:=by unfold Mem.inner;simp[hσ,hf]
     rw[this]at h4;cases h4
  ·rintro b b' ⟨s,k⟩ hb Sy;rcases A3g hb with⟨h1,h2⟩|⟨i,h1,h2⟩<;>rcases A3g Sy with⟨h3,h4⟩|⟨j,h3,h4⟩
   ·exact hw.inj b b' _ h2 h4
   ·exact absurd (L4.1 (Cb h4)) h1
   ·exact absurd (L4.1 (Cb h2)) h3
   ·have e1:=Ss hn h2;have e2:=Ss hn h4;rw[e1]at e2;cases e2;exact At8.inj b b' _ h1 h3
  ·intro b o hb;have hσ:σ b=none:=by
    cases hh:σ b with
    |none=>rfl
    |some Gf=>have:=(hw.own b _ hh).2.1;rw[hb]at this;cases this
   exact At8.frame b o (by unfold Mem.inner;simp[hσ,hb])
  ·intro b o hb;have hσ:σ b=none:=by
    cases hh:σ b with
    |none=>rfl
    |some Gf=>have:=(hw.own b _ hh).2.1;rw[hb]at this;cases this
   exact At8.apart b o (by unfold Mem.inner;simp[hσ,hb])
 ·intro s hs b k hb;obtain⟨h3,h4,o,h5⟩:=far hb hs;refine⟨Bhx hb hs,?_⟩;rw[h5]at h3 ⊢;exact At8.frame b o h3
 ·intro i s sv h1 h2;obtain⟨h3,h4⟩:=Bqd i sv h2;refine⟨h3,?_⟩;have Ze:i<xs.length:=by rw[←hl2];exact(A7.1 h1).1
  have hc:((xs.map a.eval).toArray).getD i undef=a.eval (xs.getD i (.tmp 0)):=by simp[Ze]
  rw[←hc];exact Ab1.tr h4 (Mem.le.refl G') fun b k hb=>⟨Bew hb h1,rfl⟩
 ·intro b k hb;have Bqc:rs[svs.length]?=none:=by rw[Aic];omega
  obtain⟨h3,h4,h5⟩:=At8.own b _ hb;have Azk:σ.outer σ' rs b=none:=by
   cases hh:σ.outer σ' rs b with
   |none=>rfl
   |some Gf=>
    obtain⟨s,k'⟩:=Gf;rcases A3g hh with⟨h1,h2⟩|⟨i,h1,h2⟩
    ·obtain⟨_,h6,_⟩:=far h2 h1;rw[hb]at h6;cases h6
    ·rw[hb]at h1;cases h1;rw[Bqc]at h2;cases h2
  refine⟨Azk,h3,?_,h5⟩;cases hf:Fr b with
  |none=>rfl
  |some o=>
   have hσ:σ b=none:=by
    cases hh:σ b with
    |none=>rfl
    |some Gf=>have:=(hw.own b _ hh).2.1;rw[hf]at this;cases this
   have:Fr.inner σ w rs b=some o:=by unfold Mem.inner;simp[hσ,hf]
   rw[this]at h4;cases h4
 ·intro b b' k h1 h2;exact At8.inj b b' _ h1 h2
def Y6(d:Option Nat)(f:FuncId)(svs:List SV)(rs:List (Option Nat)):M:=.Hh ((Ao3 rs).Nodup∧∀d',d=some d'→d' ∉ Ao3 rs) fun _=>
 .call f svs fun r outs=>.Hh (∀h,r≠ .par h) fun _=>.Hh (∀sv∈outs,∀h,sv≠ .par h) fun _=>Qc rs outs (Bcd d r)
theorem Vk{o:Oper}{f:FuncId}{Ahz:Array Value}{svs:List SV}{rs:List (Option Nat)}{xs:List Operand}{Q:St→Prop}{next:Act→World→Prop}{E:Exit→Act→World→Prop}(Aih:(execOp a.eval o).run P w= .ok (.enter f Ahz) w)
 (he:(xs.map a.eval).toArray=Ahz) {G1:Mem} {σ1:Lab} {st1:St} (hr1:Rel G1 σ1 Fr w0 st1 a w) (hl1:svs.length=xs.length) (hl2:rs.length=xs.length)
 (Ar2:∀(i:Nat) (sv:SV) (x:Operand),svs[i]?=some sv→xs[i]?=some x→(rs[i]?=some none∧((∃u,sv= .v u∧C7 G1 u (a.eval x))∨∃e sz,sv= .vec e sz []∧a.eval x= .slice none 0 0))∨(∃s ver,rs[i]?=some (some s)∧st1[s]?=some ver∧sv.Ay1=true∧Ab1 G1 σ1 w s sv (a.eval x)∧a.eval x=val a w0 s))
 (h2:(Y6 o.dst f svs rs).wp P Q st1) (hn:∀G' σ' st' a' w',G1.le G'→Rel G' σ' Fr w0 st' a' w'→Q st'→next a' w') (C2:∀d,o.dst=some d→d<w0.n):o.wp P a w next E:=by
 obtain⟨⟨hnd,hdn⟩,⟨Ad3,hfn,h2⟩⟩:=h2;have hc:=Ag3 (xs:=xs) hr1 hnd hl1 hl2 Ar2 hfn;unfold Oper.wp;rw[Aih,Oper.upon_enter];rw[he]at hc;refine hc.mono ?_;rintro e w' ⟨r,outs,c,G',σ',rfl,hp,hG',H2,Asb,Dh,hol,Bej,Bp4,Ak3,Bib⟩;have h3:=h2 r outs hp;obtain⟨hrp,hop,h3⟩:=h3;obtain⟨st2,h4,Bqa,Bes,Akv⟩:=Q0 hol.symm hnd h3;have hr2:Rel G' (σ1.outer σ' rs) Fr w0 st2 a w':=by
  refine hr1.many H2 hG' Bqa fun s=>?_
  by_cases hs:s∈Ao3 rs
  ·right;obtain⟨i,hi⟩:=List.mem_iff_getElem?.1 (L4.2 hs);have hio:i<outs.length:=by rw[hol];exact(A7.1 hi).1
   have hoi:outs[i]?=some outs[i]:=Ae hio;obtain⟨ver,old,k1,k2⟩:=Akv i s _ hi hoi;obtain⟨k3,k4⟩:=Bp4 i s _ hi hoi;refine⟨ver,old,ver+1,_,k1,k2,Ej _,by rw[Yr];exact k3,fun h e=>hop _ (List.getElem_mem hio) h (Aaj e),?_,Yq⟩
   rw[Aak];have hxi:i<xs.length:=by rw[←hl2];exact(A7.1 hi).1
   have hsi:i<svs.length:=by rw[hl1];exact hxi
   rcases Ar2 i svs[i] xs[i] (Ae hsi) (Ae hxi)with⟨q1,_⟩|⟨s',Gu,q1,q2,q3,q4,q5⟩
   ·rw[hi]at q1;cases q1
   ·rw[hi]at q1;cases q1;have:xs.getD i (.tmp 0)=xs[i]:=by rw[List.getD,Ae hxi];rfl
    rw[this,q5]at k4;exact k4
  ·exact .inl ⟨Bes s hs,Bej s hs⟩
 have Au1:∃σ3 st3,Rel G' σ3 Fr w0 st3 (a.put o.dst c) w'∧Q st3:=by
  cases hd:o.dst with
  |none=>rw[hd]at h4;exact⟨_,st2,hr2,h4⟩
  |some d=>
   rw[hd]at h4;simp only[Bcd,Jz,M.wp]at h4;cases hdd:st2[d]? with
   |none=>simp[hdd]at h4
   |some cur=>
    simp only[hdd]at h4
    let σ3:Lab:=fun b=>match σ' b with
     |some (i,k)=>if i=svs.length then some (d,k)else(σ1.outer σ' rs).drop d b
     |none=>(σ1.outer σ' rs).drop d b
    have Bix:∀{b Gf},σ3 b=some Gf→(∃k,σ' b=some (svs.length,k)∧Gf=(d,k))∨((σ1.outer σ' rs).drop d b=some Gf∧∀k,σ' b≠some (svs.length,k)):=by
     intro b Gf hb;simp only[σ3]at hb;split at hb
     ·rename_i i k hi;split at hb
      ·rename_i e;cases hb;exact .inl ⟨k,by rw[hi,e],rfl⟩
      ·rename_i e;exact .inr ⟨hb,fun k' hk'=>by rw[hi]at hk';cases hk';exact e rfl⟩
     ·rename_i hi;exact .inr ⟨hb,fun k' hk'=>by rw[hi]at hk';cases hk'⟩
    have Bp8:∀{b k},σ' b=some (svs.length,k)→σ3 b=some (d,k):=by
     intro b k hb;simp only[σ3,hb,if_true]
    have Bsx:∀{b Gf},(σ1.outer σ' rs).drop d b=some Gf→σ3 b=some Gf:=by
     intro b Gf hb;have Azk:=Lab.Ayq hb;simp only[σ3];split
     ·rename_i i k hi;split
      ·rename_i e;subst e;rw[(Ak3 b k hi).1]at Azk;cases Azk
      ·exact hb
     ·exact hb
    have Bij:WOk G' σ3 Fr w0 w':=by
     refine⟨H2.fixed,?_,?_,H2.frame,H2.os,H2.tape,H2.output,H2.size,H2.apart,H2.amb⟩
     ·intro b Gf hb;rcases Bix hb with⟨k,h5,rfl⟩|⟨h5,_⟩
      ·exact(Ak3 b k h5).2
      ·exact H2.own b Gf (Lab.Ayq h5)
     ·intro b b' Gf hb Sy;rcases Bix hb with⟨k,h5,rfl⟩|⟨h5,h6⟩<;>rcases Bix Sy with⟨k',h7,h8⟩|⟨h7,h8⟩
      ·cases h8;exact Bib b b' k h5 h7
      ·exact absurd rfl (Lab.Ade.1 h7).1
      ·subst h8;exact absurd rfl (Lab.Ade.1 h5).1
      ·exact H2.inj b b' Gf (Lab.Ayq h5) (Lab.Ayq h7)
    refine⟨σ3,_,hr2.put (C2 d hd) Bij (Mem.le.refl G') hdd (Ej _) ?_ ?_ (fun h e=>absurd (Te.1 e) (hrp h)) Nx,h4⟩
    ·intro s' hs' b k hb;exact⟨Bsx (Lab.Ade.2 ⟨hs',hb⟩),rfl⟩
    ·rw[Ait.own (by rw[Sm];exact Asb),Tf]
     exact Ab1.tr Dh (Mem.le.refl G') fun b k hb=>⟨Bp8 hb,rfl⟩
 obtain⟨σ3,st3,q1,q2⟩:=Au1;exact hn G' σ3 st3 _ w' hG' q1 q2
theorem Wr{o:Oper}{f:FuncId}{args:Array Operand}{az:List (Bool × D6)}{Q:St→Prop}{next:Act→World→Prop}{E:Exit→Act→World→Prop}(Aih:(execOp a.eval o).run P w= .ok (.enter f (args.map a.eval)) w)
 (ha:Ke w0.n args.toList az=true) (hr:Rel G σ Fr w0 st a w) (hw:(Uh o.dst f az).wp P Q st) (hn:∀G' σ' st' a' w',G.le G'→Rel G' σ' Fr w0 st' a' w'→Q st'→next a' w') (C2:∀d,o.dst=some d→d<w0.n):o.wp P a w next E:=by
 obtain⟨us,G1,σ1,st1,hG1,hr1,h1,hul,hu⟩:=Rw hr ha hw;obtain⟨svs,rs,h2,hl1,hl2,Ar2⟩:=Pb hr1 ha hul hu h1;have he:(args.toList.map a.eval).toArray=args.map a.eval:=by
  apply Array.ext';simp only[Array.toList_map]
 exact Vk Aih he hr1 hl1 hl2 Ar2 h2 (fun G' σ' st' a' w' hG=>hn G' σ' st' a' w' (hG1.trans hG)) C2
theorem Adc{o:Oper}{f:FuncId}{args:Array Operand}{ts:Array TypeId}{az:List (Bool × D6)}(ho:o.op= .call {callee:=.value (.func f),args,argTypes:=ts})(hf:Ko P f=true)
 (ha:Ke N args.toList az=true):Sound P N o (Uh o.dst f az):=by
 intro G σ Fr w0 st a w Q next E hN hr hw hn C2
 subst hN;exact Wr (U1 ho hf) ha hr hw hn C2
def Bi8(x:D6)(k:M):M:=match x with
 | .t n=>.get n fun _ sv=>match sv with
   | .bd _ _ _=>M6 (.t n) fun u=>.get n fun ver _=>.set n (ver+1) (.own [([],ver+1)] u) k
   |_=>k
 |_=>k
def ownArgs:List (Bool × D6)→M→M
 | [],k=>k
 |(b,x)::az,k=>match b with
  |true=>Bi8 x (ownArgs az k)
  |false=>ownArgs az k
def V9(d:Option Nat)(f:FuncId)(az:List (Bool × D6)):M:=ownArgs az (Uh d f az)
theorem Ag7{n:Nat}(h:n<a.tmps.size):a.put (some n) (a.eval (.tmp n))=a:=by
 cases a with
 |mk tmps defers=>
  simp only[Act.put,Act.eval]at h ⊢
  congr 1
  apply Array.ext
  ·simp
  ·intro i h1 h2;by_cases e:n=i
   ·subst e;simp[h]
   ·rw[Array.getElem_setIfInBounds h2];rw[if_neg e]
theorem Ag5{Q:St→Prop}{x:Operand}{y:D6}{k:M}(h:Rel G σ Fr w0 st a w)(ho:Jj w0.n x y=true)(hq:(Bi8 y k).wp P Q st):∃G' σ' st',G.le G'∧Rel G' σ' Fr w0 st' a w∧k.wp P Q st':=by
 cases y with
 |c _=>exact⟨G,σ,st,Mem.le.refl G,h,hq⟩
 |Ahc _ _=>exact⟨G,σ,st,Mem.le.refl G,h,hq⟩
 |t n=>
  have ho':=ho;obtain⟨rfl,Agv⟩:=J0 ho;simp only[Bi8,M.wp]at hq;cases hs:st[n]? with
  |none=>simp[hs]at hq
  |some cur=>
   obtain⟨ver,sv⟩:=cur;simp only[hs]at hq;cases sv with
   |bd s v p=>
    simp only at hq;obtain⟨u,G',σ',st',h1,h2,h3,h4⟩:=Tp h ho' hq;simp only[M.wp]at h3;cases hs':st'[n]? with
    |none=>simp[hs']at h3
    |some Amr=>
     obtain⟨Gu,sv'⟩:=Amr;simp only[hs']at h3;obtain⟨σ2,st2,k1,k2⟩:=h2.Anp (P:=P) (d:=n) (Q:=fun As9=>As9=st'.set n (Gu+1,.own [([],Gu+1)] u)) Agv h4 (by simp[Jz,M.wp,hs',SV.fresh])
     rw[Ag7 (by rw[h2.n];exact Agv)]at k1
     subst k2;exact⟨G',σ2,_,h1,k1,h3⟩
   |_=>exact⟨G,σ,st,Mem.le.refl G,h,hq⟩
theorem Rt{Q:St→Prop}{k:M}:∀{xs:List Operand} {az:List (Bool × D6)} {G:Mem} {σ:Lab} {st:St},Rel G σ Fr w0 st a w→Ke w0.n xs az=true→(ownArgs az k).wp P Q st→∃G' σ' st',G.le G'∧Rel G' σ' Fr w0 st' a w∧k.wp P Q st'
 | [],[],G,σ,st,h,_,hq=>⟨G,σ,st,Mem.le.refl G,h,hq⟩
 |x::xs,(true,y)::az,G,σ,st,h,ho,hq=>by
  simp only[Ke,Ap]at ho;obtain⟨G1,σ1,st1,h1,h2,h3⟩:=Ag5 h ho.1 hq;obtain⟨G2,σ2,st2,k1,k2,k3⟩:=Rt h2 ho.2 h3;exact⟨G2,σ2,st2,h1.trans k1,k2,k3⟩
 |x::xs,(false,y)::az,G,σ,st,h,ho,hq=>by
  simp only[Ke,Ap]at ho;exact Rt h ho.2 hq
 | [],_::_,_,_,_,_,ho,_=>by cases ho
 |_::_,[],_,_,_,_,ho,_=>by simp[Ke]at ho
theorem Agr{o:Oper}{f:FuncId}{args:Array Operand}{ts:Array TypeId}{az:List (Bool × D6)}(ho:o.op= .call {callee:=.value (.func f),args,argTypes:=ts})(hf:Ko P f=true)
 (ha:Ke N args.toList az=true):Sound P N o (V9 o.dst f az):=by
 intro G σ Fr w0 st a w Q next E hN hr hw hn C2
 subst hN;obtain⟨G',σ',st',h1,h2,h3⟩:=Rt hr ha hw;exact Adc ho hf ha G' σ' Fr w0 st' a w Q next E rfl h2 h3 (fun G2 σ2 st2 a2 w2 k1 k2 k3=>hn G2 σ2 st2 a2 w2 (h1.trans k1) k2 k3) C2
theorem C7.fn{f:FuncId}{c:Value}:C7 G (.fn f) c↔c= .func (.func f) #[] #[]:=by
 unfold C7;rw[if_neg (by simp[I.isAgg])]
 simp only[D8,Ajg,and_true]
def plain:I→Bool
 | .int _ _| .bool _| .str _| .fn _=>true
 |_=>false
mutual
def I.strip:I→I
 | .int k n=>.int k n
 | .bool b=>.bool b
 | .str s=>.str s
 | .fn f=>.fn f
 | .agg l=>.agg (Akg l)
 | .arr sz l=>.arr sz (Akg l)
 |_=>.und
def Akg:List I→List I
 | []=>[]
 |x::l=>x.strip::Akg l
end
mutual
theorem A10:∀x:I,x.strip.isAgg=x.isAgg∧x.strip.size=x.size
 | .agg l=>⟨rfl,(Ax4 l).1⟩
 | .arr sz l=>⟨rfl,congrArg (sz* ·) (Ax4 l).2⟩
 | .int _ _=>⟨rfl,rfl⟩
 | .bool _=>⟨rfl,rfl⟩
 | .str _=>⟨rfl,rfl⟩
 | .fn _=>⟨rfl,rfl⟩
 | .und=>⟨rfl,rfl⟩
 | .list _=>⟨rfl,rfl⟩
 | .clo _ _=>⟨rfl,rfl⟩
 | .A1v=>⟨rfl,rfl⟩
 | .Aw9=>⟨rfl,rfl⟩
 | .A3c=>⟨rfl,rfl⟩
 | .ifc _ _=>⟨rfl,rfl⟩
theorem Ax4:∀l:List I,sizes (Akg l)=sizes l∧(Akg l).length=l.length
 | []=>⟨rfl,rfl⟩
 |x::l=>by
  obtain⟨h1,h2⟩:=Ax4 l;simp only[Akg,sizes,Ho,(A10 x).2,h1,h2,and_self]
end
theorem S7{sz:Nat}:∀{l:List I},(∀x∈l,x.size=sz)→∀x∈Akg l,x.size=sz
 | [],_,x,hx=>by cases hx
 |y::l,h,x,hx=>by
  simp only[Akg,Bg]at hx;rcases hx with rfl|hx
  ·rw[(A10 y).2];exact h y (by simp)
  ·exact S7 (fun z hz=>h z (by simp[hz])) x hx
theorem N9{G G':Mem}{x:I}{cs:List Value}(h:D8 G x cs)(hs:x.size=1):D8 G' .und cs:=by
 have h1:=D8.length x cs h;rw[hs]at h1;obtain⟨c,rfl⟩:=Ajp.1 h1;simp only[D8];exact⟨c,rfl,D8.one x _ h c (by simp)⟩
mutual
theorem A5d{G G':Mem}:∀(x:I) (cs:List Value),D8 G x cs→D8 G' x.strip cs
 | .int _ _,_,h=>by simpa only[D8,I.strip]using h
 | .bool _,_,h=>by simpa only[D8,I.strip]using h
 | .str _,_,h=>by simpa only[D8,I.strip]using h
 | .fn _,_,h=>by simpa only[D8,I.strip]using h
 | .und,_,h=>N9 h rfl
 | .list _,_,h=>N9 h rfl
 | .clo _ _,_,h=>N9 h rfl
 | .A1v,_,h=>N9 h rfl
 | .Aw9,_,h=>N9 h rfl
 | .A3c,_,h=>N9 h rfl
 | .ifc _ _,_,h=>N9 h rfl
 | .agg l,cs,h=>by
   simp only[D8,I.strip]at h ⊢;exact Az7 l cs h
 | .arr sz l,cs,h=>by
   simp only[D8,I.strip]at h ⊢;exact⟨Az7 l cs h.1,S7 h.2⟩
theorem Az7{G G':Mem}:∀(l:List I) (cs:List Value),F9 G l cs→F9 G' (Akg l) cs
 | [],_,h=>by simpa only[F9,Akg]using h
 |x::l,cs,h=>by
  simp only[F9,Akg]at h ⊢;obtain⟨c,d,e,h1,h2⟩:=h;exact⟨c,d,e,A5d x c h1,Az7 l d h2⟩
end
theorem Ae6{G G':Mem}{x:I}{c:Value}(h:C7 G x c):C7 G' x.strip c:=by
 unfold C7 at h ⊢;rw[(A10 x).1];split
 ·rename_i hx;rw[if_pos hx]at h;obtain⟨a,rfl,h⟩:=h;exact⟨a,rfl,A5d x _ h⟩
 ·rename_i hx;rw[if_neg hx]at h;exact A5d x _ h
def Tn(u:I):I:=match plain u with
 |true=>u
 |false=>u.strip
def R1:List F→Option (List F)
 | []=>some []
 | .i x::r=>match R1 r with
   |some us=>some (.i (Tn x)::us)
   |none=>none
 |_=>none
def Ac3(x:D6)(k:I→M):M:=match x with
 | .c x=>k x
 | .Ahc _ _=>k (.list [])
 | .t n=>.get n fun _ sv=>match sv with
   | .v x=>k x
   | .vec _ _ l=>k (.list l)
   | .bor s kk v=>.get s fun cur sv'=>.Hh (v=cur) fun _=>match sv'.Aka kk with
     |some (_,_,l)=>k (.list l)
     |none=>.fail
   | .own _ t=>match t.Bx with
     |some y=>k y
     |none=>.fail
   | .bd s v p=>.get s fun cur sv'=>match sv' with
     | .own inv t=>.Hh (J7 v inv p=true) fun _=>match D.at p t with
       |some u=>match u.Bx with
        |some y=>k y
        |none=>.fail
       |none=>.fail
     |_=>.fail
   | .bs s v p _ _=>.get s fun cur sv'=>match sv' with
     | .own _ t=>match D.at p t with
       |some u=>match u.Bx with
        |some y=>.Hh (v=cur∧u.isAgg=true) fun _=>k y
        |none=>.fail
       |none=>.fail
     |_=>.fail
   |_=>.fail
def Tv:List (Bool × D6)→(List I→M)→M
 | [],k=>k []
 |(_,x)::az,k=>Ac3 x fun u=>Tv az fun us=>k (u::us)
def Uk(d:Option Nat)(f:FuncId)(az:List (Bool × D6)):M:=Tv az fun us=>.call f (us.map .v) fun r _=>match r with
 | .v u=>Gj d (.v (Tn u)) .done
 | .tup fs=>match R1 fs with
   |some us=>Gj d (.tup us) .done
   |none=>.fail
 | .vec e sz l=>match d with
   |some d=>Jz d (.own [] (.vec e sz ((Akg l).map D.it)))
   |none=>.fail
 |_=>.fail
def Lc(w:World):Mem:=fun b=>w.heap[b]?
theorem W0{G G':Mem}{u:I}{c:Value}(h:plain u=true)(hr:C7 G u c):C7 G' u c:=by
 cases u with
 |int k n=>rw[C7.int]at hr ⊢;exact hr
 |bool b=>rw[C7.bool]at hr ⊢;exact hr
 |str s=>rw[C7.str]at hr ⊢;exact hr
 |fn f=>rw[C7.fn]at hr ⊢;exact hr
 |_=>cases h
theorem We{G G':Mem}{u:I}{c:Value}(hr:C7 G u c):C7 G' (Tn u) c:=by
 unfold Tn;split
 ·rename_i h;exact W0 h hr
 ·exact Ae6 hr
theorem Wf{G G':Mem}{σ σ':Lab}{w w':World}{s s':Nat}:∀{fs us:List F} {cs:List Value} {j j':Nat},R1 fs=some us→Aki G σ w s j fs cs→Aki G' σ' w' s' j' us cs
 | [],us,cs,j,j',h,hr=>by
   simp only[R1,A0]at h;subst h;exact hr
 | .i x::r,us,cs,j,j',h,hr=>by
   simp only[R1]at h;split at h
   ·rename_i vs hv;cases h;obtain⟨c,d,e,h1,h2⟩:=hr;exact⟨c,d,e,We h1,Wf hv h2⟩
   ·cases h
 | .vec _ _ _::r,us,cs,j,j',h,hr=>by simp[R1]at h
theorem Af2{x:Operand}{y:D6}{k:I→M}{Q:St→Prop}(h:Rel G σ Fr w0 st a w)(ho:Jj w0.n x y=true)(hq:(Ac3 y k).wp P Q st):∃u,(k u).wp P Q st∧C7 (Lc w) u (a.eval x):=by
 have hle:G.le (Lc w):=fun b o hb=>h.Fc.fixed b o hb
 have vec:∀{Gf:Nat × Nat} {e:TypeId} {sz:Nat} {l:List I} {c:Value},Aiu G σ w Gf e sz l c→C7 (Lc w) (.list l) c:=fun hv=>hv.list hle fun b _=>rfl
 cases y with
 |c i=>exact⟨i,hq,Nn ho (Lc w)⟩
 |Ahc e sz=>
  refine⟨.list [],hq,?_⟩;rw[Le ho];exact C7.list.2 ⟨none,0,rfl,Bz _,Cr _,.inl rfl⟩
 |t n=>
  obtain⟨rfl,Agv⟩:=J0 ho;simp only[Ac3,M.wp]at hq;cases hs:st[n]? with
  |none=>simp[hs]at hq
  |some cur=>
   obtain⟨ver,sv⟩:=cur;simp only[hs]at hq;have Dh:=h.slot Agv hs;cases sv with
   |v x=>exact⟨x,hq,C7.mono hle Dh⟩
   |vec e sz l=>exact⟨_,hq,vec Dh⟩
   |bor s kk v=>
    obtain⟨cur,g1,g2,g3⟩:=Dh;simp only[M.wp,g1]at hq;obtain⟨hv,hq⟩:=hq;obtain⟨e,sz,l,g4,g5⟩:=g3 hv;simp only[g4]at hq;exact⟨_,hq,vec g5⟩
   |own inv t=>
    simp only at hq;split at hq
    ·rename_i y hy;obtain⟨bs,h1,h2,_⟩:=Dh;have hI:=Fe.Bx (G':=Lc w) hle h1 hy fun b _=>rfl
     refine⟨_,hq,?_⟩;rw[←(Avb hy).2]at h2;unfold C7;cases hag:y.isAgg with
     |true=>
      rw[hag]at h2;obtain⟨a',ha'⟩:=Nr h2;rw[ha']at hI;rw[if_pos rfl];exact⟨a',ha',hI⟩
     |false=>
      rw[hag]at h2;rw[J9 h2]at hI;rw[if_neg (by simp)]
      exact hI
    ·exact hq.elim
   |bd s v p=>
    obtain⟨cur,g1,g2,g3⟩:=Dh;simp only[M.wp,g1]at hq;obtain⟨cv,csv⟩:=cur;cases csv with
    |own inv t=>
     obtain⟨ha,hq⟩:=hq;split at hq
     ·rename_i u C3;split at hq
      ·rename_i y hy;have hhd:=g3 inv t rfl ha;obtain⟨hh,ubs,e5,_,_⟩:=HdD.read (h.Eb s cv _ g1) C3 hhd;obtain⟨u1,_,e1,e0,_⟩:=hhd;rw[C3]at e1;obtain rfl:=Aag e1;have hI:=Fe.Bx (G':=Lc w) hle e5 hy fun b _=>rfl
       refine⟨_,hq,?_⟩;have hag:y.isAgg=false:=by
        rw[(Avb hy).2];cases u<;>first|rfl|cases e0
       unfold C7;rw[if_neg (by rw[hag];simp)]
       exact hI
      ·exact hq.elim
     ·exact hq.elim
    |_=>exact hq.elim
   |bs s v p lo m=>
    obtain⟨cur,g1,g2,g3⟩:=Dh;simp only[M.wp,g1]at hq;obtain⟨cv,csv⟩:=cur;cases csv with
    |own inv t=>
     simp only at hq;split at hq
     ·rename_i u C3;split at hq
      ·rename_i y hy;obtain⟨⟨rfl,hag⟩,hq⟩:=hq;obtain⟨_,hbs⟩:=g3 rfl inv t rfl;rcases hbs with⟨e1,sz1,l1,c0,ad,cap,q1,_⟩|⟨u1,hh,k1,k2,k3,k4⟩
       ·rw[C3]at q1;cases q1;cases hag
       rw[C3]at k1;obtain rfl:=Aag k1;obtain⟨bs,Ak4,hva,hnd,Aoe⟩:=show Ac5 G σ w s t (val a w0 s)from h.Eb s v _ g1;obtain⟨mm,s',ubs,f1,f2,f3,f4,f5,f6⟩:=focus (here:=none) Ak4 hnd C3
       rw[f1]at k4;obtain rfl:=Aag k4;have hI:=Fe.Bx (G':=Lc w) hle f2 hy fun b _=>rfl
       refine⟨_,hq,?_⟩;obtain⟨a',ha'⟩:=Nr k3;unfold C7;rw[if_pos (by rw[(Avb hy).2];exact hag),ha']
       rw[ha']at hI;exact⟨a',rfl,hI⟩
      ·exact hq.elim
     ·exact hq.elim
    |_=>exact hq.elim
   |_=>exact hq.elim
theorem Ru{Q:St→Prop}(h:Rel G σ Fr w0 st a w):∀{xs:List Operand} {az:List (Bool × D6)} {k:List I→M},Ke w0.n xs az=true→(Tv az k).wp P Q st→
 ∃us,(k us).wp P Q st∧us.length=xs.length∧∀(i:Nat) (u:I) (x:Operand),us[i]?=some u→xs[i]?=some x→C7 (Lc w) u (a.eval x)
 | [],[],k,_,hq=>⟨[],hq,rfl,by simp⟩
 |x::xs,(_,y)::az,k,ho,hq=>by
  simp only[Ke,Ap]at ho;obtain⟨u,h1,h2⟩:=Af2 h ho.1 hq;obtain⟨us,h3,h4,h5⟩:=Ru h ho.2 h1;refine⟨u::us,h3,by simp[h4],?_⟩
  intro i u' x' h6 h7;cases i with
  |zero=>cases h6;cases h7;exact h2
  |succ i=>exact h5 i u' x' h6 h7
 | [],_::_,_,ho,_=>by cases ho
 |_::_,[],_,ho,_=>by simp[Ke]at ho
theorem Aeq{o:Oper}{f:FuncId}{args:Array Operand}{ts:Array TypeId}{az:List (Bool × D6)}(ho:o.op= .call {callee:=.value (.func f),args,argTypes:=ts})(hf:Ko P f=true)
 (ha:Ke N args.toList az=true):Sound P N o (Uk o.dst f az):=by
 intro G σ Fr w0 st a w Q next E hN hr hw hn C2
 subst hN;obtain⟨us,⟨Ad3,hfn,h1⟩,h2,h3⟩:=Ru hr ha hw;have hw0:WOk (Lc w) (fun _=>none) (fun _=>none) ⟨w,0, #[]⟩ w:=
  ⟨fun _ _ h=>h,fun b Gf h=>by(cases h),fun b b' Gf h=>by(cases h),fun b o h=>by(cases h),rfl,rfl,rfl,Bz _,fun b o h=>by(cases h),Amb.mono (fun b o h=>hr.Fc.fixed b o h) hr.Fc.amb⟩
 have hc:=hfn (Lc w) (fun _=>none) (fun _=>none) w (args.map a.eval) hw0 (by simp[h2]) (fun i sv hi=>by
  rw[Ev]at hi;cases hu:us[i]? with
  |none=>simp[hu]at hi
  |some u=>
   simp only[hu,Fq,A0]at hi;subst hi;have hil:i<args.size:=by
    have:=(A7.1 hu).1;rw[h2]at this;simpa using this
   refine⟨rfl,?_⟩;have:=h3 i u args[i] hu (by simp[hil])
   show C7 _ _ _;simpa[Array.getD,hil]using this)
 unfold Oper.wp;rw[U1 ho hf,Oper.upon_enter];refine hc.mono ?_;rintro e w' ⟨r,outs,c,G',σ',rfl,hp,hG',H2,Asb,Dh,_⟩;have h4:=h1 r outs hp;have Hm:Rel G σ Fr w0 st a w':=hr.grow H2.os H2.tape H2.output H2.size fun b hb=>by
  have hbw:w.heap[b]?=some w.heap[b]:=E6 hb;rw[hbw];exact H2.fixed b _ (hG' b _ hbw)
 cases r with
 |v u=>
  obtain⟨σ3,st3,q1,q2⟩:=Hm.Gj C2 (sv:=.v (Tn u)) (c:=c) (fun _ _ _ _=>We Dh) h4
  exact hn G σ3 st3 _ w' (Mem.le.refl G) q1 q2
 |tup fs=>
  simp only at h4;split at h4
  ·rename_i vs hv;obtain⟨σ3,st3,q1,q2⟩:=Hm.Gj C2 (sv:=.tup vs) (c:=c) (fun _ _ _ _=>by
    obtain⟨cs,rfl,Dh⟩:=Dh;exact⟨cs,rfl,Wf hv Dh⟩) h4
   exact hn G σ3 st3 _ w' (Mem.le.refl G) q1 q2
  ·exact h4.elim
 |vec e sz l=>
  simp only at h4;split at h4
  case h_2=>exact h4.elim
  rename_i d hd;have Atb:Awb G σ Fr w' (.vec e sz ((Akg l).map D.it)) c:=by
   obtain⟨xs,⟨hl,h5⟩,h6,h7,h8⟩:=Dh;rcases h5 with⟨rfl,h0⟩|⟨g,cap,cur,rfl,_,hg,hnn,hm,hs,ht⟩
   ·obtain rfl:=Aby h0;exact⟨[],by simp[Fe,Value.cells,Akg],rfl,Ach,by simp⟩
   ·have hlen:((Akg l).map D.it).length=l.length:=by rw[Bh,(Ax4 l).2]
    refine⟨[g],?_,rfl,by simp,?_⟩
    ·simp only[Fe,Value.cells];refine .inr ⟨g,0,cap,cur,xs,[],by rw[hlen],hg,fun _=>⟨rfl,hs⟩,by rw[hlen];exact hnn,hm,by rw[E3,hs];exact Bz _,by rw[hlen];simpa using ht,H8.its.2 ⟨Az7 l xs h6,rfl⟩,?_,rfl⟩
     intro x hx;obtain⟨y,hy,rfl⟩:=X4.1 hx;exact S7 h7 y hy
    ·intro b hb;obtain rfl:=Jd.1 hb;obtain⟨k1,k2,k3⟩:=H2.own b _ (h8 b rfl);have hw:w.heap[b]?=none:=by
      cases hwb:w.heap[b]? with
      |none=>rfl
      |some o=>rw[hG' b o hwb]at k1;cases k1
     refine⟨?_,?_,?_,k3⟩
     ·cases hGb:G b with
      |none=>rfl
      |some o=>rw[hr.Fc.fixed b o hGb]at hw;cases hw
     ·cases hFb:Fr b with
      |none=>rfl
      |some o=>rw[hr.Fc.frame b o hFb]at hw;cases hw
     ·cases hsb:σ b with
      |none=>rfl
      |some Gf=>
       have:=(hr.Fc.own b Gf hsb).2.2;rw[Array.getElem?_eq_none_iff]at hw;omega
  obtain⟨σ3,st3,q1,q2⟩:=Hm.Anp (C2 d hd) Atb h4;rw[hd];exact hn G σ3 st3 _ w' (Mem.le.refl G) q1 q2
 |_=>exact h4.elim
def V6(d:Option Nat)(fs:List FuncId)(x:D6)(az:List (Bool × D6)):M:=rdI x fun u=>match u with
 | .fn f=>.Hh (f∈fs) fun _=>Uh d f az
 | .clo f A1q=>.Hh (f∈fs) fun _=>Tv az fun us=>.call f (us.map .v++A1q.map .rp) fun r _=>match r with
   | .v u=>.Hh (plain u=true) fun _=>Gj d (.v u) .done
   |_=>.fail
 |_=>.fail
theorem Ahg{o:Oper}{f:FuncId}{x:Operand}{args:Array Operand}{ts:Array TypeId}(ho:o.op= .call {callee:=.value x,args,argTypes:=ts})(hx:a.eval x= .func (.func f) #[] #[])(hf:Ko P f=true):
 (execOp a.eval o).run P w= .ok (.enter f (args.map a.eval)) w:=by
 unfold Ko at hf;split at hf
 ·rename_i fn hfn;simp only[Ap,Ad8,beq_eq_false_iff_ne,ne_eq]at hf;obtain⟨h1,h2⟩:=hf;have h4:fn.body≠none:=by rintro e;rw[e]at h1;cases h1
  simp[execOp,ho,resolve,Deferred.ofValue,hx,invoke,callFunc,hfn,h2,h4]
 ·cases hf
theorem Abb{o:Oper}{f:FuncId}{x:Operand}{ps:List Value}{args:Array Operand}{ts:Array TypeId}(ho:o.op= .call {callee:=.value x,args,argTypes:=ts})(hx:a.eval x= .func (.func f) #[] ps.toArray)(hf:Ko P f=true):
 (execOp a.eval o).run P w= .ok (.enter f (args.map a.eval++ps.toArray)) w:=by
 unfold Ko at hf;split at hf
 ·rename_i fn hfn;simp only[Ap,Ad8,beq_eq_false_iff_ne,ne_eq]at hf;obtain⟨h1,h2⟩:=hf;have h4:fn.body≠none:=by rintro e;rw[e]at h1;cases h1
  simp[execOp,ho,resolve,Deferred.ofValue,hx,invoke,callFunc,hfn,h2,h4]
 ·cases hf
theorem Aq8.length{G:Mem}:∀{l:List I} {ps:List Value},Aq8 G l ps→ps.length=l.length
 | [],_,h=>by simp only[Aq8]at h;simp[h]
 |x::l,ps,h=>by
  simp only[Aq8]at h;obtain⟨p,r,b,off,bl,ty,fz,pre,cs,post,rfl,_,_,_,_,_,h7⟩:=h;simp[Aq8.length h7]
theorem Aq8.get{G:Mem}:∀{l:List I} {ps:List Value} {i:Nat} {u:I},Aq8 G l ps→l[i]?=some u→∃p,ps[i]?=some p∧Azz G u p
 | [],_,i,u,_,h=>by simp at h
 |x::l,ps,i,u,hp,h=>by
  simp only[Aq8]at hp;obtain⟨p,r,b,off,bl,ty,fz,pre,cs,post,rfl,h2,h3,h4,h5,h6,h7⟩:=hp;cases i with
  |zero=>cases h;exact⟨p,rfl,b,off,bl,ty,fz,pre,cs,post,h2,h3,h4,h5,h6⟩
  |succ i=>
   have h8:l[i]?=some u:=by simpa using h
   obtain⟨p',h9,h10⟩:=Aq8.get h7 h8;exact⟨p',by simpa using h9,h10⟩
theorem Agi{o:Oper}{fs:List FuncId}{x:Operand}{x':D6}{args:Array Operand}{ts:Array TypeId}{az:List (Bool × D6)}(ho:o.op= .call {callee:=.value x,args,argTypes:=ts})(hx:Jj N x x'=true)
 (hf:fs.all (Ko P)=true) (ha:Ke N args.toList az=true):Sound P N o (V6 o.dst fs x' az):=by
 intro G σ Fr w0 st a w Q next E hN hr hw hn C2
 subst hN;obtain⟨u,h1,hv⟩:=J8 hr hx hw;clear hw;split at h1
 ·rename_i f;obtain⟨Aw4,h1⟩:=h1;exact Wr (Ahg ho (C7.fn.1 hv) (Aia.1 hf f Aw4)) ha hr h1 hn C2
 ·rename_i f A1q;obtain⟨Aw4,h1⟩:=h1;unfold C7 at hv;rw[if_neg (by simp[I.isAgg])]at hv
  simp only[D8,Ajg,and_true]at hv;obtain⟨ps,hx',hps⟩:=hv;obtain⟨us,⟨Ad3,hfn,h1⟩,h2,h3⟩:=Ru hr ha h1;have hle:G.le (Lc w):=fun b o hb=>hr.Fc.fixed b o hb
  have Boo:=Aq8.mono hle A1q ps hps;have Bk6:=Aia.1 hf f Aw4;have hw0:WOk (Lc w) (fun _=>none) (fun _=>none) ⟨w,0, #[]⟩ w:=
   ⟨fun _ _ h=>h,fun b Gf h=>by(cases h),fun b b' Gf h=>by(cases h),fun b o h=>by(cases h),rfl,rfl,rfl,Bz _,fun b o h=>by(cases h),Amb.mono (fun b o h=>hr.Fc.fixed b o h) hr.Fc.amb⟩
  have hpl:=Aq8.length Boo;have hc:=hfn (Lc w) (fun _=>none) (fun _=>none) w (args.map a.eval++ps.toArray) hw0 (by simp[h2,hpl]) (fun i sv hi=>by
   by_cases hil:i<us.length
   ·rw[Fi (by simpa using hil),Ev]at hi
    cases hu:us[i]? with
    |none=>simp[hu]at hi
    |some u=>
     simp only[hu,Fq,A0]at hi;subst hi;have Bh9:i<args.size:=by
      rw[h2]at hil;simpa using hil
     refine⟨rfl,?_⟩;have:=h3 i u args[i] hu (by simp[Bh9])
     show C7 _ _ _;have Avj:(args.map a.eval++ps.toArray).getD i undef=a.eval args[i]:=by
      rw[Bt,Aez (by simpa using Bh9)]
      simp[Bh9]
     rw[Avj];exact this
   ·rw[G4 (by simpa using hil),Bh,Ev]at hi
    have hus:us.length=args.size:=by rw[h2];simp
    cases hu:A1q[i - us.length]? with
    |none=>simp[hu]at hi
    |some u=>
     simp only[hu,Fq,A0]at hi;subst hi;refine⟨rfl,?_⟩;obtain⟨p,hp,hrp⟩:=Aq8.get Boo hu;show Azz _ _ _;have Avj:(args.map a.eval++ps.toArray).getD i undef=p:=by
      rw[Bt,Aah (by simp;omega)]
      simp only[Array.size_map, ←hus];rw[List.getElem?_toArray,hp];rfl
     rw[Avj];exact hrp)
  unfold Oper.wp;rw[Abb ho hx' Bk6,Oper.upon_enter];refine hc.mono ?_;rintro e w' ⟨r,outs,c,G',σ',rfl,hp,hG',H2,Asb,Dh,_⟩;have h4:=h1 r outs hp;have Hm:Rel G σ Fr w0 st a w':=hr.grow H2.os H2.tape H2.output H2.size fun b hb=>by
   have hbw:w.heap[b]?=some w.heap[b]:=E6 hb;rw[hbw];exact H2.fixed b _ (hG' b _ hbw)
  cases r with
  |v u=>
   obtain⟨hpl,h4⟩:=h4;obtain⟨σ3,st3,q1,q2⟩:=Hm.Gj C2 (sv:=.v u) (c:=c) (fun _ _ _ _=>W0 hpl Dh) h4
   exact hn G σ3 st3 _ w' (Mem.le.refl G) q1 q2
  |_=>exact h4.elim
 ·exact h1.elim
def V7(d:Option Nat)(tab:List (TypeId × FuncId))(x:D6):M:=rdI x fun u=>match u with
 | .ifc t v=>match tab.find? fun e=>Nat.beq e.1 t with
   |some e=>Y6 d e.2 [.v v] [none]
   |none=>.fail
 |_=>.fail
def Vv(P:Program)(name:String)(e:TypeId × FuncId):Bool:=Ko P e.2&&(match P.underlying e.1 with
 |some (.pointer _)=>false
 |some _=>true
 |none=>false)&&match P.info? e.1 with
 |some i=>match i.methods.find? (·.name==name)with
  |some m=>m.path.isEmpty&&(match m.func with
   |some (f,b)=>f==e.2&& !b
   |none=>false)
  |none=>false
 |none=>false
theorem Ahs{o:Oper}{e:TypeId × FuncId}{x:Operand}{c:Value}{name:String}{ts:Array TypeId}(ho:o.op= .call {callee:=.invoke x name,args:= #[],argTypes:=ts})(hx:a.eval x= .iface e.1 c)(hf:Vv P name e=true):
 (execOp a.eval o).run P w= .ok (.enter e.2 #[c]) w:=by
 unfold Vv at hf;simp only[Ap]at hf;obtain⟨⟨hf,hu⟩,hm⟩:=hf;unfold Ko at hf;split at hf
 ·rename_i fn hfn;simp only[Ap,Ad8,beq_eq_false_iff_ne,ne_eq]at hf;obtain⟨h1,h2⟩:=hf;have h4:fn.body≠none:=by rintro e;rw[e]at h1;cases h1
  split at hm
  case h_2=>cases hm
  rename_i i hi;split at hm
  case h_2=>cases hm
  rename_i m hmm;simp only[Ap,Array.isEmpty_iff]at hm;obtain⟨hp,hm⟩:=hm;split at hm
  case h_2=>cases hm
  rename_i f b hfb;simp only[Ap,beq_iff_eq,Ad8]at hm;obtain⟨rfl,rfl⟩:=hm;have Bqb:∀n,(method (n+1) e.1 c name).run P w= .ok (e.2,c) w:=by
   intro n;cases hT:P.underlying e.1 with
   |none=>rw[hT]at hu;cases hu
   |some T=>
    rw[hT]at hu;cases T<;>first|(cases hu;done)|simp[method,typeInfo,hi,hmm,hp,hfb,follow,receiverAt,run_underlying hT,Place.get]
  have Bob:(method (P.types.size+Made.depth) e.1 c name).run P w= .ok (e.2,c) w:=by
   have:P.types.size+Made.depth=(P.types.size+(Made.depth - 1))+1:=rfl;rw[this];exact Bqb _
  simp[execOp,ho,resolve,hx,invoke,callMethod,Bob,callFunc,hfn,h2,h4]
 ·cases hf
theorem Agm{o:Oper}{tab:List (TypeId × FuncId)}{x:Operand}{x':D6}{name:String}{ts:Array TypeId}(ho:o.op= .call {callee:=.invoke x name,args:= #[],argTypes:=ts})(hx:Jj N x x'=true)
 (hf:tab.all (Vv P name)=true):Sound P N o (V7 o.dst tab x'):=by
 intro G σ Fr w0 st a w Q next E hN hr hw hn C2
 subst hN;obtain⟨u,h1,hu⟩:=J8 hr hx hw;split at h1
 ·rename_i t v;split at h1
  ·rename_i e he;have h2:Nat.beq e.1 t=true:=by simpa using List.find?_some (p:=fun e:TypeId × FuncId=>Nat.beq e.1 t) he
   obtain rfl:=Nat.eq_of_beq_eq_true h2;obtain⟨c,hc,hv⟩:=C7.ifc.1 hu;refine Vk (xs:=[.const c]) (Ahs ho hc (Aia.1 hf e (List.mem_of_find?_eq_some he))) rfl hr rfl rfl ?_ h1 hn C2;intro i sv y h3 h4
   match i,h3,h4 with
   |0,h3,h4=>
    cases h3;cases h4;exact .inl ⟨rfl,.inl ⟨v,rfl,hv⟩⟩
   |i+1,h3,_=>simp at h3
  ·exact h1.elim
 ·exact h1.elim
end
end Go.Ab
