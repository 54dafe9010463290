/- Lemmas -/
import Derived.Test.YtgcccllpegilnaaGreatDoorAb16
set_option linter.unusedVariables false
set_option linter.unusedSimpArgs false
namespace Go.Ab
def Kr(P:Program)(f:FuncId):Bool:=match P.funcs[f]? with
 |some fn=>fn.body.isSome&& !(fn.name== "runtime.NumGoroutine")
 |none=>false
section
variable{P:Program}{N:Nat}{G:Mem}{σ:Lab}{Fr:Mem}{w0:Base}{w:World}{st:St}{a:Act}
theorem Ank{o:Oper}{f:FuncId}{args:Array Operand}{ts:Array TypeId}(ho:o.op= .call {callee:=.value (.func f),args,argTypes:=ts})(hf:Kr P f=true):
 (execOp a.eval o).run P w= .ok (.enter f (args.map a.eval)) w:=by
 unfold Kr at hf;split at hf
 ·rename_i fn Pm;simp only[Bool.and_eq_true,Bool.not_eq_true',beq_eq_false_iff_ne,ne_eq]at hf;obtain⟨h1,h2⟩:=hf;have h4:fn.body≠none:=by rintro e;rw[e]at h1;cases h1
  simp[execOp,ho,resolve,Deferred.ofValue,Act.eval,invoke,callFunc,Pm,h2,h4]
 ·cases hf
theorem Bc7{f:FuncId}{Gy:List SV}{rs:List (Option Nat)}{xs:List Operand}{Cq:SV→List SV→Prop}(hr:Rel G σ Fr w0 st a w)(hn:(E9 rs).Nodup)
 (Y4:Gy.length=xs.length) (J5:rs.length=xs.length)
 (E6:∀(i:Nat) (sv:SV) (x:Operand),Gy[i]?=some sv→xs[i]?=some x→(rs[i]?=some none∧((∃u,sv= .v u∧Aq G u (a.eval x))∨∃e sz,sv= .vec e sz []∧a.eval x= .slice none 0 0))∨(∃s ver,rs[i]?=some (some s)∧st[s]?=some ver∧sv.Xn=true∧B4 G σ w s sv (a.eval x)∧a.eval x=val a w0 s))
 (Pm:Fn P f Gy Cq):
 Calls P f (xs.map a.eval).toArray w fun e w'=>∃r outs c G' σ',e= .returned c∧Cq r outs∧G.le G'∧Dt G' (σ.outer σ' rs) Fr w0 w'∧r.root=none∧B4 G' σ' w' Gy.length r c∧outs.length=rs.length∧
  (∀s,s ∉ E9 rs→Kept σ (σ.outer σ' rs) w w' s)∧
  (∀(i:Nat) s sv,rs[i]?=some (some s)→outs[i]?=some sv→sv.root=none∧B4 G' (σ.outer σ' rs) w' s sv (a.eval (xs.getD i (.tmp 0))))∧
  (∀b k,σ' b=some (Gy.length,k)→σ.outer σ' rs b=none∧G' b=none∧Fr b=none∧b<w'.heap.size)∧(∀b b' k,σ' b=some (Gy.length,k)→σ' b'=some (Gy.length,k)→b=b'):=by
 have hw:=hr.Bm;have Ajr:∀{b i k},σ.inner rs b=some (i,k)→∃s,σ b=some (s,k)∧rs[i]?=some (some s):=by
  intro b i k h;unfold Lab.inner at h;split at h
  ·rename_i s k' hb;split at h
   ·rename_i j hj;cases h;exact⟨s,hb,Bau hj⟩
   ·cases h
  ·cases h
 have Bu:Dt G (σ.inner rs) (Fr.inner σ w rs) ⟨w,0, #[]⟩ w:=by
  refine⟨hw.fixed,?_,?_,?_,rfl,rfl,rfl,Nat.le_refl _,?_,hw.Jd⟩
  ·rintro b ⟨i,k⟩ hb;obtain⟨s,h1,h2⟩:=Ajr hb;obtain⟨h3,h4,h5⟩:=hw.own b _ h1;refine⟨h3,?_,h5⟩;unfold Mem.inner;simp[h1,List.mem_of_getElem? h2]
  ·rintro b b' ⟨i,k⟩ hb Br;obtain⟨s,h1,h2⟩:=Ajr hb;obtain⟨s',h3,h4⟩:=Ajr Br;rw[h2]at h4;cases h4;exact hw.inj b b' _ h1 h3
  ·intro b o hb;unfold Mem.inner at hb;split at hb
   ·split at hb
    ·cases hb
    ·exact hb
   ·exact hw.frame b o hb
  ·intro b o hb;unfold Mem.inner at hb;split at hb
   ·rename_i h;exact(hw.own b _ h).1
   ·exact hw.apart b o hb
 have hin:∀i sv,Gy[i]?=some sv→sv.root=none∧B4 G (σ.inner rs) w i sv (((xs.map a.eval).toArray).getD i undef):=by
  intro i sv hi;have Bb:i<xs.length:=by rw[←Y4];exact(List.getElem?_eq_some_iff.1 hi).1
  have hx:xs[i]?=some xs[i]:=List.getElem?_eq_getElem Bb;have hc:((xs.map a.eval).toArray).getD i undef=a.eval xs[i]:=by simp[Bb]
  rw[hc];rcases E6 i sv _ hi hx with⟨h1,⟨u,rfl,h2⟩|⟨e,sz,rfl,h2⟩⟩|⟨s,ver,h1,h2,h3,h4,h4'⟩
  ·exact⟨rfl,h2⟩
  ·refine⟨rfl,[],?_,rfl,by simp,?_⟩
   ·rw[h2];exact Ew.nil w e sz
   ·rw[h2];simp[Value.ownBlock]
  ·refine⟨SV.A7a h3,B4.tr h4 (Mem.le.refl G) fun b k hb=>⟨?_,rfl⟩⟩
   simp[Lab.inner,hb,Agp hn h1]
 have Abc:=Pm G (σ.inner rs) (Fr.inner σ w rs) w (xs.map a.eval).toArray Bu (by simp[Y4]) hin
 refine Abc.mono ?_;rintro e w' ⟨r,outs,c,G',σ',he,hp,hG,K1,Dp,Ay,hlen,Bkx⟩;have far:∀{b s k},σ b=some (s,k)→s ∉ E9 rs→Fr.inner σ w rs b=w.heap[b]?∧σ' b=none∧∃o,w.heap[b]?=some o:=by
  intro b s k hb hs;have h1:Fr.inner σ w rs b=w.heap[b]?:=by
   unfold Mem.inner;simp[hb,Lk,hs]
  have h2:∃o,w.heap[b]?=some o:=⟨_,Array.getElem?_eq_getElem (hw.own b _ hb).2.2⟩;refine⟨h1,?_,h2⟩;cases h3:σ' b with
  |none=>rfl
  |some Bg=>
   have:=(K1.own b Bg h3).2.1;rw[h1]at this;obtain⟨o,ho⟩:=h2;rw[ho]at this;cases this
 have Bdg:∀{b s k},σ b=some (s,k)→s ∉ E9 rs→σ.outer σ' rs b=some (s,k):=by
  intro b s k hb hs;unfold Lab.outer;simp[hb,Lk,hs]
 have Ag8:∀{b s k},σ.outer σ' rs b=some (s,k)→(s ∉ E9 rs∧σ b=some (s,k))∨∃i,σ' b=some (i,k)∧rs[i]?=some (some s):=by
  intro b s k h;unfold Lab.outer at h;split at h
  ·rename_i s' k' hb;split at h
   ·split at h
    ·rename_i i k'' hi;split at h
     ·rename_i s'' Bd4;cases h;exact .inr ⟨i,hi,Bd4⟩
     ·cases h
    ·cases h
   ·rename_i D0;cases h;exact .inl ⟨by rwa [Lk]at D0,hb⟩
  ·split at h
   ·rename_i i k'' hi;split at h
    ·rename_i s'' Bd4;cases h;exact .inr ⟨i,hi,Bd4⟩
    ·cases h
   ·cases h
 have A64:∀{b i s k},σ' b=some (i,k)→rs[i]?=some (some s)→σ.outer σ' rs b=some (s,k):=by
  intro b i s k h1 h2;unfold Lab.outer;split
  ·rename_i s' k' hb;split
   ·simp[h1,h2]
   ·rename_i D0;obtain⟨_,h3,_⟩:=far hb (by rwa [Lk]at D0)
    rw[h1]at h3;cases h3
  ·simp[h1,h2]
 refine⟨r,outs,c,G',σ',he,hp,hG,?_,Dp,Ay,by rw[hlen,Y4,J5],?_,?_,?_,?_⟩
 ·refine⟨K1.fixed,?_,?_,?_,K1.os.trans hw.os,K1.tape.trans hw.tape,K1.output.trans hw.output,Nat.le_trans hw.size K1.size,?_,K1.Jd⟩
  ·rintro b ⟨s,k⟩ hb;rcases Ag8 hb with⟨h1,h2⟩|⟨i,h1,h2⟩
   ·obtain⟨h3,h4,o,h5⟩:=far h2 h1;obtain⟨h6,h7,h8⟩:=hw.own b _ h2;rw[h5]at h3;have h9:=K1.frame b o h3;exact⟨K1.apart b o h3,h7,(Array.getElem?_eq_some_iff.1 h9).1⟩
   ·obtain⟨h3,h4,h5⟩:=K1.own b _ h1;refine⟨h3,?_,h5⟩;cases hf:Fr b with
    |none=>rfl
    |some o=>
     have hσ:σ b=none:=by
      cases hh:σ b with
      |none=>rfl
      |some Bg=>have:=(hw.own b _ hh).2.1;rw[hf]at this;cases this
     have:Fr.inner σ w rs b=some o:=by unfold Mem.inner;simp[hσ,hf]
     rw[this]at h4;cases h4
  ·rintro b b' ⟨s,k⟩ hb Br;rcases Ag8 hb with⟨h1,h2⟩|⟨i,h1,h2⟩<;>rcases Ag8 Br with⟨h3,h4⟩|⟨j,h3,h4⟩
   ·exact hw.inj b b' _ h2 h4
   ·exact absurd (Lk.1 (List.mem_of_getElem? h4)) h1
   ·exact absurd (Lk.1 (List.mem_of_getElem? h2)) h3
   ·have e1:=Agp hn h2;have e2:=Agp hn h4;rw[e1]at e2;cases e2;exact K1.inj b b' _ h1 h3
  ·intro b o hb;have hσ:σ b=none:=by
    cases hh:σ b with
    |none=>rfl
    |some Bg=>have:=(hw.own b _ hh).2.1;rw[hb]at this;cases this
   exact K1.frame b o (by unfold Mem.inner;simp[hσ,hb])
  ·intro b o hb;have hσ:σ b=none:=by
    cases hh:σ b with
    |none=>rfl
    |some Bg=>have:=(hw.own b _ hh).2.1;rw[hb]at this;cases this
   exact K1.apart b o (by unfold Mem.inner;simp[hσ,hb])
 ·intro s hs b k hb;obtain⟨h3,h4,o,h5⟩:=far hb hs;refine⟨Bdg hb hs,?_⟩;rw[h5]at h3 ⊢;exact K1.frame b o h3
 ·intro i s sv h1 h2;obtain⟨h3,h4⟩:=Bkx i sv h2;refine⟨h3,?_⟩;have Bb:i<xs.length:=by rw[←J5];exact(List.getElem?_eq_some_iff.1 h1).1
  have hc:((xs.map a.eval).toArray).getD i undef=a.eval (xs.getD i (.tmp 0)):=by simp[Bb]
  rw[←hc];exact B4.tr h4 (Mem.le.refl G') fun b k hb=>⟨A64 hb h1,rfl⟩
 ·intro b k hb;have Bkw:rs[Gy.length]?=none:=by rw[List.getElem?_eq_none];omega
  obtain⟨h3,h4,h5⟩:=K1.own b _ hb;have Tj:σ.outer σ' rs b=none:=by
   cases hh:σ.outer σ' rs b with
   |none=>rfl
   |some Bg=>
    obtain⟨s,k'⟩:=Bg;rcases Ag8 hh with⟨h1,h2⟩|⟨i,h1,h2⟩
    ·obtain⟨_,h6,_⟩:=far h2 h1;rw[hb]at h6;cases h6
    ·rw[hb]at h1;cases h1;rw[Bkw]at h2;cases h2
  refine⟨Tj,h3,?_,h5⟩;cases hf:Fr b with
  |none=>rfl
  |some o=>
   have hσ:σ b=none:=by
    cases hh:σ b with
    |none=>rfl
    |some Bg=>have:=(hw.own b _ hh).2.1;rw[hf]at this;cases this
   have:Fr.inner σ w rs b=some o:=by unfold Mem.inner;simp[hσ,hf]
   rw[this]at h4;cases h4
 ·intro b b' k h1 h2;exact K1.inj b b' _ h1 h2
theorem Ats{o:Oper}{f:FuncId}{args:Array Operand}{az:List (Bool × Ar)}{Q:St→Prop}{next:Act→World→Prop}{E:Exit→Act→World→Prop}(B0:(execOp a.eval o).run P w= .ok (.enter f (args.map a.eval)) w)
 (ha:E4 w0.n args.toList az=true) (hr:Rel G σ Fr w0 st a w) (hw:(Ak7 o.dst f az).wp P Q st) (hn:∀G' σ' Af a' w',G.le G'→Rel G' σ' Fr w0 Af a' w'→Q Af→next a' w') (Au:∀d,o.dst=some d→d<w0.n):o.wp P a w next E:=by
 obtain⟨us,G1,σ1,st1,hG1,E2,h1,Pw,hu⟩:=Ad1 hr ha hw;obtain⟨Gy,rs,h2,Y4,J5,E6⟩:=Vm E2 ha Pw hu h1;obtain⟨⟨Ku,Sq⟩,⟨Cq,Pm,h2⟩⟩:=h2;have hc:=Bc7 (xs:=args.toList) E2 Ku Y4 J5 E6 Pm;unfold Oper.wp;rw[B0,Oper.upon_enter];have he:(args.toList.map a.eval).toArray=args.map a.eval:=by
  apply Array.ext';simp only[Array.toList_map]
 rw[he]at hc;refine hc.mono ?_;rintro e w' ⟨r,outs,c,G',σ',rfl,hp,hG',Bu,Dp,Ay,Jx,A6y,Bkm,Dw,Bow⟩;have h3:=h2 r outs hp;obtain⟨hrp,Mw,h3⟩:=h3;obtain⟨st2,h4,Bkt,A6z,Cs⟩:=Zt Jx.symm Ku h3;have F2:Rel G' (σ1.outer σ' rs) Fr w0 st2 a w':=by
  refine E2.many Bu hG' Bkt fun s=>?_
  by_cases hs:s∈E9 rs
  ·right;obtain⟨i,hi⟩:=List.mem_iff_getElem?.1 (Lk.2 hs);have hio:i<outs.length:=by rw[Jx];exact(List.getElem?_eq_some_iff.1 hi).1
   have hoi:outs[i]?=some outs[i]:=List.getElem?_eq_getElem hio;obtain⟨ver,old,k1,k2⟩:=Cs i s _ hi hoi;obtain⟨k3,k4⟩:=Bkm i s _ hi hoi;refine⟨ver,old,ver+1,_,k1,k2,Nat.lt_succ_self _,by rw[Xf];exact k3,fun h e=>Mw _ (List.getElem_mem hio) h (Aa8.1 e),?_,Tc⟩
   rw[Aa9];have hxi:i<args.toList.length:=by rw[←J5];exact(List.getElem?_eq_some_iff.1 hi).1
   have hsi:i<Gy.length:=by rw[Y4];exact hxi
   rcases E6 i Gy[i] args.toList[i] (List.getElem?_eq_getElem hsi) (List.getElem?_eq_getElem hxi)with⟨q1,_⟩|⟨s',Bo,q1,q2,q3,q4,q5⟩
   ·rw[hi]at q1;cases q1
   ·rw[hi]at q1;cases q1;have:args.toList.getD i (.tmp 0)=args.toList[i]:=by rw[List.getD,List.getElem?_eq_getElem hxi];rfl
    rw[this,q5]at k4;exact k4
  ·exact .inl ⟨A6z s hs,A6y s hs⟩
 have Ayw:∃σ3 st3,Rel G' σ3 Fr w0 st3 (a.put o.dst c) w'∧Q st3:=by
  cases hd:o.dst with
  |none=>rw[hd]at h4;exact⟨_,st2,F2,h4⟩
  |some d=>
   rw[hd]at h4;simp only[A7v,C2,M.wp]at h4;cases Ub:st2[d]? with
   |none=>simp[Ub]at h4
   |some cur=>
    simp only[Ub]at h4
    let σ3:Lab:=fun b=>match σ' b with
     |some (i,k)=>if i=Gy.length then some (d,k)else(σ1.outer σ' rs).drop d b
     |none=>(σ1.outer σ' rs).drop d b
    have Bed:∀{b Bg},σ3 b=some Bg→(∃k,σ' b=some (Gy.length,k)∧Bg=(d,k))∨((σ1.outer σ' rs).drop d b=some Bg∧∀k,σ' b≠some (Gy.length,k)):=by
     intro b Bg hb;simp only[σ3]at hb;split at hb
     ·rename_i i k hi;split at hb
      ·rename_i e;cases hb;exact .inl ⟨k,by rw[hi,e],rfl⟩
      ·rename_i e;exact .inr ⟨hb,fun k' E7=>by rw[hi]at E7;cases E7;exact e rfl⟩
     ·rename_i hi;exact .inr ⟨hb,fun k' E7=>by rw[hi]at E7;cases E7⟩
    have Bkp:∀{b k},σ' b=some (Gy.length,k)→σ3 b=some (d,k):=by
     intro b k hb;simp only[σ3,hb,if_true]
    have Bn3:∀{b Bg},(σ1.outer σ' rs).drop d b=some Bg→σ3 b=some Bg:=by
     intro b Bg hb;have Tj:=Lab.Ur hb;simp only[σ3];split
     ·rename_i i k hi;split
      ·rename_i e;subst e;rw[(Dw b k hi).1]at Tj;cases Tj
      ·exact hb
     ·exact hb
    have Bd0:Dt G' σ3 Fr w0 w':=by
     refine⟨Bu.fixed,?_,?_,Bu.frame,Bu.os,Bu.tape,Bu.output,Bu.size,Bu.apart,Bu.Jd⟩
     ·intro b Bg hb;rcases Bed hb with⟨k,h5,rfl⟩|⟨h5,_⟩
      ·exact(Dw b k h5).2
      ·exact Bu.own b Bg (Lab.Ur h5)
     ·intro b b' Bg hb Br;rcases Bed hb with⟨k,h5,rfl⟩|⟨h5,h6⟩<;>rcases Bed Br with⟨k',h7,h8⟩|⟨h7,h8⟩
      ·cases h8;exact Bow b b' k h5 h7
      ·exact absurd rfl (Lab.C0.1 h7).1
      ·subst h8;exact absurd rfl (Lab.C0.1 h5).1
      ·exact Bu.inj b b' Bg (Lab.Ur h5) (Lab.Ur h7)
    refine⟨σ3,_,F2.put (Au d hd) Bd0 (Mem.le.refl G') Ub (Nat.lt_succ_self _) ?_ ?_ (fun h e=>absurd (Aa8.1 e) (hrp h)) Tc,h4⟩
    ·intro s' D0 b k hb;exact⟨Bn3 (Lab.C0.2 ⟨D0,hb⟩),rfl⟩
    ·rw[Df.own (by rw[Xf];exact Dp),Aa9]
     exact B4.tr Ay (Mem.le.refl G') fun b k hb=>⟨Bkp hb,rfl⟩
 obtain⟨σ3,st3,q1,q2⟩:=Ayw;exact hn G' σ3 st3 _ w' (hG1.trans hG') q1 q2
theorem A74{o:Oper}{f:FuncId}{args:Array Operand}{ts:Array TypeId}{az:List (Bool × Ar)}(ho:o.op= .call {callee:=.value (.func f),args,argTypes:=ts})(hf:Kr P f=true)
 (ha:E4 N args.toList az=true):Sound P N o (Ak7 o.dst f az):=by
 intro G σ Fr w0 st a w Q next E hN hr hw hn Au
 subst hN;exact Ats (Ank ho hf) ha hr hw hn Au
def Ben(x:Ar)(k:M):M:=match x with
 | .t n=>.get n fun _ sv=>match sv with
   | .bd _ _ _=>Q3 (.t n) fun u=>.get n fun ver _=>.set n (ver+1) (.own [ver+1] u) k
   |_=>k
 |_=>k
def ownArgs:List (Bool × Ar)→M→M
 | [],k=>k
 |(b,x)::az,k=>match b with
  |true=>Ben x (ownArgs az k)
  |false=>ownArgs az k
def Aq4(d:Option Nat)(f:FuncId)(az:List (Bool × Ar)):M:=ownArgs az (Ak7 d f az)
theorem Bep{n:Nat}(h:n<a.tmps.size):a.put (some n) (a.eval (.tmp n))=a:=by
 cases a with
 |mk tmps defers=>
  simp only[Act.put,Act.eval]at h ⊢
  congr 1
  apply Array.ext
  ·simp
  ·intro i h1 h2;by_cases e:n=i
   ·subst e;simp[h]
   ·rw[Array.getElem_setIfInBounds h2];rw[if_neg e]
theorem Beo{Q:St→Prop}{x:Operand}{y:Ar}{k:M}(h:Rel G σ Fr w0 st a w)(ho:Ax w0.n x y=true)(hq:(Ben y k).wp P Q st):∃G' σ' Af,G.le G'∧Rel G' σ' Fr w0 Af a w∧k.wp P Q Af:=by
 cases y with
 |c _=>exact⟨G,σ,st,Mem.le.refl G,h,hq⟩
 |Cd _ _=>exact⟨G,σ,st,Mem.le.refl G,h,hq⟩
 |t n=>
  have ho':=ho;obtain⟨rfl,Cm⟩:=Dm ho;simp only[Ben,M.wp]at hq;cases hs:st[n]? with
  |none=>simp[hs]at hq
  |some cur=>
   obtain⟨ver,sv⟩:=cur;simp only[hs]at hq;cases sv with
   |bd s v p=>
    simp only at hq;obtain⟨u,G',σ',Af,h1,h2,h3,h4⟩:=Akn h ho' hq;simp only[M.wp]at h3;cases D0:Af[n]? with
    |none=>simp[D0]at h3
    |some Ed=>
     obtain⟨Bo,C9⟩:=Ed;simp only[D0]at h3;obtain⟨σ2,st2,k1,k2⟩:=h2.Fv (P:=P) (d:=n) (Q:=fun Gt=>Gt=Af.set n (Bo+1,.own [Bo+1] u)) Cm h4 (by simp[C2,M.wp,D0,SV.fresh])
     rw[Bep (by rw[h2.n];exact Cm)]at k1
     subst k2;exact⟨G',σ2,_,h1,k1,h3⟩
   |_=>exact⟨G,σ,st,Mem.le.refl G,h,hq⟩
theorem Adu{Q:St→Prop}{k:M}:∀{xs:List Operand} {az:List (Bool × Ar)} {G:Mem} {σ:Lab} {st:St},Rel G σ Fr w0 st a w→E4 w0.n xs az=true→(ownArgs az k).wp P Q st→∃G' σ' Af,G.le G'∧Rel G' σ' Fr w0 Af a w∧k.wp P Q Af
 | [],[],G,σ,st,h,_,hq=>⟨G,σ,st,Mem.le.refl G,h,hq⟩
 |x::xs,(true,y)::az,G,σ,st,h,ho,hq=>by
  simp only[E4,Bool.and_eq_true]at ho;obtain⟨G1,σ1,st1,h1,h2,h3⟩:=Beo h ho.1 hq;obtain⟨G2,σ2,st2,k1,k2,k3⟩:=Adu h2 ho.2 h3;exact⟨G2,σ2,st2,h1.trans k1,k2,k3⟩
 |x::xs,(false,y)::az,G,σ,st,h,ho,hq=>by
  simp only[E4,Bool.and_eq_true]at ho;exact Adu h ho.2 hq
 | [],_::_,_,_,_,_,ho,_=>by cases ho
 |_::_,[],_,_,_,_,ho,_=>by simp[E4]at ho
theorem Bb8{o:Oper}{f:FuncId}{args:Array Operand}{ts:Array TypeId}{az:List (Bool × Ar)}(ho:o.op= .call {callee:=.value (.func f),args,argTypes:=ts})(hf:Kr P f=true)
 (ha:E4 N args.toList az=true):Sound P N o (Aq4 o.dst f az):=by
 intro G σ Fr w0 st a w Q next E hN hr hw hn Au
 subst hN;obtain⟨G',σ',Af,h1,h2,h3⟩:=Adu hr ha hw;exact A74 ho hf ha G' σ' Fr w0 Af a w Q next E rfl h2 h3 (fun G2 σ2 st2 a2 w2 k1 k2 k3=>hn G2 σ2 st2 a2 w2 (h1.trans k1) k2 k3) Au
theorem Aq.fn{f:FuncId}{c:Value}:Aq G (.fn f) c↔c= .func (.func f) #[] #[]:=by
 unfold Aq;rw[if_neg (by simp[I.isAgg])]
 simp only[A1,List.cons.injEq,and_true]
def plain:I→Bool
 | .int _ _| .bool _| .str _| .fn _=>true
 |_=>false
mutual
def I.strip:I→I
 | .int k n=>.int k n
 | .bool b=>.bool b
 | .str s=>.str s
 | .fn f=>.fn f
 | .agg l=>.agg (Qc l)
 | .arr sz l=>.arr sz (Qc l)
 |_=>.Nz
def Qc:List I→List I
 | []=>[]
 |x::l=>x.strip::Qc l
end
mutual
theorem Adz:∀x:I,x.strip.isAgg=x.isAgg∧x.strip.size=x.size
 | .agg l=>⟨rfl,(Z0 l).1⟩
 | .arr sz l=>⟨rfl,congrArg (sz* ·) (Z0 l).2⟩
 | .int _ _=>⟨rfl,rfl⟩
 | .bool _=>⟨rfl,rfl⟩
 | .str _=>⟨rfl,rfl⟩
 | .fn _=>⟨rfl,rfl⟩
 | .Nz=>⟨rfl,rfl⟩
 | .list _=>⟨rfl,rfl⟩
 | .Yp _ _=>⟨rfl,rfl⟩
 | .Ajy=>⟨rfl,rfl⟩
 | .Zm=>⟨rfl,rfl⟩
 | .Ajz=>⟨rfl,rfl⟩
 | .ifc _ _=>⟨rfl,rfl⟩
theorem Z0:∀l:List I,Ck (Qc l)=Ck l∧(Qc l).length=l.length
 | []=>⟨rfl,rfl⟩
 |x::l=>by
  obtain⟨h1,h2⟩:=Z0 l;simp only[Qc,Ck,List.length_cons,(Adz x).2,h1,h2,and_self]
end
theorem Arh{sz:Nat}:∀{l:List I},(∀x∈l,x.size=sz)→∀x∈Qc l,x.size=sz
 | [],_,x,hx=>by cases hx
 |y::l,h,x,hx=>by
  simp only[Qc,List.mem_cons]at hx;rcases hx with rfl|hx
  ·rw[(Adz y).2];exact h y (by simp)
  ·exact Arh (fun z hz=>h z (by simp[hz])) x hx
theorem U6{G G':Mem}{x:I}{cs:List Value}(h:A1 G x cs)(hs:x.size=1):A1 G' .Nz cs:=by
 have h1:=A1.length x cs h;rw[hs]at h1;obtain⟨c,rfl⟩:=List.length_eq_one_iff.1 h1;simp only[A1];exact⟨c,rfl,A1.one x _ h c (by simp)⟩
mutual
theorem Akm{G G':Mem}:∀(x:I) (cs:List Value),A1 G x cs→A1 G' x.strip cs
 | .int _ _,_,h=>by simpa only[A1,I.strip]using h
 | .bool _,_,h=>by simpa only[A1,I.strip]using h
 | .str _,_,h=>by simpa only[A1,I.strip]using h
 | .fn _,_,h=>by simpa only[A1,I.strip]using h
 | .Nz,_,h=>U6 h rfl
 | .list _,_,h=>U6 h rfl
 | .Yp _ _,_,h=>U6 h rfl
 | .Ajy,_,h=>U6 h rfl
 | .Zm,_,h=>U6 h rfl
 | .Ajz,_,h=>U6 h rfl
 | .ifc _ _,_,h=>U6 h rfl
 | .agg l,cs,h=>by
   simp only[A1,I.strip]at h ⊢;exact Aho l cs h
 | .arr sz l,cs,h=>by
   simp only[A1,I.strip]at h ⊢;exact⟨Aho l cs h.1,Arh h.2⟩
theorem Aho{G G':Mem}:∀(l:List I) (cs:List Value),A0 G l cs→A0 G' (Qc l) cs
 | [],_,h=>by simpa only[A0,Qc]using h
 |x::l,cs,h=>by
  simp only[A0,Qc]at h ⊢;obtain⟨c,d,e,h1,h2⟩:=h;exact⟨c,d,e,Akm x c h1,Aho l d h2⟩
end
theorem A83{G G':Mem}{x:I}{c:Value}(h:Aq G x c):Aq G' x.strip c:=by
 unfold Aq at h ⊢;rw[(Adz x).1];split
 ·rename_i hx;rw[if_pos hx]at h;obtain⟨a,rfl,h⟩:=h;exact⟨a,rfl,Akm x _ h⟩
 ·rename_i hx;rw[if_neg hx]at h;exact Akm x _ h
def Akk(u:I):I:=match plain u with
 |true=>u
 |false=>u.strip
def Afu:List F→Option (List F)
 | []=>some []
 | .i x::r=>match Afu r with
   |some us=>some (.i (Akk x)::us)
   |none=>none
 |_=>none
def A7g(x:Ar)(k:I→M):M:=match x with
 | .c x=>k x
 | .Cd _ _=>k (.list [])
 | .t n=>.get n fun _ sv=>match sv with
   | .v x=>k x
   | .vec _ _ l=>k (.list l)
   | .E0 s kk v=>.get s fun cur C9=>.Ba (v=cur) fun _=>match C9.Cx kk with
     |some (_,_,l)=>k (.list l)
     |none=>.fail
   | .own _ t=>match t.Ae with
     |some y=>k y
     |none=>.fail
   | .bd s v p=>.get s fun cur C9=>match C9 with
     | .own inv t=>.Ba (alive v inv (p.length+1)=true) fun _=>match D.at p t with
       |some u=>match u.Ae with
        |some y=>k y
        |none=>.fail
       |none=>.fail
     |_=>.fail
   | .bs s v p _ _=>.get s fun cur C9=>match C9 with
     | .own _ t=>match D.at p t with
       |some u=>match u.Ae with
        |some y=>.Ba (v=cur∧u.isAgg=true) fun _=>k y
        |none=>.fail
       |none=>.fail
     |_=>.fail
   |_=>.fail
def Ak4:List (Bool × Ar)→(List I→M)→M
 | [],k=>k []
 |(_,x)::az,k=>A7g x fun u=>Ak4 az fun us=>k (u::us)
def Ak9(d:Option Nat)(f:FuncId)(az:List (Bool × Ar)):M:=Ak4 az fun us=>.call f (us.map .v) fun r _=>match r with
 | .v u=>A9 d (.v (Akk u)) .done
 | .Dv fs=>match Afu fs with
   |some us=>A9 d (.Dv us) .done
   |none=>.fail
 |_=>.fail
def Hw(w:World):Mem:=fun b=>w.heap[b]?
theorem Auq{G G':Mem}{u:I}{c:Value}(h:plain u=true)(hr:Aq G u c):Aq G' u c:=by
 cases u with
 |int k n=>rw[Aq.int]at hr ⊢;exact hr
 |bool b=>rw[Aq.bool]at hr ⊢;exact hr
 |str s=>rw[Aq.str]at hr ⊢;exact hr
 |fn f=>rw[Aq.fn]at hr ⊢;exact hr
 |_=>cases h
theorem Ard{G G':Mem}{u:I}{c:Value}(hr:Aq G u c):Aq G' (Akk u) c:=by
 unfold Akk;split
 ·rename_i h;exact Auq h hr
 ·exact A83 hr
theorem Are{G G':Mem}{σ σ':Lab}{w w':World}{s s':Nat}:∀{fs us:List F} {cs:List Value} {j j':Nat},Afu fs=some us→C7 G σ w s j fs cs→C7 G' σ' w' s' j' us cs
 | [],us,cs,j,j',h,hr=>by
   simp only[Afu,Option.some.injEq]at h;subst h;exact hr
 | .i x::r,us,cs,j,j',h,hr=>by
   simp only[Afu]at h;split at h
   ·rename_i vs hv;cases h;obtain⟨c,d,e,h1,h2⟩:=hr;exact⟨c,d,e,Ard h1,Are hv h2⟩
   ·cases h
 | .vec _ _ _::r,us,cs,j,j',h,hr=>by simp[Afu]at h
theorem Bbc{x:Operand}{y:Ar}{k:I→M}{Q:St→Prop}(h:Rel G σ Fr w0 st a w)(ho:Ax w0.n x y=true)(hq:(A7g y k).wp P Q st):∃u,(k u).wp P Q st∧Aq (Hw w) u (a.eval x):=by
 have hle:G.le (Hw w):=fun b o hb=>h.Bm.fixed b o hb
 have vec:∀{Bg:Nat × Nat} {e:TypeId} {sz:Nat} {l:List I} {c:Value},Cw G σ w Bg e sz l c→Aq (Hw w) (.list l) c:=fun hv=>hv.list hle fun b _=>rfl
 cases y with
 |c i=>exact⟨i,hq,Sy ho (Hw w)⟩
 |Cd e sz=>
  refine⟨.list [],hq,?_⟩;rw[H9 ho];exact Aq.list.2 ⟨none,0,rfl,Nat.le_refl _,Nat.zero_le _,.inl rfl⟩
 |t n=>
  obtain⟨rfl,Cm⟩:=Dm ho;simp only[A7g,M.wp]at hq;cases hs:st[n]? with
  |none=>simp[hs]at hq
  |some cur=>
   obtain⟨ver,sv⟩:=cur;simp only[hs]at hq;have Ay:=h.slot Cm hs;cases sv with
   |v x=>exact⟨x,hq,Aq.mono hle Ay⟩
   |vec e sz l=>exact⟨_,hq,vec Ay⟩
   |E0 s kk v=>
    obtain⟨cur,g1,g2,g3⟩:=Ay;simp only[M.wp,g1]at hq;obtain⟨hv,hq⟩:=hq;obtain⟨e,sz,l,g4,g5⟩:=g3 hv;simp only[g4]at hq;exact⟨_,hq,vec g5⟩
   |own inv t=>
    simp only at hq;split at hq
    ·rename_i y hy;obtain⟨bs,h1,h2,_⟩:=Ay;have hI:=A3.Ae (G':=Hw w) hle h1 hy fun b _=>rfl
     refine⟨_,hq,?_⟩;rw[←(Jj hy).2]at h2;unfold Aq;cases Fg:y.isAgg with
     |true=>
      rw[Fg]at h2;obtain⟨a',ha'⟩:=Qh h2;rw[ha']at hI;rw[if_pos rfl];exact⟨a',ha',hI⟩
     |false=>
      rw[Fg]at h2;rw[Fp h2]at hI;rw[if_neg (by simp)]
      exact hI
    ·exact hq.elim
   |bd s v p=>
    obtain⟨cur,g1,g2,g3⟩:=Ay;simp only[M.wp,g1]at hq;obtain⟨cv,Eh⟩:=cur;cases Eh with
    |own inv t=>
     obtain⟨ha,hq⟩:=hq;split at hq
     ·rename_i u Da;split at hq
      ·rename_i y hy;have hhd:=g3 inv t rfl ha;obtain⟨hh,D7,e5,_,_⟩:=N9.read (h.Bj s cv _ g1) Da hhd;obtain⟨u1,_,e1,e0,_⟩:=hhd;rw[Da]at e1;obtain rfl:=Option.some.inj e1;have hI:=A3.Ae (G':=Hw w) hle e5 hy fun b _=>rfl
       refine⟨_,hq,?_⟩;have Fg:y.isAgg=false:=by
        rw[(Jj hy).2];cases u<;>first|rfl|cases e0
       unfold Aq;rw[if_neg (by rw[Fg];simp)]
       exact hI
      ·exact hq.elim
     ·exact hq.elim
    |_=>exact hq.elim
   |bs s v p lo m=>
    obtain⟨cur,g1,g2,g3⟩:=Ay;simp only[M.wp,g1]at hq;obtain⟨cv,Eh⟩:=cur;cases Eh with
    |own inv t=>
     simp only at hq;split at hq
     ·rename_i u Da;split at hq
      ·rename_i y hy;obtain⟨⟨rfl,Fg⟩,hq⟩:=hq;obtain⟨_,hbs⟩:=g3 rfl inv t rfl;rcases hbs with⟨e1,sz1,l1,c0,ad,cap,q1,_⟩|⟨u1,hh,k1,k2,k3,k4⟩
       ·rw[Da]at q1;cases q1;cases Fg
       rw[Da]at k1;obtain rfl:=Option.some.inj k1;obtain⟨bs,Dn,Kw,Ku,Li⟩:=show Dd G σ w s t (val a w0 s)from h.Bj s v _ g1;obtain⟨mm,s',D7,f1,f2,f3,f4,f5,f6⟩:=focus (here:=none) Dn Ku Da
       rw[f1]at k4;obtain rfl:=Option.some.inj k4;have hI:=A3.Ae (G':=Hw w) hle f2 hy fun b _=>rfl
       refine⟨_,hq,?_⟩;obtain⟨a',ha'⟩:=Qh k3;unfold Aq;rw[if_pos (by rw[(Jj hy).2];exact Fg),ha']
       rw[ha']at hI;exact⟨a',rfl,hI⟩
      ·exact hq.elim
     ·exact hq.elim
    |_=>exact hq.elim
   |_=>exact hq.elim
theorem Adv{Q:St→Prop}(h:Rel G σ Fr w0 st a w):∀{xs:List Operand} {az:List (Bool × Ar)} {k:List I→M},E4 w0.n xs az=true→(Ak4 az k).wp P Q st→
 ∃us,(k us).wp P Q st∧us.length=xs.length∧∀(i:Nat) (u:I) (x:Operand),us[i]?=some u→xs[i]?=some x→Aq (Hw w) u (a.eval x)
 | [],[],k,_,hq=>⟨[],hq,rfl,by simp⟩
 |x::xs,(_,y)::az,k,ho,hq=>by
  simp only[E4,Bool.and_eq_true]at ho;obtain⟨u,h1,h2⟩:=Bbc h ho.1 hq;obtain⟨us,h3,h4,h5⟩:=Adv h ho.2 h1;refine⟨u::us,h3,by simp[h4],?_⟩
  intro i u' x' h6 h7;cases i with
  |zero=>cases h6;cases h7;exact h2
  |succ i=>exact h5 i u' x' h6 h7
 | [],_::_,_,ho,_=>by cases ho
 |_::_,[],_,ho,_=>by simp[E4]at ho
theorem A8e{o:Oper}{f:FuncId}{args:Array Operand}{ts:Array TypeId}{az:List (Bool × Ar)}(ho:o.op= .call {callee:=.value (.func f),args,argTypes:=ts})(hf:Kr P f=true)
 (ha:E4 N args.toList az=true):Sound P N o (Ak9 o.dst f az):=by
 intro G σ Fr w0 st a w Q next E hN hr hw hn Au
 subst hN;obtain⟨us,⟨Cq,Pm,h1⟩,h2,h3⟩:=Adv hr ha hw;have hw0:Dt (Hw w) (fun _=>none) (fun _=>none) ⟨w,0, #[]⟩ w:=
  ⟨fun _ _ h=>h,fun b Bg h=>by(cases h),fun b b' Bg h=>by(cases h),fun b o h=>by(cases h),rfl,rfl,rfl,Nat.le_refl _,fun b o h=>by(cases h),Amb.mono (fun b o h=>hr.Bm.fixed b o h) hr.Bm.Jd⟩
 have hc:=Pm (Hw w) (fun _=>none) (fun _=>none) w (args.map a.eval) hw0 (by simp[h2]) (fun i sv hi=>by
  rw[List.getElem?_map]at hi;cases hu:us[i]? with
  |none=>simp[hu]at hi
  |some u=>
   simp only[hu,Option.map_some,Option.some.injEq]at hi;subst hi;have J4:i<args.size:=by
    have:=(List.getElem?_eq_some_iff.1 hu).1;rw[h2]at this;simpa using this
   refine⟨rfl,?_⟩;have:=h3 i u args[i] hu (by simp[J4])
   show Aq _ _ _;simpa[Array.getD,J4]using this)
 unfold Oper.wp;rw[Ank ho hf,Oper.upon_enter];refine hc.mono ?_;rintro e w' ⟨r,outs,c,G',σ',rfl,hp,hG',Bu,Dp,Ay,_⟩;have h4:=h1 r outs hp;have Ci:Rel G σ Fr w0 st a w':=hr.grow Bu.os Bu.tape Bu.output Bu.size fun b hb=>by
  have hbw:w.heap[b]?=some w.heap[b]:=Array.getElem?_eq_getElem hb;rw[hbw];exact Bu.fixed b _ (hG' b _ hbw)
 cases r with
 |v u=>
  obtain⟨σ3,st3,q1,q2⟩:=Ci.A9 Au (sv:=.v (Akk u)) (c:=c) (fun _ _ _ _=>Ard Ay) h4
  exact hn G σ3 st3 _ w' (Mem.le.refl G) q1 q2
 |Dv fs=>
  simp only at h4;split at h4
  ·rename_i vs hv;obtain⟨σ3,st3,q1,q2⟩:=Ci.A9 Au (sv:=.Dv vs) (c:=c) (fun _ _ _ _=>by
    obtain⟨cs,rfl,Ay⟩:=Ay;exact⟨cs,rfl,Are hv Ay⟩) h4
   exact hn G σ3 st3 _ w' (Mem.le.refl G) q1 q2
  ·exact h4.elim
 |_=>exact h4.elim
def Aq1(d:Option Nat)(fs:List FuncId)(x:Ar)(az:List (Bool × Ar)):M:=Gx x fun u=>match u with
 | .fn f=>.Ba (f∈fs) fun _=>Ak7 d f az
 | .Yp f Lw=>.Ba (f∈fs) fun _=>Ak4 az fun us=>.call f (us.map .v++Lw.map .rp) fun r _=>match r with
   | .v u=>.Ba (plain u=true) fun _=>A9 d (.v u) .done
   |_=>.fail
 |_=>.fail
theorem Bgv{o:Oper}{f:FuncId}{x:Operand}{args:Array Operand}{ts:Array TypeId}(ho:o.op= .call {callee:=.value x,args,argTypes:=ts})(hx:a.eval x= .func (.func f) #[] #[])(hf:Kr P f=true):
 (execOp a.eval o).run P w= .ok (.enter f (args.map a.eval)) w:=by
 unfold Kr at hf;split at hf
 ·rename_i fn Pm;simp only[Bool.and_eq_true,Bool.not_eq_true',beq_eq_false_iff_ne,ne_eq]at hf;obtain⟨h1,h2⟩:=hf;have h4:fn.body≠none:=by rintro e;rw[e]at h1;cases h1
  simp[execOp,ho,resolve,Deferred.ofValue,hx,invoke,callFunc,Pm,h2,h4]
 ·cases hf
theorem Bgp{o:Oper}{f:FuncId}{x:Operand}{ps:List Value}{args:Array Operand}{ts:Array TypeId}(ho:o.op= .call {callee:=.value x,args,argTypes:=ts})(hx:a.eval x= .func (.func f) #[] ps.toArray)(hf:Kr P f=true):
 (execOp a.eval o).run P w= .ok (.enter f (args.map a.eval++ps.toArray)) w:=by
 unfold Kr at hf;split at hf
 ·rename_i fn Pm;simp only[Bool.and_eq_true,Bool.not_eq_true',beq_eq_false_iff_ne,ne_eq]at hf;obtain⟨h1,h2⟩:=hf;have h4:fn.body≠none:=by rintro e;rw[e]at h1;cases h1
  simp[execOp,ho,resolve,Deferred.ofValue,hx,invoke,callFunc,Pm,h2,h4]
 ·cases hf
theorem E3.length{G:Mem}:∀{l:List I} {ps:List Value},E3 G l ps→ps.length=l.length
 | [],_,h=>by simp only[E3]at h;simp[h]
 |x::l,ps,h=>by
  simp only[E3]at h;obtain⟨p,r,b,off,bl,ty,fz,pre,cs,post,rfl,_,_,_,_,_,h7⟩:=h;simp[E3.length h7]
theorem E3.get{G:Mem}:∀{l:List I} {ps:List Value} {i:Nat} {u:I},E3 G l ps→l[i]?=some u→∃p,ps[i]?=some p∧Nj G u p
 | [],_,i,u,_,h=>by simp at h
 |x::l,ps,i,u,hp,h=>by
  simp only[E3]at hp;obtain⟨p,r,b,off,bl,ty,fz,pre,cs,post,rfl,h2,h3,h4,h5,h6,h7⟩:=hp;cases i with
  |zero=>cases h;exact⟨p,rfl,b,off,bl,ty,fz,pre,cs,post,h2,h3,h4,h5,h6⟩
  |succ i=>
   have h8:l[i]?=some u:=by simpa using h
   obtain⟨p',h9,h10⟩:=E3.get h7 h8;exact⟨p',by simpa using h9,h10⟩
theorem Bb1{o:Oper}{fs:List FuncId}{x:Operand}{x':Ar}{args:Array Operand}{ts:Array TypeId}{az:List (Bool × Ar)}(ho:o.op= .call {callee:=.value x,args,argTypes:=ts})(hx:Ax N x x'=true)
 (hf:fs.all (Kr P)=true) (ha:E4 N args.toList az=true):Sound P N o (Aq1 o.dst fs x' az):=by
 intro G σ Fr w0 st a w Q next E hN hr hw hn Au
 subst hN;obtain⟨u,h1,hv⟩:=De hr hx hw;clear hw;split at h1
 ·rename_i f;obtain⟨Sb,h1⟩:=h1;exact Ats (Bgv ho (Aq.fn.1 hv) (List.all_eq_true.1 hf f Sb)) ha hr h1 hn Au
 ·rename_i f Lw;obtain⟨Sb,h1⟩:=h1;unfold Aq at hv;rw[if_neg (by simp[I.isAgg])]at hv
  simp only[A1,List.cons.injEq,and_true]at hv;obtain⟨ps,hx',W3⟩:=hv;obtain⟨us,⟨Cq,Pm,h1⟩,h2,h3⟩:=Adv hr ha h1;have hle:G.le (Hw w):=fun b o hb=>hr.Bm.fixed b o hb
  have Bjd:=E3.mono hle Lw ps W3;have Bg6:=List.all_eq_true.1 hf f Sb;have hw0:Dt (Hw w) (fun _=>none) (fun _=>none) ⟨w,0, #[]⟩ w:=
   ⟨fun _ _ h=>h,fun b Bg h=>by(cases h),fun b b' Bg h=>by(cases h),fun b o h=>by(cases h),rfl,rfl,rfl,Nat.le_refl _,fun b o h=>by(cases h),Amb.mono (fun b o h=>hr.Bm.fixed b o h) hr.Bm.Jd⟩
  have Hz:=E3.length Bjd;have hc:=Pm (Hw w) (fun _=>none) (fun _=>none) w (args.map a.eval++ps.toArray) hw0 (by simp[h2,Hz]) (fun i sv hi=>by
   by_cases J4:i<us.length
   ·rw[List.getElem?_append_left (by simpa using J4),List.getElem?_map]at hi
    cases hu:us[i]? with
    |none=>simp[hu]at hi
    |some u=>
     simp only[hu,Option.map_some,Option.some.injEq]at hi;subst hi;have Bdx:i<args.size:=by
      rw[h2]at J4;simpa using J4
     refine⟨rfl,?_⟩;have:=h3 i u args[i] hu (by simp[Bdx])
     show Aq _ _ _;have Y1:(args.map a.eval++ps.toArray).getD i undef=a.eval args[i]:=by
      rw[Array.getD_eq_getD_getElem?,Array.getElem?_append_left (by simpa using Bdx)]
      simp[Bdx]
     rw[Y1];exact this
   ·rw[List.getElem?_append_right (by simpa using J4),List.length_map,List.getElem?_map]at hi
    have hus:us.length=args.size:=by rw[h2];simp
    cases hu:Lw[i - us.length]? with
    |none=>simp[hu]at hi
    |some u=>
     simp only[hu,Option.map_some,Option.some.injEq]at hi;subst hi;refine⟨rfl,?_⟩;obtain⟨p,hp,hrp⟩:=E3.get Bjd hu;show Nj _ _ _;have Y1:(args.map a.eval++ps.toArray).getD i undef=p:=by
      rw[Array.getD_eq_getD_getElem?,Array.getElem?_append_right (by simp;omega)]
      simp only[Array.size_map, ←hus];rw[List.getElem?_toArray,hp];rfl
     rw[Y1];exact hrp)
  unfold Oper.wp;rw[Bgp ho hx' Bg6,Oper.upon_enter];refine hc.mono ?_;rintro e w' ⟨r,outs,c,G',σ',rfl,hp,hG',Bu,Dp,Ay,_⟩;have h4:=h1 r outs hp;have Ci:Rel G σ Fr w0 st a w':=hr.grow Bu.os Bu.tape Bu.output Bu.size fun b hb=>by
   have hbw:w.heap[b]?=some w.heap[b]:=Array.getElem?_eq_getElem hb;rw[hbw];exact Bu.fixed b _ (hG' b _ hbw)
  cases r with
  |v u=>
   obtain⟨Hz,h4⟩:=h4;obtain⟨σ3,st3,q1,q2⟩:=Ci.A9 Au (sv:=.v u) (c:=c) (fun _ _ _ _=>Auq Hz Ay) h4
   exact hn G σ3 st3 _ w' (Mem.le.refl G) q1 q2
  |_=>exact h4.elim
 ·exact h1.elim
end

def Agq(N:Nat):List Operand→List Ar→Bool
 | [],[]=>true
 |x::xs,y::ys=>Ax N x y&&Agq N xs ys
 |_,_=>false
def Aow(G:Mem)(σ:Lab)(w:World)(st:St)(vv:Nat→Value):SV→Value→Prop
 | .v x,c=>Aq G x c
 | .Dv fs,c=>∃(us:List I) (cs:Array Value),fs=us.map F.i∧c= .tuple cs∧C7 G σ w 0 0 (us.map F.i) cs.toList
 | .pd s ver p,c=>Df G σ w st vv 0 (.pd s ver p) c
 | .bd s ver p,c=>Df G σ w st vv 0 (.bd s ver p) c
 |_,_=>False
def A56(P:Program)(f:FuncId)(N:Nat)(az:List Ar)(st:St)(K:SV→St→Prop):Prop:=
 ∀(G:Mem) (σ:Lab) (Fr:Mem) (w0:Base) (a:Act) (w:World) (xs:List Operand),w0.n=N→Rel G σ Fr w0 st a w→Agq N xs az=true→
  Calls P f (xs.map a.eval).toArray w fun e w'=>∃r c G' σ' Af,e= .returned c∧K r Af∧G.le G'∧Rel G' σ' Fr w0 Af a w'∧Aow G' σ' w' Af (val a w0) r c
structure J6(P:Program)(f:FuncId)(N:Nat)(az:List Ar)(st:St)(K:SV→St→Prop):Prop where
 out:A56 P f N az st K
theorem J6.mono{P:Program}{f:FuncId}{N:Nat}{az:List Ar}{st:St}{K K':SV→St→Prop}(h:J6 P f N az st K)(hk:∀r st,K r st→K' r st):J6 P f N az st K':=
 ⟨fun G σ Fr w0 a w xs h1 h2 h3=>(h.out G σ Fr w0 a w xs h1 h2 h3).mono fun _ _ ⟨r,c,G',σ',Af,e,k,x⟩=>⟨r,c,G',σ',Af,e,hk _ _ k,x⟩⟩
def Aw3(d:Option Nat)(r:SV):M:=match r with
 | .v x=>A7v d (.v x)
 | .Dv fs=>A7v d (.Dv fs)
 | .pd s ver p=>.Ba (d≠some s) fun _=>Ab.A9 d (.pd s ver p) .done
 | .bd s ver p=>.Ba (d≠some s) fun _=>Ab.A9 d (.bd s ver p) .done
 |_=>.fail
section
variable{P:Program}{N:Nat}{G:Mem}{σ:Lab}{Fr:Mem}{w0:Base}{w:World}{st:St}{a:Act}
theorem Ahg{σ':Lab}{w':World}{s:Nat}:∀(l:List I) (j j':Nat) (cs:List Value),C7 G σ w 0 j (l.map F.i) cs→C7 G σ' w' s j' (l.map F.i) cs
 | [],_,_,_,h=>h
 |_::l,_,_,_,⟨c,d,e,h1,h2⟩=>⟨c,d,e,h1,Ahg l _ _ _ h2⟩
theorem Bbu{Q:St→Prop}{d:Option Nat}{r:SV}{c:Value}(h:Rel G σ Fr w0 st a w)(hb:∀d',d=some d'→d'<w0.n)(hc:Aow G σ w st (val a w0) r c)(hq:(Aw3 d r).wp P Q st):
 ∃σ' Af,Rel G σ' Fr w0 Af (a.put d c) w∧Q Af:=by
 cases r with
 |v x=>
  cases d with
  |none=>exact⟨σ,st,h,hq⟩
  |some d=>exact h.Ab3 (hb d rfl) hc hq
 |Dv fs=>
  obtain⟨us,cs,rfl,rfl,h1⟩:=hc;cases d with
  |none=>exact⟨σ,st,h,hq⟩
  |some d=>exact h.A9 (sv:=.Dv (us.map F.i)) hb (fun d' _ ver _=>⟨cs,rfl,Ahg us _ _ _ h1⟩) (S0 hq)
 |pd s ver p=>
  obtain⟨Aw,hq⟩:=hq;obtain⟨cur,g1,g2,g3⟩:=hc;refine h.A9 (sv:=.pd s ver p) hb (fun d' Ua v _=>⟨cur,?_,g2,fun inv t e hp ha=>?_⟩) hq
  ·rw[List.getElem?_set_ne (fun e=>Aw (by rw[Ua,e]))];exact g1
  ·rw[Cb (fun e=>Aw (by rw[Ua,e]))];exact g3 inv t e hp ha
 |bd s ver p=>
  obtain⟨Aw,hq⟩:=hq;obtain⟨cur,g1,g2,g3⟩:=hc;refine h.A9 (sv:=.bd s ver p) hb (fun d' Ua v _=>⟨cur,?_,g2,fun inv t e ha=>?_⟩) hq
  ·rw[List.getElem?_set_ne (fun e=>Aw (by rw[Ua,e]))];exact g1
  ·rw[Cb (fun e=>Aw (by rw[Ua,e]))];exact g3 inv t e ha
 |_=>exact hc.elim
theorem Bav{o:Oper}{f:FuncId}{args:Array Operand}{ts:Array TypeId}{az:List Ar}{Q:St→Prop}{next:Act→World→Prop}{E:Exit→Act→World→Prop}(ho:o.op= .call {callee:=.value (.func f),args,argTypes:=ts})(hf:Kr P f=true)
 (ha:Agq w0.n args.toList az=true) (hr:Rel G σ Fr w0 st a w) (hw:J6 P f w0.n az st fun r Af=>(Aw3 o.dst r).wp P Q Af)
 (hn:∀G' σ' Af a' w',G.le G'→Rel G' σ' Fr w0 Af a' w'→Q Af→next a' w') (Au:∀d,o.dst=some d→d<w0.n):o.wp P a w next E:=by
 have hc:=hw.out G σ Fr w0 a w args.toList rfl hr ha;unfold Oper.wp;rw[Ank ho hf,Oper.upon_enter];have he:(args.toList.map a.eval).toArray=args.map a.eval:=by
  apply Array.ext';simp only[Array.toList_map]
 rw[he]at hc;refine hc.mono ?_;rintro e w' ⟨r,c,G',σ',Af,rfl,hk,hG,Ci,Asf⟩;obtain⟨σ2,st2,h1,h2⟩:=Bbu Ci Au Asf hk;exact hn G' σ2 st2 _ w' hG h1 h2
end

inductive Ao where
 |op (g:Option (Nat × Bool)) (i:Pb)
 |call (g:Option (Nat × Bool)) (d:Option Nat) (f:FuncId) (az:List (Bool × Ar))
 |K4 (g:Option (Nat × Bool)) (d:Option Nat) (f:FuncId) (az:List (Bool × Ar))
 |dyn (g:Option (Nat × Bool)) (d:Option Nat) (fs:List FuncId) (x:Ar) (az:List (Bool × Ar))
 |inl (d:Option Nat) (N:Nat) (f:FuncId) (az:List Ar)
 deriving Inhabited
def guarded(g:Option (Nat × Bool))(d:Option Nat)(m:M):M:=match g with
 |none=>m
 |some (t,want)=>.get t fun _ sv=>match sv with
  | .v (.bool b)=>match want with
    |true=>.ite b m (A9 d (.Dv []) .done)
    |false=>.ite b (A9 d (.Dv []) .done) m
  | .Dv []=>A9 d (.Dv []) .done
  |_=>.fail
def Pb.dst:Pb→Option Nat
 | .mv d _| .asg d _| .P3 d _ _ _| .bin d _ _ _| .not d _| .neg d _| .pick d _ _ _| .load d _ _ _| .alloc d _| .box d _| .Age d _ _ _| .Aqb d _ _ _| .Fu d _ _ _ _| .len d _ _| .slc d _ _ _ _ _| .sfx d _ _ _| .s2b d _ _| .b2s d _| .mkf d _ _| .build d _ _
 | .C8 d _| .Rm d _| .A7m d _| .Awz d _| .A1c d _ _ _| .A1d d _ _ _ _| .As1 d _ _| .Ar3 d _ _ _ _| .Axm d _ _ _ _ _| .E1 d _ _ _ _ _| .Wh d _ _ _ _ _| .Yj d _ _| .Pf d _| .K7 d _| .A7b d _ _ _| .Ak2 d _ _ _| .bits d _ _ _| .Ao7 d _| .conv d _ _| .make d _ _ _ _ _| .Ri d _ _ _ _ _ _| .empty d _ _| .ext d _ _| .fld d _ _ _ _ _| .mm d _ _ _| .app d _ _ _ _ _| .eqs d _ _ _ _| .Vk d _ _| .Zy d _ _=>some d
 | .store _ _ _=>none
 | .dead d=>d
 | .clr d _ _ _=>d
def Ao.sem:Ao→M
 | .op g i=>guarded g i.dst i.sem
 | .call g d f az=>guarded g d (Aq4 d f az)
 | .K4 g d f az=>guarded g d (Ak9 d f az)
 | .dyn g d fs x az=>guarded g d (Aq1 d fs x az)
 | .inl _ _ _ _=>.fail
def Ao.run(P:Program):Ao→(St→Prop)→St→Prop
 | .op g i,Q,st=>(guarded g i.dst i.sem).wp P Q st
 | .call g d f az,Q,st=>(guarded g d (Aq4 d f az)).wp P Q st
 | .K4 g d f az,Q,st=>(guarded g d (Ak9 d f az)).wp P Q st
 | .dyn g d fs x az,Q,st=>(guarded g d (Aq1 d fs x az)).wp P Q st
 | .inl d N f az,Q,st=>J6 P f N az st fun r Af=>(Aw3 d r).wp P Q Af
theorem Ao.Bbh{P:Program}{i:Ao}{Q:St→Prop}{st:St}(h:i.sem.wp P Q st):i.run P Q st:=by
 cases i with
 |inl=>exact h.elim
 |_=>exact h
def gOk(N:Nat)(ops:Array Oper):Option (Nat × Bool)→Option (Nat × Bool)→Bool
 |none,none=>true
 |some (j,b),some (t,b')=>b==b'&&B1 ((ops[j]?).bind (·.dst)) t&&t<N
 |_,_=>false
def dOk(N:Nat)(d:Option Nat):Bool:=match d with
 |none=>true
 |some d=>d<N
def Aa6(P:Program)(N:Nat)(ops:Array Oper)(o:Oper):Ao→Bool
 | .op g i=>gOk N ops o.guard g&&dOk N o.dst&&decide (o.dst=i.dst)&&Hy P N o i
 | .call g d f az=>gOk N ops o.guard g&&dOk N o.dst&&decide (o.dst=d)&&match o.op with
   | .call {callee:=.value (.func f'),args,.. }=>f'==f&&Kr P f&&E4 N args.toList az
   |_=>false
 | .K4 g d f az=>gOk N ops o.guard g&&dOk N o.dst&&decide (o.dst=d)&&match o.op with
   | .call {callee:=.value (.func f'),args,.. }=>f'==f&&Kr P f&&E4 N args.toList az
   |_=>false
 | .dyn g d fs x az=>gOk N ops o.guard g&&dOk N o.dst&&decide (o.dst=d)&&match o.op with
   | .call {callee:=.value x',args,.. }=>Ax N x' x&&fs.all (Kr P)&&E4 N args.toList az
   |_=>false
 | .inl d N' f az=>o.guard.isNone&&dOk N o.dst&&decide (o.dst=d)&&N'==N&&match o.op with
   | .call {callee:=.value (.func f'),args,.. }=>f'==f&&Kr P f&&Agq N args.toList az
   |_=>false
def Wj(P:Program)(N:Nat)(ops:Array Oper):List Oper→List Ao→Bool
 | [],[]=>true
 |o::l,i::m=>Aa6 P N ops o i&&Wj P N ops l m
 |_,_=>false
def Aw5(P:Program):List Ao→(St→Prop)→St→Prop
 | [],Q,st=>Q st
 |i::l,Q,st=>i.run P (Aw5 P l Q) st
section
variable{P:Program}{N:Nat}{G:Mem}{σ:Lab}{Fr:Mem}{w0:Base}{w:World}{st:St}{a:Act}
theorem Aye{ops:Array Oper}{o:Oper}{g:Option (Nat × Bool)}{m:M}{Q:St→Prop}{next:Act→World→Prop}(hr:Rel G σ Fr w0 st a w)(hg:gOk w0.n ops o.guard g=true)(hd:dOk w0.n o.dst=true)
 (hq:(guarded g o.dst m).wp P Q st) (hn:∀G' σ' Af a' w',G.le G'→Rel G' σ' Fr w0 Af a' w'→Q Af→next a' w'):
 (Region.wanted o (yielded ops a.tmps)=true∧m.wp P Q st)∨(Region.wanted o (yielded ops a.tmps)=false∧next (a.put o.dst undef) w):=by
 unfold gOk at hg;split at hg
 ·rename_i hog;exact .inl ⟨by simp[Region.wanted,hog],hq⟩
 ·rename_i j b t b' hog;simp only[Bool.and_eq_true,beq_iff_eq,decide_eq_true_eq]at hg;obtain⟨⟨rfl,h1⟩,h2⟩:=hg;have h1:=Bf h1;simp only[guarded,M.wp]at hq;cases hs:st[t]? with
  |none=>simp[hs]at hq
  |some cur=>
   simp only[hs]at hq;have skip:(A9 o.dst (.Dv []) .done).wp P Q st→next (a.put o.dst undef) w:=by
    intro hq;obtain⟨σ',Af,r1,r2⟩:=hr.A9 (sv:=.Dv []) (c:=undef) (fun d' Ua=>by
     unfold dOk at hd;rw[Ua]at hd;simpa using hd) (fun _ _ _ _=>⟨#[],rfl,rfl⟩) hq
    exact hn _ _ _ _ _ (Mem.le.refl G) r1 r2
   have ht:t<a.tmps.size:=by rw[hr.n];exact h2
   split at hq
   ·rename_i bb Lh;obtain⟨cv,Eh⟩:=cur;simp only at Lh;subst Lh;have Ay:Aq G (.bool bb) (a.eval (.tmp t)):=hr.slot h2 hs;rw[Aq.bool]at Ay;have hy:yielded ops a.tmps j=some bb:=by
     unfold yielded;rw[h1];have:a.tmps[t]?=some (.bool bb):=by
      rw[Array.getElem?_eq_getElem ht];simp[Act.eval,Array.getElem?_eq_getElem ht]at Ay;rw[Ay]
     simp[this]
    have hw:Region.wanted o (yielded ops a.tmps)=(bb==b):=by
     unfold Region.wanted;rw[hog];simp[hy]
    rw[hw];cases b<;>cases bb
    ·exact .inl ⟨rfl,hq.2 rfl⟩
    ·exact .inr ⟨rfl,skip (hq.1 rfl)⟩
    ·exact .inr ⟨rfl,skip (hq.2 rfl)⟩
    ·exact .inl ⟨rfl,hq.1 rfl⟩
   ·rename_i Lh;obtain⟨cv,Eh⟩:=cur;simp only at Lh;subst Lh;obtain⟨ta,ht1,ht2⟩:=(show B4 G σ w t (.Dv []) (a.eval (.tmp t))from hr.slot h2 hs);have ht2:ta.toList=[]:=ht2;have hta:ta= #[]:=by simpa using ht2
    have Ay:a.eval (.tmp t)=undef:=by rw[ht1,hta];rfl
    have hy:yielded ops a.tmps j=none:=by
     unfold yielded;rw[h1];have:a.tmps[t]?=some undef:=by
      rw[Array.getElem?_eq_getElem ht];simp[Act.eval,Array.getElem?_eq_getElem ht]at Ay;rw[Ay]
     simp[this,undef]
    have hw:Region.wanted o (yielded ops a.tmps)=false:=by
     unfold Region.wanted;rw[hog];simp[hy]
    exact .inr ⟨hw,skip hq⟩
   ·exact hq.elim
 ·cases hg
theorem Akz{ops:Array Oper}{o:Oper}{i:Ao}{Q:St→Prop}{next:Act→World→Prop}{E:Exit→Act→World→Prop}(h1:Aa6 P w0.n ops o i=true)(hr:Rel G σ Fr w0 st a w)(hq:i.run P Q st)
 (hn:∀G' σ' Af a' w',G.le G'→Rel G' σ' Fr w0 Af a' w'→Q Af→next a' w'):
 if Region.wanted o (yielded ops a.tmps)then o.wp P a w next E∨(o.asks P a w∧LetsOut E)else next (a.put o.dst undef) w:=by
 have Au:dOk w0.n o.dst=true→∀d,o.dst=some d→d<w0.n:=by
  intro h d hd;unfold dOk at h;rw[hd]at h;simpa using h
 have fin:∀{g:Option (Nat × Bool)} {mm:M},gOk w0.n ops o.guard g=true→dOk w0.n o.dst=true→(guarded g o.dst mm).wp P Q st→Sound P w0.n o mm→
  if Region.wanted o (yielded ops a.tmps)then o.wp P a w next E∨(o.asks P a w∧LetsOut E)else next (a.put o.dst undef) w:=by
  intro g mm hg hd Jg hs;rcases Aye hr hg hd Jg hn with⟨k1,k2⟩|⟨k1,k2⟩
  ·rw[if_pos k1];exact .inl (hs G σ Fr w0 st a w _ _ _ rfl hr k2 hn (Au hd))
  ·rw[if_neg (by rw[k1];decide)]
   exact k2
 cases i with
 |op g i=>
  simp only[Aa6,Bool.and_eq_true,decide_eq_true_eq]at h1;obtain⟨⟨⟨h3,h4⟩,h5⟩,h6⟩:=h1;simp only[Ao.run]at hq;rw[←h5]at hq;exact fin h3 h4 hq (A9f h6)
 |call g d f az=>
  simp only[Aa6,Bool.and_eq_true,decide_eq_true_eq]at h1;obtain⟨⟨⟨h3,h4⟩,h5⟩,h6⟩:=h1;simp only[Ao.run]at hq;rw[←h5]at hq;split at h6
  ·rename_i ho;simp only[Bool.and_eq_true,beq_iff_eq]at h6;obtain⟨⟨rfl,h7⟩,h8⟩:=h6;exact fin h3 h4 hq (Bb8 ho h7 h8)
  ·cases h6
 |K4 g d f az=>
  simp only[Aa6,Bool.and_eq_true,decide_eq_true_eq]at h1;obtain⟨⟨⟨h3,h4⟩,h5⟩,h6⟩:=h1;simp only[Ao.run]at hq;rw[←h5]at hq;split at h6
  ·rename_i ho;simp only[Bool.and_eq_true,beq_iff_eq]at h6;obtain⟨⟨rfl,h7⟩,h8⟩:=h6;exact fin h3 h4 hq (A8e ho h7 h8)
  ·cases h6
 |dyn g d fs x az=>
  simp only[Aa6,Bool.and_eq_true,decide_eq_true_eq]at h1;obtain⟨⟨⟨h3,h4⟩,h5⟩,h6⟩:=h1;simp only[Ao.run]at hq;rw[←h5]at hq;split at h6
  ·rename_i ho;simp only[Bool.and_eq_true]at h6;obtain⟨⟨h7,h8⟩,h9⟩:=h6;exact fin h3 h4 hq (Bb1 ho h7 h8 h9)
  ·cases h6
 |inl d N' f az=>
  simp only[Aa6,Bool.and_eq_true,decide_eq_true_eq,Option.isNone_iff_eq_none,beq_iff_eq]at h1;obtain⟨⟨⟨⟨h3,h4⟩,h5⟩,rfl⟩,h6⟩:=h1;simp only[Ao.run]at hq;rw[←h5]at hq;split at h6
  ·rename_i ho;simp only[Bool.and_eq_true,beq_iff_eq]at h6;obtain⟨⟨rfl,h7⟩,h8⟩:=h6;rw[if_pos (by simp[Region.wanted,h3])]
   exact .inl (Bav ho h7 h8 hr hq hn (Au h4))
  ·cases h6
theorem Auh{ops:Array Oper}{Qx:Exit→Act→World→Prop}:∀{l:List Oper} {m:List Ao} {Q:St→Prop} {G:Mem} {σ:Lab} {st:St} {a:Act} {w:World},
 Wj P w0.n ops l m=true→Rel G σ Fr w0 st a w→Aw5 P m Q st→(∀G' σ' Af a' w',G.le G'→Rel G' σ' Fr w0 Af a' w'→Q Af→Qx .normal a' w')→wpList P ops Qx l a w
 | [],[],Q,G,σ,st,a,w,_,hr,hq,hn=>hn G σ st a w (Mem.le.refl G) hr hq
 |o::l,i::m,Q,G,σ,st,a,w,hc,hr,hq,hn=>by
  simp only[Wj,Bool.and_eq_true]at hc;obtain⟨h1,h2⟩:=hc;unfold wpList;exact Akz h1 hr hq fun G' σ' Af a' w' hG Ci Jg=>Auh h2 Ci Jg fun Q7 H4 Gt a'' w'' hG'=>hn Q7 H4 Gt a'' w'' (hG.trans hG')
 | [],_::_,_,_,_,_,_,_,hc,_,_,_=>by cases hc
 |_::_,[],_,_,_,_,_,_,hc,_,_,_=>by simp[Wj]at hc
end
end Go.Ab
