/- Lemmas -/
import Derived.Test.YtkpojedpcabojaaGreatDoorAb16
set_option linter.unusedVariables false
set_option linter.unusedSimpArgs false
namespace Go.Ab
def Ke(P:Program)(f:FuncId):Bool:=match P.funcs[f]? with
 |some fn=>fn.body.isSome&& !(fn.name== "runtime.NumGoroutine")
 |none=>false
section
variable{P:Program}{N:Nat}{G:Mem}{σ:Lab}{Fr:Mem}{w0:Base}{w:World}{st:St}{a:Act}
theorem Aq0{o:Oper}{f:FuncId}{args:Array Operand}{ts:Array TypeId}(ho:o.op= .call {callee:=.value (.func f),args,argTypes:=ts})(hf:Ke P f=true):
 (execOp a.eval o).run P w= .ok (.enter f (args.map a.eval)) w:=by
 unfold Ke at hf;split at hf
 ·rename_i fn Mh;simp only[Ad,Ds,beq_eq_false_iff_ne,ne_eq]at hf;obtain⟨h1,h2⟩:=hf;have h4:fn.body≠none:=by rintro e;rw[e]at h1;cases h1
  simp[execOp,ho,resolve,Deferred.ofValue,Act.eval,invoke,callFunc,Mh,h2,h4]
 ·cases hf
theorem Bhm{f:FuncId}{Kw:List SV}{rs:List (Option Nat)}{xs:List Operand}{D8:SV→List SV→Prop}(hr:Rel G σ Fr w0 st a w)(hn:(J5 rs).Nodup)
 (hl1:Kw.length=xs.length) (Tf:rs.length=xs.length)
 (Ms:∀(i:Nat) (sv:SV) (x:Operand),Kw[i]?=some sv→xs[i]?=some x→(rs[i]?=some none∧((∃u,sv= .v u∧Bb G u (a.eval x))∨∃e sz,sv= .vec e sz []∧a.eval x= .slice none 0 0))∨(∃s ver,rs[i]?=some (some s)∧st[s]?=some ver∧sv.Zb=true∧Dx G σ w s sv (a.eval x)∧a.eval x=val a w0 s))
 (Mh:Fn P f Kw D8):
 Calls P f (xs.map a.eval).toArray w fun e w'=>∃r outs c G' σ',e= .returned c∧D8 r outs∧G.le G'∧Gc G' (σ.outer σ' rs) Fr w0 w'∧r.root=none∧Dx G' σ' w' Kw.length r c∧outs.length=rs.length∧
  (∀s,s ∉ J5 rs→Kept σ (σ.outer σ' rs) w w' s)∧
  (∀(i:Nat) s sv,rs[i]?=some (some s)→outs[i]?=some sv→sv.root=none∧Dx G' (σ.outer σ' rs) w' s sv (a.eval (xs.getD i (.tmp 0))))∧
  (∀b k,σ' b=some (Kw.length,k)→σ.outer σ' rs b=none∧G' b=none∧Fr b=none∧b<w'.heap.size)∧(∀b b' k,σ' b=some (Kw.length,k)→σ' b'=some (Kw.length,k)→b=b'):=by
 have hw:=hr.Bz;have Anc:∀{b i k},σ.inner rs b=some (i,k)→∃s,σ b=some (s,k)∧rs[i]?=some (some s):=by
  intro b i k h;unfold Lab.inner at h;split at h
  ·rename_i s k' hb;split at h
   ·rename_i j hj;cases h;exact⟨s,hb,Bfb hj⟩
   ·cases h
  ·cases h
 have Dj:Gc G (σ.inner rs) (Fr.inner σ w rs) ⟨w,0, #[]⟩ w:=by
  refine⟨hw.fixed,?_,?_,?_,rfl,rfl,rfl,Ay _,?_,hw.Mv⟩
  ·rintro b ⟨i,k⟩ hb;obtain⟨s,h1,h2⟩:=Anc hb;obtain⟨h3,h4,h5⟩:=hw.own b _ h1;refine⟨h3,?_,h5⟩;unfold Mem.inner;simp[h1,Aw h2]
  ·rintro b b' ⟨i,k⟩ hb Dc;obtain⟨s,h1,h2⟩:=Anc hb;obtain⟨s',h3,h4⟩:=Anc Dc;rw[h2]at h4;cases h4;exact hw.inj b b' _ h1 h3
  ·intro b o hb;unfold Mem.inner at hb;split at hb
   ·split at hb
    ·cases hb
    ·exact hb
   ·exact hw.frame b o hb
  ·intro b o hb;unfold Mem.inner at hb;split at hb
   ·rename_i h;exact(hw.own b _ h).1
   ·exact hw.apart b o hb
 have hin:∀i sv,Kw[i]?=some sv→sv.root=none∧Dx G (σ.inner rs) w i sv (((xs.map a.eval).toArray).getD i undef):=by
  intro i sv hi;have Di:i<xs.length:=by rw[←hl1];exact(Ak.1 hi).1
  have hx:xs[i]?=some xs[i]:=Ac Di;have hc:((xs.map a.eval).toArray).getD i undef=a.eval xs[i]:=by simp[Di]
  rw[hc];rcases Ms i sv _ hi hx with⟨h1,⟨u,rfl,h2⟩|⟨e,sz,rfl,h2⟩⟩|⟨s,ver,h1,h2,h3,h4,h4'⟩
  ·exact⟨rfl,h2⟩
  ·refine⟨rfl,[],?_,rfl,by simp,?_⟩
   ·rw[h2];exact Lx.nil w e sz
   ·rw[h2];simp[Value.ownBlock]
  ·refine⟨SV.Ba0 h3,Dx.tr h4 (Mem.le.refl G) fun b k hb=>⟨?_,rfl⟩⟩
   simp[Lab.inner,hb,Aii hn h1]
 have A93:=Mh G (σ.inner rs) (Fr.inner σ w rs) w (xs.map a.eval).toArray Dj (by simp[hl1]) hin
 refine A93.mono ?_;rintro e w' ⟨r,outs,c,G',σ',he,hp,hG,Qk,Ly,Ba,hlen,Bti⟩;have far:∀{b s k},σ b=some (s,k)→s ∉ J5 rs→Fr.inner σ w rs b=w.heap[b]?∧σ' b=none∧∃o,w.heap[b]?=some o:=by
  intro b s k hb hs;have h1:Fr.inner σ w rs b=w.heap[b]?:=by
   unfold Mem.inner;simp[hb,Q9,hs]
  have h2:∃o,w.heap[b]?=some o:=⟨_,Bg (hw.own b _ hb).2.2⟩;refine⟨h1,?_,h2⟩;cases h3:σ' b with
  |none=>rfl
  |some Ca=>
   have:=(Qk.own b Ca h3).2.1;rw[h1]at this;obtain⟨o,ho⟩:=h2;rw[ho]at this;cases this
 have Bhy:∀{b s k},σ b=some (s,k)→s ∉ J5 rs→σ.outer σ' rs b=some (s,k):=by
  intro b s k hb hs;unfold Lab.outer;simp[hb,Q9,hs]
 have Ai6:∀{b s k},σ.outer σ' rs b=some (s,k)→(s ∉ J5 rs∧σ b=some (s,k))∨∃i,σ' b=some (i,k)∧rs[i]?=some (some s):=by
  intro b s k h;unfold Lab.outer at h;split at h
  ·rename_i s' k' hb;split at h
   ·split at h
    ·rename_i i k'' hi;split at h
     ·rename_i s'' Bi2;cases h;exact .inr ⟨i,hi,Bi2⟩
     ·cases h
    ·cases h
   ·rename_i Hf;cases h;exact .inl ⟨by rwa [Q9]at Hf,hb⟩
  ·split at h
   ·rename_i i k'' hi;split at h
    ·rename_i s'' Bi2;cases h;exact .inr ⟨i,hi,Bi2⟩
    ·cases h
   ·cases h
 have Bak:∀{b i s k},σ' b=some (i,k)→rs[i]?=some (some s)→σ.outer σ' rs b=some (s,k):=by
  intro b i s k h1 h2;unfold Lab.outer;split
  ·rename_i s' k' hb;split
   ·simp[h1,h2]
   ·rename_i Hf;obtain⟨_,h3,_⟩:=far hb (by rwa [Q9]at Hf)
    rw[h1]at h3;cases h3
  ·simp[h1,h2]
 refine⟨r,outs,c,G',σ',he,hp,hG,?_,Ly,Ba,by rw[hlen,hl1,Tf],?_,?_,?_,?_⟩
 ·refine⟨Qk.fixed,?_,?_,?_,Qk.os.trans hw.os,Qk.tape.trans hw.tape,Qk.output.trans hw.output,C2 hw.size Qk.size,?_,Qk.Mv⟩
  ·rintro b ⟨s,k⟩ hb;rcases Ai6 hb with⟨h1,h2⟩|⟨i,h1,h2⟩
   ·obtain⟨h3,h4,o,h5⟩:=far h2 h1;obtain⟨h6,h7,h8⟩:=hw.own b _ h2;rw[h5]at h3;have h9:=Qk.frame b o h3;exact⟨Qk.apart b o h3,h7,(C3.1 h9).1⟩
   ·obtain⟨h3,h4,h5⟩:=Qk.own b _ h1;refine⟨h3,?_,h5⟩;cases hf:Fr b with
    |none=>rfl
    |some o=>
     have hσ:σ b=none:=by
      cases hh:σ b with
      |none=>rfl
      |some Ca=>have:=(hw.own b _ hh).2.1;rw[hf]at this;cases this
     have:Fr.inner σ w rs b=some o:=by unfold Mem.inner;simp[hσ,hf]
     rw[this]at h4;cases h4
  ·rintro b b' ⟨s,k⟩ hb Dc;rcases Ai6 hb with⟨h1,h2⟩|⟨i,h1,h2⟩<;>rcases Ai6 Dc with⟨h3,h4⟩|⟨j,h3,h4⟩
   ·exact hw.inj b b' _ h2 h4
   ·exact absurd (Q9.1 (Aw h4)) h1
   ·exact absurd (Q9.1 (Aw h2)) h3
   ·have e1:=Aii hn h2;have e2:=Aii hn h4;rw[e1]at e2;cases e2;exact Qk.inj b b' _ h1 h3
  ·intro b o hb;have hσ:σ b=none:=by
    cases hh:σ b with
    |none=>rfl
    |some Ca=>have:=(hw.own b _ hh).2.1;rw[hb]at this;cases this
   exact Qk.frame b o (by unfold Mem.inner;simp[hσ,hb])
  ·intro b o hb;have hσ:σ b=none:=by
    cases hh:σ b with
    |none=>rfl
    |some Ca=>have:=(hw.own b _ hh).2.1;rw[hb]at this;cases this
   exact Qk.apart b o (by unfold Mem.inner;simp[hσ,hb])
 ·intro s hs b k hb;obtain⟨h3,h4,o,h5⟩:=far hb hs;refine⟨Bhy hb hs,?_⟩;rw[h5]at h3 ⊢;exact Qk.frame b o h3
 ·intro i s sv h1 h2;obtain⟨h3,h4⟩:=Bti i sv h2;refine⟨h3,?_⟩;have Di:i<xs.length:=by rw[←Tf];exact(Ak.1 h1).1
  have hc:((xs.map a.eval).toArray).getD i undef=a.eval (xs.getD i (.tmp 0)):=by simp[Di]
  rw[←hc];exact Dx.tr h4 (Mem.le.refl G') fun b k hb=>⟨Bak hb h1,rfl⟩
 ·intro b k hb;have Bth:rs[Kw.length]?=none:=by rw[D9];omega
  obtain⟨h3,h4,h5⟩:=Qk.own b _ hb;have Aae:σ.outer σ' rs b=none:=by
   cases hh:σ.outer σ' rs b with
   |none=>rfl
   |some Ca=>
    obtain⟨s,k'⟩:=Ca;rcases Ai6 hh with⟨h1,h2⟩|⟨i,h1,h2⟩
    ·obtain⟨_,h6,_⟩:=far h2 h1;rw[hb]at h6;cases h6
    ·rw[hb]at h1;cases h1;rw[Bth]at h2;cases h2
  refine⟨Aae,h3,?_,h5⟩;cases hf:Fr b with
  |none=>rfl
  |some o=>
   have hσ:σ b=none:=by
    cases hh:σ b with
    |none=>rfl
    |some Ca=>have:=(hw.own b _ hh).2.1;rw[hf]at this;cases this
   have:Fr.inner σ w rs b=some o:=by unfold Mem.inner;simp[hσ,hf]
   rw[this]at h4;cases h4
 ·intro b b' k h1 h2;exact Qk.inj b b' _ h1 h2
def A4c(d:Option Nat)(f:FuncId)(Kw:List SV)(rs:List (Option Nat)):M:=.Co ((J5 rs).Nodup∧∀d',d=some d'→d' ∉ J5 rs) fun _=>
 .call f Kw fun r outs=>.Co (∀h,r≠ .par h) fun _=>.Co (∀sv∈outs,∀h,sv≠ .par h) fun _=>Abt rs outs (A4s d r)
theorem Asr{o:Oper}{f:FuncId}{Fj:Array Value}{Kw:List SV}{rs:List (Option Nat)}{xs:List Operand}{Q:St→Prop}{next:Act→World→Prop}{E:Exit→Act→World→Prop}(Ez:(execOp a.eval o).run P w= .ok (.enter f Fj) w)
 (he:(xs.map a.eval).toArray=Fj) {G1:Mem} {σ1:Lab} {st1:St} (Hr:Rel G1 σ1 Fr w0 st1 a w) (hl1:Kw.length=xs.length) (Tf:rs.length=xs.length)
 (Ms:∀(i:Nat) (sv:SV) (x:Operand),Kw[i]?=some sv→xs[i]?=some x→(rs[i]?=some none∧((∃u,sv= .v u∧Bb G1 u (a.eval x))∨∃e sz,sv= .vec e sz []∧a.eval x= .slice none 0 0))∨(∃s ver,rs[i]?=some (some s)∧st1[s]?=some ver∧sv.Zb=true∧Dx G1 σ1 w s sv (a.eval x)∧a.eval x=val a w0 s))
 (h2:(A4c o.dst f Kw rs).wp P Q st1) (hn:∀G' σ' st' a' w',G1.le G'→Rel G' σ' Fr w0 st' a' w'→Q st'→next a' w') (A9:∀d,o.dst=some d→d<w0.n):o.wp P a w next E:=by
 obtain⟨⟨F5,Up⟩,⟨D8,Mh,h2⟩⟩:=h2;have hc:=Bhm (xs:=xs) Hr F5 hl1 Tf Ms Mh;unfold Oper.wp;rw[Ez,Oper.upon_enter];rw[he]at hc;refine hc.mono ?_;rintro e w' ⟨r,outs,c,G',σ',rfl,hp,Wa,Dj,Ly,Ba,hol,A99,Bs7,Ge,Bin⟩;have h3:=h2 r outs hp;obtain⟨hrp,Wb,h3⟩:=h3;obtain⟨st2,h4,Btf,Bag,Fq⟩:=Ac3 hol.symm F5 h3;have Kn:Rel G' (σ1.outer σ' rs) Fr w0 st2 a w':=by
  refine Hr.many Dj Wa Btf fun s=>?_
  by_cases hs:s∈J5 rs
  ·right;obtain⟨i,hi⟩:=List.mem_iff_getElem?.1 (Q9.2 hs);have hio:i<outs.length:=by rw[hol];exact(Ak.1 hi).1
   have hoi:outs[i]?=some outs[i]:=Ac hio;obtain⟨ver,old,k1,k2⟩:=Fq i s _ hi hoi;obtain⟨k3,k4⟩:=Bs7 i s _ hi hoi;refine⟨ver,old,ver+1,_,k1,k2,Bk _,by rw[A1o];exact k3,fun h e=>Wb _ (List.getElem_mem hio) h (A55 e),?_,A1n⟩
   rw[A56];have hxi:i<xs.length:=by rw[←Tf];exact(Ak.1 hi).1
   have hsi:i<Kw.length:=by rw[hl1];exact hxi
   rcases Ms i Kw[i] xs[i] (Ac hsi) (Ac hxi)with⟨q1,_⟩|⟨s',Cn,q1,q2,q3,q4,q5⟩
   ·rw[hi]at q1;cases q1
   ·rw[hi]at q1;cases q1;have:xs.getD i (.tmp 0)=xs[i]:=by rw[List.getD,Ac hxi];rfl
    rw[this,q5]at k4;exact k4
  ·exact .inl ⟨Bag s hs,A99 s hs⟩
 have Rv:∃σ3 st3,Rel G' σ3 Fr w0 st3 (a.put o.dst c) w'∧Q st3:=by
  cases hd:o.dst with
  |none=>rw[hd]at h4;exact⟨_,st2,Kn,h4⟩
  |some d=>
   rw[hd]at h4;simp only[A4s,Eo,M.wp]at h4;cases W6:st2[d]? with
   |none=>simp[W6]at h4
   |some cur=>
    simp only[W6]at h4
    let σ3:Lab:=fun b=>match σ' b with
     |some (i,k)=>if i=Kw.length then some (d,k)else(σ1.outer σ' rs).drop d b
     |none=>(σ1.outer σ' rs).drop d b
    have Bje:∀{b Ca},σ3 b=some Ca→(∃k,σ' b=some (Kw.length,k)∧Ca=(d,k))∨((σ1.outer σ' rs).drop d b=some Ca∧∀k,σ' b≠some (Kw.length,k)):=by
     intro b Ca hb;simp only[σ3]at hb;split at hb
     ·rename_i i k hi;split at hb
      ·rename_i e;cases hb;exact .inl ⟨k,by rw[hi,e],rfl⟩
      ·rename_i e;exact .inr ⟨hb,fun k' Jn=>by rw[hi]at Jn;cases Jn;exact e rfl⟩
     ·rename_i hi;exact .inr ⟨hb,fun k' Jn=>by rw[hi]at Jn;cases Jn⟩
    have Btb:∀{b k},σ' b=some (Kw.length,k)→σ3 b=some (d,k):=by
     intro b k hb;simp only[σ3,hb,if_true]
    have Bv2:∀{b Ca},(σ1.outer σ' rs).drop d b=some Ca→σ3 b=some Ca:=by
     intro b Ca hb;have Aae:=Lab.Ym hb;simp only[σ3];split
     ·rename_i i k hi;split
      ·rename_i e;subst e;rw[(Ge b k hi).1]at Aae;cases Aae
      ·exact hb
     ·exact hb
    have Bix:Gc G' σ3 Fr w0 w':=by
     refine⟨Dj.fixed,?_,?_,Dj.frame,Dj.os,Dj.tape,Dj.output,Dj.size,Dj.apart,Dj.Mv⟩
     ·intro b Ca hb;rcases Bje hb with⟨k,h5,rfl⟩|⟨h5,_⟩
      ·exact(Ge b k h5).2
      ·exact Dj.own b Ca (Lab.Ym h5)
     ·intro b b' Ca hb Dc;rcases Bje hb with⟨k,h5,rfl⟩|⟨h5,h6⟩<;>rcases Bje Dc with⟨k',h7,h8⟩|⟨h7,h8⟩
      ·cases h8;exact Bin b b' k h5 h7
      ·exact absurd rfl (Lab.D1.1 h7).1
      ·subst h8;exact absurd rfl (Lab.D1.1 h5).1
      ·exact Dj.inj b b' Ca (Lab.Ym h5) (Lab.Ym h7)
    refine⟨σ3,_,Kn.put (A9 d hd) Bix (Mem.le.refl G') W6 (Bk _) ?_ ?_ (fun h e=>absurd (Amq.1 e) (hrp h)) W0,h4⟩
    ·intro s' Hf b k hb;exact⟨Bv2 (Lab.D1.2 ⟨Hf,hb⟩),rfl⟩
    ·rw[Fa.own (by rw[Aia];exact Ly),Amr]
     exact Dx.tr Ba (Mem.le.refl G') fun b k hb=>⟨Btb hb,rfl⟩
 obtain⟨σ3,st3,q1,q2⟩:=Rv;exact hn G' σ3 st3 _ w' Wa q1 q2
theorem Aw8{o:Oper}{f:FuncId}{args:Array Operand}{az:List (Bool × Bh)}{Q:St→Prop}{next:Act→World→Prop}{E:Exit→Act→World→Prop}(Ez:(execOp a.eval o).run P w= .ok (.enter f (args.map a.eval)) w)
 (ha:Kd w0.n args.toList az=true) (hr:Rel G σ Fr w0 st a w) (hw:(Apc o.dst f az).wp P Q st) (hn:∀G' σ' st' a' w',G.le G'→Rel G' σ' Fr w0 st' a' w'→Q st'→next a' w') (A9:∀d,o.dst=some d→d<w0.n):o.wp P a w next E:=by
 obtain⟨us,G1,σ1,st1,hG1,Hr,h1,Uq,hu⟩:=Af1 hr ha hw;obtain⟨Kw,rs,h2,hl1,Tf,Ms⟩:=Za Hr ha Uq hu h1;have he:(args.toList.map a.eval).toArray=args.map a.eval:=by
  apply Array.ext';simp only[Array.toList_map]
 exact Asr Ez he Hr hl1 Tf Ms h2 (fun G' σ' st' a' w' hG=>hn G' σ' st' a' w' (hG1.trans hG)) A9
theorem Bbx{o:Oper}{f:FuncId}{args:Array Operand}{ts:Array TypeId}{az:List (Bool × Bh)}(ho:o.op= .call {callee:=.value (.func f),args,argTypes:=ts})(hf:Ke P f=true)
 (ha:Kd N args.toList az=true):Sound P N o (Apc o.dst f az):=by
 intro G σ Fr w0 st a w Q next E hN hr hw hn A9
 subst hN;exact Aw8 (Aq0 ho hf) ha hr hw hn A9
def Bjx(x:Bh)(k:M):M:=match x with
 | .t n=>.get n fun _ sv=>match sv with
   | .bd _ _ _=>Um (.t n) fun u=>.get n fun ver _=>.set n (ver+1) (.own [([],ver+1)] u) k
   |_=>k
 |_=>k
def ownArgs:List (Bool × Bh)→M→M
 | [],k=>k
 |(b,x)::az,k=>match b with
  |true=>Bjx x (ownArgs az k)
  |false=>ownArgs az k
def Au0(d:Option Nat)(f:FuncId)(az:List (Bool × Bh)):M:=ownArgs az (Apc d f az)
theorem Bjz{n:Nat}(h:n<a.tmps.size):a.put (some n) (a.eval (.tmp n))=a:=by
 cases a with
 |mk tmps defers=>
  simp only[Act.put,Act.eval]at h ⊢
  congr 1
  apply Array.ext
  ·simp
  ·intro i h1 h2;by_cases e:n=i
   ·subst e;simp[h]
   ·rw[Array.getElem_setIfInBounds h2];rw[if_neg e]
theorem Bjy{Q:St→Prop}{x:Operand}{y:Bh}{k:M}(h:Rel G σ Fr w0 st a w)(ho:Bu w0.n x y=true)(hq:(Bjx y k).wp P Q st):∃G' σ' st',G.le G'∧Rel G' σ' Fr w0 st' a w∧k.wp P Q st':=by
 cases y with
 |c _=>exact⟨G,σ,st,Mem.le.refl G,h,hq⟩
 |Fo _ _=>exact⟨G,σ,st,Mem.le.refl G,h,hq⟩
 |t n=>
  have ho':=ho;obtain⟨rfl,Ej⟩:=Gb ho;simp only[Bjx,M.wp]at hq;cases hs:st[n]? with
  |none=>simp[hs]at hq
  |some cur=>
   obtain⟨ver,sv⟩:=cur;simp only[hs]at hq;cases sv with
   |bd s v p=>
    simp only at hq;obtain⟨u,G',σ',st',h1,h2,h3,h4⟩:=Aoj h ho' hq;simp only[M.wp]at h3;cases Hf:st'[n]? with
    |none=>simp[Hf]at h3
    |some Gu=>
     obtain⟨Cn,Ek⟩:=Gu;simp only[Hf]at h3;obtain⟨σ2,st2,k1,k2⟩:=h2.H3 (P:=P) (d:=n) (Q:=fun Nx=>Nx=st'.set n (Cn+1,.own [([],Cn+1)] u)) Ej h4 (by simp[Eo,M.wp,Hf,SV.fresh])
     rw[Bjz (by rw[h2.n];exact Ej)]at k1
     subst k2;exact⟨G',σ2,_,h1,k1,h3⟩
   |_=>exact⟨G,σ,st,Mem.le.refl G,h,hq⟩
theorem Aft{Q:St→Prop}{k:M}:∀{xs:List Operand} {az:List (Bool × Bh)} {G:Mem} {σ:Lab} {st:St},Rel G σ Fr w0 st a w→Kd w0.n xs az=true→(ownArgs az k).wp P Q st→∃G' σ' st',G.le G'∧Rel G' σ' Fr w0 st' a w∧k.wp P Q st'
 | [],[],G,σ,st,h,_,hq=>⟨G,σ,st,Mem.le.refl G,h,hq⟩
 |x::xs,(true,y)::az,G,σ,st,h,ho,hq=>by
  simp only[Kd,Ad]at ho;obtain⟨G1,σ1,st1,h1,h2,h3⟩:=Bjy h ho.1 hq;obtain⟨G2,σ2,st2,k1,k2,k3⟩:=Aft h2 ho.2 h3;exact⟨G2,σ2,st2,h1.trans k1,k2,k3⟩
 |x::xs,(false,y)::az,G,σ,st,h,ho,hq=>by
  simp only[Kd,Ad]at ho;exact Aft h ho.2 hq
 | [],_::_,_,_,_,_,ho,_=>by cases ho
 |_::_,[],_,_,_,_,ho,_=>by simp[Kd]at ho
theorem Bgz{o:Oper}{f:FuncId}{args:Array Operand}{ts:Array TypeId}{az:List (Bool × Bh)}(ho:o.op= .call {callee:=.value (.func f),args,argTypes:=ts})(hf:Ke P f=true)
 (ha:Kd N args.toList az=true):Sound P N o (Au0 o.dst f az):=by
 intro G σ Fr w0 st a w Q next E hN hr hw hn A9
 subst hN;obtain⟨G',σ',st',h1,h2,h3⟩:=Aft hr ha hw;exact Bbx ho hf ha G' σ' Fr w0 st' a w Q next E rfl h2 h3 (fun G2 σ2 st2 a2 w2 k1 k2 k3=>hn G2 σ2 st2 a2 w2 (h1.trans k1) k2 k3) A9
theorem Bb.fn{f:FuncId}{c:Value}:Bb G (.fn f) c↔c= .func (.func f) #[] #[]:=by
 unfold Bb;rw[if_neg (by simp[I.isAgg])]
 simp only[Bi,Em,and_true]
def plain:I→Bool
 | .int _ _| .bool _| .str _| .fn _=>true
 |_=>false
mutual
def I.strip:I→I
 | .int k n=>.int k n
 | .bool b=>.bool b
 | .str s=>.str s
 | .fn f=>.fn f
 | .agg l=>.agg (Fs l)
 | .arr sz l=>.arr sz (Fs l)
 |_=>.Ln
def Fs:List I→List I
 | []=>[]
 |x::l=>x.strip::Fs l
end
mutual
theorem Af0:∀x:I,x.strip.isAgg=x.isAgg∧x.strip.size=x.size
 | .agg l=>⟨rfl,(Xu l).1⟩
 | .arr sz l=>⟨rfl,congrArg (sz* ·) (Xu l).2⟩
 | .int _ _=>⟨rfl,rfl⟩
 | .bool _=>⟨rfl,rfl⟩
 | .str _=>⟨rfl,rfl⟩
 | .fn _=>⟨rfl,rfl⟩
 | .Ln=>⟨rfl,rfl⟩
 | .list _=>⟨rfl,rfl⟩
 | .clo _ _=>⟨rfl,rfl⟩
 | .Afo=>⟨rfl,rfl⟩
 | .Ra=>⟨rfl,rfl⟩
 | .Aiy=>⟨rfl,rfl⟩
 | .ifc _ _=>⟨rfl,rfl⟩
theorem Xu:∀l:List I,sizes (Fs l)=sizes l∧(Fs l).length=l.length
 | []=>⟨rfl,rfl⟩
 |x::l=>by
  obtain⟨h1,h2⟩:=Xu l;simp only[Fs,sizes,Cg,(Af0 x).2,h1,h2,and_self]
end
theorem Ajp{sz:Nat}:∀{l:List I},(∀x∈l,x.size=sz)→∀x∈Fs l,x.size=sz
 | [],_,x,hx=>by cases hx
 |y::l,h,x,hx=>by
  simp only[Fs,Ah]at hx;rcases hx with rfl|hx
  ·rw[(Af0 y).2];exact h y (by simp)
  ·exact Ajp (fun z hz=>h z (by simp[hz])) x hx
theorem Yw{G G':Mem}{x:I}{cs:List Value}(h:Bi G x cs)(hs:x.size=1):Bi G' .Ln cs:=by
 have h1:=Bi.length x cs h;rw[hs]at h1;obtain⟨c,rfl⟩:=E8.1 h1;simp only[Bi];exact⟨c,rfl,Bi.one x _ h c (by simp)⟩
mutual
theorem Aoh{G G':Mem}:∀(x:I) (cs:List Value),Bi G x cs→Bi G' x.strip cs
 | .int _ _,_,h=>by simpa only[Bi,I.strip]using h
 | .bool _,_,h=>by simpa only[Bi,I.strip]using h
 | .str _,_,h=>by simpa only[Bi,I.strip]using h
 | .fn _,_,h=>by simpa only[Bi,I.strip]using h
 | .Ln,_,h=>Yw h rfl
 | .list _,_,h=>Yw h rfl
 | .clo _ _,_,h=>Yw h rfl
 | .Afo,_,h=>Yw h rfl
 | .Ra,_,h=>Yw h rfl
 | .Aiy,_,h=>Yw h rfl
 | .ifc _ _,_,h=>Yw h rfl
 | .agg l,cs,h=>by
   simp only[Bi,I.strip]at h ⊢;exact Abf l cs h
 | .arr sz l,cs,h=>by
   simp only[Bi,I.strip]at h ⊢;exact⟨Abf l cs h.1,Ajp h.2⟩
theorem Abf{G G':Mem}:∀(l:List I) (cs:List Value),B4 G l cs→B4 G' (Fs l) cs
 | [],_,h=>by simpa only[B4,Fs]using h
 |x::l,cs,h=>by
  simp only[B4,Fs]at h ⊢;obtain⟨c,d,e,h1,h2⟩:=h;exact⟨c,d,e,Aoh x c h1,Abf l d h2⟩
end
theorem Bcp{G G':Mem}{x:I}{c:Value}(h:Bb G x c):Bb G' x.strip c:=by
 unfold Bb at h ⊢;rw[(Af0 x).1];split
 ·rename_i hx;rw[if_pos hx]at h;obtain⟨a,rfl,h⟩:=h;exact⟨a,rfl,Aoh x _ h⟩
 ·rename_i hx;rw[if_neg hx]at h;exact Aoh x _ h
def Aog(u:I):I:=match plain u with
 |true=>u
 |false=>u.strip
def Ahb:List F→Option (List F)
 | []=>some []
 | .i x::r=>match Ahb r with
   |some us=>some (.i (Aog x)::us)
   |none=>none
 |_=>none
def Ba8(x:Bh)(k:I→M):M:=match x with
 | .c x=>k x
 | .Fo _ _=>k (.list [])
 | .t n=>.get n fun _ sv=>match sv with
   | .v x=>k x
   | .vec _ _ l=>k (.list l)
   | .Km s kk v=>.get s fun cur Ek=>.Co (v=cur) fun _=>match Ek.Fu kk with
     |some (_,_,l)=>k (.list l)
     |none=>.fail
   | .own _ t=>match t.Ap with
     |some y=>k y
     |none=>.fail
   | .bd s v p=>.get s fun cur Ek=>match Ek with
     | .own inv t=>.Co (Hv v inv p=true) fun _=>match D.at p t with
       |some u=>match u.Ap with
        |some y=>k y
        |none=>.fail
       |none=>.fail
     |_=>.fail
   | .bs s v p _ _=>.get s fun cur Ek=>match Ek with
     | .own _ t=>match D.at p t with
       |some u=>match u.Ap with
        |some y=>.Co (v=cur∧u.isAgg=true) fun _=>k y
        |none=>.fail
       |none=>.fail
     |_=>.fail
   |_=>.fail
def Ao9:List (Bool × Bh)→(List I→M)→M
 | [],k=>k []
 |(_,x)::az,k=>Ba8 x fun u=>Ao9 az fun us=>k (u::us)
def Apf(d:Option Nat)(f:FuncId)(az:List (Bool × Bh)):M:=Ao9 az fun us=>.call f (us.map .v) fun r _=>match r with
 | .v u=>Ci d (.v (Aog u)) .done
 | .F4 fs=>match Ahb fs with
   |some us=>Ci d (.F4 us) .done
   |none=>.fail
 | .vec e sz l=>match d with
   |some d=>Eo d (.own [] (.vec e sz ((Fs l).map D.it)))
   |none=>.fail
 |_=>.fail
def M9(w:World):Mem:=fun b=>w.heap[b]?
theorem Ax6{G G':Mem}{u:I}{c:Value}(h:plain u=true)(hr:Bb G u c):Bb G' u c:=by
 cases u with
 |int k n=>rw[Bb.int]at hr ⊢;exact hr
 |bool b=>rw[Bb.bool]at hr ⊢;exact hr
 |str s=>rw[Bb.str]at hr ⊢;exact hr
 |fn f=>rw[Bb.fn]at hr ⊢;exact hr
 |_=>cases h
theorem Avd{G G':Mem}{u:I}{c:Value}(hr:Bb G u c):Bb G' (Aog u) c:=by
 unfold Aog;split
 ·rename_i h;exact Ax6 h hr
 ·exact Bcp hr
theorem Ave{G G':Mem}{σ σ':Lab}{w w':World}{s s':Nat}:∀{fs us:List F} {cs:List Value} {j j':Nat},Ahb fs=some us→F3 G σ w s j fs cs→F3 G' σ' w' s' j' us cs
 | [],us,cs,j,j',h,hr=>by
   simp only[Ahb,Af]at h;subst h;exact hr
 | .i x::r,us,cs,j,j',h,hr=>by
   simp only[Ahb]at h;split at h
   ·rename_i vs hv;cases h;obtain⟨c,d,e,h1,h2⟩:=hr;exact⟨c,d,e,Avd h1,Ave hv h2⟩
   ·cases h
 | .vec _ _ _::r,us,cs,j,j',h,hr=>by simp[Ahb]at h
theorem Bf2{x:Operand}{y:Bh}{k:I→M}{Q:St→Prop}(h:Rel G σ Fr w0 st a w)(ho:Bu w0.n x y=true)(hq:(Ba8 y k).wp P Q st):∃u,(k u).wp P Q st∧Bb (M9 w) u (a.eval x):=by
 have hle:G.le (M9 w):=fun b o hb=>h.Bz.fixed b o hb
 have vec:∀{Ca:Nat × Nat} {e:TypeId} {sz:Nat} {l:List I} {c:Value},Fg G σ w Ca e sz l c→Bb (M9 w) (.list l) c:=fun hv=>hv.list hle fun b _=>rfl
 cases y with
 |c i=>exact⟨i,hq,Ud ho (M9 w)⟩
 |Fo e sz=>
  refine⟨.list [],hq,?_⟩;rw[Nj ho];exact Bb.list.2 ⟨none,0,rfl,Ay _,A3 _,.inl rfl⟩
 |t n=>
  obtain⟨rfl,Ej⟩:=Gb ho;simp only[Ba8,M.wp]at hq;cases hs:st[n]? with
  |none=>simp[hs]at hq
  |some cur=>
   obtain⟨ver,sv⟩:=cur;simp only[hs]at hq;have Ba:=h.slot Ej hs;cases sv with
   |v x=>exact⟨x,hq,Bb.mono hle Ba⟩
   |vec e sz l=>exact⟨_,hq,vec Ba⟩
   |Km s kk v=>
    obtain⟨cur,g1,g2,g3⟩:=Ba;simp only[M.wp,g1]at hq;obtain⟨hv,hq⟩:=hq;obtain⟨e,sz,l,g4,g5⟩:=g3 hv;simp only[g4]at hq;exact⟨_,hq,vec g5⟩
   |own inv t=>
    simp only at hq;split at hq
    ·rename_i y hy;obtain⟨bs,h1,h2,_⟩:=Ba;have hI:=Bp.Ap (G':=M9 w) hle h1 hy fun b _=>rfl
     refine⟨_,hq,?_⟩;rw[←(Q6 hy).2]at h2;unfold Bb;cases Jg:y.isAgg with
     |true=>
      rw[Jg]at h2;obtain⟨a',Pt⟩:=Wk h2;rw[Pt]at hI;rw[if_pos rfl];exact⟨a',Pt,hI⟩
     |false=>
      rw[Jg]at h2;rw[G7 h2]at hI;rw[if_neg (by simp)]
      exact hI
    ·exact hq.elim
   |bd s v p=>
    obtain⟨cur,g1,g2,g3⟩:=Ba;simp only[M.wp,g1]at hq;obtain⟨cv,Hh⟩:=cur;cases Hh with
    |own inv t=>
     obtain⟨ha,hq⟩:=hq;split at hq
     ·rename_i u Dd;split at hq
      ·rename_i y hy;have hhd:=g3 inv t rfl ha;obtain⟨hh,Fw,e5,_,_⟩:=R7.read (h.Bj s cv _ g1) Dd hhd;obtain⟨u1,_,e1,e0,_⟩:=hhd;rw[Dd]at e1;obtain rfl:=Cy e1;have hI:=Bp.Ap (G':=M9 w) hle e5 hy fun b _=>rfl
       refine⟨_,hq,?_⟩;have Jg:y.isAgg=false:=by
        rw[(Q6 hy).2];cases u<;>first|rfl|cases e0
       unfold Bb;rw[if_neg (by rw[Jg];simp)]
       exact hI
      ·exact hq.elim
     ·exact hq.elim
    |_=>exact hq.elim
   |bs s v p lo m=>
    obtain⟨cur,g1,g2,g3⟩:=Ba;simp only[M.wp,g1]at hq;obtain⟨cv,Hh⟩:=cur;cases Hh with
    |own inv t=>
     simp only at hq;split at hq
     ·rename_i u Dd;split at hq
      ·rename_i y hy;obtain⟨⟨rfl,Jg⟩,hq⟩:=hq;obtain⟨_,N1⟩:=g3 rfl inv t rfl;rcases N1 with⟨e1,sz1,l1,c0,ad,cap,q1,_⟩|⟨u1,hh,k1,k2,k3,k4⟩
       ·rw[Dd]at q1;cases q1;cases Jg
       rw[Dd]at k1;obtain rfl:=Cy k1;obtain⟨bs,Fy,H7,F5,Jj⟩:=show Dr G σ w s t (val a w0 s)from h.Bj s v _ g1;obtain⟨mm,s',Fw,f1,f2,f3,f4,f5,f6⟩:=focus (here:=none) Fy F5 Dd
       rw[f1]at k4;obtain rfl:=Cy k4;have hI:=Bp.Ap (G':=M9 w) hle f2 hy fun b _=>rfl
       refine⟨_,hq,?_⟩;obtain⟨a',Pt⟩:=Wk k3;unfold Bb;rw[if_pos (by rw[(Q6 hy).2];exact Jg),Pt]
       rw[Pt]at hI;exact⟨a',rfl,hI⟩
      ·exact hq.elim
     ·exact hq.elim
    |_=>exact hq.elim
   |_=>exact hq.elim
theorem Afu{Q:St→Prop}(h:Rel G σ Fr w0 st a w):∀{xs:List Operand} {az:List (Bool × Bh)} {k:List I→M},Kd w0.n xs az=true→(Ao9 az k).wp P Q st→
 ∃us,(k us).wp P Q st∧us.length=xs.length∧∀(i:Nat) (u:I) (x:Operand),us[i]?=some u→xs[i]?=some x→Bb (M9 w) u (a.eval x)
 | [],[],k,_,hq=>⟨[],hq,rfl,by simp⟩
 |x::xs,(_,y)::az,k,ho,hq=>by
  simp only[Kd,Ad]at ho;obtain⟨u,h1,h2⟩:=Bf2 h ho.1 hq;obtain⟨us,h3,h4,h5⟩:=Afu h ho.2 h1;refine⟨u::us,h3,by simp[h4],?_⟩
  intro i u' x' h6 h7;cases i with
  |zero=>cases h6;cases h7;exact h2
  |succ i=>exact h5 i u' x' h6 h7
 | [],_::_,_,ho,_=>by cases ho
 |_::_,[],_,ho,_=>by simp[Kd]at ho
theorem Bb9{o:Oper}{f:FuncId}{args:Array Operand}{ts:Array TypeId}{az:List (Bool × Bh)}(ho:o.op= .call {callee:=.value (.func f),args,argTypes:=ts})(hf:Ke P f=true)
 (ha:Kd N args.toList az=true):Sound P N o (Apf o.dst f az):=by
 intro G σ Fr w0 st a w Q next E hN hr hw hn A9
 subst hN;obtain⟨us,⟨D8,Mh,h1⟩,h2,h3⟩:=Afu hr ha hw;have hw0:Gc (M9 w) (fun _=>none) (fun _=>none) ⟨w,0, #[]⟩ w:=
  ⟨fun _ _ h=>h,fun b Ca h=>by(cases h),fun b b' Ca h=>by(cases h),fun b o h=>by(cases h),rfl,rfl,rfl,Ay _,fun b o h=>by(cases h),Amb.mono (fun b o h=>hr.Bz.fixed b o h) hr.Bz.Mv⟩
 have hc:=Mh (M9 w) (fun _=>none) (fun _=>none) w (args.map a.eval) hw0 (by simp[h2]) (fun i sv hi=>by
  rw[B2]at hi;cases hu:us[i]? with
  |none=>simp[hu]at hi
  |some u=>
   simp only[hu,Bx,Af]at hi;subst hi;have Pv:i<args.size:=by
    have:=(Ak.1 hu).1;rw[h2]at this;simpa using this
   refine⟨rfl,?_⟩;have:=h3 i u args[i] hu (by simp[Pv])
   show Bb _ _ _;simpa[Array.getD,Pv]using this)
 unfold Oper.wp;rw[Aq0 ho hf,Oper.upon_enter];refine hc.mono ?_;rintro e w' ⟨r,outs,c,G',σ',rfl,hp,Wa,Dj,Ly,Ba,_⟩;have h4:=h1 r outs hp;have D2:Rel G σ Fr w0 st a w':=hr.grow Dj.os Dj.tape Dj.output Dj.size fun b hb=>by
  have hbw:w.heap[b]?=some w.heap[b]:=Bg hb;rw[hbw];exact Dj.fixed b _ (Wa b _ hbw)
 cases r with
 |v u=>
  obtain⟨σ3,st3,q1,q2⟩:=D2.Ci A9 (sv:=.v (Aog u)) (c:=c) (fun _ _ _ _=>Avd Ba) h4
  exact hn G σ3 st3 _ w' (Mem.le.refl G) q1 q2
 |F4 fs=>
  simp only at h4;split at h4
  ·rename_i vs hv;obtain⟨σ3,st3,q1,q2⟩:=D2.Ci A9 (sv:=.F4 vs) (c:=c) (fun _ _ _ _=>by
    obtain⟨cs,rfl,Ba⟩:=Ba;exact⟨cs,rfl,Ave hv Ba⟩) h4
   exact hn G σ3 st3 _ w' (Mem.le.refl G) q1 q2
  ·exact h4.elim
 |vec e sz l=>
  simp only at h4;split at h4
  case h_2=>exact h4.elim
  rename_i d hd;have N2:T6 G σ Fr w' (.vec e sz ((Fs l).map D.it)) c:=by
   obtain⟨xs,⟨hl,h5⟩,h6,h7,h8⟩:=Ba;rcases h5 with⟨rfl,h0⟩|⟨g,cap,cur,rfl,_,hg,hnn,hm,hs,ht⟩
   ·obtain rfl:=Dg h0;exact⟨[],by simp[Bp,Value.cells,Fs],rfl,Dn,by simp⟩
   ·have hlen:((Fs l).map D.it).length=l.length:=by rw[An,(Xu l).2]
    refine⟨[g],?_,rfl,by simp,?_⟩
    ·simp only[Bp,Value.cells];refine .inr ⟨g,0,cap,cur,xs,[],by rw[hlen],hg,fun _=>⟨rfl,hs⟩,by rw[hlen];exact hnn,hm,by rw[Bm,hs];exact Ay _,by rw[hlen];simpa using ht,Ct.its.2 ⟨Abf l xs h6,rfl⟩,?_,rfl⟩
     intro x hx;obtain⟨y,hy,rfl⟩:=Cs.1 hx;exact Ajp h7 y hy
    ·intro b hb;obtain rfl:=Cx.1 hb;obtain⟨k1,k2,k3⟩:=Dj.own b _ (h8 b rfl);have hw:w.heap[b]?=none:=by
      cases hwb:w.heap[b]? with
      |none=>rfl
      |some o=>rw[Wa b o hwb]at k1;cases k1
     refine⟨?_,?_,?_,k3⟩
     ·cases hGb:G b with
      |none=>rfl
      |some o=>rw[hr.Bz.fixed b o hGb]at hw;cases hw
     ·cases hFb:Fr b with
      |none=>rfl
      |some o=>rw[hr.Bz.frame b o hFb]at hw;cases hw
     ·cases hsb:σ b with
      |none=>rfl
      |some Ca=>
       have:=(hr.Bz.own b Ca hsb).2.2;rw[Array.getElem?_eq_none_iff]at hw;omega
  obtain⟨σ3,st3,q1,q2⟩:=D2.H3 (A9 d hd) N2 h4;rw[hd];exact hn G σ3 st3 _ w' (Mem.le.refl G) q1 q2
 |_=>exact h4.elim
def Aux(d:Option Nat)(fs:List FuncId)(x:Bh)(az:List (Bool × Bh)):M:=Qi x fun u=>match u with
 | .fn f=>.Co (f∈fs) fun _=>Apc d f az
 | .clo f Afa=>.Co (f∈fs) fun _=>Ao9 az fun us=>.call f (us.map .v++Afa.map .rp) fun r _=>match r with
   | .v u=>.Co (plain u=true) fun _=>Ci d (.v u) .done
   |_=>.fail
 |_=>.fail
theorem Bn5{o:Oper}{f:FuncId}{x:Operand}{args:Array Operand}{ts:Array TypeId}(ho:o.op= .call {callee:=.value x,args,argTypes:=ts})(hx:a.eval x= .func (.func f) #[] #[])(hf:Ke P f=true):
 (execOp a.eval o).run P w= .ok (.enter f (args.map a.eval)) w:=by
 unfold Ke at hf;split at hf
 ·rename_i fn Mh;simp only[Ad,Ds,beq_eq_false_iff_ne,ne_eq]at hf;obtain⟨h1,h2⟩:=hf;have h4:fn.body≠none:=by rintro e;rw[e]at h1;cases h1
  simp[execOp,ho,resolve,Deferred.ofValue,hx,invoke,callFunc,Mh,h2,h4]
 ·cases hf
theorem A7e{o:Oper}{f:FuncId}{x:Operand}{ps:List Value}{args:Array Operand}{ts:Array TypeId}(ho:o.op= .call {callee:=.value x,args,argTypes:=ts})(hx:a.eval x= .func (.func f) #[] ps.toArray)(hf:Ke P f=true):
 (execOp a.eval o).run P w= .ok (.enter f (args.map a.eval++ps.toArray)) w:=by
 unfold Ke at hf;split at hf
 ·rename_i fn Mh;simp only[Ad,Ds,beq_eq_false_iff_ne,ne_eq]at hf;obtain⟨h1,h2⟩:=hf;have h4:fn.body≠none:=by rintro e;rw[e]at h1;cases h1
  simp[execOp,ho,resolve,Deferred.ofValue,hx,invoke,callFunc,Mh,h2,h4]
 ·cases hf
theorem Li.length{G:Mem}:∀{l:List I} {ps:List Value},Li G l ps→ps.length=l.length
 | [],_,h=>by simp only[Li]at h;simp[h]
 |x::l,ps,h=>by
  simp only[Li]at h;obtain⟨p,r,b,off,bl,ty,fz,pre,cs,post,rfl,_,_,_,_,_,h7⟩:=h;simp[Li.length h7]
theorem Li.get{G:Mem}:∀{l:List I} {ps:List Value} {i:Nat} {u:I},Li G l ps→l[i]?=some u→∃p,ps[i]?=some p∧Aa2 G u p
 | [],_,i,u,_,h=>by simp at h
 |x::l,ps,i,u,hp,h=>by
  simp only[Li]at hp;obtain⟨p,r,b,off,bl,ty,fz,pre,cs,post,rfl,h2,h3,h4,h5,h6,h7⟩:=hp;cases i with
  |zero=>cases h;exact⟨p,rfl,b,off,bl,ty,fz,pre,cs,post,h2,h3,h4,h5,h6⟩
  |succ i=>
   have h8:l[i]?=some u:=by simpa using h
   obtain⟨p',h9,h10⟩:=Li.get h7 h8;exact⟨p',by simpa using h9,h10⟩
theorem Bgu{o:Oper}{fs:List FuncId}{x:Operand}{x':Bh}{args:Array Operand}{ts:Array TypeId}{az:List (Bool × Bh)}(ho:o.op= .call {callee:=.value x,args,argTypes:=ts})(hx:Bu N x x'=true)
 (hf:fs.all (Ke P)=true) (ha:Kd N args.toList az=true):Sound P N o (Aux o.dst fs x' az):=by
 intro G σ Fr w0 st a w Q next E hN hr hw hn A9
 subst hN;obtain⟨u,h1,hv⟩:=Hs hr hx hw;clear hw;split at h1
 ·rename_i f;obtain⟨Vx,h1⟩:=h1;exact Aw8 (Bn5 ho (Bb.fn.1 hv) (Ew.1 hf f Vx)) ha hr h1 hn A9
 ·rename_i f Afa;obtain⟨Vx,h1⟩:=h1;unfold Bb at hv;rw[if_neg (by simp[I.isAgg])]at hv
  simp only[Bi,Em,and_true]at hv;obtain⟨ps,hx',hps⟩:=hv;obtain⟨us,⟨D8,Mh,h1⟩,h2,h3⟩:=Afu hr ha h1;have hle:G.le (M9 w):=fun b o hb=>hr.Bz.fixed b o hb
  have Bra:=Li.mono hle Afa ps hps;have Bn8:=Ew.1 hf f Vx;have hw0:Gc (M9 w) (fun _=>none) (fun _=>none) ⟨w,0, #[]⟩ w:=
   ⟨fun _ _ h=>h,fun b Ca h=>by(cases h),fun b b' Ca h=>by(cases h),fun b o h=>by(cases h),rfl,rfl,rfl,Ay _,fun b o h=>by(cases h),Amb.mono (fun b o h=>hr.Bz.fixed b o h) hr.Bz.Mv⟩
  have Ju:=Li.length Bra;have hc:=Mh (M9 w) (fun _=>none) (fun _=>none) w (args.map a.eval++ps.toArray) hw0 (by simp[h2,Ju]) (fun i sv hi=>by
   by_cases Pv:i<us.length
   ·rw[B0 (by simpa using Pv),B2]at hi
    cases hu:us[i]? with
    |none=>simp[hu]at hi
    |some u=>
     simp only[hu,Bx,Af]at hi;subst hi;have Bik:i<args.size:=by
      rw[h2]at Pv;simpa using Pv
     refine⟨rfl,?_⟩;have:=h3 i u args[i] hu (by simp[Bik])
     show Bb _ _ _;have Rw:(args.map a.eval++ps.toArray).getD i undef=a.eval args[i]:=by
      rw[Aq,D4 (by simpa using Bik)]
      simp[Bik]
     rw[Rw];exact this
   ·rw[Cf (by simpa using Pv),An,B2]at hi
    have hus:us.length=args.size:=by rw[h2];simp
    cases hu:Afa[i - us.length]? with
    |none=>simp[hu]at hi
    |some u=>
     simp only[hu,Bx,Af]at hi;subst hi;refine⟨rfl,?_⟩;obtain⟨p,hp,hrp⟩:=Li.get Bra hu;show Aa2 _ _ _;have Rw:(args.map a.eval++ps.toArray).getD i undef=p:=by
      rw[Aq,Dm (by simp;omega)]
      simp only[Array.size_map, ←hus];rw[List.getElem?_toArray,hp];rfl
     rw[Rw];exact hrp)
  unfold Oper.wp;rw[A7e ho hx' Bn8,Oper.upon_enter];refine hc.mono ?_;rintro e w' ⟨r,outs,c,G',σ',rfl,hp,Wa,Dj,Ly,Ba,_⟩;have h4:=h1 r outs hp;have D2:Rel G σ Fr w0 st a w':=hr.grow Dj.os Dj.tape Dj.output Dj.size fun b hb=>by
   have hbw:w.heap[b]?=some w.heap[b]:=Bg hb;rw[hbw];exact Dj.fixed b _ (Wa b _ hbw)
  cases r with
  |v u=>
   obtain⟨Ju,h4⟩:=h4;obtain⟨σ3,st3,q1,q2⟩:=D2.Ci A9 (sv:=.v u) (c:=c) (fun _ _ _ _=>Ax6 Ju Ba) h4
   exact hn G σ3 st3 _ w' (Mem.le.refl G) q1 q2
  |_=>exact h4.elim
 ·exact h1.elim
def Auy(d:Option Nat)(tab:List (TypeId × FuncId))(x:Bh):M:=Qi x fun u=>match u with
 | .ifc t v=>match tab.find? fun e=>Nat.beq e.1 t with
   |some e=>A4c d e.2 [.v v] [none]
   |none=>.fail
 |_=>.fail
def At9(P:Program)(name:String)(e:TypeId × FuncId):Bool:=Ke P e.2&&(match P.underlying e.1 with
 |some (.pointer _)=>false
 |some _=>true
 |none=>false)&&match P.info? e.1 with
 |some i=>match i.methods.find? (·.name==name)with
  |some m=>m.path.isEmpty&&(match m.func with
   |some (f,b)=>f==e.2&& !b
   |none=>false)
  |none=>false
 |none=>false
theorem Bog{o:Oper}{e:TypeId × FuncId}{x:Operand}{c:Value}{name:String}{ts:Array TypeId}(ho:o.op= .call {callee:=.invoke x name,args:= #[],argTypes:=ts})(hx:a.eval x= .iface e.1 c)(hf:At9 P name e=true):
 (execOp a.eval o).run P w= .ok (.enter e.2 #[c]) w:=by
 unfold At9 at hf;simp only[Ad]at hf;obtain⟨⟨hf,hu⟩,hm⟩:=hf;unfold Ke at hf;split at hf
 ·rename_i fn Mh;simp only[Ad,Ds,beq_eq_false_iff_ne,ne_eq]at hf;obtain⟨h1,h2⟩:=hf;have h4:fn.body≠none:=by rintro e;rw[e]at h1;cases h1
  split at hm
  case h_2=>cases hm
  rename_i i hi;split at hm
  case h_2=>cases hm
  rename_i m hmm;simp only[Ad,Array.isEmpty_iff]at hm;obtain⟨hp,hm⟩:=hm;split at hm
  case h_2=>cases hm
  rename_i f b hfb;simp only[Ad,beq_iff_eq,Ds]at hm;obtain⟨rfl,rfl⟩:=hm;have Btg:∀n,(method (n+1) e.1 c name).run P w= .ok (e.2,c) w:=by
   intro n;cases hT:P.underlying e.1 with
   |none=>rw[hT]at hu;cases hu
   |some T=>
    rw[hT]at hu;cases T<;>first|(cases hu;done)|simp[method,typeInfo,hi,hmm,hp,hfb,follow,receiverAt,run_underlying hT,Place.get]
  have Bqv:(method (P.types.size+Made.depth) e.1 c name).run P w= .ok (e.2,c) w:=by
   have:P.types.size+Made.depth=(P.types.size+(Made.depth - 1))+1:=rfl;rw[this];exact Btg _
  simp[execOp,ho,resolve,hx,invoke,callMethod,Bqv,callFunc,Mh,h2,h4]
 ·cases hf
theorem Bgw{o:Oper}{tab:List (TypeId × FuncId)}{x:Operand}{x':Bh}{name:String}{ts:Array TypeId}(ho:o.op= .call {callee:=.invoke x name,args:= #[],argTypes:=ts})(hx:Bu N x x'=true)
 (hf:tab.all (At9 P name)=true):Sound P N o (Auy o.dst tab x'):=by
 intro G σ Fr w0 st a w Q next E hN hr hw hn A9
 subst hN;obtain⟨u,h1,hu⟩:=Hs hr hx hw;split at h1
 ·rename_i t v;split at h1
  ·rename_i e he;have h2:Nat.beq e.1 t=true:=by simpa using List.find?_some (p:=fun e:TypeId × FuncId=>Nat.beq e.1 t) he
   obtain rfl:=Nat.eq_of_beq_eq_true h2;obtain⟨c,hc,hv⟩:=Bb.ifc.1 hu;refine Asr (xs:=[.const c]) (Bog ho hc (Ew.1 hf e (List.mem_of_find?_eq_some he))) rfl hr rfl rfl ?_ h1 hn A9;intro i sv y h3 h4
   match i,h3,h4 with
   |0,h3,h4=>
    cases h3;cases h4;exact .inl ⟨rfl,.inl ⟨v,rfl,hv⟩⟩
   |i+1,h3,_=>simp at h3
  ·exact h1.elim
 ·exact h1.elim
end
end Go.Ab
