/- Lemmas -/
import Derived.Test.YtkpojedpcabojaaDoorAb16
set_option linter.unusedVariables false
set_option linter.unusedSimpArgs false
namespace Go.Ab
def Ko(P:Program)(f:FuncId):Bool:=match P.funcs[f]? with
 |some fn=>fn.body.isSome&& !(fn.name== "runtime.NumGoroutine")
 |none=>false
section
variable{P:Program}{N:Nat}{G:Mem}{σ:Lab}{Fr:Mem}{w0:Base}{w:World}{st:St}{a:Act}
theorem U1{o:Oper}{f:FuncId}{args:Array Operand}{ts:Array TypeId}(ho:o.op= .call {callee:=.value (.func f),args,argTypes:=ts})(hf:Ko P f=true):
 (execOp a.eval o).run P w= .ok (.enter f (args.map a.eval)) w:=by
 unfold Ko at hf;split at hf
 ·rename_i fn hfn;simp only[Bool.and_eq_true,Bool.not_eq_true',beq_eq_false_iff_ne,ne_eq]at hf;obtain⟨h1,h2⟩:=hf;have h4:fn.body≠none:=by rintro e;rw[e]at h1;cases h1
  simp[execOp,ho,resolve,Deferred.ofValue,Act.eval,invoke,callFunc,hfn,h2,h4]
 ·cases hf
theorem Ag3{f:FuncId}{svs:List SV}{rs:List (Option Nat)}{xs:List Operand}{Post:SV→List SV→Prop}(hr:Rel G σ Fr w0 st a w)(hn:(somes rs).Nodup)
 (hl1:svs.length=xs.length) (hl2:rs.length=xs.length)
 (hargs:∀(i:Nat) (sv:SV) (x:Operand),svs[i]?=some sv→xs[i]?=some x→(rs[i]?=some none∧((∃u,sv= .v u∧RepV G u (a.eval x))∨∃e sz,sv= .vec e sz []∧a.eval x= .slice none 0 0))∨(∃s ver,rs[i]?=some (some s)∧st[s]?=some ver∧sv.lends=true∧RepOwn G σ w s sv (a.eval x)∧a.eval x=val a w0 s))
 (hfn:Fn P f svs Post):
 Calls P f (xs.map a.eval).toArray w fun e w'=>∃r outs c G' σ',e= .returned c∧Post r outs∧G.le G'∧WOk G' (σ.outer σ' rs) Fr w0 w'∧r.root=none∧RepOwn G' σ' w' svs.length r c∧outs.length=rs.length∧
  (∀s,s ∉ somes rs→Kept σ (σ.outer σ' rs) w w' s)∧
  (∀(i:Nat) s sv,rs[i]?=some (some s)→outs[i]?=some sv→sv.root=none∧RepOwn G' (σ.outer σ' rs) w' s sv (a.eval (xs.getD i (.tmp 0))))∧
  (∀b k,σ' b=some (svs.length,k)→σ.outer σ' rs b=none∧G' b=none∧Fr b=none∧b<w'.heap.size)∧(∀b b' k,σ' b=some (svs.length,k)→σ' b'=some (svs.length,k)→b=b'):=by
 have hw:=hr.wok;have innerSome:∀{b i k},σ.inner rs b=some (i,k)→∃s,σ b=some (s,k)∧rs[i]?=some (some s):=by
  intro b i k h;unfold Lab.inner at h;split at h
  ·rename_i s k' hb;split at h
   ·rename_i j hj;cases h;exact⟨s,hb,Afv hj⟩
   ·cases h
  ·cases h
 have hok:WOk G (σ.inner rs) (Fr.inner σ w rs) ⟨w,0, #[]⟩ w:=by
  refine⟨hw.fixed,?_,?_,?_,rfl,rfl,rfl,Nat.le_refl _,?_,hw.amb⟩
  ·rintro b ⟨i,k⟩ hb;obtain⟨s,h1,h2⟩:=innerSome hb;obtain⟨h3,h4,h5⟩:=hw.own b _ h1;refine⟨h3,?_,h5⟩;unfold Mem.inner;simp[h1,List.mem_of_getElem? h2]
  ·rintro b b' ⟨i,k⟩ hb hb';obtain⟨s,h1,h2⟩:=innerSome hb;obtain⟨s',h3,h4⟩:=innerSome hb';rw[h2]at h4;cases h4;exact hw.inj b b' _ h1 h3
  ·intro b o hb;unfold Mem.inner at hb;split at hb
   ·split at hb
    ·cases hb
    ·exact hb
   ·exact hw.frame b o hb
  ·intro b o hb;unfold Mem.inner at hb;split at hb
   ·rename_i h;exact(hw.own b _ h).1
   ·exact hw.apart b o hb
 have hin:∀i sv,svs[i]?=some sv→sv.root=none∧RepOwn G (σ.inner rs) w i sv (((xs.map a.eval).toArray).getD i undef):=by
  intro i sv hi;have hlt:i<xs.length:=by rw[←hl1];exact(List.getElem?_eq_some_iff.1 hi).1
  have hx:xs[i]?=some xs[i]:=List.getElem?_eq_getElem hlt;have hc:((xs.map a.eval).toArray).getD i undef=a.eval xs[i]:=by simp[hlt]
  rw[hc];rcases hargs i sv _ hi hx with⟨h1,⟨u,rfl,h2⟩|⟨e,sz,rfl,h2⟩⟩|⟨s,ver,h1,h2,h3,h4,h4'⟩
  ·exact⟨rfl,h2⟩
  ·refine⟨rfl,[],?_,rfl,by simp,?_⟩
   ·rw[h2];exact OwnsR.nil w e sz
   ·rw[h2];simp[Value.ownBlock]
  ·refine⟨SV.lends_root h3,RepOwn.tr h4 (Mem.le.refl G) fun b k hb=>⟨?_,rfl⟩⟩
   simp[Lab.inner,hb,Ss hn h1]
 have hcall:=hfn G (σ.inner rs) (Fr.inner σ w rs) w (xs.map a.eval).toArray hok (by simp[hl1]) hin
 refine hcall.mono ?_;rintro e w' ⟨r,outs,c,G',σ',he,hp,hG,hok',hroot,hrep,hlen,houts⟩;have far:∀{b s k},σ b=some (s,k)→s ∉ somes rs→Fr.inner σ w rs b=w.heap[b]?∧σ' b=none∧∃o,w.heap[b]?=some o:=by
  intro b s k hb hs;have h1:Fr.inner σ w rs b=w.heap[b]?:=by
   unfold Mem.inner;simp[hb,L4,hs]
  have h2:∃o,w.heap[b]?=some o:=⟨_,Array.getElem?_eq_getElem (hw.own b _ hb).2.2⟩;refine⟨h1,?_,h2⟩;cases h3:σ' b with
  |none=>rfl
  |some lab=>
   have:=(hok'.own b lab h3).2.1;rw[h1]at this;obtain⟨o,ho⟩:=h2;rw[ho]at this;cases this
 have farOuter:∀{b s k},σ b=some (s,k)→s ∉ somes rs→σ.outer σ' rs b=some (s,k):=by
  intro b s k hb hs;unfold Lab.outer;simp[hb,L4,hs]
 have outerInv:∀{b s k},σ.outer σ' rs b=some (s,k)→(s ∉ somes rs∧σ b=some (s,k))∨∃i,σ' b=some (i,k)∧rs[i]?=some (some s):=by
  intro b s k h;unfold Lab.outer at h;split at h
  ·rename_i s' k' hb;split at h
   ·split at h
    ·rename_i i k'' hi;split at h
     ·rename_i s'' hs'';cases h;exact .inr ⟨i,hi,hs''⟩
     ·cases h
    ·cases h
   ·rename_i hs';cases h;exact .inl ⟨by rwa [L4]at hs',hb⟩
  ·split at h
   ·rename_i i k'' hi;split at h
    ·rename_i s'' hs'';cases h;exact .inr ⟨i,hi,hs''⟩
    ·cases h
   ·cases h
 have innerOuter:∀{b i s k},σ' b=some (i,k)→rs[i]?=some (some s)→σ.outer σ' rs b=some (s,k):=by
  intro b i s k h1 h2;unfold Lab.outer;split
  ·rename_i s' k' hb;split
   ·simp[h1,h2]
   ·rename_i hs';obtain⟨_,h3,_⟩:=far hb (by rwa [L4]at hs')
    rw[h1]at h3;cases h3
  ·simp[h1,h2]
 refine⟨r,outs,c,G',σ',he,hp,hG,?_,hroot,hrep,by rw[hlen,hl1,hl2],?_,?_,?_,?_⟩
 ·refine⟨hok'.fixed,?_,?_,?_,hok'.os.trans hw.os,hok'.tape.trans hw.tape,hok'.output.trans hw.output,Nat.le_trans hw.size hok'.size,?_,hok'.amb⟩
  ·rintro b ⟨s,k⟩ hb;rcases outerInv hb with⟨h1,h2⟩|⟨i,h1,h2⟩
   ·obtain⟨h3,h4,o,h5⟩:=far h2 h1;obtain⟨h6,h7,h8⟩:=hw.own b _ h2;rw[h5]at h3;have h9:=hok'.frame b o h3;exact⟨hok'.apart b o h3,h7,(Array.getElem?_eq_some_iff.1 h9).1⟩
   ·obtain⟨h3,h4,h5⟩:=hok'.own b _ h1;refine⟨h3,?_,h5⟩;cases hf:Fr b with
    |none=>rfl
    |some o=>
     have hσ:σ b=none:=by
      cases hh:σ b with
      |none=>rfl
      |some lab=>have:=(hw.own b _ hh).2.1;rw[hf]at this;cases this
     have:Fr.inner σ w rs b=some o:=by unfold Mem.inner;simp[hσ,hf]
     rw[this]at h4;cases h4
  ·rintro b b' ⟨s,k⟩ hb hb';rcases outerInv hb with⟨h1,h2⟩|⟨i,h1,h2⟩<;>rcases outerInv hb' with⟨h3,h4⟩|⟨j,h3,h4⟩
   ·exact hw.inj b b' _ h2 h4
   ·exact absurd (L4.1 (List.mem_of_getElem? h4)) h1
   ·exact absurd (L4.1 (List.mem_of_getElem? h2)) h3
   ·have e1:=Ss hn h2;have e2:=Ss hn h4;rw[e1]at e2;cases e2;exact hok'.inj b b' _ h1 h3
  ·intro b o hb;have hσ:σ b=none:=by
    cases hh:σ b with
    |none=>rfl
    |some lab=>have:=(hw.own b _ hh).2.1;rw[hb]at this;cases this
   exact hok'.frame b o (by unfold Mem.inner;simp[hσ,hb])
  ·intro b o hb;have hσ:σ b=none:=by
    cases hh:σ b with
    |none=>rfl
    |some lab=>have:=(hw.own b _ hh).2.1;rw[hb]at this;cases this
   exact hok'.apart b o (by unfold Mem.inner;simp[hσ,hb])
 ·intro s hs b k hb;obtain⟨h3,h4,o,h5⟩:=far hb hs;refine⟨farOuter hb hs,?_⟩;rw[h5]at h3 ⊢;exact hok'.frame b o h3
 ·intro i s sv h1 h2;obtain⟨h3,h4⟩:=houts i sv h2;refine⟨h3,?_⟩;have hlt:i<xs.length:=by rw[←hl2];exact(List.getElem?_eq_some_iff.1 h1).1
  have hc:((xs.map a.eval).toArray).getD i undef=a.eval (xs.getD i (.tmp 0)):=by simp[hlt]
  rw[←hc];exact RepOwn.tr h4 (Mem.le.refl G') fun b k hb=>⟨innerOuter hb h1,rfl⟩
 ·intro b k hb;have hnone:rs[svs.length]?=none:=by rw[List.getElem?_eq_none];omega
  obtain⟨h3,h4,h5⟩:=hok'.own b _ hb;have hout:σ.outer σ' rs b=none:=by
   cases hh:σ.outer σ' rs b with
   |none=>rfl
   |some lab=>
    obtain⟨s,k'⟩:=lab;rcases outerInv hh with⟨h1,h2⟩|⟨i,h1,h2⟩
    ·obtain⟨_,h6,_⟩:=far h2 h1;rw[hb]at h6;cases h6
    ·rw[hb]at h1;cases h1;rw[hnone]at h2;cases h2
  refine⟨hout,h3,?_,h5⟩;cases hf:Fr b with
  |none=>rfl
  |some o=>
   have hσ:σ b=none:=by
    cases hh:σ b with
    |none=>rfl
    |some lab=>have:=(hw.own b _ hh).2.1;rw[hf]at this;cases this
   have:Fr.inner σ w rs b=some o:=by unfold Mem.inner;simp[hσ,hf]
   rw[this]at h4;cases h4
 ·intro b b' k h1 h2;exact hok'.inj b b' _ h1 h2
def Y6(d:Option Nat)(f:FuncId)(svs:List SV)(rs:List (Option Nat)):M:=.need ((somes rs).Nodup∧∀d',d=some d'→d' ∉ somes rs) fun _=>
 .call f svs fun r outs=>.need (∀h,r≠ .par h) fun _=>.need (∀sv∈outs,∀h,sv≠ .par h) fun _=>Qc rs outs (setR d r)
theorem Vk{o:Oper}{f:FuncId}{cargs:Array Value}{svs:List SV}{rs:List (Option Nat)}{xs:List Operand}{Q:St→Prop}{next:Act→World→Prop}{E:Exit→Act→World→Prop}(hrun:(execOp a.eval o).run P w= .ok (.enter f cargs) w)
 (he:(xs.map a.eval).toArray=cargs) {G1:Mem} {σ1:Lab} {st1:St} (hr1:Rel G1 σ1 Fr w0 st1 a w) (hl1:svs.length=xs.length) (hl2:rs.length=xs.length)
 (hargs:∀(i:Nat) (sv:SV) (x:Operand),svs[i]?=some sv→xs[i]?=some x→(rs[i]?=some none∧((∃u,sv= .v u∧RepV G1 u (a.eval x))∨∃e sz,sv= .vec e sz []∧a.eval x= .slice none 0 0))∨(∃s ver,rs[i]?=some (some s)∧st1[s]?=some ver∧sv.lends=true∧RepOwn G1 σ1 w s sv (a.eval x)∧a.eval x=val a w0 s))
 (h2:(Y6 o.dst f svs rs).wp P Q st1) (hn:∀G' σ' st' a' w',G1.le G'→Rel G' σ' Fr w0 st' a' w'→Q st'→next a' w') (hdst:∀d,o.dst=some d→d<w0.n):o.wp P a w next E:=by
 obtain⟨⟨hnd,hdn⟩,⟨Post,hfn,h2⟩⟩:=h2;have hc:=Ag3 (xs:=xs) hr1 hnd hl1 hl2 hargs hfn;unfold Oper.wp;rw[hrun,Oper.upon_enter];rw[he]at hc;refine hc.mono ?_;rintro e w' ⟨r,outs,c,G',σ',rfl,hp,hG',hok,hroot,hrep,hol,hkept,hback,hnew,hinj⟩;have h3:=h2 r outs hp;obtain⟨hrp,hop,h3⟩:=h3;obtain⟨st2,h4,hlen2,hsame,hset⟩:=Q0 hol.symm hnd h3;have hr2:Rel G' (σ1.outer σ' rs) Fr w0 st2 a w':=by
  refine hr1.many hok hG' hlen2 fun s=>?_
  by_cases hs:s∈somes rs
  ·right;obtain⟨i,hi⟩:=List.mem_iff_getElem?.1 (L4.2 hs);have hio:i<outs.length:=by rw[hol];exact(List.getElem?_eq_some_iff.1 hi).1
   have hoi:outs[i]?=some outs[i]:=List.getElem?_eq_getElem hio;obtain⟨ver,old,k1,k2⟩:=hset i s _ hi hoi;obtain⟨k3,k4⟩:=hback i s _ hi hoi;refine⟨ver,old,ver+1,_,k1,k2,Nat.lt_succ_self _,by rw[Yr];exact k3,fun h e=>hop _ (List.getElem_mem hio) h (Aaj e),?_,Yq⟩
   rw[Aak];have hxi:i<xs.length:=by rw[←hl2];exact(List.getElem?_eq_some_iff.1 hi).1
   have hsi:i<svs.length:=by rw[hl1];exact hxi
   rcases hargs i svs[i] xs[i] (List.getElem?_eq_getElem hsi) (List.getElem?_eq_getElem hxi)with⟨q1,_⟩|⟨s',ver',q1,q2,q3,q4,q5⟩
   ·rw[hi]at q1;cases q1
   ·rw[hi]at q1;cases q1;have:xs.getD i (.tmp 0)=xs[i]:=by rw[List.getD,List.getElem?_eq_getElem hxi];rfl
    rw[this,q5]at k4;exact k4
  ·exact .inl ⟨hsame s hs,hkept s hs⟩
 have hfin:∃σ3 st3,Rel G' σ3 Fr w0 st3 (a.put o.dst c) w'∧Q st3:=by
  cases hd:o.dst with
  |none=>rw[hd]at h4;exact⟨_,st2,hr2,h4⟩
  |some d=>
   rw[hd]at h4;simp only[setR,Jz,M.wp]at h4;cases hdd:st2[d]? with
   |none=>simp[hdd]at h4
   |some cur=>
    simp only[hdd]at h4
    let σ3:Lab:=fun b=>match σ' b with
     |some (i,k)=>if i=svs.length then some (d,k)else(σ1.outer σ' rs).drop d b
     |none=>(σ1.outer σ' rs).drop d b
    have inv3:∀{b lab},σ3 b=some lab→(∃k,σ' b=some (svs.length,k)∧lab=(d,k))∨((σ1.outer σ' rs).drop d b=some lab∧∀k,σ' b≠some (svs.length,k)):=by
     intro b lab hb;simp only[σ3]at hb;split at hb
     ·rename_i i k hi;split at hb
      ·rename_i e;cases hb;exact .inl ⟨k,by rw[hi,e],rfl⟩
      ·rename_i e;exact .inr ⟨hb,fun k' hk'=>by rw[hi]at hk';cases hk';exact e rfl⟩
     ·rename_i hi;exact .inr ⟨hb,fun k' hk'=>by rw[hi]at hk';cases hk'⟩
    have here3:∀{b k},σ' b=some (svs.length,k)→σ3 b=some (d,k):=by
     intro b k hb;simp only[σ3,hb,if_true]
    have far3:∀{b lab},(σ1.outer σ' rs).drop d b=some lab→σ3 b=some lab:=by
     intro b lab hb;have hout:=Lab.drop_le hb;simp only[σ3];split
     ·rename_i i k hi;split
      ·rename_i e;subst e;rw[(hnew b k hi).1]at hout;cases hout
      ·exact hb
     ·exact hb
    have hok3:WOk G' σ3 Fr w0 w':=by
     refine⟨hok.fixed,?_,?_,hok.frame,hok.os,hok.tape,hok.output,hok.size,hok.apart,hok.amb⟩
     ·intro b lab hb;rcases inv3 hb with⟨k,h5,rfl⟩|⟨h5,_⟩
      ·exact(hnew b k h5).2
      ·exact hok.own b lab (Lab.drop_le h5)
     ·intro b b' lab hb hb';rcases inv3 hb with⟨k,h5,rfl⟩|⟨h5,h6⟩<;>rcases inv3 hb' with⟨k',h7,h8⟩|⟨h7,h8⟩
      ·cases h8;exact hinj b b' k h5 h7
      ·exact absurd rfl (Lab.drop_some.1 h7).1
      ·subst h8;exact absurd rfl (Lab.drop_some.1 h5).1
      ·exact hok.inj b b' lab (Lab.drop_le h5) (Lab.drop_le h7)
    refine⟨σ3,_,hr2.put (hdst d hd) hok3 (Mem.le.refl G') hdd (Nat.lt_succ_self _) ?_ ?_ (fun h e=>absurd (Te.1 e) (hrp h)) Nx,h4⟩
    ·intro s' hs' b k hb;exact⟨far3 (Lab.drop_some.2 ⟨hs',hb⟩),rfl⟩
    ·rw[RepSV.own (by rw[Sm];exact hroot),Tf]
     exact RepOwn.tr hrep (Mem.le.refl G') fun b k hb=>⟨here3 hb,rfl⟩
 obtain⟨σ3,st3,q1,q2⟩:=hfin;exact hn G' σ3 st3 _ w' hG' q1 q2
theorem Wr{o:Oper}{f:FuncId}{args:Array Operand}{az:List (Bool × Opd)}{Q:St→Prop}{next:Act→World→Prop}{E:Exit→Act→World→Prop}(hrun:(execOp a.eval o).run P w= .ok (.enter f (args.map a.eval)) w)
 (ha:Ke w0.n args.toList az=true) (hr:Rel G σ Fr w0 st a w) (hw:(Uh o.dst f az).wp P Q st) (hn:∀G' σ' st' a' w',G.le G'→Rel G' σ' Fr w0 st' a' w'→Q st'→next a' w') (hdst:∀d,o.dst=some d→d<w0.n):o.wp P a w next E:=by
 obtain⟨us,G1,σ1,st1,hG1,hr1,h1,hul,hu⟩:=Rw hr ha hw;obtain⟨svs,rs,h2,hl1,hl2,hargs⟩:=Pb hr1 ha hul hu h1;have he:(args.toList.map a.eval).toArray=args.map a.eval:=by
  apply Array.ext';simp only[Array.toList_map]
 exact Vk hrun he hr1 hl1 hl2 hargs h2 (fun G' σ' st' a' w' hG=>hn G' σ' st' a' w' (hG1.trans hG)) hdst
theorem Adc{o:Oper}{f:FuncId}{args:Array Operand}{ts:Array TypeId}{az:List (Bool × Opd)}(ho:o.op= .call {callee:=.value (.func f),args,argTypes:=ts})(hf:Ko P f=true)
 (ha:Ke N args.toList az=true):Sound P N o (Uh o.dst f az):=by
 intro G σ Fr w0 st a w Q next E hN hr hw hn hdst
 subst hN;exact Wr (U1 ho hf) ha hr hw hn hdst
def ownA(x:Opd)(k:M):M:=match x with
 | .t n=>.get n fun _ sv=>match sv with
   | .bd _ _ _=>M6 (.t n) fun u=>.get n fun ver _=>.set n (ver+1) (.own [([],ver+1)] u) k
   |_=>k
 |_=>k
def ownArgs:List (Bool × Opd)→M→M
 | [],k=>k
 |(b,x)::az,k=>match b with
  |true=>ownA x (ownArgs az k)
  |false=>ownArgs az k
def V9(d:Option Nat)(f:FuncId)(az:List (Bool × Opd)):M:=ownArgs az (Uh d f az)
theorem Ag7{n:Nat}(h:n<a.tmps.size):a.put (some n) (a.eval (.tmp n))=a:=by
 cases a with
 |mk tmps defers=>
  simp only[Act.put,Act.eval]at h ⊢
  congr 1
  apply Array.ext
  ·simp
  ·intro i h1 h2;by_cases e:n=i
   ·subst e;simp[h]
   ·rw[Array.getElem_setIfInBounds h2];rw[if_neg e]
theorem Ag5{Q:St→Prop}{x:Operand}{y:Opd}{k:M}(h:Rel G σ Fr w0 st a w)(ho:Jj w0.n x y=true)(hq:(ownA y k).wp P Q st):∃G' σ' st',G.le G'∧Rel G' σ' Fr w0 st' a w∧k.wp P Q st':=by
 cases y with
 |c _=>exact⟨G,σ,st,Mem.le.refl G,h,hq⟩
 |nils _ _=>exact⟨G,σ,st,Mem.le.refl G,h,hq⟩
 |t n=>
  have ho':=ho;obtain⟨rfl,hnlt⟩:=J0 ho;simp only[ownA,M.wp]at hq;cases hs:st[n]? with
  |none=>simp[hs]at hq
  |some cur=>
   obtain⟨ver,sv⟩:=cur;simp only[hs]at hq;cases sv with
   |bd s v p=>
    simp only at hq;obtain⟨u,G',σ',st',h1,h2,h3,h4⟩:=Tp h ho' hq;simp only[M.wp]at h3;cases hs':st'[n]? with
    |none=>simp[hs']at h3
    |some cur'=>
     obtain⟨ver',sv'⟩:=cur';simp only[hs']at h3;obtain⟨σ2,st2,k1,k2⟩:=h2.adopt (P:=P) (d:=n) (Q:=fun st''=>st''=st'.set n (ver'+1,.own [([],ver'+1)] u)) hnlt h4 (by simp[Jz,M.wp,hs',SV.fresh])
     rw[Ag7 (by rw[h2.n];exact hnlt)]at k1
     subst k2;exact⟨G',σ2,_,h1,k1,h3⟩
   |_=>exact⟨G,σ,st,Mem.le.refl G,h,hq⟩
theorem Rt{Q:St→Prop}{k:M}:∀{xs:List Operand} {az:List (Bool × Opd)} {G:Mem} {σ:Lab} {st:St},Rel G σ Fr w0 st a w→Ke w0.n xs az=true→(ownArgs az k).wp P Q st→∃G' σ' st',G.le G'∧Rel G' σ' Fr w0 st' a w∧k.wp P Q st'
 | [],[],G,σ,st,h,_,hq=>⟨G,σ,st,Mem.le.refl G,h,hq⟩
 |x::xs,(true,y)::az,G,σ,st,h,ho,hq=>by
  simp only[Ke,Bool.and_eq_true]at ho;obtain⟨G1,σ1,st1,h1,h2,h3⟩:=Ag5 h ho.1 hq;obtain⟨G2,σ2,st2,k1,k2,k3⟩:=Rt h2 ho.2 h3;exact⟨G2,σ2,st2,h1.trans k1,k2,k3⟩
 |x::xs,(false,y)::az,G,σ,st,h,ho,hq=>by
  simp only[Ke,Bool.and_eq_true]at ho;exact Rt h ho.2 hq
 | [],_::_,_,_,_,_,ho,_=>by cases ho
 |_::_,[],_,_,_,_,ho,_=>by simp[Ke]at ho
theorem Agr{o:Oper}{f:FuncId}{args:Array Operand}{ts:Array TypeId}{az:List (Bool × Opd)}(ho:o.op= .call {callee:=.value (.func f),args,argTypes:=ts})(hf:Ko P f=true)
 (ha:Ke N args.toList az=true):Sound P N o (V9 o.dst f az):=by
 intro G σ Fr w0 st a w Q next E hN hr hw hn hdst
 subst hN;obtain⟨G',σ',st',h1,h2,h3⟩:=Rt hr ha hw;exact Adc ho hf ha G' σ' Fr w0 st' a w Q next E rfl h2 h3 (fun G2 σ2 st2 a2 w2 k1 k2 k3=>hn G2 σ2 st2 a2 w2 (h1.trans k1) k2 k3) hdst
theorem RepV.fn{f:FuncId}{c:Value}:RepV G (.fn f) c↔c= .func (.func f) #[] #[]:=by
 unfold RepV;rw[if_neg (by simp[I.isAgg])]
 simp only[RepI,List.cons.injEq,and_true]
def plain:I→Bool
 | .int _ _| .bool _| .str _| .fn _=>true
 |_=>false
mutual
def I.strip:I→I
 | .int k n=>.int k n
 | .bool b=>.bool b
 | .str s=>.str s
 | .fn f=>.fn f
 | .agg l=>.agg (strips l)
 | .arr sz l=>.arr sz (strips l)
 |_=>.und
def strips:List I→List I
 | []=>[]
 |x::l=>x.strip::strips l
end
mutual
theorem strip_shape:∀x:I,x.strip.isAgg=x.isAgg∧x.strip.size=x.size
 | .agg l=>⟨rfl,(strips_shape l).1⟩
 | .arr sz l=>⟨rfl,congrArg (sz* ·) (strips_shape l).2⟩
 | .int _ _=>⟨rfl,rfl⟩
 | .bool _=>⟨rfl,rfl⟩
 | .str _=>⟨rfl,rfl⟩
 | .fn _=>⟨rfl,rfl⟩
 | .und=>⟨rfl,rfl⟩
 | .list _=>⟨rfl,rfl⟩
 | .clo _ _=>⟨rfl,rfl⟩
 | .nili=>⟨rfl,rfl⟩
 | .nilp=>⟨rfl,rfl⟩
 | .nilm=>⟨rfl,rfl⟩
 | .ifc _ _=>⟨rfl,rfl⟩
theorem strips_shape:∀l:List I,sizes (strips l)=sizes l∧(strips l).length=l.length
 | []=>⟨rfl,rfl⟩
 |x::l=>by
  obtain⟨h1,h2⟩:=strips_shape l;simp only[strips,sizes,List.length_cons,(strip_shape x).2,h1,h2,and_self]
end
theorem S7{sz:Nat}:∀{l:List I},(∀x∈l,x.size=sz)→∀x∈strips l,x.size=sz
 | [],_,x,hx=>by cases hx
 |y::l,h,x,hx=>by
  simp only[strips,List.mem_cons]at hx;rcases hx with rfl|hx
  ·rw[(strip_shape y).2];exact h y (by simp)
  ·exact S7 (fun z hz=>h z (by simp[hz])) x hx
theorem N9{G G':Mem}{x:I}{cs:List Value}(h:RepI G x cs)(hs:x.size=1):RepI G' .und cs:=by
 have h1:=RepI.length x cs h;rw[hs]at h1;obtain⟨c,rfl⟩:=List.length_eq_one_iff.1 h1;simp only[RepI];exact⟨c,rfl,RepI.one x _ h c (by simp)⟩
mutual
theorem strip_rep{G G':Mem}:∀(x:I) (cs:List Value),RepI G x cs→RepI G' x.strip cs
 | .int _ _,_,h=>by simpa only[RepI,I.strip]using h
 | .bool _,_,h=>by simpa only[RepI,I.strip]using h
 | .str _,_,h=>by simpa only[RepI,I.strip]using h
 | .fn _,_,h=>by simpa only[RepI,I.strip]using h
 | .und,_,h=>N9 h rfl
 | .list _,_,h=>N9 h rfl
 | .clo _ _,_,h=>N9 h rfl
 | .nili,_,h=>N9 h rfl
 | .nilp,_,h=>N9 h rfl
 | .nilm,_,h=>N9 h rfl
 | .ifc _ _,_,h=>N9 h rfl
 | .agg l,cs,h=>by
   simp only[RepI,I.strip]at h ⊢;exact strips_rep l cs h
 | .arr sz l,cs,h=>by
   simp only[RepI,I.strip]at h ⊢;exact⟨strips_rep l cs h.1,S7 h.2⟩
theorem strips_rep{G G':Mem}:∀(l:List I) (cs:List Value),RepIs G l cs→RepIs G' (strips l) cs
 | [],_,h=>by simpa only[RepIs,strips]using h
 |x::l,cs,h=>by
  simp only[RepIs,strips]at h ⊢;obtain⟨c,d,e,h1,h2⟩:=h;exact⟨c,d,e,strip_rep x c h1,strips_rep l d h2⟩
end
theorem Ae6{G G':Mem}{x:I}{c:Value}(h:RepV G x c):RepV G' x.strip c:=by
 unfold RepV at h ⊢;rw[(strip_shape x).1];split
 ·rename_i hx;rw[if_pos hx]at h;obtain⟨a,rfl,h⟩:=h;exact⟨a,rfl,strip_rep x _ h⟩
 ·rename_i hx;rw[if_neg hx]at h;exact strip_rep x _ h
def Tn(u:I):I:=match plain u with
 |true=>u
 |false=>u.strip
def R1:List F→Option (List F)
 | []=>some []
 | .i x::r=>match R1 r with
   |some us=>some (.i (Tn x)::us)
   |none=>none
 |_=>none
def Ac3(x:Opd)(k:I→M):M:=match x with
 | .c x=>k x
 | .nils _ _=>k (.list [])
 | .t n=>.get n fun _ sv=>match sv with
   | .v x=>k x
   | .vec _ _ l=>k (.list l)
   | .bor s kk v=>.get s fun cur sv'=>.need (v=cur) fun _=>match sv'.vecAt kk with
     |some (_,_,l)=>k (.list l)
     |none=>.fail
   | .own _ t=>match t.toI with
     |some y=>k y
     |none=>.fail
   | .bd s v p=>.get s fun cur sv'=>match sv' with
     | .own inv t=>.need (J7 v inv p=true) fun _=>match D.at p t with
       |some u=>match u.toI with
        |some y=>k y
        |none=>.fail
       |none=>.fail
     |_=>.fail
   | .bs s v p _ _=>.get s fun cur sv'=>match sv' with
     | .own _ t=>match D.at p t with
       |some u=>match u.toI with
        |some y=>.need (v=cur∧u.isAgg=true) fun _=>k y
        |none=>.fail
       |none=>.fail
     |_=>.fail
   |_=>.fail
def Tv:List (Bool × Opd)→(List I→M)→M
 | [],k=>k []
 |(_,x)::az,k=>Ac3 x fun u=>Tv az fun us=>k (u::us)
def Uk(d:Option Nat)(f:FuncId)(az:List (Bool × Opd)):M:=Tv az fun us=>.call f (us.map .v) fun r _=>match r with
 | .v u=>setD d (.v (Tn u)) .done
 | .tup fs=>match R1 fs with
   |some us=>setD d (.tup us) .done
   |none=>.fail
 | .vec e sz l=>match d with
   |some d=>Jz d (.own [] (.vec e sz ((strips l).map D.it)))
   |none=>.fail
 |_=>.fail
def Lc(w:World):Mem:=fun b=>w.heap[b]?
theorem W0{G G':Mem}{u:I}{c:Value}(h:plain u=true)(hr:RepV G u c):RepV G' u c:=by
 cases u with
 |int k n=>rw[RepV.int]at hr ⊢;exact hr
 |bool b=>rw[RepV.bool]at hr ⊢;exact hr
 |str s=>rw[RepV.str]at hr ⊢;exact hr
 |fn f=>rw[RepV.fn]at hr ⊢;exact hr
 |_=>cases h
theorem We{G G':Mem}{u:I}{c:Value}(hr:RepV G u c):RepV G' (Tn u) c:=by
 unfold Tn;split
 ·rename_i h;exact W0 h hr
 ·exact Ae6 hr
theorem Wf{G G':Mem}{σ σ':Lab}{w w':World}{s s':Nat}:∀{fs us:List F} {cs:List Value} {j j':Nat},R1 fs=some us→RepTup G σ w s j fs cs→RepTup G' σ' w' s' j' us cs
 | [],us,cs,j,j',h,hr=>by
   simp only[R1,Option.some.injEq]at h;subst h;exact hr
 | .i x::r,us,cs,j,j',h,hr=>by
   simp only[R1]at h;split at h
   ·rename_i vs hv;cases h;obtain⟨c,d,e,h1,h2⟩:=hr;exact⟨c,d,e,We h1,Wf hv h2⟩
   ·cases h
 | .vec _ _ _::r,us,cs,j,j',h,hr=>by simp[R1]at h
theorem Af2{x:Operand}{y:Opd}{k:I→M}{Q:St→Prop}(h:Rel G σ Fr w0 st a w)(ho:Jj w0.n x y=true)(hq:(Ac3 y k).wp P Q st):∃u,(k u).wp P Q st∧RepV (Lc w) u (a.eval x):=by
 have hle:G.le (Lc w):=fun b o hb=>h.wok.fixed b o hb
 have vec:∀{lab:Nat × Nat} {e:TypeId} {sz:Nat} {l:List I} {c:Value},VecAt G σ w lab e sz l c→RepV (Lc w) (.list l) c:=fun hv=>hv.list hle fun b _=>rfl
 cases y with
 |c i=>exact⟨i,hq,Nn ho (Lc w)⟩
 |nils e sz=>
  refine⟨.list [],hq,?_⟩;rw[Le ho];exact RepV.list.2 ⟨none,0,rfl,Nat.le_refl _,Nat.zero_le _,.inl rfl⟩
 |t n=>
  obtain⟨rfl,hnlt⟩:=J0 ho;simp only[Ac3,M.wp]at hq;cases hs:st[n]? with
  |none=>simp[hs]at hq
  |some cur=>
   obtain⟨ver,sv⟩:=cur;simp only[hs]at hq;have hrep:=h.slot hnlt hs;cases sv with
   |v x=>exact⟨x,hq,RepV.mono hle hrep⟩
   |vec e sz l=>exact⟨_,hq,vec hrep⟩
   |bor s kk v=>
    obtain⟨cur,g1,g2,g3⟩:=hrep;simp only[M.wp,g1]at hq;obtain⟨hv,hq⟩:=hq;obtain⟨e,sz,l,g4,g5⟩:=g3 hv;simp only[g4]at hq;exact⟨_,hq,vec g5⟩
   |own inv t=>
    simp only at hq;split at hq
    ·rename_i y hy;obtain⟨bs,h1,h2,_⟩:=hrep;have hI:=RepD.toI (G':=Lc w) hle h1 hy fun b _=>rfl
     refine⟨_,hq,?_⟩;rw[←(toI_shape hy).2]at h2;unfold RepV;cases hag:y.isAgg with
     |true=>
      rw[hag]at h2;obtain⟨a',ha'⟩:=Nr h2;rw[ha']at hI;rw[if_pos rfl];exact⟨a',ha',hI⟩
     |false=>
      rw[hag]at h2;rw[J9 h2]at hI;rw[if_neg (by simp)]
      exact hI
    ·exact hq.elim
   |bd s v p=>
    obtain⟨cur,g1,g2,g3⟩:=hrep;simp only[M.wp,g1]at hq;obtain⟨cv,csv⟩:=cur;cases csv with
    |own inv t=>
     obtain⟨ha,hq⟩:=hq;split at hq
     ·rename_i u hat;split at hq
      ·rename_i y hy;have hhd:=g3 inv t rfl ha;obtain⟨hh,ubs,e5,_,_⟩:=HdD.read (h.slots s cv _ g1) hat hhd;obtain⟨u1,_,e1,e0,_⟩:=hhd;rw[hat]at e1;obtain rfl:=Option.some.inj e1;have hI:=RepD.toI (G':=Lc w) hle e5 hy fun b _=>rfl
       refine⟨_,hq,?_⟩;have hag:y.isAgg=false:=by
        rw[(toI_shape hy).2];cases u<;>first|rfl|cases e0
       unfold RepV;rw[if_neg (by rw[hag];simp)]
       exact hI
      ·exact hq.elim
     ·exact hq.elim
    |_=>exact hq.elim
   |bs s v p lo m=>
    obtain⟨cur,g1,g2,g3⟩:=hrep;simp only[M.wp,g1]at hq;obtain⟨cv,csv⟩:=cur;cases csv with
    |own inv t=>
     simp only at hq;split at hq
     ·rename_i u hat;split at hq
      ·rename_i y hy;obtain⟨⟨rfl,hag⟩,hq⟩:=hq;obtain⟨_,hbs⟩:=g3 rfl inv t rfl;rcases hbs with⟨e1,sz1,l1,c0,ad,cap,q1,_⟩|⟨u1,hh,k1,k2,k3,k4⟩
       ·rw[hat]at q1;cases q1;cases hag
       rw[hat]at k1;obtain rfl:=Option.some.inj k1;obtain⟨bs,hrep',hva,hnd,hlab⟩:=show OwnD G σ w s t (val a w0 s)from h.slots s v _ g1;obtain⟨mm,s',ubs,f1,f2,f3,f4,f5,f6⟩:=focus (here:=none) hrep' hnd hat
       rw[f1]at k4;obtain rfl:=Option.some.inj k4;have hI:=RepD.toI (G':=Lc w) hle f2 hy fun b _=>rfl
       refine⟨_,hq,?_⟩;obtain⟨a',ha'⟩:=Nr k3;unfold RepV;rw[if_pos (by rw[(toI_shape hy).2];exact hag),ha']
       rw[ha']at hI;exact⟨a',rfl,hI⟩
      ·exact hq.elim
     ·exact hq.elim
    |_=>exact hq.elim
   |_=>exact hq.elim
theorem Ru{Q:St→Prop}(h:Rel G σ Fr w0 st a w):∀{xs:List Operand} {az:List (Bool × Opd)} {k:List I→M},Ke w0.n xs az=true→(Tv az k).wp P Q st→
 ∃us,(k us).wp P Q st∧us.length=xs.length∧∀(i:Nat) (u:I) (x:Operand),us[i]?=some u→xs[i]?=some x→RepV (Lc w) u (a.eval x)
 | [],[],k,_,hq=>⟨[],hq,rfl,by simp⟩
 |x::xs,(_,y)::az,k,ho,hq=>by
  simp only[Ke,Bool.and_eq_true]at ho;obtain⟨u,h1,h2⟩:=Af2 h ho.1 hq;obtain⟨us,h3,h4,h5⟩:=Ru h ho.2 h1;refine⟨u::us,h3,by simp[h4],?_⟩
  intro i u' x' h6 h7;cases i with
  |zero=>cases h6;cases h7;exact h2
  |succ i=>exact h5 i u' x' h6 h7
 | [],_::_,_,ho,_=>by cases ho
 |_::_,[],_,ho,_=>by simp[Ke]at ho
theorem Aeq{o:Oper}{f:FuncId}{args:Array Operand}{ts:Array TypeId}{az:List (Bool × Opd)}(ho:o.op= .call {callee:=.value (.func f),args,argTypes:=ts})(hf:Ko P f=true)
 (ha:Ke N args.toList az=true):Sound P N o (Uk o.dst f az):=by
 intro G σ Fr w0 st a w Q next E hN hr hw hn hdst
 subst hN;obtain⟨us,⟨Post,hfn,h1⟩,h2,h3⟩:=Ru hr ha hw;have hw0:WOk (Lc w) (fun _=>none) (fun _=>none) ⟨w,0, #[]⟩ w:=
  ⟨fun _ _ h=>h,fun b lab h=>by(cases h),fun b b' lab h=>by(cases h),fun b o h=>by(cases h),rfl,rfl,rfl,Nat.le_refl _,fun b o h=>by(cases h),Amb.mono (fun b o h=>hr.wok.fixed b o h) hr.wok.amb⟩
 have hc:=hfn (Lc w) (fun _=>none) (fun _=>none) w (args.map a.eval) hw0 (by simp[h2]) (fun i sv hi=>by
  rw[List.getElem?_map]at hi;cases hu:us[i]? with
  |none=>simp[hu]at hi
  |some u=>
   simp only[hu,Option.map_some,Option.some.injEq]at hi;subst hi;have hil:i<args.size:=by
    have:=(List.getElem?_eq_some_iff.1 hu).1;rw[h2]at this;simpa using this
   refine⟨rfl,?_⟩;have:=h3 i u args[i] hu (by simp[hil])
   show RepV _ _ _;simpa[Array.getD,hil]using this)
 unfold Oper.wp;rw[U1 ho hf,Oper.upon_enter];refine hc.mono ?_;rintro e w' ⟨r,outs,c,G',σ',rfl,hp,hG',hok,hroot,hrep,_⟩;have h4:=h1 r outs hp;have hr':Rel G σ Fr w0 st a w':=hr.grow hok.os hok.tape hok.output hok.size fun b hb=>by
  have hbw:w.heap[b]?=some w.heap[b]:=Array.getElem?_eq_getElem hb;rw[hbw];exact hok.fixed b _ (hG' b _ hbw)
 cases r with
 |v u=>
  obtain⟨σ3,st3,q1,q2⟩:=hr'.setD hdst (sv:=.v (Tn u)) (c:=c) (fun _ _ _ _=>We hrep) h4
  exact hn G σ3 st3 _ w' (Mem.le.refl G) q1 q2
 |tup fs=>
  simp only at h4;split at h4
  ·rename_i vs hv;obtain⟨σ3,st3,q1,q2⟩:=hr'.setD hdst (sv:=.tup vs) (c:=c) (fun _ _ _ _=>by
    obtain⟨cs,rfl,hrep⟩:=hrep;exact⟨cs,rfl,Wf hv hrep⟩) h4
   exact hn G σ3 st3 _ w' (Mem.le.refl G) q1 q2
  ·exact h4.elim
 |vec e sz l=>
  simp only at h4;split at h4
  case h_2=>exact h4.elim
  rename_i d hd;have hfree:FreeD G σ Fr w' (.vec e sz ((strips l).map D.it)) c:=by
   obtain⟨xs,⟨hl,h5⟩,h6,h7,h8⟩:=hrep;rcases h5 with⟨rfl,h0⟩|⟨g,cap,cur,rfl,_,hg,hnn,hm,hs,ht⟩
   ·obtain rfl:=List.eq_nil_of_length_eq_zero h0;exact⟨[],by simp[RepD,Value.cells,strips],rfl,List.nodup_nil,by simp⟩
   ·have hlen:((strips l).map D.it).length=l.length:=by rw[List.length_map,(strips_shape l).2]
    refine⟨[g],?_,rfl,by simp,?_⟩
    ·simp only[RepD,Value.cells];refine .inr ⟨g,0,cap,cur,xs,[],by rw[hlen],hg,fun _=>⟨rfl,hs⟩,by rw[hlen];exact hnn,hm,by rw[Nat.zero_add,hs];exact Nat.le_refl _,by rw[hlen];simpa using ht,RepDs.its.2 ⟨strips_rep l xs h6,rfl⟩,?_,rfl⟩
     intro x hx;obtain⟨y,hy,rfl⟩:=List.mem_map.1 hx;exact S7 h7 y hy
    ·intro b hb;obtain rfl:=List.mem_singleton.1 hb;obtain⟨k1,k2,k3⟩:=hok.own b _ (h8 b rfl);have hw:w.heap[b]?=none:=by
      cases hwb:w.heap[b]? with
      |none=>rfl
      |some o=>rw[hG' b o hwb]at k1;cases k1
     refine⟨?_,?_,?_,k3⟩
     ·cases hGb:G b with
      |none=>rfl
      |some o=>rw[hr.wok.fixed b o hGb]at hw;cases hw
     ·cases hFb:Fr b with
      |none=>rfl
      |some o=>rw[hr.wok.frame b o hFb]at hw;cases hw
     ·cases hsb:σ b with
      |none=>rfl
      |some lab=>
       have:=(hr.wok.own b lab hsb).2.2;rw[Array.getElem?_eq_none_iff]at hw;omega
  obtain⟨σ3,st3,q1,q2⟩:=hr'.adopt (hdst d hd) hfree h4;rw[hd];exact hn G σ3 st3 _ w' (Mem.le.refl G) q1 q2
 |_=>exact h4.elim
def V6(d:Option Nat)(fs:List FuncId)(x:Opd)(az:List (Bool × Opd)):M:=rdI x fun u=>match u with
 | .fn f=>.need (f∈fs) fun _=>Uh d f az
 | .clo f caps=>.need (f∈fs) fun _=>Tv az fun us=>.call f (us.map .v++caps.map .rp) fun r _=>match r with
   | .v u=>.need (plain u=true) fun _=>setD d (.v u) .done
   |_=>.fail
 |_=>.fail
theorem Ahg{o:Oper}{f:FuncId}{x:Operand}{args:Array Operand}{ts:Array TypeId}(ho:o.op= .call {callee:=.value x,args,argTypes:=ts})(hx:a.eval x= .func (.func f) #[] #[])(hf:Ko P f=true):
 (execOp a.eval o).run P w= .ok (.enter f (args.map a.eval)) w:=by
 unfold Ko at hf;split at hf
 ·rename_i fn hfn;simp only[Bool.and_eq_true,Bool.not_eq_true',beq_eq_false_iff_ne,ne_eq]at hf;obtain⟨h1,h2⟩:=hf;have h4:fn.body≠none:=by rintro e;rw[e]at h1;cases h1
  simp[execOp,ho,resolve,Deferred.ofValue,hx,invoke,callFunc,hfn,h2,h4]
 ·cases hf
theorem Abb{o:Oper}{f:FuncId}{x:Operand}{ps:List Value}{args:Array Operand}{ts:Array TypeId}(ho:o.op= .call {callee:=.value x,args,argTypes:=ts})(hx:a.eval x= .func (.func f) #[] ps.toArray)(hf:Ko P f=true):
 (execOp a.eval o).run P w= .ok (.enter f (args.map a.eval++ps.toArray)) w:=by
 unfold Ko at hf;split at hf
 ·rename_i fn hfn;simp only[Bool.and_eq_true,Bool.not_eq_true',beq_eq_false_iff_ne,ne_eq]at hf;obtain⟨h1,h2⟩:=hf;have h4:fn.body≠none:=by rintro e;rw[e]at h1;cases h1
  simp[execOp,ho,resolve,Deferred.ofValue,hx,invoke,callFunc,hfn,h2,h4]
 ·cases hf
theorem RepPs.length{G:Mem}:∀{l:List I} {ps:List Value},RepPs G l ps→ps.length=l.length
 | [],_,h=>by simp only[RepPs]at h;simp[h]
 |x::l,ps,h=>by
  simp only[RepPs]at h;obtain⟨p,r,b,off,bl,ty,fz,pre,cs,post,rfl,_,_,_,_,_,h7⟩:=h;simp[RepPs.length h7]
theorem RepPs.get{G:Mem}:∀{l:List I} {ps:List Value} {i:Nat} {u:I},RepPs G l ps→l[i]?=some u→∃p,ps[i]?=some p∧RepRp G u p
 | [],_,i,u,_,h=>by simp at h
 |x::l,ps,i,u,hp,h=>by
  simp only[RepPs]at hp;obtain⟨p,r,b,off,bl,ty,fz,pre,cs,post,rfl,h2,h3,h4,h5,h6,h7⟩:=hp;cases i with
  |zero=>cases h;exact⟨p,rfl,b,off,bl,ty,fz,pre,cs,post,h2,h3,h4,h5,h6⟩
  |succ i=>
   have h8:l[i]?=some u:=by simpa using h
   obtain⟨p',h9,h10⟩:=RepPs.get h7 h8;exact⟨p',by simpa using h9,h10⟩
theorem Agi{o:Oper}{fs:List FuncId}{x:Operand}{x':Opd}{args:Array Operand}{ts:Array TypeId}{az:List (Bool × Opd)}(ho:o.op= .call {callee:=.value x,args,argTypes:=ts})(hx:Jj N x x'=true)
 (hf:fs.all (Ko P)=true) (ha:Ke N args.toList az=true):Sound P N o (V6 o.dst fs x' az):=by
 intro G σ Fr w0 st a w Q next E hN hr hw hn hdst
 subst hN;obtain⟨u,h1,hv⟩:=J8 hr hx hw;clear hw;split at h1
 ·rename_i f;obtain⟨hmem,h1⟩:=h1;exact Wr (Ahg ho (RepV.fn.1 hv) (List.all_eq_true.1 hf f hmem)) ha hr h1 hn hdst
 ·rename_i f caps;obtain⟨hmem,h1⟩:=h1;unfold RepV at hv;rw[if_neg (by simp[I.isAgg])]at hv
  simp only[RepI,List.cons.injEq,and_true]at hv;obtain⟨ps,hx',hps⟩:=hv;obtain⟨us,⟨Post,hfn,h1⟩,h2,h3⟩:=Ru hr ha h1;have hle:G.le (Lc w):=fun b o hb=>hr.wok.fixed b o hb
  have hps':=RepPs.mono hle caps ps hps;have hcallok:=List.all_eq_true.1 hf f hmem;have hw0:WOk (Lc w) (fun _=>none) (fun _=>none) ⟨w,0, #[]⟩ w:=
   ⟨fun _ _ h=>h,fun b lab h=>by(cases h),fun b b' lab h=>by(cases h),fun b o h=>by(cases h),rfl,rfl,rfl,Nat.le_refl _,fun b o h=>by(cases h),Amb.mono (fun b o h=>hr.wok.fixed b o h) hr.wok.amb⟩
  have hpl:=RepPs.length hps';have hc:=hfn (Lc w) (fun _=>none) (fun _=>none) w (args.map a.eval++ps.toArray) hw0 (by simp[h2,hpl]) (fun i sv hi=>by
   by_cases hil:i<us.length
   ·rw[List.getElem?_append_left (by simpa using hil),List.getElem?_map]at hi
    cases hu:us[i]? with
    |none=>simp[hu]at hi
    |some u=>
     simp only[hu,Option.map_some,Option.some.injEq]at hi;subst hi;have hil':i<args.size:=by
      rw[h2]at hil;simpa using hil
     refine⟨rfl,?_⟩;have:=h3 i u args[i] hu (by simp[hil'])
     show RepV _ _ _;have hget:(args.map a.eval++ps.toArray).getD i undef=a.eval args[i]:=by
      rw[Array.getD_eq_getD_getElem?,Array.getElem?_append_left (by simpa using hil')]
      simp[hil']
     rw[hget];exact this
   ·rw[List.getElem?_append_right (by simpa using hil),List.length_map,List.getElem?_map]at hi
    have hus:us.length=args.size:=by rw[h2];simp
    cases hu:caps[i - us.length]? with
    |none=>simp[hu]at hi
    |some u=>
     simp only[hu,Option.map_some,Option.some.injEq]at hi;subst hi;refine⟨rfl,?_⟩;obtain⟨p,hp,hrp⟩:=RepPs.get hps' hu;show RepRp _ _ _;have hget:(args.map a.eval++ps.toArray).getD i undef=p:=by
      rw[Array.getD_eq_getD_getElem?,Array.getElem?_append_right (by simp;omega)]
      simp only[Array.size_map, ←hus];rw[List.getElem?_toArray,hp];rfl
     rw[hget];exact hrp)
  unfold Oper.wp;rw[Abb ho hx' hcallok,Oper.upon_enter];refine hc.mono ?_;rintro e w' ⟨r,outs,c,G',σ',rfl,hp,hG',hok,hroot,hrep,_⟩;have h4:=h1 r outs hp;have hr':Rel G σ Fr w0 st a w':=hr.grow hok.os hok.tape hok.output hok.size fun b hb=>by
   have hbw:w.heap[b]?=some w.heap[b]:=Array.getElem?_eq_getElem hb;rw[hbw];exact hok.fixed b _ (hG' b _ hbw)
  cases r with
  |v u=>
   obtain⟨hpl,h4⟩:=h4;obtain⟨σ3,st3,q1,q2⟩:=hr'.setD hdst (sv:=.v u) (c:=c) (fun _ _ _ _=>W0 hpl hrep) h4
   exact hn G σ3 st3 _ w' (Mem.le.refl G) q1 q2
  |_=>exact h4.elim
 ·exact h1.elim
def V7(d:Option Nat)(tab:List (TypeId × FuncId))(x:Opd):M:=rdI x fun u=>match u with
 | .ifc t v=>match tab.find? fun e=>Nat.beq e.1 t with
   |some e=>Y6 d e.2 [.v v] [none]
   |none=>.fail
 |_=>.fail
def Vv(P:Program)(name:String)(e:TypeId × FuncId):Bool:=Ko P e.2&&(match P.underlying e.1 with
 |some (.pointer _)=>false
 |some _=>true
 |none=>false)&&match P.info? e.1 with
 |some i=>match i.methods.find? (·.name==name)with
  |some m=>m.path.isEmpty&&(match m.func with
   |some (f,b)=>f==e.2&& !b
   |none=>false)
  |none=>false
 |none=>false
theorem Ahs{o:Oper}{e:TypeId × FuncId}{x:Operand}{c:Value}{name:String}{ts:Array TypeId}(ho:o.op= .call {callee:=.invoke x name,args:= #[],argTypes:=ts})(hx:a.eval x= .iface e.1 c)(hf:Vv P name e=true):
 (execOp a.eval o).run P w= .ok (.enter e.2 #[c]) w:=by
 unfold Vv at hf;simp only[Bool.and_eq_true]at hf;obtain⟨⟨hf,hu⟩,hm⟩:=hf;unfold Ko at hf;split at hf
 ·rename_i fn hfn;simp only[Bool.and_eq_true,Bool.not_eq_true',beq_eq_false_iff_ne,ne_eq]at hf;obtain⟨h1,h2⟩:=hf;have h4:fn.body≠none:=by rintro e;rw[e]at h1;cases h1
  split at hm
  case h_2=>cases hm
  rename_i i hi;split at hm
  case h_2=>cases hm
  rename_i m hmm;simp only[Bool.and_eq_true,Array.isEmpty_iff]at hm;obtain⟨hp,hm⟩:=hm;split at hm
  case h_2=>cases hm
  rename_i f b hfb;simp only[Bool.and_eq_true,beq_iff_eq,Bool.not_eq_true']at hm;obtain⟨rfl,rfl⟩:=hm;have hmeth:∀n,(method (n+1) e.1 c name).run P w= .ok (e.2,c) w:=by
   intro n;cases hT:P.underlying e.1 with
   |none=>rw[hT]at hu;cases hu
   |some T=>
    rw[hT]at hu;cases T<;>first|(cases hu;done)|simp[method,typeInfo,hi,hmm,hp,hfb,follow,receiverAt,run_underlying hT,Place.get]
  have hmeth':(method (P.types.size+Made.depth) e.1 c name).run P w= .ok (e.2,c) w:=by
   have:P.types.size+Made.depth=(P.types.size+(Made.depth - 1))+1:=rfl;rw[this];exact hmeth _
  simp[execOp,ho,resolve,hx,invoke,callMethod,hmeth',callFunc,hfn,h2,h4]
 ·cases hf
theorem Agm{o:Oper}{tab:List (TypeId × FuncId)}{x:Operand}{x':Opd}{name:String}{ts:Array TypeId}(ho:o.op= .call {callee:=.invoke x name,args:= #[],argTypes:=ts})(hx:Jj N x x'=true)
 (hf:tab.all (Vv P name)=true):Sound P N o (V7 o.dst tab x'):=by
 intro G σ Fr w0 st a w Q next E hN hr hw hn hdst
 subst hN;obtain⟨u,h1,hu⟩:=J8 hr hx hw;split at h1
 ·rename_i t v;split at h1
  ·rename_i e he;have h2:Nat.beq e.1 t=true:=by simpa using List.find?_some (p:=fun e:TypeId × FuncId=>Nat.beq e.1 t) he
   obtain rfl:=Nat.eq_of_beq_eq_true h2;obtain⟨c,hc,hv⟩:=RepV.ifc.1 hu;refine Vk (xs:=[.const c]) (Ahs ho hc (List.all_eq_true.1 hf e (List.mem_of_find?_eq_some he))) rfl hr rfl rfl ?_ h1 hn hdst;intro i sv y h3 h4
   match i,h3,h4 with
   |0,h3,h4=>
    cases h3;cases h4;exact .inl ⟨rfl,.inl ⟨v,rfl,hv⟩⟩
   |i+1,h3,_=>simp at h3
  ·exact h1.elim
 ·exact h1.elim
end
end Go.Ab
