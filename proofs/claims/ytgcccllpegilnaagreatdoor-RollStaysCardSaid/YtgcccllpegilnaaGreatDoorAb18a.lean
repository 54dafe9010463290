/- Lemmas -/
import Derived.Test.YtgcccllpegilnaaGreatDoorAb16
set_option linter.unusedVariables false
set_option linter.unusedSimpArgs false
namespace Go.Ab
def Kr (P:Program) (f:FuncId):Bool:=match P.funcs[f]? with
 |some fn=>fn.body.isSome&& !(fn.name== "runtime.NumGoroutine")
 |none=>false
section
variable{P:Program}{N:Nat}{G:Mem}{σ:Lab}{Fr:Mem}{w0:Base}{w:World}{st:St}{a:Act}
theorem Ank {o:Oper} {f:FuncId} {args:Array Operand} {ts:Array TypeId} (ho:o.op= .call {callee:=.value (.func f),args,argTypes:=ts}) (hf:Kr P f=true):
 (execOp a.eval o).run P w= .ok (.enter f (args.map a.eval)) w:=by
 unfold Kr at hf
 split at hf
 ·rename_i fn hfn
  simp only[Bool.and_eq_true,Bool.not_eq_true',beq_eq_false_iff_ne,ne_eq]at hf
  obtain⟨h1,h2⟩:=hf
  have h4:fn.body≠none:=by rintro e;rw[e]at h1;cases h1
  simp[execOp,ho,resolve,Deferred.ofValue,Act.eval,invoke,callFunc,hfn,h2,h4]
 ·cases hf
theorem Bc7 {f:FuncId} {svs:List SV} {rs:List (Option Nat)} {xs:List Operand} {Post:SV→List SV→Prop} (hr:Rel G σ Fr w0 st a w) (hn:(somes rs).Nodup)
 (hl1:svs.length=xs.length) (hl2:rs.length=xs.length)
 (hargs:∀(i:Nat) (sv:SV) (x:Operand),svs[i]?=some sv→xs[i]?=some x→(rs[i]?=some none∧((∃u,sv= .v u∧RepV G u (a.eval x))∨∃e sz,sv= .vec e sz []∧a.eval x= .slice none 0 0))∨(∃s ver,rs[i]?=some (some s)∧st[s]?=some ver∧sv.lends=true∧RepOwn G σ w s sv (a.eval x)∧a.eval x=val a w0 s))
 (hfn:Fn P f svs Post):
 Calls P f (xs.map a.eval).toArray w fun e w'=>∃r outs c G' σ',e= .returned c∧Post r outs∧G.le G'∧WOk G' (σ.outer σ' rs) Fr w0 w'∧r.root=none∧RepOwn G' σ' w' svs.length r c∧outs.length=rs.length∧
  (∀s,s ∉ somes rs→Kept σ (σ.outer σ' rs) w w' s)∧
  (∀(i:Nat) s sv,rs[i]?=some (some s)→outs[i]?=some sv→sv.root=none∧RepOwn G' (σ.outer σ' rs) w' s sv (a.eval (xs.getD i (.tmp 0))))∧
  (∀b k,σ' b=some (svs.length,k)→σ.outer σ' rs b=none∧G' b=none∧Fr b=none∧b<w'.heap.size)∧(∀b b' k,σ' b=some (svs.length,k)→σ' b'=some (svs.length,k)→b=b'):=by
 have hw:=hr.wok
 have innerSome:∀{b i k},σ.inner rs b=some (i,k)→∃s,σ b=some (s,k)∧rs[i]?=some (some s):=by
  intro b i k h
  unfold Lab.inner at h
  split at h
  ·rename_i s k' hb
   split at h
   ·rename_i j hj
    cases h
    exact⟨s,hb,Bau hj⟩
   ·cases h
  ·cases h
 have hok:WOk G (σ.inner rs) (Fr.inner σ w rs) ⟨w,0, #[]⟩ w:=by
  refine⟨hw.fixed,?_,?_,?_,rfl,rfl,rfl,Nat.le_refl _,?_,hw.amb⟩
  ·rintro b ⟨i,k⟩ hb
   obtain⟨s,h1,h2⟩:=innerSome hb
   obtain⟨h3,h4,h5⟩:=hw.own b _ h1
   refine⟨h3,?_,h5⟩
   unfold Mem.inner
   simp[h1,List.mem_of_getElem? h2]
  ·rintro b b' ⟨i,k⟩ hb hb'
   obtain⟨s,h1,h2⟩:=innerSome hb
   obtain⟨s',h3,h4⟩:=innerSome hb'
   rw[h2]at h4
   cases h4
   exact hw.inj b b' _ h1 h3
  ·intro b o hb
   unfold Mem.inner at hb
   split at hb
   ·split at hb
    ·cases hb
    ·exact hb
   ·exact hw.frame b o hb
  ·intro b o hb
   unfold Mem.inner at hb
   split at hb
   ·rename_i h;exact(hw.own b _ h).1
   ·exact hw.apart b o hb
 have hin:∀i sv,svs[i]?=some sv→sv.root=none∧RepOwn G (σ.inner rs) w i sv (((xs.map a.eval).toArray).getD i undef):=by
  intro i sv hi
  have hlt:i<xs.length:=by rw[←hl1];exact(List.getElem?_eq_some_iff.1 hi).1
  have hx:xs[i]?=some xs[i]:=List.getElem?_eq_getElem hlt
  have hc:((xs.map a.eval).toArray).getD i undef=a.eval xs[i]:=by simp[hlt]
  rw[hc]
  rcases hargs i sv _ hi hx with⟨h1,⟨u,rfl,h2⟩|⟨e,sz,rfl,h2⟩⟩|⟨s,ver,h1,h2,h3,h4,h4'⟩
  ·exact⟨rfl,h2⟩
  ·refine⟨rfl,[],?_,rfl,by simp,?_⟩
   ·rw[h2];exact OwnsR.nil w e sz
   ·rw[h2];simp[Value.ownBlock]
  ·refine⟨SV.lends_root h3,RepOwn.tr h4 (Mem.le.refl G) fun b k hb=>⟨?_,rfl⟩⟩
   simp[Lab.inner,hb,Agp hn h1]
 have hcall:=hfn G (σ.inner rs) (Fr.inner σ w rs) w (xs.map a.eval).toArray hok (by simp[hl1]) hin
 refine hcall.mono ?_
 rintro e w' ⟨r,outs,c,G',σ',he,hp,hG,hok',hroot,hrep,hlen,houts⟩
 have far:∀{b s k},σ b=some (s,k)→s ∉ somes rs→Fr.inner σ w rs b=w.heap[b]?∧σ' b=none∧∃o,w.heap[b]?=some o:=by
  intro b s k hb hs
  have h1:Fr.inner σ w rs b=w.heap[b]?:=by
   unfold Mem.inner
   simp[hb,Lk,hs]
  have h2:∃o,w.heap[b]?=some o:=⟨_,Array.getElem?_eq_getElem (hw.own b _ hb).2.2⟩
  refine⟨h1,?_,h2⟩
  cases h3:σ' b with
  |none=>rfl
  |some lab=>
   have:=(hok'.own b lab h3).2.1
   rw[h1]at this
   obtain⟨o,ho⟩:=h2
   rw[ho]at this
   cases this
 have farOuter:∀{b s k},σ b=some (s,k)→s ∉ somes rs→σ.outer σ' rs b=some (s,k):=by
  intro b s k hb hs
  unfold Lab.outer
  simp[hb,Lk,hs]
 have outerInv:∀{b s k},σ.outer σ' rs b=some (s,k)→(s ∉ somes rs∧σ b=some (s,k))∨∃i,σ' b=some (i,k)∧rs[i]?=some (some s):=by
  intro b s k h
  unfold Lab.outer at h
  split at h
  ·rename_i s' k' hb
   split at h
   ·split at h
    ·rename_i i k'' hi
     split at h
     ·rename_i s'' hs''
      cases h
      exact .inr ⟨i,hi,hs''⟩
     ·cases h
    ·cases h
   ·rename_i hs'
    cases h
    exact .inl ⟨by rwa [Lk]at hs',hb⟩
  ·split at h
   ·rename_i i k'' hi
    split at h
    ·rename_i s'' hs''
     cases h
     exact .inr ⟨i,hi,hs''⟩
    ·cases h
   ·cases h
 have innerOuter:∀{b i s k},σ' b=some (i,k)→rs[i]?=some (some s)→σ.outer σ' rs b=some (s,k):=by
  intro b i s k h1 h2
  unfold Lab.outer
  split
  ·rename_i s' k' hb
   split
   ·simp[h1,h2]
   ·rename_i hs'
    obtain⟨_,h3,_⟩:=far hb (by rwa [Lk]at hs')
    rw[h1]at h3
    cases h3
  ·simp[h1,h2]
 refine⟨r,outs,c,G',σ',he,hp,hG,?_,hroot,hrep,by rw[hlen,hl1,hl2],?_,?_,?_,?_⟩
 ·refine⟨hok'.fixed,?_,?_,?_,hok'.os.trans hw.os,hok'.tape.trans hw.tape,hok'.output.trans hw.output,Nat.le_trans hw.size hok'.size,?_,hok'.amb⟩
  ·rintro b ⟨s,k⟩ hb
   rcases outerInv hb with⟨h1,h2⟩|⟨i,h1,h2⟩
   ·obtain⟨h3,h4,o,h5⟩:=far h2 h1
    obtain⟨h6,h7,h8⟩:=hw.own b _ h2
    rw[h5]at h3
    have h9:=hok'.frame b o h3
    exact⟨hok'.apart b o h3,h7,(Array.getElem?_eq_some_iff.1 h9).1⟩
   ·obtain⟨h3,h4,h5⟩:=hok'.own b _ h1
    refine⟨h3,?_,h5⟩
    cases hf:Fr b with
    |none=>rfl
    |some o=>
     have hσ:σ b=none:=by
      cases hh:σ b with
      |none=>rfl
      |some lab=>have:=(hw.own b _ hh).2.1;rw[hf]at this;cases this
     have:Fr.inner σ w rs b=some o:=by unfold Mem.inner;simp[hσ,hf]
     rw[this]at h4
     cases h4
  ·rintro b b' ⟨s,k⟩ hb hb'
   rcases outerInv hb with⟨h1,h2⟩|⟨i,h1,h2⟩<;>rcases outerInv hb' with⟨h3,h4⟩|⟨j,h3,h4⟩
   ·exact hw.inj b b' _ h2 h4
   ·exact absurd (Lk.1 (List.mem_of_getElem? h4)) h1
   ·exact absurd (Lk.1 (List.mem_of_getElem? h2)) h3
   ·have e1:=Agp hn h2
    have e2:=Agp hn h4
    rw[e1]at e2
    cases e2
    exact hok'.inj b b' _ h1 h3
  ·intro b o hb
   have hσ:σ b=none:=by
    cases hh:σ b with
    |none=>rfl
    |some lab=>have:=(hw.own b _ hh).2.1;rw[hb]at this;cases this
   exact hok'.frame b o (by unfold Mem.inner;simp[hσ,hb])
  ·intro b o hb
   have hσ:σ b=none:=by
    cases hh:σ b with
    |none=>rfl
    |some lab=>have:=(hw.own b _ hh).2.1;rw[hb]at this;cases this
   exact hok'.apart b o (by unfold Mem.inner;simp[hσ,hb])
 ·intro s hs b k hb
  obtain⟨h3,h4,o,h5⟩:=far hb hs
  refine⟨farOuter hb hs,?_⟩
  rw[h5]at h3 ⊢
  exact hok'.frame b o h3
 ·intro i s sv h1 h2
  obtain⟨h3,h4⟩:=houts i sv h2
  refine⟨h3,?_⟩
  have hlt:i<xs.length:=by rw[←hl2];exact(List.getElem?_eq_some_iff.1 h1).1
  have hc:((xs.map a.eval).toArray).getD i undef=a.eval (xs.getD i (.tmp 0)):=by simp[hlt]
  rw[←hc]
  exact RepOwn.tr h4 (Mem.le.refl G') fun b k hb=>⟨innerOuter hb h1,rfl⟩
 ·intro b k hb
  have hnone:rs[svs.length]?=none:=by rw[List.getElem?_eq_none];omega
  obtain⟨h3,h4,h5⟩:=hok'.own b _ hb
  have hout:σ.outer σ' rs b=none:=by
   cases hh:σ.outer σ' rs b with
   |none=>rfl
   |some lab=>
    obtain⟨s,k'⟩:=lab
    rcases outerInv hh with⟨h1,h2⟩|⟨i,h1,h2⟩
    ·obtain⟨_,h6,_⟩:=far h2 h1;rw[hb]at h6;cases h6
    ·rw[hb]at h1;cases h1;rw[hnone]at h2;cases h2
  refine⟨hout,h3,?_,h5⟩
  cases hf:Fr b with
  |none=>rfl
  |some o=>
   have hσ:σ b=none:=by
    cases hh:σ b with
    |none=>rfl
    |some lab=>have:=(hw.own b _ hh).2.1;rw[hf]at this;cases this
   have:Fr.inner σ w rs b=some o:=by unfold Mem.inner;simp[hσ,hf]
   rw[this]at h4
   cases h4
 ·intro b b' k h1 h2
  exact hok'.inj b b' _ h1 h2
theorem Ats {o:Oper} {f:FuncId} {args:Array Operand} {az:List (Bool × Opd)} {Q:St→Prop} {next:Act→World→Prop} {E:Exit→Act→World→Prop} (hrun:(execOp a.eval o).run P w= .ok (.enter f (args.map a.eval)) w)
 (ha:E4 w0.n args.toList az=true) (hr:Rel G σ Fr w0 st a w) (hw:(Ak7 o.dst f az).wp P Q st) (hn:∀G' σ' st' a' w',G.le G'→Rel G' σ' Fr w0 st' a' w'→Q st'→next a' w') (hdst:∀d,o.dst=some d→d<w0.n):o.wp P a w next E:=by
 obtain⟨us,G1,σ1,st1,hG1,hr1,h1,hul,hu⟩:=Ad1 hr ha hw
 obtain⟨svs,rs,h2,hl1,hl2,hargs⟩:=Vm hr1 ha hul hu h1
 obtain⟨⟨hnd,hdn⟩,⟨Post,hfn,h2⟩⟩:=h2
 have hc:=Bc7 (xs:=args.toList) hr1 hnd hl1 hl2 hargs hfn
 unfold Oper.wp
 rw[hrun,Oper.upon_enter]
 have he:(args.toList.map a.eval).toArray=args.map a.eval:=by
  apply Array.ext'
  simp only[Array.toList_map]
 rw[he]at hc
 refine hc.mono ?_
 rintro e w' ⟨r,outs,c,G',σ',rfl,hp,hG',hok,hroot,hrep,hol,hkept,hback,hnew,hinj⟩
 have h3:=h2 r outs hp
 obtain⟨hrp,hop,h3⟩:=h3
 obtain⟨st2,h4,hlen2,hsame,hset⟩:=Zt hol.symm hnd h3
 have hr2:Rel G' (σ1.outer σ' rs) Fr w0 st2 a w':=by
  refine hr1.many hok hG' hlen2 fun s=>?_
  by_cases hs:s∈somes rs
  ·right
   obtain⟨i,hi⟩:=List.mem_iff_getElem?.1 (Lk.2 hs)
   have hio:i<outs.length:=by rw[hol];exact(List.getElem?_eq_some_iff.1 hi).1
   have hoi:outs[i]?=some outs[i]:=List.getElem?_eq_getElem hio
   obtain⟨ver,old,k1,k2⟩:=hset i s _ hi hoi
   obtain⟨k3,k4⟩:=hback i s _ hi hoi
   refine⟨ver,old,ver+1,_,k1,k2,Nat.lt_succ_self _,by rw[Xf];exact k3,fun h e=>hop _ (List.getElem_mem hio) h (Aa8.1 e),?_,Tc⟩
   rw[Aa9]
   have hxi:i<args.toList.length:=by rw[←hl2];exact(List.getElem?_eq_some_iff.1 hi).1
   have hsi:i<svs.length:=by rw[hl1];exact hxi
   rcases hargs i svs[i] args.toList[i] (List.getElem?_eq_getElem hsi) (List.getElem?_eq_getElem hxi)with⟨q1,_⟩|⟨s',ver',q1,q2,q3,q4,q5⟩
   ·rw[hi]at q1;cases q1
   ·rw[hi]at q1
    cases q1
    have:args.toList.getD i (.tmp 0)=args.toList[i]:=by rw[List.getD,List.getElem?_eq_getElem hxi];rfl
    rw[this,q5]at k4
    exact k4
  ·exact .inl ⟨hsame s hs,hkept s hs⟩
 have hfin:∃σ3 st3,Rel G' σ3 Fr w0 st3 (a.put o.dst c) w'∧Q st3:=by
  cases hd:o.dst with
  |none=>rw[hd]at h4;exact⟨_,st2,hr2,h4⟩
  |some d=>
   rw[hd]at h4
   simp only[setR,C2,M.wp]at h4
   cases hdd:st2[d]? with
   |none=>simp[hdd]at h4
   |some cur=>
    simp only[hdd]at h4
    let σ3:Lab:=fun b=>match σ' b with
     |some (i,k)=>if i=svs.length then some (d,k)else(σ1.outer σ' rs).drop d b
     |none=>(σ1.outer σ' rs).drop d b
    have inv3:∀{b lab},σ3 b=some lab→(∃k,σ' b=some (svs.length,k)∧lab=(d,k))∨((σ1.outer σ' rs).drop d b=some lab∧∀k,σ' b≠some (svs.length,k)):=by
     intro b lab hb
     simp only[σ3]at hb
     split at hb
     ·rename_i i k hi
      split at hb
      ·rename_i e
       cases hb
       exact .inl ⟨k,by rw[hi,e],rfl⟩
      ·rename_i e
       exact .inr ⟨hb,fun k' hk'=>by rw[hi]at hk';cases hk';exact e rfl⟩
     ·rename_i hi
      exact .inr ⟨hb,fun k' hk'=>by rw[hi]at hk';cases hk'⟩
    have here3:∀{b k},σ' b=some (svs.length,k)→σ3 b=some (d,k):=by
     intro b k hb
     simp only[σ3,hb,if_true]
    have far3:∀{b lab},(σ1.outer σ' rs).drop d b=some lab→σ3 b=some lab:=by
     intro b lab hb
     have hout:=Lab.drop_le hb
     simp only[σ3]
     split
     ·rename_i i k hi
      split
      ·rename_i e
       subst e
       rw[(hnew b k hi).1]at hout
       cases hout
      ·exact hb
     ·exact hb
    have hok3:WOk G' σ3 Fr w0 w':=by
     refine⟨hok.fixed,?_,?_,hok.frame,hok.os,hok.tape,hok.output,hok.size,hok.apart,hok.amb⟩
     ·intro b lab hb
      rcases inv3 hb with⟨k,h5,rfl⟩|⟨h5,_⟩
      ·exact(hnew b k h5).2
      ·exact hok.own b lab (Lab.drop_le h5)
     ·intro b b' lab hb hb'
      rcases inv3 hb with⟨k,h5,rfl⟩|⟨h5,h6⟩<;>rcases inv3 hb' with⟨k',h7,h8⟩|⟨h7,h8⟩
      ·cases h8;exact hinj b b' k h5 h7
      ·exact absurd rfl (Lab.drop_some.1 h7).1
      ·subst h8;exact absurd rfl (Lab.drop_some.1 h5).1
      ·exact hok.inj b b' lab (Lab.drop_le h5) (Lab.drop_le h7)
    refine⟨σ3,_,hr2.put (hdst d hd) hok3 (Mem.le.refl G') hdd (Nat.lt_succ_self _) ?_ ?_ (fun h e=>absurd (Aa8.1 e) (hrp h)) Tc,h4⟩
    ·intro s' hs' b k hb
     exact⟨far3 (Lab.drop_some.2 ⟨hs',hb⟩),rfl⟩
    ·rw[RepSV.own (by rw[Xf];exact hroot),Aa9]
     exact RepOwn.tr hrep (Mem.le.refl G') fun b k hb=>⟨here3 hb,rfl⟩
 obtain⟨σ3,st3,q1,q2⟩:=hfin
 exact hn G' σ3 st3 _ w' (hG1.trans hG') q1 q2
theorem A74 {o:Oper} {f:FuncId} {args:Array Operand} {ts:Array TypeId} {az:List (Bool × Opd)} (ho:o.op= .call {callee:=.value (.func f),args,argTypes:=ts}) (hf:Kr P f=true)
 (ha:E4 N args.toList az=true):Sound P N o (Ak7 o.dst f az):=by
 intro G σ Fr w0 st a w Q next E hN hr hw hn hdst
 subst hN
 exact Ats (Ank ho hf) ha hr hw hn hdst
def ownA (x:Opd) (k:M):M:=match x with
 | .t n=>.get n fun _ sv=>match sv with
   | .bd _ _ _=>Q3 (.t n) fun u=>.get n fun ver _=>.set n (ver+1) (.own [ver+1] u) k
   |_=>k
 |_=>k
def ownArgs:List (Bool × Opd)→M→M
 | [],k=>k
 |(b,x)::az,k=>match b with
  |true=>ownA x (ownArgs az k)
  |false=>ownArgs az k
def Aq4 (d:Option Nat) (f:FuncId) (az:List (Bool × Opd)):M:=ownArgs az (Ak7 d f az)
theorem Bep {n:Nat} (h:n<a.tmps.size):a.put (some n) (a.eval (.tmp n))=a:=by
 cases a with
 |mk tmps defers=>
  simp only[Act.put,Act.eval]at h ⊢
  congr 1
  apply Array.ext
  ·simp
  ·intro i h1 h2
   by_cases e:n=i
   ·subst e;simp[h]
   ·rw[Array.getElem_setIfInBounds h2];rw[if_neg e]
theorem Beo {Q:St→Prop} {x:Operand} {y:Opd} {k:M} (h:Rel G σ Fr w0 st a w) (ho:Ax w0.n x y=true) (hq:(ownA y k).wp P Q st):∃G' σ' st',G.le G'∧Rel G' σ' Fr w0 st' a w∧k.wp P Q st':=by
 cases y with
 |c _=>exact⟨G,σ,st,Mem.le.refl G,h,hq⟩
 |nils _ _=>exact⟨G,σ,st,Mem.le.refl G,h,hq⟩
 |t n=>
  have ho':=ho
  obtain⟨rfl,hnlt⟩:=Dm ho
  simp only[ownA,M.wp]at hq
  cases hs:st[n]? with
  |none=>simp[hs]at hq
  |some cur=>
   obtain⟨ver,sv⟩:=cur
   simp only[hs]at hq
   cases sv with
   |bd s v p=>
    simp only at hq
    obtain⟨u,G',σ',st',h1,h2,h3,h4⟩:=Akn h ho' hq
    simp only[M.wp]at h3
    cases hs':st'[n]? with
    |none=>simp[hs']at h3
    |some cur'=>
     obtain⟨ver',sv'⟩:=cur'
     simp only[hs']at h3
     obtain⟨σ2,st2,k1,k2⟩:=h2.adopt (P:=P) (d:=n) (Q:=fun st''=>st''=st'.set n (ver'+1,.own [ver'+1] u)) hnlt h4 (by simp[C2,M.wp,hs',SV.fresh])
     rw[Bep (by rw[h2.n];exact hnlt)]at k1
     subst k2
     exact⟨G',σ2,_,h1,k1,h3⟩
   |_=>exact⟨G,σ,st,Mem.le.refl G,h,hq⟩
theorem Adu {Q:St→Prop} {k:M}:∀{xs:List Operand} {az:List (Bool × Opd)} {G:Mem} {σ:Lab} {st:St},Rel G σ Fr w0 st a w→E4 w0.n xs az=true→(ownArgs az k).wp P Q st→∃G' σ' st',G.le G'∧Rel G' σ' Fr w0 st' a w∧k.wp P Q st'
 | [],[],G,σ,st,h,_,hq=>⟨G,σ,st,Mem.le.refl G,h,hq⟩
 |x::xs,(true,y)::az,G,σ,st,h,ho,hq=>by
  simp only[E4,Bool.and_eq_true]at ho
  obtain⟨G1,σ1,st1,h1,h2,h3⟩:=Beo h ho.1 hq
  obtain⟨G2,σ2,st2,k1,k2,k3⟩:=Adu h2 ho.2 h3
  exact⟨G2,σ2,st2,h1.trans k1,k2,k3⟩
 |x::xs,(false,y)::az,G,σ,st,h,ho,hq=>by
  simp only[E4,Bool.and_eq_true]at ho
  exact Adu h ho.2 hq
 | [],_::_,_,_,_,_,ho,_=>by cases ho
 |_::_,[],_,_,_,_,ho,_=>by simp[E4]at ho
theorem Bb8 {o:Oper} {f:FuncId} {args:Array Operand} {ts:Array TypeId} {az:List (Bool × Opd)} (ho:o.op= .call {callee:=.value (.func f),args,argTypes:=ts}) (hf:Kr P f=true)
 (ha:E4 N args.toList az=true):Sound P N o (Aq4 o.dst f az):=by
 intro G σ Fr w0 st a w Q next E hN hr hw hn hdst
 subst hN
 obtain⟨G',σ',st',h1,h2,h3⟩:=Adu hr ha hw
 exact A74 ho hf ha G' σ' Fr w0 st' a w Q next E rfl h2 h3 (fun G2 σ2 st2 a2 w2 k1 k2 k3=>hn G2 σ2 st2 a2 w2 (h1.trans k1) k2 k3) hdst
theorem RepV.fn {f:FuncId} {c:Value}:RepV G (.fn f) c↔c= .func (.func f) #[] #[]:=by
 unfold RepV
 rw[if_neg (by simp[I.isAgg])]
 simp only[RepI,List.cons.injEq,and_true]
def plain:I→Bool
 | .int _ _| .bool _| .str _| .fn _=>true
 |_=>false
mutual
def I.strip:I→I
 | .int k n=>.int k n
 | .bool b=>.bool b
 | .str s=>.str s
 | .fn f=>.fn f
 | .agg l=>.agg (strips l)
 | .arr sz l=>.arr sz (strips l)
 |_=>.und
def strips:List I→List I
 | []=>[]
 |x::l=>x.strip::strips l
end
mutual
theorem strip_shape:∀x:I,x.strip.isAgg=x.isAgg∧x.strip.size=x.size
 | .agg l=>⟨rfl,(strips_shape l).1⟩
 | .arr sz l=>⟨rfl,congrArg (sz* ·) (strips_shape l).2⟩
 | .int _ _=>⟨rfl,rfl⟩
 | .bool _=>⟨rfl,rfl⟩
 | .str _=>⟨rfl,rfl⟩
 | .fn _=>⟨rfl,rfl⟩
 | .und=>⟨rfl,rfl⟩
 | .list _=>⟨rfl,rfl⟩
 | .clo _ _=>⟨rfl,rfl⟩
 | .nili=>⟨rfl,rfl⟩
 | .nilp=>⟨rfl,rfl⟩
 | .nilm=>⟨rfl,rfl⟩
 | .ifc _ _=>⟨rfl,rfl⟩
theorem strips_shape:∀l:List I,sizes (strips l)=sizes l∧(strips l).length=l.length
 | []=>⟨rfl,rfl⟩
 |x::l=>by
  obtain⟨h1,h2⟩:=strips_shape l
  simp only[strips,sizes,List.length_cons,(strip_shape x).2,h1,h2,and_self]
end
theorem Arh {sz:Nat}:∀{l:List I},(∀x∈l,x.size=sz)→∀x∈strips l,x.size=sz
 | [],_,x,hx=>by cases hx
 |y::l,h,x,hx=>by
  simp only[strips,List.mem_cons]at hx
  rcases hx with rfl|hx
  ·rw[(strip_shape y).2];exact h y (by simp)
  ·exact Arh (fun z hz=>h z (by simp[hz])) x hx
theorem U6 {G G':Mem} {x:I} {cs:List Value} (h:RepI G x cs) (hs:x.size=1):RepI G' .und cs:=by
 have h1:=RepI.length x cs h
 rw[hs]at h1
 obtain⟨c,rfl⟩:=List.length_eq_one_iff.1 h1
 simp only[RepI]
 exact⟨c,rfl,RepI.one x _ h c (by simp)⟩
mutual
theorem strip_rep {G G':Mem}:∀(x:I) (cs:List Value),RepI G x cs→RepI G' x.strip cs
 | .int _ _,_,h=>by simpa only[RepI,I.strip]using h
 | .bool _,_,h=>by simpa only[RepI,I.strip]using h
 | .str _,_,h=>by simpa only[RepI,I.strip]using h
 | .fn _,_,h=>by simpa only[RepI,I.strip]using h
 | .und,_,h=>U6 h rfl
 | .list _,_,h=>U6 h rfl
 | .clo _ _,_,h=>U6 h rfl
 | .nili,_,h=>U6 h rfl
 | .nilp,_,h=>U6 h rfl
 | .nilm,_,h=>U6 h rfl
 | .ifc _ _,_,h=>U6 h rfl
 | .agg l,cs,h=>by
   simp only[RepI,I.strip]at h ⊢
   exact strips_rep l cs h
 | .arr sz l,cs,h=>by
   simp only[RepI,I.strip]at h ⊢
   exact⟨strips_rep l cs h.1,Arh h.2⟩
theorem strips_rep {G G':Mem}:∀(l:List I) (cs:List Value),RepIs G l cs→RepIs G' (strips l) cs
 | [],_,h=>by simpa only[RepIs,strips]using h
 |x::l,cs,h=>by
  simp only[RepIs,strips]at h ⊢
  obtain⟨c,d,e,h1,h2⟩:=h
  exact⟨c,d,e,strip_rep x c h1,strips_rep l d h2⟩
end
theorem A83 {G G':Mem} {x:I} {c:Value} (h:RepV G x c):RepV G' x.strip c:=by
 unfold RepV at h ⊢
 rw[(strip_shape x).1]
 split
 ·rename_i hx
  rw[if_pos hx]at h
  obtain⟨a,rfl,h⟩:=h
  exact⟨a,rfl,strip_rep x _ h⟩
 ·rename_i hx
  rw[if_neg hx]at h
  exact strip_rep x _ h
def Akk (u:I):I:=match plain u with
 |true=>u
 |false=>u.strip
def Afu:List F→Option (List F)
 | []=>some []
 | .i x::r=>match Afu r with
   |some us=>some (.i (Akk x)::us)
   |none=>none
 |_=>none
def A7g (x:Opd) (k:I→M):M:=match x with
 | .c x=>k x
 | .nils _ _=>k (.list [])
 | .t n=>.get n fun _ sv=>match sv with
   | .v x=>k x
   | .vec _ _ l=>k (.list l)
   | .bor s kk v=>.get s fun cur sv'=>.need (v=cur) fun _=>match sv'.vecAt kk with
     |some (_,_,l)=>k (.list l)
     |none=>.fail
   | .own _ t=>match t.toI with
     |some y=>k y
     |none=>.fail
   | .bd s v p=>.get s fun cur sv'=>match sv' with
     | .own inv t=>.need (alive v inv (p.length+1)=true) fun _=>match D.at p t with
       |some u=>match u.toI with
        |some y=>k y
        |none=>.fail
       |none=>.fail
     |_=>.fail
   | .bs s v p _ _=>.get s fun cur sv'=>match sv' with
     | .own _ t=>match D.at p t with
       |some u=>match u.toI with
        |some y=>.need (v=cur∧u.isAgg=true) fun _=>k y
        |none=>.fail
       |none=>.fail
     |_=>.fail
   |_=>.fail
def Ak4:List (Bool × Opd)→(List I→M)→M
 | [],k=>k []
 |(_,x)::az,k=>A7g x fun u=>Ak4 az fun us=>k (u::us)
def Ak9 (d:Option Nat) (f:FuncId) (az:List (Bool × Opd)):M:=Ak4 az fun us=>.call f (us.map .v) fun r _=>match r with
 | .v u=>setD d (.v (Akk u)) .done
 | .tup fs=>match Afu fs with
   |some us=>setD d (.tup us) .done
   |none=>.fail
 |_=>.fail
def Hw (w:World):Mem:=fun b=>w.heap[b]?
theorem Auq {G G':Mem} {u:I} {c:Value} (h:plain u=true) (hr:RepV G u c):RepV G' u c:=by
 cases u with
 |int k n=>rw[RepV.int]at hr ⊢;exact hr
 |bool b=>rw[RepV.bool]at hr ⊢;exact hr
 |str s=>rw[RepV.str]at hr ⊢;exact hr
 |fn f=>rw[RepV.fn]at hr ⊢;exact hr
 |_=>cases h
theorem Ard {G G':Mem} {u:I} {c:Value} (hr:RepV G u c):RepV G' (Akk u) c:=by
 unfold Akk
 split
 ·rename_i h;exact Auq h hr
 ·exact A83 hr
theorem Are {G G':Mem} {σ σ':Lab} {w w':World} {s s':Nat}:∀{fs us:List F} {cs:List Value} {j j':Nat},Afu fs=some us→RepTup G σ w s j fs cs→RepTup G' σ' w' s' j' us cs
 | [],us,cs,j,j',h,hr=>by
   simp only[Afu,Option.some.injEq]at h
   subst h
   exact hr
 | .i x::r,us,cs,j,j',h,hr=>by
   simp only[Afu]at h
   split at h
   ·rename_i vs hv
    cases h
    obtain⟨c,d,e,h1,h2⟩:=hr
    exact⟨c,d,e,Ard h1,Are hv h2⟩
   ·cases h
 | .vec _ _ _::r,us,cs,j,j',h,hr=>by simp[Afu]at h
theorem Bbc {x:Operand} {y:Opd} {k:I→M} {Q:St→Prop} (h:Rel G σ Fr w0 st a w) (ho:Ax w0.n x y=true) (hq:(A7g y k).wp P Q st):∃u,(k u).wp P Q st∧RepV (Hw w) u (a.eval x):=by
 have hle:G.le (Hw w):=fun b o hb=>h.wok.fixed b o hb
 have vec:∀{lab:Nat × Nat} {e:TypeId} {sz:Nat} {l:List I} {c:Value},VecAt G σ w lab e sz l c→RepV (Hw w) (.list l) c:=fun hv=>hv.list hle fun b _=>rfl
 cases y with
 |c i=>exact⟨i,hq,Sy ho (Hw w)⟩
 |nils e sz=>
  refine⟨.list [],hq,?_⟩
  rw[H9 ho]
  exact RepV.list.2 ⟨none,0,rfl,Nat.le_refl _,Nat.zero_le _,.inl rfl⟩
 |t n=>
  obtain⟨rfl,hnlt⟩:=Dm ho
  simp only[A7g,M.wp]at hq
  cases hs:st[n]? with
  |none=>simp[hs]at hq
  |some cur=>
   obtain⟨ver,sv⟩:=cur
   simp only[hs]at hq
   have hrep:=h.slot hnlt hs
   cases sv with
   |v x=>exact⟨x,hq,RepV.mono hle hrep⟩
   |vec e sz l=>exact⟨_,hq,vec hrep⟩
   |bor s kk v=>
    obtain⟨cur,g1,g2,g3⟩:=hrep
    simp only[M.wp,g1]at hq
    obtain⟨hv,hq⟩:=hq
    obtain⟨e,sz,l,g4,g5⟩:=g3 hv
    simp only[g4]at hq
    exact⟨_,hq,vec g5⟩
   |own inv t=>
    simp only at hq
    split at hq
    ·rename_i y hy
     obtain⟨bs,h1,h2,_⟩:=hrep
     have hI:=RepD.toI (G':=Hw w) hle h1 hy fun b _=>rfl
     refine⟨_,hq,?_⟩
     rw[←(toI_shape hy).2]at h2
     unfold RepV
     cases hag:y.isAgg with
     |true=>
      rw[hag]at h2
      obtain⟨a',ha'⟩:=Qh h2
      rw[ha']at hI
      rw[if_pos rfl]
      exact⟨a',ha',hI⟩
     |false=>
      rw[hag]at h2
      rw[Fp h2]at hI
      rw[if_neg (by simp)]
      exact hI
    ·exact hq.elim
   |bd s v p=>
    obtain⟨cur,g1,g2,g3⟩:=hrep
    simp only[M.wp,g1]at hq
    obtain⟨cv,csv⟩:=cur
    cases csv with
    |own inv t=>
     obtain⟨ha,hq⟩:=hq
     split at hq
     ·rename_i u hat
      split at hq
      ·rename_i y hy
       have hhd:=g3 inv t rfl ha
       obtain⟨hh,ubs,e5,_,_⟩:=HdD.read (h.slots s cv _ g1) hat hhd
       obtain⟨u1,_,e1,e0,_⟩:=hhd
       rw[hat]at e1
       obtain rfl:=Option.some.inj e1
       have hI:=RepD.toI (G':=Hw w) hle e5 hy fun b _=>rfl
       refine⟨_,hq,?_⟩
       have hag:y.isAgg=false:=by
        rw[(toI_shape hy).2]
        cases u<;>first|rfl|cases e0
       unfold RepV
       rw[if_neg (by rw[hag];simp)]
       exact hI
      ·exact hq.elim
     ·exact hq.elim
    |_=>exact hq.elim
   |bs s v p lo m=>
    obtain⟨cur,g1,g2,g3⟩:=hrep
    simp only[M.wp,g1]at hq
    obtain⟨cv,csv⟩:=cur
    cases csv with
    |own inv t=>
     simp only at hq
     split at hq
     ·rename_i u hat
      split at hq
      ·rename_i y hy
       obtain⟨⟨rfl,hag⟩,hq⟩:=hq
       obtain⟨_,hbs⟩:=g3 rfl inv t rfl
       rcases hbs with⟨e1,sz1,l1,c0,ad,cap,q1,_⟩|⟨u1,hh,k1,k2,k3,k4⟩
       ·rw[hat]at q1;cases q1;cases hag
       rw[hat]at k1
       obtain rfl:=Option.some.inj k1
       obtain⟨bs,hrep',hva,hnd,hlab⟩:=show OwnD G σ w s t (val a w0 s)from h.slots s v _ g1
       obtain⟨mm,s',ubs,f1,f2,f3,f4,f5,f6⟩:=focus (here:=none) hrep' hnd hat
       rw[f1]at k4
       obtain rfl:=Option.some.inj k4
       have hI:=RepD.toI (G':=Hw w) hle f2 hy fun b _=>rfl
       refine⟨_,hq,?_⟩
       obtain⟨a',ha'⟩:=Qh k3
       unfold RepV
       rw[if_pos (by rw[(toI_shape hy).2];exact hag),ha']
       rw[ha']at hI
       exact⟨a',rfl,hI⟩
      ·exact hq.elim
     ·exact hq.elim
    |_=>exact hq.elim
   |_=>exact hq.elim
theorem Adv {Q:St→Prop} (h:Rel G σ Fr w0 st a w):∀{xs:List Operand} {az:List (Bool × Opd)} {k:List I→M},E4 w0.n xs az=true→(Ak4 az k).wp P Q st→
 ∃us,(k us).wp P Q st∧us.length=xs.length∧∀(i:Nat) (u:I) (x:Operand),us[i]?=some u→xs[i]?=some x→RepV (Hw w) u (a.eval x)
 | [],[],k,_,hq=>⟨[],hq,rfl,by simp⟩
 |x::xs,(_,y)::az,k,ho,hq=>by
  simp only[E4,Bool.and_eq_true]at ho
  obtain⟨u,h1,h2⟩:=Bbc h ho.1 hq
  obtain⟨us,h3,h4,h5⟩:=Adv h ho.2 h1
  refine⟨u::us,h3,by simp[h4],?_⟩
  intro i u' x' h6 h7
  cases i with
  |zero=>cases h6;cases h7;exact h2
  |succ i=>exact h5 i u' x' h6 h7
 | [],_::_,_,ho,_=>by cases ho
 |_::_,[],_,ho,_=>by simp[E4]at ho
theorem A8e {o:Oper} {f:FuncId} {args:Array Operand} {ts:Array TypeId} {az:List (Bool × Opd)} (ho:o.op= .call {callee:=.value (.func f),args,argTypes:=ts}) (hf:Kr P f=true)
 (ha:E4 N args.toList az=true):Sound P N o (Ak9 o.dst f az):=by
 intro G σ Fr w0 st a w Q next E hN hr hw hn hdst
 subst hN
 obtain⟨us,⟨Post,hfn,h1⟩,h2,h3⟩:=Adv hr ha hw
 have hw0:WOk (Hw w) (fun _=>none) (fun _=>none) ⟨w,0, #[]⟩ w:=
  ⟨fun _ _ h=>h,fun b lab h=>by(cases h),fun b b' lab h=>by(cases h),fun b o h=>by(cases h),rfl,rfl,rfl,Nat.le_refl _,fun b o h=>by(cases h),Amb.mono (fun b o h=>hr.wok.fixed b o h) hr.wok.amb⟩
 have hc:=hfn (Hw w) (fun _=>none) (fun _=>none) w (args.map a.eval) hw0 (by simp[h2]) (fun i sv hi=>by
  rw[List.getElem?_map]at hi
  cases hu:us[i]? with
  |none=>simp[hu]at hi
  |some u=>
   simp only[hu,Option.map_some,Option.some.injEq]at hi
   subst hi
   have hil:i<args.size:=by
    have:=(List.getElem?_eq_some_iff.1 hu).1
    rw[h2]at this
    simpa using this
   refine⟨rfl,?_⟩
   have:=h3 i u args[i] hu (by simp[hil])
   show RepV _ _ _
   simpa[Array.getD,hil]using this)
 unfold Oper.wp
 rw[Ank ho hf,Oper.upon_enter]
 refine hc.mono ?_
 rintro e w' ⟨r,outs,c,G',σ',rfl,hp,hG',hok,hroot,hrep,_⟩
 have h4:=h1 r outs hp
 have hr':Rel G σ Fr w0 st a w':=hr.grow hok.os hok.tape hok.output hok.size fun b hb=>by
  have hbw:w.heap[b]?=some w.heap[b]:=Array.getElem?_eq_getElem hb
  rw[hbw]
  exact hok.fixed b _ (hG' b _ hbw)
 cases r with
 |v u=>
  obtain⟨σ3,st3,q1,q2⟩:=hr'.setD hdst (sv:=.v (Akk u)) (c:=c) (fun _ _ _ _=>Ard hrep) h4
  exact hn G σ3 st3 _ w' (Mem.le.refl G) q1 q2
 |tup fs=>
  simp only at h4
  split at h4
  ·rename_i vs hv
   obtain⟨σ3,st3,q1,q2⟩:=hr'.setD hdst (sv:=.tup vs) (c:=c) (fun _ _ _ _=>by
    obtain⟨cs,rfl,hrep⟩:=hrep
    exact⟨cs,rfl,Are hv hrep⟩) h4
   exact hn G σ3 st3 _ w' (Mem.le.refl G) q1 q2
  ·exact h4.elim
 |_=>exact h4.elim
def Aq1 (d:Option Nat) (fs:List FuncId) (x:Opd) (az:List (Bool × Opd)):M:=Gx x fun u=>match u with
 | .fn f=>.need (f∈fs) fun _=>Ak7 d f az
 | .clo f caps=>.need (f∈fs) fun _=>Ak4 az fun us=>.call f (us.map .v++caps.map .rp) fun r _=>match r with
   | .v u=>.need (plain u=true) fun _=>setD d (.v u) .done
   |_=>.fail
 |_=>.fail
theorem Bgv {o:Oper} {f:FuncId} {x:Operand} {args:Array Operand} {ts:Array TypeId} (ho:o.op= .call {callee:=.value x,args,argTypes:=ts}) (hx:a.eval x= .func (.func f) #[] #[]) (hf:Kr P f=true):
 (execOp a.eval o).run P w= .ok (.enter f (args.map a.eval)) w:=by
 unfold Kr at hf
 split at hf
 ·rename_i fn hfn
  simp only[Bool.and_eq_true,Bool.not_eq_true',beq_eq_false_iff_ne,ne_eq]at hf
  obtain⟨h1,h2⟩:=hf
  have h4:fn.body≠none:=by rintro e;rw[e]at h1;cases h1
  simp[execOp,ho,resolve,Deferred.ofValue,hx,invoke,callFunc,hfn,h2,h4]
 ·cases hf
theorem Bgp {o:Oper} {f:FuncId} {x:Operand} {ps:List Value} {args:Array Operand} {ts:Array TypeId} (ho:o.op= .call {callee:=.value x,args,argTypes:=ts}) (hx:a.eval x= .func (.func f) #[] ps.toArray) (hf:Kr P f=true):
 (execOp a.eval o).run P w= .ok (.enter f (args.map a.eval++ps.toArray)) w:=by
 unfold Kr at hf
 split at hf
 ·rename_i fn hfn
  simp only[Bool.and_eq_true,Bool.not_eq_true',beq_eq_false_iff_ne,ne_eq]at hf
  obtain⟨h1,h2⟩:=hf
  have h4:fn.body≠none:=by rintro e;rw[e]at h1;cases h1
  simp[execOp,ho,resolve,Deferred.ofValue,hx,invoke,callFunc,hfn,h2,h4]
 ·cases hf
theorem RepPs.length {G:Mem}:∀{l:List I} {ps:List Value},RepPs G l ps→ps.length=l.length
 | [],_,h=>by simp only[RepPs]at h;simp[h]
 |x::l,ps,h=>by
  simp only[RepPs]at h
  obtain⟨p,r,b,off,bl,ty,fz,pre,cs,post,rfl,_,_,_,_,_,h7⟩:=h
  simp[RepPs.length h7]
theorem RepPs.get {G:Mem}:∀{l:List I} {ps:List Value} {i:Nat} {u:I},RepPs G l ps→l[i]?=some u→∃p,ps[i]?=some p∧RepRp G u p
 | [],_,i,u,_,h=>by simp at h
 |x::l,ps,i,u,hp,h=>by
  simp only[RepPs]at hp
  obtain⟨p,r,b,off,bl,ty,fz,pre,cs,post,rfl,h2,h3,h4,h5,h6,h7⟩:=hp
  cases i with
  |zero=>cases h;exact⟨p,rfl,b,off,bl,ty,fz,pre,cs,post,h2,h3,h4,h5,h6⟩
  |succ i=>
   have h8:l[i]?=some u:=by simpa using h
   obtain⟨p',h9,h10⟩:=RepPs.get h7 h8
   exact⟨p',by simpa using h9,h10⟩
theorem Bb1 {o:Oper} {fs:List FuncId} {x:Operand} {x':Opd} {args:Array Operand} {ts:Array TypeId} {az:List (Bool × Opd)} (ho:o.op= .call {callee:=.value x,args,argTypes:=ts}) (hx:Ax N x x'=true)
 (hf:fs.all (Kr P)=true) (ha:E4 N args.toList az=true):Sound P N o (Aq1 o.dst fs x' az):=by
 intro G σ Fr w0 st a w Q next E hN hr hw hn hdst
 subst hN
 obtain⟨u,h1,hv⟩:=De hr hx hw
 clear hw
 split at h1
 ·rename_i f
  obtain⟨hmem,h1⟩:=h1
  exact Ats (Bgv ho (RepV.fn.1 hv) (List.all_eq_true.1 hf f hmem)) ha hr h1 hn hdst
 ·rename_i f caps
  obtain⟨hmem,h1⟩:=h1
  unfold RepV at hv
  rw[if_neg (by simp[I.isAgg])]at hv
  simp only[RepI,List.cons.injEq,and_true]at hv
  obtain⟨ps,hx',hps⟩:=hv
  obtain⟨us,⟨Post,hfn,h1⟩,h2,h3⟩:=Adv hr ha h1
  have hle:G.le (Hw w):=fun b o hb=>hr.wok.fixed b o hb
  have hps':=RepPs.mono hle caps ps hps
  have hcallok:=List.all_eq_true.1 hf f hmem
  have hw0:WOk (Hw w) (fun _=>none) (fun _=>none) ⟨w,0, #[]⟩ w:=
   ⟨fun _ _ h=>h,fun b lab h=>by(cases h),fun b b' lab h=>by(cases h),fun b o h=>by(cases h),rfl,rfl,rfl,Nat.le_refl _,fun b o h=>by(cases h),Amb.mono (fun b o h=>hr.wok.fixed b o h) hr.wok.amb⟩
  have hpl:=RepPs.length hps'
  have hc:=hfn (Hw w) (fun _=>none) (fun _=>none) w (args.map a.eval++ps.toArray) hw0 (by simp[h2,hpl]) (fun i sv hi=>by
   by_cases hil:i<us.length
   ·rw[List.getElem?_append_left (by simpa using hil),List.getElem?_map]at hi
    cases hu:us[i]? with
    |none=>simp[hu]at hi
    |some u=>
     simp only[hu,Option.map_some,Option.some.injEq]at hi
     subst hi
     have hil':i<args.size:=by
      rw[h2]at hil
      simpa using hil
     refine⟨rfl,?_⟩
     have:=h3 i u args[i] hu (by simp[hil'])
     show RepV _ _ _
     have hget:(args.map a.eval++ps.toArray).getD i undef=a.eval args[i]:=by
      rw[Array.getD_eq_getD_getElem?,Array.getElem?_append_left (by simpa using hil')]
      simp[hil']
     rw[hget]
     exact this
   ·rw[List.getElem?_append_right (by simpa using hil),List.length_map,List.getElem?_map]at hi
    have hus:us.length=args.size:=by rw[h2];simp
    cases hu:caps[i - us.length]? with
    |none=>simp[hu]at hi
    |some u=>
     simp only[hu,Option.map_some,Option.some.injEq]at hi
     subst hi
     refine⟨rfl,?_⟩
     obtain⟨p,hp,hrp⟩:=RepPs.get hps' hu
     show RepRp _ _ _
     have hget:(args.map a.eval++ps.toArray).getD i undef=p:=by
      rw[Array.getD_eq_getD_getElem?,Array.getElem?_append_right (by simp;omega)]
      simp only[Array.size_map, ←hus]
      rw[List.getElem?_toArray,hp]
      rfl
     rw[hget]
     exact hrp)
  unfold Oper.wp
  rw[Bgp ho hx' hcallok,Oper.upon_enter]
  refine hc.mono ?_
  rintro e w' ⟨r,outs,c,G',σ',rfl,hp,hG',hok,hroot,hrep,_⟩
  have h4:=h1 r outs hp
  have hr':Rel G σ Fr w0 st a w':=hr.grow hok.os hok.tape hok.output hok.size fun b hb=>by
   have hbw:w.heap[b]?=some w.heap[b]:=Array.getElem?_eq_getElem hb
   rw[hbw]
   exact hok.fixed b _ (hG' b _ hbw)
  cases r with
  |v u=>
   obtain⟨hpl,h4⟩:=h4
   obtain⟨σ3,st3,q1,q2⟩:=hr'.setD hdst (sv:=.v u) (c:=c) (fun _ _ _ _=>Auq hpl hrep) h4
   exact hn G σ3 st3 _ w' (Mem.le.refl G) q1 q2
  |_=>exact h4.elim
 ·exact h1.elim
end

def inOk (N:Nat):List Operand→List Opd→Bool
 | [],[]=>true
 |x::xs,y::ys=>Ax N x y&&inOk N xs ys
 |_,_=>false
def Aow (G:Mem) (σ:Lab) (w:World) (st:St) (vv:Nat→Value):SV→Value→Prop
 | .v x,c=>RepV G x c
 | .tup fs,c=>∃(us:List I) (cs:Array Value),fs=us.map F.i∧c= .tuple cs∧RepTup G σ w 0 0 (us.map F.i) cs.toList
 | .pd s ver p,c=>RepSV G σ w st vv 0 (.pd s ver p) c
 | .bd s ver p,c=>RepSV G σ w st vv 0 (.bd s ver p) c
 |_,_=>False
def FnIn (P:Program) (f:FuncId) (N:Nat) (az:List Opd) (st:St) (K:SV→St→Prop):Prop:=
 ∀(G:Mem) (σ:Lab) (Fr:Mem) (w0:Base) (a:Act) (w:World) (xs:List Operand),w0.n=N→Rel G σ Fr w0 st a w→inOk N xs az=true→
  Calls P f (xs.map a.eval).toArray w fun e w'=>∃r c G' σ' st',e= .returned c∧K r st'∧G.le G'∧Rel G' σ' Fr w0 st' a w'∧Aow G' σ' w' st' (val a w0) r c
structure InlWp (P:Program) (f:FuncId) (N:Nat) (az:List Opd) (st:St) (K:SV→St→Prop):Prop where
 out:FnIn P f N az st K
theorem InlWp.mono {P:Program} {f:FuncId} {N:Nat} {az:List Opd} {st:St} {K K':SV→St→Prop} (h:InlWp P f N az st K) (hk:∀r st,K r st→K' r st):InlWp P f N az st K':=
 ⟨fun G σ Fr w0 a w xs h1 h2 h3=>(h.out G σ Fr w0 a w xs h1 h2 h3).mono fun _ _ ⟨r,c,G',σ',st',e,k,x⟩=>⟨r,c,G',σ',st',e,hk _ _ k,x⟩⟩
def Aw3 (d:Option Nat) (r:SV):M:=match r with
 | .v x=>setR d (.v x)
 | .tup fs=>setR d (.tup fs)
 | .pd s ver p=>.need (d≠some s) fun _=>Ab.setD d (.pd s ver p) .done
 | .bd s ver p=>.need (d≠some s) fun _=>Ab.setD d (.bd s ver p) .done
 |_=>.fail
section
variable{P:Program}{N:Nat}{G:Mem}{σ:Lab}{Fr:Mem}{w0:Base}{w:World}{st:St}{a:Act}
theorem Ahg {σ':Lab} {w':World} {s:Nat}:∀(l:List I) (j j':Nat) (cs:List Value),RepTup G σ w 0 j (l.map F.i) cs→RepTup G σ' w' s j' (l.map F.i) cs
 | [],_,_,_,h=>h
 |_::l,_,_,_,⟨c,d,e,h1,h2⟩=>⟨c,d,e,h1,Ahg l _ _ _ h2⟩
theorem Bbu {Q:St→Prop} {d:Option Nat} {r:SV} {c:Value} (h:Rel G σ Fr w0 st a w) (hb:∀d',d=some d'→d'<w0.n) (hc:Aow G σ w st (val a w0) r c) (hq:(Aw3 d r).wp P Q st):
 ∃σ' st',Rel G σ' Fr w0 st' (a.put d c) w∧Q st':=by
 cases r with
 |v x=>
  cases d with
  |none=>exact⟨σ,st,h,hq⟩
  |some d=>exact h.setNV (hb d rfl) hc hq
 |tup fs=>
  obtain⟨us,cs,rfl,rfl,h1⟩:=hc
  cases d with
  |none=>exact⟨σ,st,h,hq⟩
  |some d=>exact h.setD (sv:=.tup (us.map F.i)) hb (fun d' _ ver _=>⟨cs,rfl,Ahg us _ _ _ h1⟩) (S0 hq)
 |pd s ver p=>
  obtain⟨hne,hq⟩:=hq
  obtain⟨cur,g1,g2,g3⟩:=hc
  refine h.setD (sv:=.pd s ver p) hb (fun d' hd' v _=>⟨cur,?_,g2,fun inv t e hp ha=>?_⟩) hq
  ·rw[List.getElem?_set_ne (fun e=>hne (by rw[hd',e]))];exact g1
  ·rw[Cb (fun e=>hne (by rw[hd',e]))];exact g3 inv t e hp ha
 |bd s ver p=>
  obtain⟨hne,hq⟩:=hq
  obtain⟨cur,g1,g2,g3⟩:=hc
  refine h.setD (sv:=.bd s ver p) hb (fun d' hd' v _=>⟨cur,?_,g2,fun inv t e ha=>?_⟩) hq
  ·rw[List.getElem?_set_ne (fun e=>hne (by rw[hd',e]))];exact g1
  ·rw[Cb (fun e=>hne (by rw[hd',e]))];exact g3 inv t e ha
 |_=>exact hc.elim
theorem Bav {o:Oper} {f:FuncId} {args:Array Operand} {ts:Array TypeId} {az:List Opd} {Q:St→Prop} {next:Act→World→Prop} {E:Exit→Act→World→Prop} (ho:o.op= .call {callee:=.value (.func f),args,argTypes:=ts}) (hf:Kr P f=true)
 (ha:inOk w0.n args.toList az=true) (hr:Rel G σ Fr w0 st a w) (hw:InlWp P f w0.n az st fun r st'=>(Aw3 o.dst r).wp P Q st')
 (hn:∀G' σ' st' a' w',G.le G'→Rel G' σ' Fr w0 st' a' w'→Q st'→next a' w') (hdst:∀d,o.dst=some d→d<w0.n):o.wp P a w next E:=by
 have hc:=hw.out G σ Fr w0 a w args.toList rfl hr ha
 unfold Oper.wp
 rw[Ank ho hf,Oper.upon_enter]
 have he:(args.toList.map a.eval).toArray=args.map a.eval:=by
  apply Array.ext'
  simp only[Array.toList_map]
 rw[he]at hc
 refine hc.mono ?_
 rintro e w' ⟨r,c,G',σ',st',rfl,hk,hG,hr',hres⟩
 obtain⟨σ2,st2,h1,h2⟩:=Bbu hr' hdst hres hk
 exact hn G' σ2 st2 _ w' hG h1 h2
end

inductive Ao where
 |op (g:Option (Nat × Bool)) (i:IOp)
 |call (g:Option (Nat × Bool)) (d:Option Nat) (f:FuncId) (az:List (Bool × Opd))
 |peek (g:Option (Nat × Bool)) (d:Option Nat) (f:FuncId) (az:List (Bool × Opd))
 |dyn (g:Option (Nat × Bool)) (d:Option Nat) (fs:List FuncId) (x:Opd) (az:List (Bool × Opd))
 |inl (d:Option Nat) (N:Nat) (f:FuncId) (az:List Opd)
 deriving Inhabited
def guarded (g:Option (Nat × Bool)) (d:Option Nat) (m:M):M:=match g with
 |none=>m
 |some (t,want)=>.get t fun _ sv=>match sv with
  | .v (.bool b)=>match want with
    |true=>.ite b m (setD d (.tup []) .done)
    |false=>.ite b (setD d (.tup []) .done) m
  | .tup []=>setD d (.tup []) .done
  |_=>.fail
def IOp.dst:IOp→Option Nat
 | .mv d _| .asg d _| .mov d _ _ _| .bin d _ _ _| .not d _| .neg d _| .pick d _ _ _| .load d _ _ _| .alloc d _| .box d _| .faddr d _ _ _| .iaddr d _ _ _| .aaddr d _ _ _ _| .len d _ _| .slc d _ _ _ _ _| .sfx d _ _ _| .s2b d _ _| .b2s d _| .mkf d _ _| .build d _ _
 | .nchk d _| .movD d _| .rngS d _| .nextS d _| .slcM d _ _ _| .slcV d _ _ _ _| .pnil d _ _| .bldA d _ _ _ _| .aidx d _ _ _ _ _| .bsl d _ _ _ _ _| .bslD d _ _ _ _ _| .buildD d _ _| .boxD d _| .allocD d _| .loadF d _ _ _| .loadB d _ _ _| .bits d _ _ _| .compl d _| .conv d _ _| .make d _ _ _ _ _| .appB d _ _ _ _ _ _| .empty d _ _| .ext d _ _| .fld d _ _ _ _ _| .mm d _ _ _| .app d _ _ _ _ _| .eqs d _ _ _ _| .isnil d _ _| .sidx d _ _=>some d
 | .store _ _ _=>none
 | .dead d=>d
 | .clr d _ _ _=>d
def Ao.sem:Ao→M
 | .op g i=>guarded g i.dst i.sem
 | .call g d f az=>guarded g d (Aq4 d f az)
 | .peek g d f az=>guarded g d (Ak9 d f az)
 | .dyn g d fs x az=>guarded g d (Aq1 d fs x az)
 | .inl _ _ _ _=>.fail
def Ao.run (P:Program):Ao→(St→Prop)→St→Prop
 | .op g i,Q,st=>(guarded g i.dst i.sem).wp P Q st
 | .call g d f az,Q,st=>(guarded g d (Aq4 d f az)).wp P Q st
 | .peek g d f az,Q,st=>(guarded g d (Ak9 d f az)).wp P Q st
 | .dyn g d fs x az,Q,st=>(guarded g d (Aq1 d fs x az)).wp P Q st
 | .inl d N f az,Q,st=>InlWp P f N az st fun r st'=>(Aw3 d r).wp P Q st'
theorem Ao.run_of {P:Program} {i:Ao} {Q:St→Prop} {st:St} (h:i.sem.wp P Q st):i.run P Q st:=by
 cases i with
 |inl=>exact h.elim
 |_=>exact h
def gOk (N:Nat) (ops:Array Oper):Option (Nat × Bool)→Option (Nat × Bool)→Bool
 |none,none=>true
 |some (j,b),some (t,b')=>b==b'&&B1 ((ops[j]?).bind (·.dst)) t&&t<N
 |_,_=>false
def dOk (N:Nat) (d:Option Nat):Bool:=match d with
 |none=>true
 |some d=>d<N
def Aa6 (P:Program) (N:Nat) (ops:Array Oper) (o:Oper):Ao→Bool
 | .op g i=>gOk N ops o.guard g&&dOk N o.dst&&decide (o.dst=i.dst)&&chk P N o i
 | .call g d f az=>gOk N ops o.guard g&&dOk N o.dst&&decide (o.dst=d)&&match o.op with
   | .call {callee:=.value (.func f'),args,.. }=>f'==f&&Kr P f&&E4 N args.toList az
   |_=>false
 | .peek g d f az=>gOk N ops o.guard g&&dOk N o.dst&&decide (o.dst=d)&&match o.op with
   | .call {callee:=.value (.func f'),args,.. }=>f'==f&&Kr P f&&E4 N args.toList az
   |_=>false
 | .dyn g d fs x az=>gOk N ops o.guard g&&dOk N o.dst&&decide (o.dst=d)&&match o.op with
   | .call {callee:=.value x',args,.. }=>Ax N x' x&&fs.all (Kr P)&&E4 N args.toList az
   |_=>false
 | .inl d N' f az=>o.guard.isNone&&dOk N o.dst&&decide (o.dst=d)&&N'==N&&match o.op with
   | .call {callee:=.value (.func f'),args,.. }=>f'==f&&Kr P f&&inOk N args.toList az
   |_=>false
def chkL (P:Program) (N:Nat) (ops:Array Oper):List Oper→List Ao→Bool
 | [],[]=>true
 |o::l,i::m=>Aa6 P N ops o i&&chkL P N ops l m
 |_,_=>false
def Aw5 (P:Program):List Ao→(St→Prop)→St→Prop
 | [],Q,st=>Q st
 |i::l,Q,st=>i.run P (Aw5 P l Q) st
section
variable{P:Program}{N:Nat}{G:Mem}{σ:Lab}{Fr:Mem}{w0:Base}{w:World}{st:St}{a:Act}
theorem Aye {ops:Array Oper} {o:Oper} {g:Option (Nat × Bool)} {m:M} {Q:St→Prop} {next:Act→World→Prop} (hr:Rel G σ Fr w0 st a w) (hg:gOk w0.n ops o.guard g=true) (hd:dOk w0.n o.dst=true)
 (hq:(guarded g o.dst m).wp P Q st) (hn:∀G' σ' st' a' w',G.le G'→Rel G' σ' Fr w0 st' a' w'→Q st'→next a' w'):
 (Region.wanted o (yielded ops a.tmps)=true∧m.wp P Q st)∨(Region.wanted o (yielded ops a.tmps)=false∧next (a.put o.dst undef) w):=by
 unfold gOk at hg
 split at hg
 ·rename_i hog
  exact .inl ⟨by simp[Region.wanted,hog],hq⟩
 ·rename_i j b t b' hog
  simp only[Bool.and_eq_true,beq_iff_eq,decide_eq_true_eq]at hg
  obtain⟨⟨rfl,h1⟩,h2⟩:=hg
  have h1:=Bf h1
  simp only[guarded,M.wp]at hq
  cases hs:st[t]? with
  |none=>simp[hs]at hq
  |some cur=>
   simp only[hs]at hq
   have skip:(setD o.dst (.tup []) .done).wp P Q st→next (a.put o.dst undef) w:=by
    intro hq
    obtain⟨σ',st',r1,r2⟩:=hr.setD (sv:=.tup []) (c:=undef) (fun d' hd'=>by
     unfold dOk at hd
     rw[hd']at hd
     simpa using hd) (fun _ _ _ _=>⟨#[],rfl,rfl⟩) hq
    exact hn _ _ _ _ _ (Mem.le.refl G) r1 r2
   have ht:t<a.tmps.size:=by rw[hr.n];exact h2
   split at hq
   ·rename_i bb hcur
    obtain⟨cv,csv⟩:=cur
    simp only at hcur
    subst hcur
    have hrep:RepV G (.bool bb) (a.eval (.tmp t)):=hr.slot h2 hs
    rw[RepV.bool]at hrep
    have hy:yielded ops a.tmps j=some bb:=by
     unfold yielded
     rw[h1]
     have:a.tmps[t]?=some (.bool bb):=by
      rw[Array.getElem?_eq_getElem ht]
      simp[Act.eval,Array.getElem?_eq_getElem ht]at hrep
      rw[hrep]
     simp[this]
    have hw:Region.wanted o (yielded ops a.tmps)=(bb==b):=by
     unfold Region.wanted
     rw[hog]
     simp[hy]
    rw[hw]
    cases b<;>cases bb
    ·exact .inl ⟨rfl,hq.2 rfl⟩
    ·exact .inr ⟨rfl,skip (hq.1 rfl)⟩
    ·exact .inr ⟨rfl,skip (hq.2 rfl)⟩
    ·exact .inl ⟨rfl,hq.1 rfl⟩
   ·rename_i hcur
    obtain⟨cv,csv⟩:=cur
    simp only at hcur
    subst hcur
    obtain⟨ta,ht1,ht2⟩:=(show RepOwn G σ w t (.tup []) (a.eval (.tmp t))from hr.slot h2 hs)
    have ht2:ta.toList=[]:=ht2
    have hta:ta= #[]:=by simpa using ht2
    have hrep:a.eval (.tmp t)=undef:=by rw[ht1,hta];rfl
    have hy:yielded ops a.tmps j=none:=by
     unfold yielded
     rw[h1]
     have:a.tmps[t]?=some undef:=by
      rw[Array.getElem?_eq_getElem ht]
      simp[Act.eval,Array.getElem?_eq_getElem ht]at hrep
      rw[hrep]
     simp[this,undef]
    have hw:Region.wanted o (yielded ops a.tmps)=false:=by
     unfold Region.wanted
     rw[hog]
     simp[hy]
    exact .inr ⟨hw,skip hq⟩
   ·exact hq.elim
 ·cases hg
theorem Akz {ops:Array Oper} {o:Oper} {i:Ao} {Q:St→Prop} {next:Act→World→Prop} {E:Exit→Act→World→Prop} (h1:Aa6 P w0.n ops o i=true) (hr:Rel G σ Fr w0 st a w) (hq:i.run P Q st)
 (hn:∀G' σ' st' a' w',G.le G'→Rel G' σ' Fr w0 st' a' w'→Q st'→next a' w'):
 if Region.wanted o (yielded ops a.tmps)then o.wp P a w next E∨(o.asks P a w∧LetsOut E)else next (a.put o.dst undef) w:=by
 have hdst:dOk w0.n o.dst=true→∀d,o.dst=some d→d<w0.n:=by
  intro h d hd
  unfold dOk at h
  rw[hd]at h
  simpa using h
 have fin:∀{g:Option (Nat × Bool)} {mm:M},gOk w0.n ops o.guard g=true→dOk w0.n o.dst=true→(guarded g o.dst mm).wp P Q st→Sound P w0.n o mm→
  if Region.wanted o (yielded ops a.tmps)then o.wp P a w next E∨(o.asks P a w∧LetsOut E)else next (a.put o.dst undef) w:=by
  intro g mm hg hd hq' hs
  rcases Aye hr hg hd hq' hn with⟨k1,k2⟩|⟨k1,k2⟩
  ·rw[if_pos k1]
   exact .inl (hs G σ Fr w0 st a w _ _ _ rfl hr k2 hn (hdst hd))
  ·rw[if_neg (by rw[k1];decide)]
   exact k2
 cases i with
 |op g i=>
  simp only[Aa6,Bool.and_eq_true,decide_eq_true_eq]at h1
  obtain⟨⟨⟨h3,h4⟩,h5⟩,h6⟩:=h1
  simp only[Ao.run]at hq
  rw[←h5]at hq
  exact fin h3 h4 hq (A9f h6)
 |call g d f az=>
  simp only[Aa6,Bool.and_eq_true,decide_eq_true_eq]at h1
  obtain⟨⟨⟨h3,h4⟩,h5⟩,h6⟩:=h1
  simp only[Ao.run]at hq
  rw[←h5]at hq
  split at h6
  ·rename_i ho
   simp only[Bool.and_eq_true,beq_iff_eq]at h6
   obtain⟨⟨rfl,h7⟩,h8⟩:=h6
   exact fin h3 h4 hq (Bb8 ho h7 h8)
  ·cases h6
 |peek g d f az=>
  simp only[Aa6,Bool.and_eq_true,decide_eq_true_eq]at h1
  obtain⟨⟨⟨h3,h4⟩,h5⟩,h6⟩:=h1
  simp only[Ao.run]at hq
  rw[←h5]at hq
  split at h6
  ·rename_i ho
   simp only[Bool.and_eq_true,beq_iff_eq]at h6
   obtain⟨⟨rfl,h7⟩,h8⟩:=h6
   exact fin h3 h4 hq (A8e ho h7 h8)
  ·cases h6
 |dyn g d fs x az=>
  simp only[Aa6,Bool.and_eq_true,decide_eq_true_eq]at h1
  obtain⟨⟨⟨h3,h4⟩,h5⟩,h6⟩:=h1
  simp only[Ao.run]at hq
  rw[←h5]at hq
  split at h6
  ·rename_i ho
   simp only[Bool.and_eq_true]at h6
   obtain⟨⟨h7,h8⟩,h9⟩:=h6
   exact fin h3 h4 hq (Bb1 ho h7 h8 h9)
  ·cases h6
 |inl d N' f az=>
  simp only[Aa6,Bool.and_eq_true,decide_eq_true_eq,Option.isNone_iff_eq_none,beq_iff_eq]at h1
  obtain⟨⟨⟨⟨h3,h4⟩,h5⟩,rfl⟩,h6⟩:=h1
  simp only[Ao.run]at hq
  rw[←h5]at hq
  split at h6
  ·rename_i ho
   simp only[Bool.and_eq_true,beq_iff_eq]at h6
   obtain⟨⟨rfl,h7⟩,h8⟩:=h6
   rw[if_pos (by simp[Region.wanted,h3])]
   exact .inl (Bav ho h7 h8 hr hq hn (hdst h4))
  ·cases h6
theorem Auh {ops:Array Oper} {Qx:Exit→Act→World→Prop}:∀{l:List Oper} {m:List Ao} {Q:St→Prop} {G:Mem} {σ:Lab} {st:St} {a:Act} {w:World},
 chkL P w0.n ops l m=true→Rel G σ Fr w0 st a w→Aw5 P m Q st→(∀G' σ' st' a' w',G.le G'→Rel G' σ' Fr w0 st' a' w'→Q st'→Qx .normal a' w')→wpList P ops Qx l a w
 | [],[],Q,G,σ,st,a,w,_,hr,hq,hn=>hn G σ st a w (Mem.le.refl G) hr hq
 |o::l,i::m,Q,G,σ,st,a,w,hc,hr,hq,hn=>by
  simp only[chkL,Bool.and_eq_true]at hc
  obtain⟨h1,h2⟩:=hc
  unfold wpList
  exact Akz h1 hr hq fun G' σ' st' a' w' hG hr' hq'=>Auh h2 hr' hq' fun G'' σ'' st'' a'' w'' hG'=>hn G'' σ'' st'' a'' w'' (hG.trans hG')
 | [],_::_,_,_,_,_,_,_,hc,_,_,_=>by cases hc
 |_::_,[],_,_,_,_,_,_,hc,_,_,_=>by simp[chkL]at hc
end
end Go.Ab
