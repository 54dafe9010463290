/- Lemmas -/
import Derived.Test.YtgcccllpegilnaaGreatDoorAb8
set_option linter.unusedVariables false
set_option linter.unusedSimpArgs false
namespace Go.Ab
def A2q:I→Value→Bool
 | .list [],.slice none 0 0=>true
 |x,c=>cOk x c
mutual
def zI:I→List Value→Option (List Value)
 | .agg l,cs=>zIs l cs
 | .arr sz l,cs=>if l.all (fun x=>x.size==sz)then zIs l cs else none
 |x,c::cs=>if A2q x c then some cs else none
 |_,[]=>none
def zIs:List I→List Value→Option (List Value)
 | [],cs=>some cs
 |x::l,cs=>match zI x cs with
  |some cs=>zIs l cs
  |none=>none
end
def zF:F→List Value→Option (List Value)
 | .i x,cs=>zI x cs
 | .vec _ _ [],.slice none 0 0::cs=>some cs
 |_,_=>none
def zFs:List F→List Value→Option (List Value)
 | [],cs=>some cs
 |f::fs,cs=>match zF f cs with
  |some cs=>zFs fs cs
  |none=>none
def zT:T→List Value→Bool
 | .one f,cs=>match zF f cs with
   |some []=>true
   |_=>false
 | .st fs,cs=>match zFs fs cs with
   |some []=>true
   |_=>false
theorem Le{x:I}{c:Value}(h:A2q x c=true)(hx:x.isAgg=false)(G:Mem):A1 G x [c]:=by
 unfold A2q at h;split at h
 ·exact⟨none,0,rfl,Nat.le_refl _,by simp[maxLen],.inl rfl⟩
 ·have:=Axt h G;unfold Aq at this;rwa [if_neg (by simp[hx])]at this
mutual
theorem Vi(G:Mem):∀(x:I) (cs rest:List Value),zI x cs=some rest→∃c,cs=c++rest∧A1 G x c
 | .agg l,cs,rest,h=>by
   simp only[zI]at h;obtain⟨c,e,h⟩:=Z4 G l cs rest h;exact⟨c,e,h⟩
 | .arr sz l,cs,rest,h=>by
   simp only[zI]at h;split at h
   ·rename_i hl;obtain⟨c,e,h⟩:=Z4 G l cs rest h;refine⟨c,e,h,fun x hx=>?_⟩
    simpa using List.all_eq_true.1 hl x hx
   ·cases h
 | .Nz,cs,rest,h=>by
   cases cs with
   |nil=>simp[zI]at h
   |cons c cs=>simp[zI,A2q,cOk]at h
 | .int k n,cs,rest,h=>by
   cases cs with
   |nil=>simp[zI]at h
   |cons c cs=>
    simp only[zI]at h;split at h
    ·rename_i hz;cases h;exact⟨[c],rfl,Le hz rfl G⟩
    ·cases h
 | .Zm,cs,rest,h=>by
   cases cs with
   |nil=>simp[zI]at h
   |cons c cs=>
    simp only[zI]at h;split at h
    ·rename_i hz;cases h;exact⟨[c],rfl,Le hz rfl G⟩
    ·cases h
 | .Ajz,cs,rest,h=>by
   cases cs with
   |nil=>simp[zI]at h
   |cons c cs=>
    simp only[zI]at h;split at h
    ·rename_i hz;cases h;exact⟨[c],rfl,Le hz rfl G⟩
    ·cases h
 | .bool b,cs,rest,h=>by
   cases cs with
   |nil=>simp[zI]at h
   |cons c cs=>
    simp only[zI]at h;split at h
    ·rename_i hz;cases h;exact⟨[c],rfl,Le hz rfl G⟩
    ·cases h
 | .str s,cs,rest,h=>by
   cases cs with
   |nil=>simp[zI]at h
   |cons c cs=>
    simp only[zI]at h;split at h
    ·rename_i hz;cases h;exact⟨[c],rfl,Le hz rfl G⟩
    ·cases h
 | .list l,cs,rest,h=>by
   cases cs with
   |nil=>simp[zI]at h
   |cons c cs=>
    simp only[zI]at h;split at h
    ·rename_i hz;cases h;exact⟨[c],rfl,Le hz rfl G⟩
    ·cases h
 | .fn f,cs,rest,h=>by
   cases cs with
   |nil=>simp[zI]at h
   |cons c cs=>
    simp only[zI]at h;split at h
    ·rename_i hz;cases h;exact⟨[c],rfl,Le hz rfl G⟩
    ·cases h
 | .Yp f Lw,cs,rest,h=>by
   cases cs with
   |nil=>simp[zI]at h
   |cons c cs=>
    simp only[zI]at h;split at h
    ·rename_i hz;cases h;exact⟨[c],rfl,Le hz rfl G⟩
    ·cases h
 | .Ajy,cs,rest,h=>by
   cases cs with
   |nil=>simp[zI]at h
   |cons c cs=>
    simp only[zI]at h;split at h
    ·rename_i hz;cases h;exact⟨[c],rfl,Le hz rfl G⟩
    ·cases h
 | .ifc t x,cs,rest,h=>by
   cases cs with
   |nil=>simp[zI]at h
   |cons c cs=>simp[zI,A2q,cOk]at h
theorem Z4(G:Mem):∀(l:List I) (cs rest:List Value),zIs l cs=some rest→∃c,cs=c++rest∧A0 G l c
 | [],cs,rest,h=>by simp only[zIs,Option.some.injEq]at h;subst h;exact⟨[],rfl,rfl⟩
 |x::l,cs,rest,h=>by
  simp only[zIs]at h;cases hx:zI x cs with
  |none=>simp[hx]at h
  |some E5=>
   simp only[hx]at h;obtain⟨c,e,h1⟩:=Vi G x cs E5 hx;obtain⟨d,e',h2⟩:=Z4 G l E5 rest h;exact⟨c++d,by rw[e,e',List.append_assoc],c,d,rfl,h1,h2⟩
end
theorem A54(G:Mem)(σ:Lab)(w:World)(Bg:Nat × Nat){f:F}{cs rest:List Value}(h:zF f cs=some rest):∃c,cs=c++rest∧M8 G σ w Bg f c:=by
 unfold zF at h;split at h
 ·exact Vi G _ _ _ h
 ·cases h;exact⟨[_],rfl,_,rfl,[],Ew.nil w _ _,rfl,by simp,by simp[Value.ownBlock]⟩
 ·cases h
theorem A2p(G:Mem)(σ:Lab)(w:World)(s:Nat):∀{fs:List F} {j:Nat} {cs rest:List Value},zFs fs cs=some rest→∃c,cs=c++rest∧Dz G σ w s j fs c
 | [],_,cs,rest,h=>by simp only[zFs,Option.some.injEq]at h;subst h;exact⟨[],rfl,rfl⟩
 |f::fs,j,cs,rest,h=>by
  simp only[zFs]at h;cases hx:zF f cs with
  |none=>simp[hx]at h
  |some E5=>
   simp only[hx]at h;obtain⟨c,e,h1⟩:=A54 G σ w (s,j+1) hx;obtain⟨d,e',h2⟩:=A2p G σ w s (j:=j+1) h;exact⟨c++d,by rw[e,e',List.append_assoc],c,d,rfl,h1,h2⟩
theorem Bhp(G:Mem)(σ:Lab)(w:World)(s:Nat){t:T}{cs:List Value}(h:zT t cs=true):Arz G σ w s t cs:=by
 unfold zT at h;split at h
 ·split at h
  ·rename_i f _ hz;obtain⟨c,e,h1⟩:=A54 G σ w (s,1) hz;rw[List.append_nil]at e;rw[e];exact h1
  ·cases h
 ·split at h
  ·rename_i fs _ hz;obtain⟨c,e,h1⟩:=A2p G σ w s (j:=0) hz;rw[List.append_nil]at e;rw[e];exact h1
  ·cases h
def A2r(P:Program)(t:TypeId)(x:T):Bool:=match P.info? t with
 |some i=>match i.zero with
  |some z=>zT x z.cells.toList
  |none=>false
 |none=>false
section
variable{P:Program}{N:Nat}{G:Mem}{σ:Lab}{Fr:Mem}{w0:Base}{w:World}{st:St}{a:Act}
theorem A3t{o:Oper}{t:TypeId}{x y:Operand}{x' y':Ar}{agg:Bool}{sz:Nat}(hd:o.dst=none)(ho:o.op= .store t x y)(hx:Ax N x x'=true)(hy:Ax N y y'=true)(ht:Hd P t agg sz=true):
 Sound P N o (A09 sz x' y'):=by
 intro G σ Fr w0 st a w Q next E hN hr hw hn Au
 subst hN;obtain⟨u,G',σ',Af,hG,Ci,h1,hv⟩:=Km hr hy hw;rcases Ahf Ci hx h1 with⟨s,k,ver,off,r,cur,h2,hs,hp⟩|⟨u,h2,hp⟩
 ·by_cases Se:ver=cur.1
  ·obtain⟨b,hb,hpp⟩:=hp Se;obtain⟨_,w',H4,Gt,B0,Ay2,hq⟩:=A0i (agg:=agg) Ci hs (fun _=>hb) ht hv h2
   refine Ars (w':=w') ?_ ?_
   ·simp[execOp,ho,hpp,Instr.storeAt,Instr.sureAddr,B0]
   ·rw[hd];exact hn G' H4 Gt _ w' hG Ay2 hq
  ·simp only[Ak5,M.wp,hs]at h2;exact absurd h2.1 Se
 ·exact h2.elim
def Lab.new(σ:Lab)(b:Nat)(Bg:Nat × Nat):Lab:=fun b'=>if b'=b then some Bg else σ b'
theorem Lab.Az2{b:Nat}{Bg:Nat × Nat}:σ.new b Bg b=some Bg:=by simp[Lab.new]
theorem Lab.Asr{b b':Nat}{Bg Nb:Nat × Nat}(hb:b'≠b)(h:σ b'=some Nb):σ.new b Bg b'=some Nb:=by simp[Lab.new,hb,h]
theorem Dt.grow(h:Dt G σ Fr w0 w){w':World}(hos:w'.os=w.os)(ht:w'.tape=w.tape)(Tj:w'.output=w.output)(Bk:w.heap.size≤w'.heap.size)
 (hold:∀b,b<w.heap.size→w'.heap[b]?=w.heap[b]?):Dt G σ Fr w0 w':=by
 have lt:∀{b:Nat} {o:Obj},w.heap[b]?=some o→b<w.heap.size:=fun h=>(Array.getElem?_eq_some_iff.1 h).1
 refine⟨?_,?_,h.inj,?_,hos.trans h.os,ht.trans h.tape,Tj.trans h.output,Nat.le_trans h.size Bk,h.apart,h.Jd⟩
 ·intro b o hb;have:=h.fixed b o hb;rw[hold b (lt this)];exact this
 ·intro b Bg hb;obtain⟨h1,h2,h3⟩:=h.own b Bg hb;exact⟨h1,h2,by omega⟩
 ·intro b o hb;have:=h.frame b o hb;rw[hold b (lt this)];exact this
theorem Dt.new{b:Nat}{Bg:Nat × Nat}(h:Dt G σ Fr w0 w)(h1:G b=none)(h2:Fr b=none)(h3:b<w.heap.size)(h4:∀b',σ b'≠some Bg):Dt G (σ.new b Bg) Fr w0 w:=by
 refine⟨h.fixed,?_,?_,h.frame,h.os,h.tape,h.output,h.size,h.apart,h.Jd⟩
 ·intro b' Nb Br;unfold Lab.new at Br;split at Br
  ·rename_i e;subst e;exact⟨h1,h2,h3⟩
  ·exact h.own b' Nb Br
 ·intro b1 b2 Nb Jf Kd;unfold Lab.new at Jf Kd;split at Jf<;>split at Kd
  ·rename_i e1 e2;rw[e1,e2]
  ·cases Jf;exact absurd Kd (h4 b2)
  ·cases Kd;exact absurd Jf (h4 b1)
  ·exact h.inj b1 b2 Nb Jf Kd
theorem Dt.fresh(h:Dt G σ Fr w0 w){b:Nat}(hb:w.heap.size≤b):G b=none∧Fr b=none∧σ b=none:=by
 have lt:∀{o:Obj},w.heap[b]?=some o→False:=fun h=>by have:=(Array.getElem?_eq_some_iff.1 h).1;omega
 refine⟨?_,?_,?_⟩
 ·cases hg:G b with
  |none=>rfl
  |some o=>exact(lt (h.fixed b o hg)).elim
 ·cases hg:Fr b with
  |none=>rfl
  |some o=>exact(lt (h.frame b o hg)).elim
 ·cases hg:σ b with
  |none=>rfl
  |some Bg=>have:=(h.own b Bg hg).2.2;omega
theorem Pk(w:World)(o:Obj)(b:Nat)(h:b<w.heap.size):(w.alloc o).heap[b]?=w.heap[b]?:=by
 show(w.heap.push o)[b]?=w.heap[b]?;rw[Array.getElem?_push,if_neg (Nat.ne_of_lt h)]
theorem Df.keep{G':Mem}{σ':Lab}{w':World}{vv:Nat→Value}{s:Nat}{sv:SV}{c:Value}(h:Df G σ w st vv s sv c)(hG:G.le G')(hk:∀s',Kept σ σ' w w' s')
 (G8:∀s ver sv,st[s]?=some (ver,sv)→Df G σ w st vv s sv (vv s)):Df G' σ' w' st vv s sv c:=by
 cases sv with
 |E0 s' k Bo=>
  obtain⟨cur,h1,h2,h3⟩:=h;refine⟨cur,h1,h2,fun e=>?_⟩
  obtain⟨e,sz,l,h4,h5⟩:=h3 e;exact⟨e,sz,l,h4,h5.tr hG fun b hb=>hk s' b k hb⟩
 |sub s' k Bo n=>
  obtain⟨cur,h1,h2,h3⟩:=h;refine⟨cur,h1,h2,fun e=>?_⟩
  obtain⟨e,sz,l,h4,h5⟩:=h3 e;exact⟨e,sz,l,h4,h5.tr hG fun b hb=>hk s' b k hb⟩
 |Kk s' k Bo n=>
  obtain⟨cur,h1,h2,h3⟩:=h;refine⟨cur,h1,h2,fun e=>?_⟩
  obtain⟨e,sz,l,c0,h4,h5,h6⟩:=h3 e;exact⟨e,sz,l,c0,h4,h5.tr hG fun b hb=>hk s' b k hb,h6⟩
 |pt s' k Bo off r=>
  obtain⟨cur,h1,h2,h3⟩:=h;refine⟨cur,h1,h2,fun e=>?_⟩
  obtain⟨b,h4,h5⟩:=h3 e;exact⟨b,(hk s' b k h4).1,h5⟩
 |pd s' Bo p=>
  obtain⟨cur,h1,h2,h3⟩:=h;refine⟨cur,h1,h2,fun inv t e hp ha=>?_⟩
  obtain⟨v,C9⟩:=cur;simp only at e;subst e;exact(h3 inv t rfl hp ha).tr (show Dd G σ w s' t (vv s')from G8 s' v _ h1) (hk s')
 |bs s' Bo p lo n=>
  obtain⟨cur,h1,h2,h3⟩:=h;refine⟨cur,h1,h2,fun e0 inv t e=>?_⟩
  obtain⟨v,C9⟩:=cur;simp only at e;subst e;exact⟨(h3 e0 inv t rfl).1,(h3 e0 inv t rfl).2.tr (show Dd G σ w s' t (vv s')from G8 s' v _ h1) (hk s')⟩
 |bd s' Bo p=>
  obtain⟨cur,h1,h2,h3⟩:=h;refine⟨cur,h1,h2,fun inv t e ha=>?_⟩
  obtain⟨v,C9⟩:=cur;simp only at e;subst e;exact(h3 inv t rfl ha).tr (show Dd G σ w s' t (vv s')from G8 s' v _ h1) (hk s')
 |_=>
  rw[Df.own rfl]at h ⊢;exact B4.tr h hG fun b k hb=>hk s b k hb
theorem Rel.grow(h:Rel G σ Fr w0 st a w){w':World}(hos:w'.os=w.os)(ht:w'.tape=w.tape)(Tj:w'.output=w.output)(Bk:w.heap.size≤w'.heap.size)
 (hold:∀b,b<w.heap.size→w'.heap[b]?=w.heap[b]?):Rel G σ Fr w0 st a w':=
 ⟨h.Bm.grow hos ht Tj Bk hold,h.defers,h.n,h.len,fun s ver sv hs=>(h.Bj s ver sv hs).keep (Mem.le.refl G) (fun s' b k hb=>⟨hb,hold b (h.Bm.own b _ hb).2.2⟩) h.Bj,h.L7⟩
theorem Rel.drew(h:Rel G σ Fr w0 st a w):Rel G σ Fr w0 st a w.drew:=h.grow rfl rfl rfl (Nat.le_refl _) fun _ _=>rfl
def C2(d:Nat)(sv:SV):M:=.get d fun ver _=>.set d (ver+1) (sv.fresh (ver+1)) .done
theorem Rel.U3{Q:St→Prop}{d:Nat}{sv:SV}{c:Value}{o:Obj}(h:Rel G σ Fr w0 st a w)(Sq:d<w0.n)(hr:sv.root=none)(hnp:∀h,sv≠ .par h)
 (Ns:∀σ',(∀b Bg,Bg.1≠d→σ b=some Bg→σ' b=some Bg)→σ' w.heap.size=some (d,0)→B4 G σ' (w.alloc o) d sv c) (hq:(C2 d sv).wp P Q st):
 ∃σ' Af,Rel G σ' Fr w0 Af (a.put (some d) c) (w.alloc o)∧Q Af:=by
 have Bkq:Dt G σ Fr w0 (w.alloc o):=h.Bm.grow rfl rfl rfl (by simp) fun b hb=>Pk w _ b hb
 simp only[C2,M.wp]at hq;cases hd:st[d]? with
 |none=>simp[hd]at hq
 |some cur=>
  simp only[hd]at hq;obtain⟨f1,f2,f3⟩:=h.Bm.fresh (Nat.le_refl w.heap.size);have Bu:Dt G ((σ.drop d).new w.heap.size (d,0)) Fr w0 (w.alloc o):=
   (Bkq.drop d).new f1 f2 (by simp) fun b' Br=>(Lab.C0.1 Br).1 rfl
  refine⟨_,_,h.put Sq Bu (Mem.le.refl G) hd (Nat.lt_succ_self _) ?_ ?_ (fun h e=>absurd (Aa8.1 e) (hnp h)) Tc,hq⟩
  ·intro s' D0 b k hb;have Bb:=(h.Bm.own b _ hb).2.2;exact⟨Lab.Asr (by omega) (Lab.C0.2 ⟨D0,hb⟩),Pk w _ b Bb⟩
  ·rw[Df.own (by rw[Xf];exact hr),Aa9]
   refine Ns _ ?_ Lab.Az2;rintro b ⟨s',k⟩ D0 hb;have Bb:=(h.Bm.own b _ hb).2.2;exact Lab.Asr (by omega) (Lab.C0.2 ⟨D0,hb⟩)
def Aux(d:Nat)(t:T):M:=C2 d (.box t)
theorem A3f{o:Oper}{e:TypeId}{d:Nat}{t:T}(hd:o.dst=some d)(ho:o.op= .alloc e)(hz:A2r P e t=true):Sound P N o (Aux d t):=by
 intro G σ Fr w0 st a w Q next E hN hr hw hn Au
 subst hN;unfold A2r at hz;split at hz
 ·rename_i i hi;split at hz
  ·rename_i z V3;obtain⟨σ',Af,h1,h2⟩:=hr.U3 (Au d hd) (sv:=.box t) (o:=.cells z.cells e) (c:=.pointer (some ⟨w.heap.size,0,none⟩)) rfl (by intro _ e;cases e)
    (fun σ' _ hb=>⟨_,z.cells,e,rfl,hb,heap_alloc_new w _,Bhp _ _ _ _ hz⟩) hw
   refine Bv (w':=w.alloc (.cells z.cells e)) ?_ (by rw[hd];exact hn G σ' Af _ _ (Mem.le.refl G) h1 h2)
   simp[execOp,ho,Instr.alloc,zeroValue,typeInfo,hi,V3,newVar,newRow]
  ·cases hz
 ·cases hz
def Bbn(d:Nat)(x:Ar):M:=Kc x fun u=>C2 d (.box (.one (.i u)))
theorem Bbz{o:Oper}{e:TypeId}{d:Nat}{x:Operand}{x':Ar}(hd:o.dst=some d)(ho:o.op= .box e x)(hx:Ax N x x'=true):Sound P N o (Bbn d x'):=by
 intro G σ Fr w0 st a w Q next E hN hr hw hn Au
 subst hN;obtain⟨u,G',σ',Af,hG,Ci,h1,hv⟩:=Km hr hx hw;obtain⟨H4,Gt,h2,h3⟩:=Ci.U3 (Au d hd) (sv:=.box (.one (.i u))) (o:=.cells (a.eval x).cells e) (c:=.pointer (some ⟨w.heap.size,0,none⟩)) rfl (by intro _ e;cases e)
  (fun σ' _ hb=>⟨_,_,e,rfl,hb,heap_alloc_new w _,hv.cells⟩) h1
 refine Bv (w':=w.alloc (.cells (a.eval x).cells e)) ?_ (by rw[hd];exact hn G' H4 Gt _ _ hG h2 h3)
 simp[execOp,ho,Instr.box,newVar,newRow]
def A00(d:Option Nat)(x:Ar)(i off:Nat):M:=rdP x (fun s k ver o r=>.Ba (d≠some s) fun _=>.get s fun cur _=>.Ba (ver=cur) fun _=>A9 d (.pt s k ver (o+off) (r++[i])) .done)
 (fun y=>match y with
   | .agg l=>match l[i]? with
     |some u=>.Ba (Ck (l.take i)=off) fun _=>A9 d (.rp u) .done
     |none=>.fail
   |_=>.fail)
def Aem(P:Program)(t:TypeId)(i off:Nat):Bool:=match P.underlying t with
 |some (.struct fs)=>match fs[i]? with
  |some f=>f.offset==off&&match P.info? f.type with
   |some j=>j.size != 0
   |none=>false
  |none=>false
 |_=>false
theorem Aco{t:TypeId}{i off b o:Nat}(h:Aem P t i off=true)(w:World):
 (Instr.fieldAt t (.pointer (some ⟨b,o,none⟩)) i).run P w= .ok (.pointer (some ⟨b,o+off,none⟩)) w:=by
 unfold Aem at h;split at h
 ·rename_i fs hu;split at h
  ·rename_i f hf;simp only[Bool.and_eq_true,beq_iff_eq]at h;obtain⟨rfl,h⟩:=h;split at h
   ·rename_i j hj;have Po:j.size≠0:=by simpa using h
    simp[Instr.fieldAt,run_underlying hu,hf,Instr.sureAddr,fieldPlace,sizeOf,typeInfo,hj,Po,add_lit]
   ·cases h
  ·cases h
 ·cases h
theorem Rel.Amd{Q:St→Prop}{d:Option Nat}{s k ver off b:Nat}{r:List Nat}{cur:Nat × SV}(hr:Rel G σ Fr w0 st a w)(hdb:∀d',d=some d'→d'<w0.n)(hs:st[s]?=some cur)(Aw:d≠some s)(Se:ver=cur.1)(hb:σ b=some (s,k))
 (hq:(Ab.A9 d (.pt s k ver off r) .done).wp P Q st):∃σ' Af,Rel G σ' Fr w0 Af (a.put d (.pointer (some ⟨b,off,none⟩))) w∧Q Af:=
 hr.A9 hdb (sv:=.pt s k ver off r) (c:=.pointer (some ⟨b,off,none⟩)) (fun d' hd Bo _=>by
  refine⟨cur,?_,by omega,fun _=>⟨b,Lab.C0.2 ⟨by rintro rfl;exact Aw hd,hb⟩,rfl⟩⟩
  rw[List.getElem?_set_ne (by rintro rfl;exact Aw hd)];exact hs) hq
theorem A3k{o:Oper}{t:TypeId}{x:Operand}{x':Ar}{i off:Nat}(ho:o.op= .fieldAddr t x i)(hx:Ax N x x'=true)(ht:Aem P t i off=true):
 Sound P N o (A00 o.dst x' i off):=by
 intro G σ Fr w0 st a w Q next E hN hr hw hn Au
 subst hN;rcases Ahf hr hx hw with⟨s,k,ver,of,r,cur,h1,hs,hp⟩|⟨u,h1,hp⟩
 ·simp only[M.wp,hs]at h1;obtain⟨Aw,Se,h1⟩:=h1;obtain⟨b,hb,hpp⟩:=hp Se;obtain⟨σ',Af,r1,r2⟩:=hr.Amd Au hs Aw Se hb h1;refine Bv (w':=w) ?_ (hn G σ' Af _ w (Mem.le.refl G) r1 r2);simp[execOp,ho,hpp,Aco ht]
 ·split at h1
  ·rename_i l;split at h1
   ·rename_i u hu;obtain⟨rfl,h1⟩:=h1;obtain⟨b,of,bl,ty,fz,pre,cs,post,p1,p2,p3,p4,p5⟩:=hp;obtain⟨c1,c,c2,e1,e2,e3,_⟩:=A0.nth i p5 hu;obtain⟨σ',Af,r1,r2⟩:=hr.A9 Au (sv:=.rp u) (c:=.pointer (some ⟨b,of+Ck (l.take i),none⟩))
     (fun _ _ _ _=>⟨b,_,bl,ty,fz,pre++c1,c,c2++post,rfl,p2,by simp[p3,e1],by simp[p4,e2],e3⟩) h1
    refine Bv (w':=w) ?_ (hn G σ' Af _ w (Mem.le.refl G) r1 r2);simp[execOp,ho,p1,Aco ht]
   ·exact h1.elim
  ·exact h1.elim
def Hv(P:Program)(t:TypeId)(sz:Nat):Bool:=match P.underlying t with
 |some (.slice e)=>match P.info? e with
  |some i=>i.size==sz&&sz != 0
  |none=>false
 |_=>false
def A01(d:Option Nat)(sz:Nat)(x i:Ar):M:=Gx i fun n=>match n with
 | .int _ n=>match x with
   | .t m=>.get m fun ver sv=>match sv with
     | .v (.list l)=>match l[n.toNat]? with
       |some u=>.Ba (0≤n∧u.size=sz) fun _=>A9 d (.rp u) .done
       |none=>.fail
     | .vec _ Bs l=>.Ba (0≤n∧n.toNat<l.length∧Bs=sz∧d≠some m) fun _=>A9 d (.pt m 0 ver (n.toNat*sz) [n.toNat]) .done
     | .E0 s k ver=>.get s fun cur C9=>.Ba (ver=cur) fun _=>match C9.Cx k with
       |some (_,Bs,l)=>.Ba (0≤n∧n.toNat<l.length∧Bs=sz∧d≠some s) fun _=>A9 d (.pt s k ver (n.toNat*sz) [n.toNat]) .done
       |none=>.fail
     |_=>.fail
   |_=>.fail
 |_=>.fail
theorem Acw{t:TypeId}{sz b off len cap:Nat}{k:IntKind}{n:Int}(h:Hv P t sz=true)(w:World)(h0:0≤n)(h1:n.toNat<len):
 (Instr.indexAt t (.slice (some ⟨b,off,none⟩) len cap) (.int k n)).run P w= .ok (.pointer (some ⟨b,off+n.toNat*sz,none⟩)) w:=by
 unfold Hv at h;split at h
 ·rename_i e hu;split at h
  ·rename_i i hi;simp only[Bool.and_eq_true,beq_iff_eq]at h;have hn:0≤n∧n<(len:Int):=⟨h0,by omega⟩
   simp[Instr.indexAt,asIntOf,run_underlying hu,hn,sizeOf,typeInfo,hi,h.1,add_lit]
  ·cases h
 ·cases h
theorem Aq.list{l:List I}{c:Value}:Aq G (.list l) c↔∃a cap,c= .slice a l.length cap∧l.length≤cap∧cap≤maxLen∧
 (l=[]∨∃b off bl ty fz sz,a=some ⟨b,off,none⟩∧G b=some (.cells bl ty fz)∧(∀x∈l,x.size=sz)∧
   off+l.length*sz≤bl.size∧A0 G l ((bl.toList.drop off).take (l.length*sz))):=by
 unfold Aq;rw[if_neg (by simp[I.isAgg])]
 simp only[A1,List.cons.injEq,and_true]
theorem A3m{o:Oper}{t:TypeId}{x i:Operand}{x' i':Ar}{sz:Nat}(ho:o.op= .indexAddr t x i)(hx:Ax N x x'=true)(hi:Ax N i i'=true)(ht:Hv P t sz=true):
 Sound P N o (A01 o.dst sz x' i'):=by
 intro G σ Fr w0 st a w Q next E hN hr hw hn Au
 subst hN;obtain⟨n,h1,Y6⟩:=De hr hi hw;clear hw;split at h1
 ·rename_i k n;rw[Aq.int]at Y6;cases x' with
  |t m=>
   obtain⟨rfl,Cm⟩:=Dm hx;simp only[M.wp]at h1;cases hs:st[m]? with
   |none=>simp[hs]at h1
   |some cur=>
    obtain⟨ver,sv⟩:=cur;simp only[hs]at h1;have Ay:=hr.slot Cm hs;have run:∀{b off len cap:Nat},a.eval (.tmp m)= .slice (some ⟨b,off,none⟩) len cap→0≤n→n.toNat<len→
     (execOp a.eval o).run P w= .ok (.value (.pointer (some ⟨b,off+n.toNat*sz,none⟩))) w:=by
     intro b off len cap he h0 hl;simp[execOp,ho,he,Y6,Acw ht w h0 hl]
    split at h1
    ·rename_i l;split at h1
     ·rename_i u hu;obtain⟨⟨h0,rfl⟩,h1⟩:=h1;have Bb:n.toNat<l.length:=(List.getElem?_eq_some_iff.1 hu).1;obtain⟨ad,cap,hc,_,_,he⟩:=Aq.list.1 Ay;rcases he with he|⟨b,off,bl,ty,fz,sz,rfl,hg,Bk,hle,Ci⟩
      ·subst he;simp at Bb
      ·have Bo8:=Bk u (List.mem_of_getElem? hu);subst Bo8;obtain⟨c1,c,c2,e1,e2,e3,_⟩:=A0.nth n.toNat Ci hu;have Tp:Ck (l.take n.toNat)=n.toNat*u.size:=by
        rw[Dc (sz:=u.size) fun z hz=>Bk z (List.mem_of_mem_take hz),List.length_take,Nat.min_eq_left (Nat.le_of_lt Bb)]
       have hbl:bl.toList=(bl.toList.take off++c1)++c++(c2++(bl.toList.drop off).drop (l.length*u.size)):=by
        have h2:=List.take_append_drop off bl.toList;have h3:=List.take_append_drop (l.length*u.size) (bl.toList.drop off);rw[e1]at h3
        calc bl.toList=bl.toList.take off++bl.toList.drop off:=h2.symm
         _=bl.toList.take off++(c1++c++c2++(bl.toList.drop off).drop (l.length*u.size)):=by rw[h3]
         _=_:=by simp
       have Bha:(bl.toList.take off).length=off:=by
        rw[List.length_take,Nat.min_eq_left];have:bl.toList.length=bl.size:=by simp
        omega
       obtain⟨σ',Af,r1,r2⟩:=hr.A9 Au (sv:=.rp u) (c:=.pointer (some ⟨b,off+n.toNat*u.size,none⟩))
        (fun _ _ _ _=>⟨b,_,bl,ty,fz,bl.toList.take off++c1,c,_,rfl,hg,hbl,by rw[List.length_append,Bha,e2,Tp],e3⟩) h1
       exact Bv (w':=w) (run hc h0 Bb) (hn G σ' Af _ w (Mem.le.refl G) r1 r2)
     ·exact h1.elim
    ·rename_i e Bs l;obtain⟨⟨h0,Bb,rfl,Aw⟩,h1⟩:=h1;have Gj:∃b,σ b=some (m,0)∧∃cap,a.eval (.tmp m)= .slice (some ⟨b,0,none⟩) l.length cap:=by
      obtain⟨xs,k1,k2,k3,k4⟩:=Ay;rcases k1.2 with⟨hc,hz⟩|⟨g,cap,cur,hc,_⟩
      ·omega
      ·exact⟨g,k4 g (by rw[hc];rfl),cap,hc⟩
     obtain⟨b,hb,cap,hc⟩:=Gj;obtain⟨σ',Af,r1,r2⟩:=hr.Amd Au hs Aw rfl hb h1;refine Bv (w':=w) ?_ (hn G σ' Af _ w (Mem.le.refl G) r1 r2);have:=run hc h0 Bb;rwa [Nat.zero_add]at this
    ·rename_i s kk Bo;obtain⟨cur,g1,g2,g3⟩:=Ay;simp only[M.wp,g1]at h1;obtain⟨hv,h1⟩:=h1;obtain⟨e,Bs,l,g4,g5⟩:=g3 hv;simp only[g4,M.wp]at h1;obtain⟨⟨h0,Bb,rfl,Aw⟩,h1⟩:=h1;have Gj:∃b,σ b=some (s,kk)∧∃cap,a.eval (.tmp m)= .slice (some ⟨b,0,none⟩) l.length cap:=by
      obtain⟨xs,k1,k2,k3,k4⟩:=g5;rcases k1.2 with⟨hc,hz⟩|⟨g,cap,cur,hc,_⟩
      ·omega
      ·exact⟨g,k4 g (by rw[hc];rfl),cap,hc⟩
     obtain⟨b,hb,cap,hc⟩:=Gj;obtain⟨σ',Af,r1,r2⟩:=hr.Amd Au g1 Aw hv hb h1;refine Bv (w':=w) ?_ (hn G σ' Af _ w (Mem.le.refl G) r1 r2);have:=run hc h0 Bb;rwa [Nat.zero_add]at this
    ·exact h1.elim
  |_=>exact h1.elim
 ·exact h1.elim
end

def SV.Rt:SV→Nat→SV
 | .vec _ _ _,0=>.no
 | .box (.one (.vec _ _ _)),1=>.box (.one (.i .Nz))
 | .box (.st fs),j+1=>match fs[j]? with
   |some (.vec _ _ _)=>.box (.st (fs.set j (.i .Nz)))
   |_=>.box (.st fs)
 |sv,_=>sv
section
variable{P:Program}{N:Nat}{G:Mem}{σ:Lab}{Fr:Mem}{w0:Base}{w:World}{st:St}{a:Act}
theorem Dt.Lj(h:Dt G σ Fr w0 w)(Bg:Nat × Nat):Dt G (σ.Lj Bg) Fr w0 w:=
 ⟨h.fixed,fun b l hb=>h.own b l (Lab.D3.1 hb).2,fun b b' l hb Br=>h.inj b b' l (Lab.D3.1 hb).2 (Lab.D3.1 Br).2,h.frame,h.os,h.tape,h.output,h.size,h.apart,h.Jd⟩
theorem Cw.one{Bg:Nat × Nat}{e:TypeId}{sz:Nat}{l:List I}{c:Value}(h:Cw G σ w Bg e sz l c):c.oneCell'=true:=by
 obtain⟨xs,h1,_⟩:=h;rcases h1.2 with⟨rfl,_⟩|⟨g,cap,cur,rfl,_⟩<;>rfl
theorem Rel.Rt{s k ver Bo:Nat}{sv:SV}{e:TypeId}{sz:Nat}{l:List I}(h:Rel G σ Fr w0 st a w)(hs:st[s]?=some (ver,sv))(hv:sv.Cx k=some (e,sz,l))(Bb:ver<Bo):
 Rel G (σ.Lj (s,k)) Fr w0 (st.set s (Bo,sv.Rt k)) a w:=by
 refine Rel.self (new:=sv.Rt k) (ver:=Bo) h (h.Bm.Lj (s,k)) (Mem.le.refl G) hs Bb
  (fun s' D0 b k' hb=>⟨Lab.D3.2 ⟨fun e=>D0 (by cases e;rfl),hb⟩,rfl⟩) ?_ (by
    intro h e;unfold SV.Rt at e;repeat' split at e
    all_goals first|(subst e;rw[Aks]at hv;cases hv)|cases e) (by
    intro inv t e;exfalso;unfold SV.Rt at e;repeat' split at e
    all_goals first|(subst e;cases k<;>cases hv)|cases e)
 ·have hold:=h.Bj s ver sv hs;generalize val a w0 s=c at hold ⊢;unfold SV.Cx at hv;split at hv
  ·trivial
  ·cases hv;obtain⟨b,cells,ty,h1,h2,h3,h4⟩:=hold;refine⟨b,cells,ty,h1,Lab.D3.2 ⟨by simp,h2⟩,h3,?_⟩
   obtain⟨c',hc',h4⟩:=h4;exact⟨c',hc',h4.one⟩
  ·rename_i fs j;split at hv
   ·rename_i e' Bs l' hf;cases hv;obtain⟨b,cells,ty,h1,h2,h3,h4⟩:=hold;simp only[SV.Rt,hf];refine⟨b,cells,ty,h1,Lab.D3.2 ⟨by simp,h2⟩,h3,?_⟩
    refine Dz.A7u (Mem.le.refl G) h4 hf (fun b k Aw hb=>⟨Lab.D3.2 ⟨fun e=>Aw (by cases e;omega),hb⟩,rfl⟩) fun c hc=>?_
    obtain⟨c',rfl,hc⟩:=hc;exact⟨c',rfl,hc.one⟩
   ·cases hv
  ·cases hv
def M4(e:TypeId)(sz:Nat)(x:Ar)(k:List I→M):M:=match x with
 | .Cd _ _=>k []
 | .c _=>.fail
 | .t n=>.get n fun ver sv=>match sv with
   | .vec e' Bs l=>.Ba (e'=e∧Bs=sz) fun _=>.set n (ver+1) .no (k l)
   | .E0 s kk v=>.get s fun cur C9=>.Ba (v=cur) fun _=>match C9.Cx kk with
     |some (e',Bs,l)=>.Ba (e'=e∧Bs=sz) fun _=>.set s (cur+1) (C9.Rt kk) (k l)
     |none=>.fail
   | .sub s kk v m=>.get s fun cur C9=>.Ba (v=cur) fun _=>match C9.Cx kk with
     |some (e',Bs,l)=>.Ba (e'=e∧Bs=sz) fun _=>.set s (cur+1) (C9.Rt kk) (k (l.take m))
     |none=>.fail
   |_=>.fail
def Ane(G:Mem)(σ:Lab)(Fr:Mem)(w:World)(e:TypeId)(sz:Nat)(l:List I)(c:Value):Prop:=
 ∃xs,Ew w e sz c l.length xs∧A0 G l xs∧(∀x∈l,x.size=sz)∧∀b,c.ownBlock=some b→G b=none∧Fr b=none∧σ b=none
theorem Cw.free{Bg:Nat × Nat}{e:TypeId}{sz:Nat}{l:List I}{c:Value}(h:Cw G σ w Bg e sz l c)(Bu:Dt G σ Fr w0 w){σ':Lab}(hσ:∀b,σ b=some Bg→σ' b=none):Ane G σ' Fr w e sz l c:=by
 obtain⟨xs,h1,h2,h3,h4⟩:=h;refine⟨xs,h1,h2,h3,fun b hb=>?_⟩
 obtain⟨k1,k2,_⟩:=Bu.own b _ (h4 b hb);exact⟨k1,k2,hσ b (h4 b hb)⟩
theorem Vs{e:TypeId}{sz:Nat}{x:Operand}{y:Ar}{k:List I→M}{Q:St→Prop}(h:Rel G σ Fr w0 st a w)(ho:Ax w0.n x y=true)(hq:(M4 e sz y k).wp P Q st):
 ∃l σ' Af,Rel G σ' Fr w0 Af a w∧(k l).wp P Q Af∧Ane G σ' Fr w e sz l (a.eval x):=by
 cases y with
 |c i=>exact hq.elim
 |Cd e' Bs=>
  refine⟨[],σ,st,h,hq,[],?_,rfl,by simp,?_⟩
  ·rw[H9 ho];exact Ew.nil w e sz
  ·rw[H9 ho];simp[Value.ownBlock]
 |t n=>
  obtain⟨rfl,Cm⟩:=Dm ho;simp only[M4,M.wp]at hq;cases hs:st[n]? with
  |none=>simp[hs]at hq
  |some cur=>
   obtain⟨ver,sv⟩:=cur;simp only[hs]at hq;have Ay:=h.slot Cm hs;cases sv with
   |vec e' Bs l=>
    obtain⟨⟨rfl,rfl⟩,hq⟩:=hq;refine⟨l,σ.drop n,_,h.drop hs (Nat.lt_succ_self ver),hq,Cw.free Ay h.Bm fun b hb=>?_⟩
    cases hd:σ.drop n b with
    |none=>rfl
    |some Bg=>
     obtain⟨s,k'⟩:=Bg;obtain⟨h1,h2⟩:=Lab.C0.1 hd;rw[hb]at h2;cases h2;exact absurd rfl h1
   |E0 s kk v=>
    obtain⟨cur,h1,h2,h3⟩:=Ay;simp only[M.wp,h1]at hq;obtain⟨hv,hq⟩:=hq;obtain⟨e',Bs,l,h4,h5⟩:=h3 hv;simp only[h4,M.wp]at hq;obtain⟨⟨rfl,rfl⟩,hq⟩:=hq;exact⟨l,_,_,h.Rt (k:=kk) h1 h4 (Nat.lt_succ_self cur.1),hq,h5.free h.Bm fun b hb=>by simp[Lab.Lj,hb]⟩
   |sub s kk v m=>
    obtain⟨cur,h1,h2,h3⟩:=Ay;simp only[M.wp,h1]at hq;obtain⟨hv,hq⟩:=hq;obtain⟨e',Bs,l,h4,h5⟩:=h3 hv;simp only[h4,M.wp]at hq;obtain⟨⟨rfl,rfl⟩,hq⟩:=hq;exact⟨l.take m,_,_,h.Rt (k:=kk) h1 h4 (Nat.lt_succ_self cur.1),hq,h5.free h.Bm fun b hb=>by simp[Lab.Lj,hb]⟩
   |_=>exact hq.elim
theorem Rel.U9{Q:St→Prop}{d:Nat}{e:TypeId}{sz:Nat}{l:List I}{c':Value}{w':World}{row:Option Nat}(h:Rel G σ Fr w0 st a w)(Sq:d<w0.n)(hg:w.grownBy w' row)
 (Gj:∀b,row=some b→G b=none∧Fr b=none∧σ b=none) (Cy:Ane G σ Fr w' e sz l c') (hq:(C2 d (.vec e sz l)).wp P Q st):
 ∃σ' Af,Rel G σ' Fr w0 Af (a.put (some d) c') w'∧Q Af:=by
 simp only[C2,M.wp]at hq;cases hd:st[d]? with
 |none=>simp[hd]at hq
 |some cur=>
  simp only[hd]at hq;have lt:∀{b:Nat} {o:Obj},w.heap[b]?=some o→b<w.heap.size:=fun h=>(Array.getElem?_eq_some_iff.1 h).1
  have keep:∀b Bg,σ b=some Bg→w'.heap[b]?=w.heap[b]?:=fun b Bg hb=>
   hg.block b (h.Bm.own b Bg hb).2.2 (by intro e;obtain⟨_,_,k⟩:=Gj b e.symm;rw[k]at hb;cases hb)
  have Bu:Dt G σ Fr w0 w':=by
   refine⟨?_,?_,h.Bm.inj,?_,hg.os.trans h.Bm.os,hg.tape.trans h.Bm.tape,hg.output.trans h.Bm.output,Nat.le_trans h.Bm.size hg.size,h.Bm.apart,h.Bm.Jd⟩
   ·intro b o hb;have:=h.Bm.fixed b o hb;rw[hg.block b (lt this) (by intro e;obtain⟨k,_,_⟩:=Gj b e.symm;rw[k]at hb;cases hb)]
    exact this
   ·intro b Bg hb;obtain⟨h1,h2,h3⟩:=h.Bm.own b Bg hb;exact⟨h1,h2,Nat.lt_of_lt_of_le h3 hg.size⟩
   ·intro b o hb;have:=h.Bm.frame b o hb;rw[hg.block b (lt this) (by intro e;obtain⟨_,k,_⟩:=Gj b e.symm;rw[k]at hb;cases hb)]
    exact this
  obtain⟨xs,k1,k2,k3,k4⟩:=Cy;cases hb:c'.ownBlock with
  |none=>
   refine⟨_,_,h.put Sq (Bu.drop d) (Mem.le.refl G) hd (Nat.lt_succ_self _) ?_ ?_,hq⟩
   ·intro s' D0 b k Br;exact⟨Lab.C0.2 ⟨D0,Br⟩,keep b _ Br⟩
   ·exact⟨xs,k1,k2,k3,fun b Br=>by rw[hb]at Br;cases Br⟩
  |some b=>
   obtain⟨f1,f2,f3⟩:=k4 b hb;have Bb:=k1.lt b hb;have K1:Dt G ((σ.drop d).new b (d,0)) Fr w0 w':=(Bu.drop d).new f1 f2 Bb fun b' Br=>(Lab.C0.1 Br).1 rfl
   refine⟨_,_,h.put Sq K1 (Mem.le.refl G) hd (Nat.lt_succ_self _) ?_ ?_,hq⟩
   ·intro s' D0 b' k Br;exact⟨Lab.Asr (by rintro rfl;rw[f3]at Br;cases Br) (Lab.C0.2 ⟨D0,Br⟩),keep b' _ Br⟩
   ·exact⟨xs,k1,k2,k3,fun b' Br=>by rw[hb]at Br;cases Br;exact Lab.Az2⟩
def Ao0(P:Program)(t e:TypeId)(sz bytes:Nat):Bool:=match P.underlying t with
 |some (.slice e')=>e'==e&&match P.info? e with
  |some i=>i.size==sz&&i.bytes==bytes&&sz != 0&&match i.zero with
   |some z=>z.cells.size==sz
   |none=>false
  |none=>false
 |_=>false
def Bbk(d:Nat)(e:TypeId)(sz bytes:Nat)(x y:Ar):M:=Kc y fun u=>match u with
 | .list ys=>M4 e sz x fun l=>.Ba ((l.length+ys.length)*bytes≤140737488355328∧l.length+ys.length≤maxLen∧(∀u∈ys,u.size=sz)∧e<1000000) fun _=>C2 d (.vec e sz (l++ys))
 |_=>.fail
theorem V9(t ty e:TypeId)(sz:Nat){i:TypeInfo}(ht:P.underlying t=some (.slice e))(hi:P.info? e=some i)(v:Value)(n:Nat)(xs:List Value)(Cy:w.ownsRow 0 e sz v n xs)(c:Nat):
 (Builtin.append_ #[t,t] ty #[v,.slice none 0 c]).run P w= .ok v w:=by
 rcases Cy.2 with⟨rfl,rfl⟩|⟨g,cap,cur,rfl,_,_,hnc,_⟩
 ·simp[Builtin.append_,run_underlying ht,sizeOf,typeInfo,hi,Builtin.lenOf,Builtin.firstCells]
 ·simp[Builtin.append_,run_underlying ht,sizeOf,typeInfo,hi,Builtin.lenOf,Builtin.firstCells,hnc,storeCells]
theorem Bbw{o:Oper}{d:Nat}{t e:TypeId}{x y:Operand}{x' y':Ar}{sz bytes:Nat}(hd:o.dst=some d)
 (ho:o.op= .call {callee:=.builtin .append,args:= #[x,y],argTypes:= #[t,t]}) (hx:Ax N x x'=true) (hy:Ax N y y'=true) (ht:Ao0 P t e sz bytes=true):
 Sound P N o (Bbk d e sz bytes x' y'):=by
 intro G0 σ0 Fr w0 st0 a w Q next E hN hr hw hn Au
 subst hN;obtain⟨u,G,σ1,st1,hG,E2,h1,hv⟩:=Km hr hy hw;clear hw;split at h1
 ·rename_i ys;obtain⟨l,σ,st,F2,h2,xs,k1,k2,k3,k4⟩:=Vs E2 hx h1;obtain⟨⟨Vy,Gb,Bk,Mj⟩,h2⟩:=h2;unfold Ao0 at ht;split at ht
  ·rename_i e' hu;simp only[Bool.and_eq_true,beq_iff_eq]at ht;obtain⟨rfl,ht⟩:=ht;split at ht
   ·rename_i i hi;simp only[Bool.and_eq_true,beq_iff_eq,bne_iff_ne,ne_eq]at ht;obtain⟨⟨⟨rfl,rfl⟩,h0⟩,ht⟩:=ht;split at ht
    ·rename_i z hz;simp only[beq_iff_eq]at ht;have exec:∀{v' w'},(Builtin.append_ #[t,t] o.type #[a.eval x,a.eval y]).run P w= .ok v' w'→(execOp a.eval o).run P w= .ok (.value v') w':=by
      intro v' w' B0;simp[execOp,ho,resolve,invoke,builtin,B0]
     have fin:∀{v':Value} {w':World} {row:Option Nat},(Builtin.append_ #[t,t] o.type #[a.eval x,a.eval y]).run P w= .ok v' w'→w.grownBy w' row→
      (∀b,row=some b→G b=none∧Fr b=none∧σ b=none)→Ane G σ Fr w' e' i.size (l++ys) v'→o.wp P a w next E:=by
      intro v' w' row B0 Gm Gj Fw;obtain⟨σ',Af,r1,r2⟩:=F2.U9 (Au d hd) Gm Gj Fw h2;exact Bv (exec B0) (by rw[hd];exact hn G σ' Af _ w' hG r1 r2)
     obtain⟨ad,cap,hc,K9,Np,Th⟩:=Aq.list.1 hv;have Ayx:w.grownBy w none:=⟨rfl,rfl,rfl,Nat.le_refl _,fun _ _ _=>rfl⟩
     have own:∀(A:Addr) (news:List Value),ad=some A→news.length=ys.length*i.size→A0 G ys news→(∀j u,news[j]?=some u→w.cell? (A.add j)=some u)→o.wp P a w next E:=by
      intro A news hA hl Ay Ti;subst hA;obtain⟨v',w',B0,q1,q2,_,q3⟩:=run_append_own_at (P:=P) w 0 t o.type e' i z i.size i.bytes hu hi hz rfl rfl ht (by omega) (a.eval x) l.length xs (k1.to Mj) A ys.length cap news hl Ti (A0.one _ _ Ay) Gb Vy (Nat.zero_le _)
      rw[←hc]at B0;refine fin B0 q2 (fun b hb=>k4 b hb) ⟨xs++news,by rw[List.length_append];exact .of q1,A0.append k2 Ay,?_,?_⟩
      ·intro z hz;rcases List.mem_append.1 hz with hz|hz
       ·exact k3 z hz
       ·exact Bk z hz
      ·intro b hb;rcases q3 with q3|q3
       ·rw[q3]at hb;exact k4 b hb
       ·rw[q3]at hb;cases hb;exact F2.Bm.fresh (Nat.le_refl _)
     rcases Th with rfl|⟨b,off,bl,ty,fz,Bs,rfl,hg,An1,hle,Ay⟩
     ·cases ad with
      |none=>
       have B0:=V9 (P:=P) t o.type e' i.size hu hi (a.eval x) l.length xs (k1.to Mj) cap;have W0:a.eval y= .slice none 0 cap:=hc;rw[←W0]at B0;exact fin B0 Ayx (fun b hb=>by cases hb) (by rw[List.append_nil];exact⟨xs,k1,k2,k3,k4⟩)
      |some A=>exact own A [] rfl (by simp) rfl (by simp)
     ·cases ys with
      |nil=>exact own _ [] rfl (by simp) rfl (by simp)
      |cons y0 ys'=>
       have Aza:Bs=i.size:=by rw[←An1 y0 (by simp),Bk y0 (by simp)]
       subst Aza;refine own _ _ rfl ?_ Ay ?_
       ·rw[List.length_take,List.length_drop,Nat.min_eq_left];have:bl.toList.length=bl.size:=by simp
        omega
       ·intro j u hj;have hh:=F2.Bm.fixed b _ hg;rw[add_lit,cell_of_row w b (off+j) bl ty fz hh];have:bl[off+j]?=bl.toList[off+j]?:=by simp
        rw[this];rw[List.getElem?_take]at hj;split at hj
        ·rwa [List.getElem?_drop]at hj
        ·cases hj
    ·cases ht
   ·cases ht
  ·cases ht
 ·exact h1.elim
end

def Afs(d:Nat)(x:Ar):M:=match x with
 | .c x=>C2 d (.v x)
 | .Cd e sz=>C2 d (.vec e sz [])
 | .t n=>.get n fun ver sv=>match sv with
   | .v x=>C2 d (.v x)
   | .vec e sz l=>.Ba (n≠d) fun _=>.set n (ver+1) .no (C2 d (.vec e sz l))
   | .Dv fs=>.Ba (n≠d) fun _=>.set n (ver+1) .no (C2 d (.Dv fs))
   | .Qd l=>.Ba (n≠d) fun _=>.set n (ver+1) .no (C2 d (.Qd l))
   | .st fs=>.Ba (n≠d) fun _=>.set n (ver+1) .no (C2 d (.st fs))
   | .rp x=>C2 d (.rp x)
   | .no=>C2 d .no
   | .pt s k ver off r=>.Ba (d≠s) fun _=>C2 d (.pt s k ver off r)
   | .sub s k v m=>.get s fun cur C9=>.Ba (v=cur) fun _=>match k,C9 with
     |0,.vec e sz l=>if s=d then .set d (cur+1) (.vec e sz (l.take m)) .done else Kc x fun u=>C2 d (.v u)
     |_,_=>Kc x fun u=>C2 d (.v u)
   | .Kk _ _ _ _=>.fail
   | .W8 _ _=>.fail
   | .bs _ _ _ _ _=>.fail
   | .E0 _ _ _=>Kc x fun u=>C2 d (.v u)
   | .box _=>.Ba (n≠d) fun _=>C2 d (.pt n 0 ver 0 [])
   | .par h=>.get h fun ver sv=>.Ba (d≠h) fun _=>match sv with
     | .box _=>C2 d (.pt h 0 ver 0 [])
     | .vec _ _ _=>Kc (.t n) fun u=>C2 d (.v u)
     | .own _ t=>match t with
       | .ptr _=>C2 d (.pd h ver [0])
       | .vec _ _ _=>C2 d (.bd h ver [])
       | .map _ _=>C2 d (.bd h ver [])
       |_=>.fail
     |_=>.fail
   | .own _ t=>.Ba (n≠d) fun _=>match t with
     | .ptr _=>C2 d (.pd n ver [0])
     |t=>.set n (ver+1) .no (C2 d (.own [] t))
   | .pd s ver p=>.Ba (d≠s) fun _=>C2 d (.pd s ver p)
   | .bd s ver p=>.Ba (d≠s) fun _=>C2 d (.bd s ver p)
section
variable{P:Program}{N:Nat}{G:Mem}{σ:Lab}{Fr:Mem}{w0:Base}{w:World}{st:St}{a:Act}
theorem S0{d:Nat}{sv:SV}{Q:St→Prop}(h:(C2 d sv).wp P Q st)(hf:∀v,sv.fresh v=sv:=by intro _;rfl):(A9 (some d) sv .done).wp P Q st:=by
 unfold C2 at h;unfold A9;simpa only[hf]using h
theorem Rel.Ab3{Q:St→Prop}{d:Nat}{x:I}{c:Value}(h:Rel G σ Fr w0 st a w)(Sq:d<w0.n)(hc:Aq G x c)(hq:(C2 d (.v x)).wp P Q st):
 ∃σ' Af,Rel G σ' Fr w0 Af (a.put (some d) c) w∧Q Af:=h.Ata (by rintro _ ⟨⟩;exact Sq) hc (S0 hq)
theorem Rel.Aqm{Q:St→Prop}{n d ver:Nat}{sv:SV}{c:Value}(h:Rel G σ Fr w0 st a w)(Sq:d<w0.n)(hs:st[n]?=some (ver,sv))(Aw:n≠d)(hr:sv.root=none)(hc:B4 G σ w n sv c)(hnp:∀h,sv≠ .par h)
 (hq:(M.set n (ver+1) .no (C2 d sv)).wp P Q st):∃σ' Af,Rel G σ' Fr w0 Af (a.put (some d) c) w∧Q Af:=by
 simp only[M.wp,C2]at hq;cases hd:st[d]? with
 |none=>
  have:(st.set n (ver+1,SV.no))[d]?=none:=by rw[List.getElem?_set_ne Aw];exact hd
  simp[this]at hq
 |some cur=>
  have:(st.set n (ver+1,SV.no))[d]?=some cur:=by rw[List.getElem?_set_ne Aw];exact hd
  simp only[this]at hq;exact⟨_,_,h.move Sq hs hd (Ne.symm Aw) (Nat.lt_succ_self _) (Nat.lt_succ_self _) hr hc hnp,hq⟩
theorem Ai4{o:Oper}{x:Operand}(ho:o.op= .move x∨o.op= .assign x):(execOp a.eval o).run P w= .ok (.value (a.eval x)) w:=by
 rcases ho with ho|ho<;>simp[execOp,ho]
theorem Ake{o:Oper}{d:Nat}{x:Operand}{x':Ar}(hd:o.dst=some d)(ho:o.op= .move x∨o.op= .assign x)(hx:Ax N x x'=true):Sound P N o (Afs d x'):=by
 intro G σ Fr w0 st a w Q next E hN hr hw hn Au
 subst hN;have Ub:∀d',some d=some d'→d'<w0.n:=by rintro _ ⟨⟩;exact Au d hd
 have fin:∀{G' σ' Af},G.le G'→Rel G' σ' Fr w0 Af (a.put (some d) (a.eval x)) w→Q Af→o.wp P a w next E:=fun hG h1 h2=>
  Bv (Ai4 ho) (by rw[hd];exact hn _ _ _ _ _ hG h1 h2)
 have Amh:∀{n:Nat},x'= .t n→(Kc (.t n) fun u=>C2 d (.v u)).wp P Q st→o.wp P a w next E:=by
  intro n hx' hq;subst hx';obtain⟨u,G',σ',Af,hG,Ci,h1,hv⟩:=Km hr hx hq;obtain⟨H4,Gt,r1,r2⟩:=Ci.Ab3 (Au d hd) hv h1;exact fin hG r1 r2
 cases x' with
 |c i=>
  obtain⟨σ',Af,r1,r2⟩:=hr.Ab3 (Au d hd) (Sy hx G) hw;exact fin (Mem.le.refl G) r1 r2
 |Cd e sz=>
  obtain⟨σ',Af,r1,r2⟩:=hr.A9 Ub (d:=some d) (sv:=.vec e sz []) (c:=a.eval x) (fun _ _ _ _=>by
   rw[H9 hx];exact⟨[],Ew.nil w e sz,rfl,by simp,by simp[Value.ownBlock]⟩) hw
  exact fin (Mem.le.refl G) r1 r2
 |t n=>
  obtain⟨rfl,Cm⟩:=Dm hx;have hw0:=hw;simp only[Afs,M.wp]at hw;cases hs:st[n]? with
  |none=>simp[hs]at hw
  |some cur=>
   obtain⟨ver,sv⟩:=cur;simp only[hs]at hw;have Ay:=hr.slot Cm hs;cases sv with
   |v y=>
    obtain⟨σ',Af,r1,r2⟩:=hr.Ab3 (Au d hd) Ay hw;exact fin (Mem.le.refl G) r1 r2
   |no=>
    obtain⟨σ',Af,r1,r2⟩:=hr.A9 Ub (d:=some d) (sv:=.no) (c:=a.eval (.tmp n)) (fun _ _ _ _=>trivial) hw
    exact fin (Mem.le.refl G) r1 r2
   |rp y=>
    obtain⟨σ',Af,r1,r2⟩:=hr.A9 Ub (d:=some d) (sv:=.rp y) (c:=a.eval (.tmp n)) (fun _ _ _ _=>Ay) hw
    exact fin (Mem.le.refl G) r1 r2
   |vec e sz l=>
    obtain⟨Aw,hw⟩:=hw;obtain⟨σ',Af,r1,r2⟩:=hr.Aqm (Au d hd) hs Aw rfl Ay (by intro _ e;cases e) hw
    exact fin (Mem.le.refl G) r1 r2
   |Dv fs=>
    obtain⟨Aw,hw⟩:=hw;obtain⟨σ',Af,r1,r2⟩:=hr.Aqm (Au d hd) hs Aw rfl Ay (by intro _ e;cases e) hw
    exact fin (Mem.le.refl G) r1 r2
   |Qd fs=>
    obtain⟨Aw,hw⟩:=hw;obtain⟨σ',Af,r1,r2⟩:=hr.Aqm (Au d hd) hs Aw rfl Ay (by intro _ e;cases e) hw
    exact fin (Mem.le.refl G) r1 r2
   |st fs=>
    obtain⟨Aw,hw⟩:=hw;obtain⟨σ',Af,r1,r2⟩:=hr.Aqm (Au d hd) hs Aw rfl Ay (by intro _ e;cases e) hw
    exact fin (Mem.le.refl G) r1 r2
   |box t=>
    obtain⟨Aw,hw⟩:=hw;obtain⟨b,cells,ty,h1,h2,_⟩:=Ay
    replace hw:=S0 hw
    obtain⟨σ',Af,r1,r2⟩:=hr.Amd (d:=some d) Ub hs (by simpa using Ne.symm Aw) rfl h2 hw
    rw[←h1]at r1;exact fin (Mem.le.refl G) r1 r2
   |pt s k Bo off r=>
    obtain⟨Aw,hw⟩:=hw;obtain⟨cur,h1,h2,h3⟩:=Ay;obtain⟨σ',Af,r1,r2⟩:=hr.A9 Ub (d:=some d) (sv:=.pt s k Bo off r) (c:=a.eval (.tmp n)) (fun d' Ua ver _=>by
     refine⟨cur,?_,h2,fun e=>?_⟩
     ·rw[List.getElem?_set_ne (by rintro rfl;cases Ua;exact Aw rfl)];exact h1
     ·obtain⟨b,h4,h5⟩:=h3 e;exact⟨b,Lab.C0.2 ⟨by rintro rfl;cases Ua;exact Aw rfl,h4⟩,h5⟩) hw
    exact fin (Mem.le.refl G) r1 r2
   |E0 s k v=>exact Amh rfl hw
   |own inv t=>
    obtain⟨Aw,hw⟩:=hw;have hv:val a w0 n=a.eval (.tmp n):=Ez (by rw[hr.n];exact Cm)
    have Cy:Dd G σ w n t (val a w0 n):=by rw[hv];exact Ay
    split at hw
    ·replace hw:=S0 hw
     obtain⟨σ',Af,r1,r2⟩:=hr.A9 Ub (d:=some d) (c:=a.eval (.tmp n)) (fun d' Ua ver _=>by
      cases Ua;refine⟨_,by rw[List.getElem?_set_ne (Ne.symm Aw)];exact hs,Nat.le_refl _,fun J2 t' e _ _=>?_⟩
      cases e;rw[Cb Aw, ←hv];exact Cy.pt) hw
     exact fin (Mem.le.refl G) r1 r2
    ·obtain⟨σ',Af,r1,r2⟩:=hr.Aqm (Au d hd) hs Aw rfl Ay (by intro _ e;cases e) hw
     exact fin (Mem.le.refl G) r1 r2
   |pd s Bo p=>
    obtain⟨Aw,hw⟩:=hw;obtain⟨cur,h1,h2,h3⟩:=Ay
    replace hw:=S0 hw
    obtain⟨σ',Af,r1,r2⟩:=hr.A9 Ub (d:=some d) (sv:=.pd s Bo p) (c:=a.eval (.tmp n)) (fun d' Ua ver _=>by
     cases Ua;refine⟨cur,by rw[List.getElem?_set_ne Aw];exact h1,h2,fun inv t e hp ha=>?_⟩
     rw[Cb (Ne.symm Aw)];exact h3 inv t e hp ha) hw
    exact fin (Mem.le.refl G) r1 r2
   |bd s Bo p=>
    obtain⟨Aw,hw⟩:=hw;obtain⟨cur,h1,h2,h3⟩:=Ay
    replace hw:=S0 hw
    obtain⟨σ',Af,r1,r2⟩:=hr.A9 Ub (d:=some d) (sv:=.bd s Bo p) (c:=a.eval (.tmp n)) (fun d' Ua ver _=>by
     cases Ua;refine⟨cur,by rw[List.getElem?_set_ne Aw];exact h1,h2,fun inv t e ha=>?_⟩
     rw[Cb (Ne.symm Aw)];exact h3 inv t e ha) hw
    exact fin (Mem.le.refl G) r1 r2
   |par h=>
    obtain⟨hv,hle⟩:=hr.L7 n ver h hs;rw[Ez (by rw[hr.n];exact Cm)]at hv
    simp only[M.wp]at hw;cases hh:st[h]? with
    |none=>simp[hh]at hw
    |some cur=>
     obtain⟨Bo,C9⟩:=cur;simp only[hh]at hw;obtain⟨Aw,hw⟩:=hw;have Dn:=hr.Bj h Bo C9 hh;rw[←hv]at Dn;split at hw
     ·obtain⟨b,cells,ty,h1,h2,_⟩:=Dn
      replace hw:=S0 hw
      obtain⟨σ',Af,r1,r2⟩:=hr.Amd (d:=some d) Ub hh (by simpa using Aw) rfl h2 hw
      rw[←h1]at r1;exact fin (Mem.le.refl G) r1 r2
     ·exact Amh rfl hw
     ·rename_i inv t;have Cy:Dd G σ w h t (val a w0 h):=by rw[←hv];exact Dn
      have pt:∀{sv:SV},(∀v,sv.fresh v=sv)→(∀h,sv≠ .par h)→(∀inv t,sv≠ .own inv t)→(∀vv:Nat→Value,vv h=val a w0 h→∀σ' Af,Af[h]?=some (Bo,.own inv t)→Df G σ' w Af vv d sv (a.eval (.tmp n)))→(C2 d sv).wp P Q st→o.wp P a w next E:=by
       intro sv hf hp hno Ns hw;obtain⟨σ',Af,r1,r2⟩:=hr.A9 Ub (d:=some d) (c:=a.eval (.tmp n)) (fun d' Ua ver _=>by
        cases Ua;exact Ns _ (Cb (Ne.symm Aw)) _ _ (by rw[List.getElem?_set_ne Aw];exact hh)) (S0 hw hf) (fun _ e=>absurd e (hp _)) hno
       exact fin (Mem.le.refl G) r1 r2
      split at hw
      ·refine pt (sv:=.pd h Bo [0]) (by intro _;rfl) (by intro _ e;cases e) (by intro _ _ e;cases e) (fun vv hvv σ' Af Fi=>⟨_,Fi,Nat.le_refl _,fun J2 t' e _ _=>?_⟩) hw
       cases e;rw[hvv,hv];exact Cy.pt
      ·refine pt (sv:=.bd h Bo []) (by intro _;rfl) (by intro _ e;cases e) (by intro _ _ e;cases e) (fun vv hvv σ' Af Fi=>⟨_,Fi,Nat.le_refl _,fun J2 t' e _=>?_⟩) hw
       cases e;rw[hvv,hv];exact Cy.hd rfl
      ·refine pt (sv:=.bd h Bo []) (by intro _;rfl) (by intro _ e;cases e) (by intro _ _ e;cases e) (fun vv hvv σ' Af Fi=>⟨_,Fi,Nat.le_refl _,fun J2 t' e _=>?_⟩) hw
       cases e;rw[hvv,hv];exact Cy.hd rfl
      ·exact hw.elim
     ·exact hw.elim
   |Kk s k v m=>exact hw.elim
   |W8 _ _=>exact hw.elim
   |bs s v p lo m=>exact hw.elim
   |sub s k v m=>
    obtain⟨cur,h1,h2,h3⟩:=Ay;simp only[M.wp,h1]at hw;obtain⟨hv,hw⟩:=hw;split at hw
    ·rename_i e sz l Ns;split at hw
     ·rename_i Nr;subst Nr;obtain⟨e',Bs,l',h4,h5⟩:=h3 hv;obtain⟨cv,Eh⟩:=cur;simp only at Ns;subst Ns;cases h4;have Ci:=hr.put (d:=s) (ver:=cv+1) (Au s hd) (new:=.vec e sz (l.take m)) (c:=a.eval (.tmp n)) hr.Bm (Mem.le.refl G) h1 (Nat.lt_succ_self _) (fun s' _=>Kept.refl σ w s') h5
      exact fin (Mem.le.refl G) Ci hw
     ·exact Amh rfl hw
    ·exact Amh rfl hw
def A06(d:Nat)(e:TypeId)(sz:Nat)(x:Ar):M:=match x with
 | .t n=>.get n fun _ sv=>match sv with
   | .E0 _ _ _=>M4 e sz (.t n) fun l=>C2 d (.vec e sz l)
   | .sub _ _ _ _=>M4 e sz (.t n) fun l=>C2 d (.vec e sz l)
   |_=>Afs d (.t n)
 |x=>Afs d x
theorem Au7{o:Oper}{d:Nat}{e:TypeId}{sz:Nat}{x:Operand}{x':Ar}(hd:o.dst=some d)(ho:o.op= .move x∨o.op= .assign x)(hx:Ax N x x'=true):Sound P N o (A06 d e sz x'):=by
 intro G σ Fr w0 st a w Q next E hN hr hw hn Au
 subst hN;have asg:(Afs d x').wp P Q st→o.wp P a w next E:=fun hq=>Ake hd ho hx G σ Fr w0 st a w Q next E rfl hr hq hn Au
 cases x' with
 |c y=>exact asg hw
 |Cd e sz=>exact asg hw
 |t n=>
  simp only[A06,M.wp]at hw;cases hs:st[n]? with
  |none=>simp[hs]at hw
  |some cur=>
   simp only[hs]at hw;split at hw
   ·obtain⟨l,σ1,st1,E2,h1,Fw⟩:=Vs hr hx hw;obtain⟨σ',Af,r1,r2⟩:=E2.U9 (w':=w) (row:=none) (Au d hd) ⟨rfl,rfl,rfl,Nat.le_refl _,fun _ _ _=>rfl⟩ (fun b hb=>by cases hb) Fw h1
    exact Bv (Ai4 ho) (by rw[hd];exact hn _ _ _ _ _ (Mem.le.refl G) r1 r2)
   ·obtain⟨l,σ1,st1,E2,h1,Fw⟩:=Vs hr hx hw;obtain⟨σ',Af,r1,r2⟩:=E2.U9 (w':=w) (row:=none) (Au d hd) ⟨rfl,rfl,rfl,Nat.le_refl _,fun _ _ _=>rfl⟩ (fun b hb=>by cases hb) Fw h1
    exact Bv (Ai4 ho) (by rw[hd];exact hn _ _ _ _ _ (Mem.le.refl G) r1 r2)
   ·exact asg hw
def Aq2(d:Option Nat)(str:Bool)(x:Ar):M:=match x with
 | .t n=>.get n fun _ sv=>match sv with
   | .v (.list l)=>.Ba (str=false) fun _=>.fact (l.length≤maxLen) (A9 d (.v (.int .i64 l.length)) .done)
   | .v (.str s)=>.Ba (str=true) fun _=>.fact (s.length≤maxLen) (A9 d (.v (.int .i64 s.length)) .done)
   | .vec _ _ l=>.Ba (str=false) fun _=>.fact (l.length≤maxLen) (A9 d (.v (.int .i64 l.length)) .done)
   | .E0 s k v=>.get s fun cur C9=>.Ba (v=cur∧str=false) fun _=>match C9.Cx k with
     |some (_,_,l)=>.fact (l.length≤maxLen) (A9 d (.v (.int .i64 l.length)) .done)
     |none=>.fail
   | .sub s k v m=>.get s fun cur C9=>.Ba (v=cur∧str=false) fun _=>match C9.Cx k with
     |some (_,_,l)=>.fact ((l.take m).length≤maxLen) (A9 d (.v (.int .i64 (l.take m).length)) .done)
     |none=>.fail
   |_=>.fail
 | .c (.str s)=>.Ba (str=true) fun _=>A9 d (.v (.int .i64 s.length)) .done
 |_=>.fail
def Abu(P:Program)(t:TypeId)(str:Bool):Bool:=match P.underlying t with
 |some .string=>str
 |some (.slice _)=> !str
 |_=>false
theorem Cw.len{Bg:Nat × Nat}{e:TypeId}{sz:Nat}{l:List I}{c:Value}(h:Cw G σ w Bg e sz l c):∃ad cap,c= .slice ad l.length cap∧l.length≤maxLen:=by
 obtain⟨xs,h1,_⟩:=h;rcases h1.2 with⟨rfl,h0⟩|⟨g,cap,cur,rfl,_,_,h3,h4,_⟩
 ·exact⟨none,0,by rw[h0],by rw[h0];exact Nat.zero_le _⟩
 ·exact⟨_,cap,rfl,Nat.le_trans h3 h4⟩
theorem Bb4{o:Oper}{t:TypeId}{x:Operand}{x':Ar}{str:Bool}(ho:o.op= .call {callee:=.builtin .len,args:= #[x],argTypes:= #[t]})(hx:Ax N x x'=true)(ht:Abu P t str=true):
 Sound P N o (Aq2 o.dst str x'):=by
 intro G σ Fr w0 st a w Q next E hN hr hw hn Au
 subst hN;have Ei:str=false→∃e,P.underlying t=some (.slice e):=by
  rintro rfl;unfold Abu at ht;split at ht
  ·cases ht
  ·rename_i e h;exact⟨e,h⟩
  ·cases ht
 have Fi:str=true→P.underlying t=some .string:=by
  rintro rfl;unfold Abu at ht;split at ht
  ·assumption
  ·cases ht
  ·cases ht
 have sl:∀{ad:Option Addr} {n cap:Nat},str=false→a.eval x= .slice ad n cap→(execOp a.eval o).run P w= .ok (.value (.int .i64 n)) w:=by
  intro ad n cap hs he;obtain⟨e,hu⟩:=Ei hs;simp[execOp,ho,resolve,invoke,builtin,Builtin.len_,run_underlying hu,he,goInt]
 have ss:∀{s:List UInt8},str=true→a.eval x= .string ⟨⟨s⟩⟩→(execOp a.eval o).run P w= .ok (.value (.int .i64 s.length)) w:=by
  intro s hs he;have hu:=Fi hs;simp[execOp,ho,resolve,invoke,builtin,Builtin.len_,run_underlying hu,he,goInt];rfl
 cases x' with
 |c i=>
  cases i with
  |str s=>
   obtain⟨h1,h2⟩:=hw;have:=Aq.str.1 (Sy (a:=a) hx G);exact C1 hr hn Au (Aq.int.2 rfl) h2 (ss h1 this.1)
  |_=>exact hw.elim
 |Cd e sz=>exact hw.elim
 |t n=>
  obtain⟨rfl,Cm⟩:=Dm hx;simp only[Aq2,M.wp]at hw;cases hs:st[n]? with
  |none=>simp[hs]at hw
  |some cur=>
   obtain⟨ver,sv⟩:=cur;simp only[hs]at hw;have Ay:=hr.slot Cm hs;split at hw
   ·rename_i l;obtain⟨h1,h2⟩:=hw;have Dn:Aq G (.list l) (a.eval (.tmp n)):=Ay;obtain⟨ad,cap,hc,hl,hm,_⟩:=Aq.list.1 Dn;exact C1 hr hn Au (Aq.int.2 rfl) (h2 (Nat.le_trans hl hm)) (sl h1 hc)
   ·rename_i s;obtain⟨h1,h2⟩:=hw;have Dn:Aq G (.str s) (a.eval (.tmp n)):=Ay;exact C1 hr hn Au (Aq.int.2 rfl) (h2 (Aq.str.1 Dn).2) (ss h1 (Aq.str.1 Dn).1)
   ·obtain⟨h1,h2⟩:=hw;obtain⟨ad,cap,hc,hm⟩:=Cw.len Ay;exact C1 hr hn Au (Aq.int.2 rfl) (h2 hm) (sl h1 hc)
   ·rename_i s k v;obtain⟨cur,g1,g2,g3⟩:=Ay;simp only[M.wp,g1]at hw;obtain⟨⟨hv,h1⟩,h2⟩:=hw;obtain⟨e,sz,l,g4,g5⟩:=g3 hv;simp only[g4]at h2;obtain⟨ad,cap,hc,hm⟩:=Cw.len g5;exact C1 hr hn Au (Aq.int.2 rfl) (h2 hm) (sl h1 hc)
   ·rename_i s k v m;obtain⟨cur,g1,g2,g3⟩:=Ay;simp only[M.wp,g1]at hw;obtain⟨⟨hv,h1⟩,h2⟩:=hw;obtain⟨e,sz,l,g4,g5⟩:=g3 hv;simp only[g4]at h2;obtain⟨ad,cap,hc,hm⟩:=Cw.len g5;exact C1 hr hn Au (Aq.int.2 rfl) (h2 hm) (sl h1 hc)
   ·exact hw.elim
end
end Go.Ab
