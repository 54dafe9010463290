/- Lemmas -/
import Derived.Test.YtkpojedpcabojaaGreatDoorAb8
set_option linter.unusedVariables false
set_option linter.unusedSimpArgs false
namespace Go.Ab
def A5n:I→Value→Bool
 | .list [],.slice none 0 0=>true
 |x,c=>cOk x c
mutual
def zI:I→List Value→Option (List Value)
 | .agg l,cs=>zIs l cs
 | .arr sz l,cs=>if l.all (fun x=>x.size==sz)then zIs l cs else none
 |x,c::cs=>if A5n x c then some cs else none
 |_,[]=>none
def zIs:List I→List Value→Option (List Value)
 | [],cs=>some cs
 |x::l,cs=>match zI x cs with
  |some cs=>zIs l cs
  |none=>none
end
def zF:F→List Value→Option (List Value)
 | .i x,cs=>zI x cs
 | .vec _ _ [],.slice none 0 0::cs=>some cs
 |_,_=>none
def zFs:List F→List Value→Option (List Value)
 | [],cs=>some cs
 |f::fs,cs=>match zF f cs with
  |some cs=>zFs fs cs
  |none=>none
def zT:T→List Value→Bool
 | .one f,cs=>match zF f cs with
   |some []=>true
   |_=>false
 | .st fs,cs=>match zFs fs cs with
   |some []=>true
   |_=>false
theorem Q8{x:I}{c:Value}(h:A5n x c=true)(hx:x.isAgg=false)(G:Mem):Bi G x [c]:=by
 unfold A5n at h;split at h
 ·exact⟨none,0,rfl,Ay _,by simp[maxLen],.inl rfl⟩
 ·have:=A02 h G;unfold Bb at this;rwa [if_neg (by simp[hx])]at this
mutual
theorem Abx(G:Mem):∀(x:I) (cs rest:List Value),zI x cs=some rest→∃c,cs=c++rest∧Bi G x c
 | .agg l,cs,rest,h=>by
   simp only[zI]at h;obtain⟨c,e,h⟩:=Ajz G l cs rest h;exact⟨c,e,h⟩
 | .arr sz l,cs,rest,h=>by
   simp only[zI]at h;split at h
   ·rename_i hl;obtain⟨c,e,h⟩:=Ajz G l cs rest h;refine⟨c,e,h,fun x hx=>?_⟩
    simpa using Ew.1 hl x hx
   ·cases h
 | .Ln,cs,rest,h=>by
   cases cs with
   |nil=>simp[zI]at h
   |cons c cs=>simp[zI,A5n,cOk]at h
 | .int k n,cs,rest,h=>by
   cases cs with
   |nil=>simp[zI]at h
   |cons c cs=>
    simp only[zI]at h;split at h
    ·rename_i hz;cases h;exact⟨[c],rfl,Q8 hz rfl G⟩
    ·cases h
 | .Ra,cs,rest,h=>by
   cases cs with
   |nil=>simp[zI]at h
   |cons c cs=>
    simp only[zI]at h;split at h
    ·rename_i hz;cases h;exact⟨[c],rfl,Q8 hz rfl G⟩
    ·cases h
 | .Aiy,cs,rest,h=>by
   cases cs with
   |nil=>simp[zI]at h
   |cons c cs=>
    simp only[zI]at h;split at h
    ·rename_i hz;cases h;exact⟨[c],rfl,Q8 hz rfl G⟩
    ·cases h
 | .bool b,cs,rest,h=>by
   cases cs with
   |nil=>simp[zI]at h
   |cons c cs=>
    simp only[zI]at h;split at h
    ·rename_i hz;cases h;exact⟨[c],rfl,Q8 hz rfl G⟩
    ·cases h
 | .str s,cs,rest,h=>by
   cases cs with
   |nil=>simp[zI]at h
   |cons c cs=>
    simp only[zI]at h;split at h
    ·rename_i hz;cases h;exact⟨[c],rfl,Q8 hz rfl G⟩
    ·cases h
 | .list l,cs,rest,h=>by
   cases cs with
   |nil=>simp[zI]at h
   |cons c cs=>
    simp only[zI]at h;split at h
    ·rename_i hz;cases h;exact⟨[c],rfl,Q8 hz rfl G⟩
    ·cases h
 | .fn f,cs,rest,h=>by
   cases cs with
   |nil=>simp[zI]at h
   |cons c cs=>
    simp only[zI]at h;split at h
    ·rename_i hz;cases h;exact⟨[c],rfl,Q8 hz rfl G⟩
    ·cases h
 | .clo f Afa,cs,rest,h=>by
   cases cs with
   |nil=>simp[zI]at h
   |cons c cs=>
    simp only[zI]at h;split at h
    ·rename_i hz;cases h;exact⟨[c],rfl,Q8 hz rfl G⟩
    ·cases h
 | .Afo,cs,rest,h=>by
   cases cs with
   |nil=>simp[zI]at h
   |cons c cs=>
    simp only[zI]at h;split at h
    ·rename_i hz;cases h;exact⟨[c],rfl,Q8 hz rfl G⟩
    ·cases h
 | .ifc t x,cs,rest,h=>by
   cases cs with
   |nil=>simp[zI]at h
   |cons c cs=>simp[zI,A5n,cOk]at h
theorem Ajz(G:Mem):∀(l:List I) (cs rest:List Value),zIs l cs=some rest→∃c,cs=c++rest∧B4 G l c
 | [],cs,rest,h=>by simp only[zIs,Af]at h;subst h;exact⟨[],rfl,rfl⟩
 |x::l,cs,rest,h=>by
  simp only[zIs]at h;cases hx:zI x cs with
  |none=>simp[hx]at h
  |some Jw=>
   simp only[hx]at h;obtain⟨c,e,h1⟩:=Abx G x cs Jw hx;obtain⟨d,e',h2⟩:=Ajz G l Jw rest h;exact⟨c++d,by rw[e,e',A8],c,d,rfl,h1,h2⟩
end
theorem A88(G:Mem)(σ:Lab)(w:World)(Ca:Nat × Nat){f:F}{cs rest:List Value}(h:zF f cs=some rest):∃c,cs=c++rest∧S6 G σ w Ca f c:=by
 unfold zF at h;split at h
 ·exact Abx G _ _ _ h
 ·cases h;exact⟨[_],rfl,_,rfl,[],Lx.nil w _ _,rfl,by simp,by simp[Value.ownBlock]⟩
 ·cases h
theorem A5k(G:Mem)(σ:Lab)(w:World)(s:Nat):∀{fs:List F} {j:Nat} {cs rest:List Value},zFs fs cs=some rest→∃c,cs=c++rest∧Gw G σ w s j fs c
 | [],_,cs,rest,h=>by simp only[zFs,Af]at h;subst h;exact⟨[],rfl,rfl⟩
 |f::fs,j,cs,rest,h=>by
  simp only[zFs]at h;cases hx:zF f cs with
  |none=>simp[hx]at h
  |some Jw=>
   simp only[hx]at h;obtain⟨c,e,h1⟩:=A88 G σ w (s,j+1) hx;obtain⟨d,e',h2⟩:=A5k G σ w s (j:=j+1) h;exact⟨c++d,by rw[e,e',A8],c,d,rfl,h1,h2⟩
theorem Bos(G:Mem)(σ:Lab)(w:World)(s:Nat){t:T}{cs:List Value}(h:zT t cs=true):Avw G σ w s t cs:=by
 unfold zT at h;split at h
 ·split at h
  ·rename_i f _ hz;obtain⟨c,e,h1⟩:=A88 G σ w (s,1) hz;rw[Dk]at e;rw[e];exact h1
  ·cases h
 ·split at h
  ·rename_i fs _ hz;obtain⟨c,e,h1⟩:=A5k G σ w s (j:=0) hz;rw[Dk]at e;rw[e];exact h1
  ·cases h
def A5o(P:Program)(t:TypeId)(x:T):Bool:=match P.info? t with
 |some i=>match i.zero with
  |some z=>zT x z.cells.toList
  |none=>false
 |none=>false
section
variable{P:Program}{N:Nat}{G:Mem}{σ:Lab}{Fr:Mem}{w0:Base}{w:World}{st:St}{a:Act}
theorem A6u{o:Oper}{t:TypeId}{x y:Operand}{x' y':Bh}{agg:Bool}{sz:Nat}(hd:o.dst=none)(ho:o.op= .store t x y)(hx:Bu N x x'=true)(hy:Bu N y y'=true)(ht:Mq P t agg sz=true):
 Sound P N o (A4p sz x' y'):=by
 intro G σ Fr w0 st a w Q next E hN hr hw hn A9
 subst hN;obtain⟨u,G',σ',st',hG,D2,h1,hv⟩:=Se hr hy hw;rcases Arx D2 hx h1 with⟨s,k,ver,off,r,cur,h2,hs,hp⟩|⟨u,h2,hp⟩
 ·by_cases Qm:ver=cur.1
  ·obtain⟨b,hb,hpp⟩:=hp Qm;obtain⟨_,w',Qj,Nx,Ez,A2m,hq⟩:=A3v (agg:=agg) D2 hs (fun _=>hb) ht hv h2
   refine Abj (w':=w') ?_ ?_
   ·simp[execOp,ho,hpp,Instr.storeAt,Instr.sureAddr,Ez]
   ·rw[hd];exact hn G' Qj Nx _ w' hG A2m hq
  ·simp only[Apa,M.wp,hs]at h2;exact absurd h2.1 Qm
 ·exact h2.elim
def Lab.new(σ:Lab)(b:Nat)(Ca:Nat × Nat):Lab:=fun b'=>if b'=b then some Ca else σ b'
theorem Lab.Arr{b:Nat}{Ca:Nat × Nat}:σ.new b Ca b=some Ca:=by simp[Lab.new]
theorem Lab.Ao8{b b':Nat}{Ca Tb:Nat × Nat}(hb:b'≠b)(h:σ b'=some Tb):σ.new b Ca b'=some Tb:=by simp[Lab.new,hb,h]
theorem Gc.grow(h:Gc G σ Fr w0 w){w':World}(hos:w'.os=w.os)(ht:w'.tape=w.tape)(Aae:w'.output=w.output)(Cq:w.heap.size≤w'.heap.size)
 (hold:∀b,b<w.heap.size→w'.heap[b]?=w.heap[b]?):Gc G σ Fr w0 w':=by
 have lt:∀{b:Nat} {o:Obj},w.heap[b]?=some o→b<w.heap.size:=fun h=>(C3.1 h).1
 refine⟨?_,?_,h.inj,?_,hos.trans h.os,ht.trans h.tape,Aae.trans h.output,C2 h.size Cq,h.apart,h.Mv⟩
 ·intro b o hb;have:=h.fixed b o hb;rw[hold b (lt this)];exact this
 ·intro b Ca hb;obtain⟨h1,h2,h3⟩:=h.own b Ca hb;exact⟨h1,h2,by omega⟩
 ·intro b o hb;have:=h.frame b o hb;rw[hold b (lt this)];exact this
theorem Gc.new{b:Nat}{Ca:Nat × Nat}(h:Gc G σ Fr w0 w)(h1:G b=none)(h2:Fr b=none)(h3:b<w.heap.size)(h4:∀b',σ b'≠some Ca):Gc G (σ.new b Ca) Fr w0 w:=by
 refine⟨h.fixed,?_,?_,h.frame,h.os,h.tape,h.output,h.size,h.apart,h.Mv⟩
 ·intro b' Tb Dc;unfold Lab.new at Dc;split at Dc
  ·rename_i e;subst e;exact⟨h1,h2,h3⟩
  ·exact h.own b' Tb Dc
 ·intro b1 b2 Tb Jx Ku;unfold Lab.new at Jx Ku;split at Jx<;>split at Ku
  ·rename_i e1 e2;rw[e1,e2]
  ·cases Jx;exact absurd Ku (h4 b2)
  ·cases Ku;exact absurd Jx (h4 b1)
  ·exact h.inj b1 b2 Tb Jx Ku
theorem Gc.fresh(h:Gc G σ Fr w0 w){b:Nat}(hb:w.heap.size≤b):G b=none∧Fr b=none∧σ b=none:=by
 have lt:∀{o:Obj},w.heap[b]?=some o→False:=fun h=>by have:=(C3.1 h).1;omega
 refine⟨?_,?_,?_⟩
 ·cases hg:G b with
  |none=>rfl
  |some o=>exact(lt (h.fixed b o hg)).elim
 ·cases hg:Fr b with
  |none=>rfl
  |some o=>exact(lt (h.frame b o hg)).elim
 ·cases hg:σ b with
  |none=>rfl
  |some Ca=>have:=(h.own b Ca hg).2.2;omega
theorem M3(w:World)(o:Obj)(b:Nat)(h:b<w.heap.size):(w.alloc o).heap[b]?=w.heap[b]?:=by
 show(w.heap.push o)[b]?=w.heap[b]?;rw[J1,if_neg (Nat.ne_of_lt h)]
theorem Fa.Mk{G':Mem}{σ':Lab}{w':World}{vv:Nat→Value}{s:Nat}{sv:SV}{c:Value}(h:Fa G σ w st vv s sv c)(hG:G.le G')(hk:∀s',Kept σ σ' w w' s')
 (Jd:∀s ver sv,st[s]?=some (ver,sv)→Fa G σ w st vv s sv (vv s)):Fa G' σ' w' st vv s sv c:=by
 cases sv with
 |Km s' k Cn=>
  obtain⟨cur,h1,h2,h3⟩:=h;refine⟨cur,h1,h2,fun e=>?_⟩
  obtain⟨e,sz,l,h4,h5⟩:=h3 e;exact⟨e,sz,l,h4,h5.tr hG fun b hb=>hk s' b k hb⟩
 |sub s' k Cn n=>
  obtain⟨cur,h1,h2,h3⟩:=h;refine⟨cur,h1,h2,fun e=>?_⟩
  obtain⟨e,sz,l,h4,h5⟩:=h3 e;exact⟨e,sz,l,h4,h5.tr hG fun b hb=>hk s' b k hb⟩
 |Q2 s' k Cn n=>
  obtain⟨cur,h1,h2,h3⟩:=h;refine⟨cur,h1,h2,fun e=>?_⟩
  obtain⟨e,sz,l,c0,h4,h5,h6⟩:=h3 e;exact⟨e,sz,l,c0,h4,h5.tr hG fun b hb=>hk s' b k hb,h6⟩
 |pt s' k Cn off r=>
  obtain⟨cur,h1,h2,h3⟩:=h;refine⟨cur,h1,h2,fun e=>?_⟩
  obtain⟨b,h4,h5⟩:=h3 e;exact⟨b,(hk s' b k h4).1,h5⟩
 |Lv s' Cn p b=>
  obtain⟨c0,Gq,h⟩:=h;obtain⟨cur,h1,h2,h3⟩:=h;refine⟨c0,Gq,?_⟩;refine⟨cur,h1,h2,fun inv t e hp ha=>?_⟩
  obtain⟨v,Ek⟩:=cur;simp only at e;subst e;exact(h3 inv t rfl hp ha).tr (show Dr G σ w s' t (vv s')from Jd s' v _ h1) (hk s')
 |pd s' Cn p=>
  obtain⟨cur,h1,h2,h3⟩:=h;refine⟨cur,h1,h2,fun inv t e hp ha=>?_⟩
  obtain⟨v,Ek⟩:=cur;simp only at e;subst e;exact(h3 inv t rfl hp ha).tr (show Dr G σ w s' t (vv s')from Jd s' v _ h1) (hk s')
 |bs s' Cn p lo n=>
  obtain⟨cur,h1,h2,h3⟩:=h;refine⟨cur,h1,h2,fun e0 inv t e=>?_⟩
  obtain⟨v,Ek⟩:=cur;simp only at e;subst e;exact⟨(h3 e0 inv t rfl).1,(h3 e0 inv t rfl).2.tr (show Dr G σ w s' t (vv s')from Jd s' v _ h1) (hk s')⟩
 |Qg f s' Cn p=>
  obtain⟨g,c0,ty,kk,Gq,Le,Kh,h⟩:=h;obtain⟨cur,h1,h2,h3⟩:=h;have La:=hk s g kk Le;refine⟨g,c0,ty,kk,Gq,La.1,by rw[La.2];exact Kh,?_⟩
  refine⟨cur,h1,h2,fun inv t e ha=>?_⟩
  obtain⟨v,Ek⟩:=cur;simp only at e;subst e;exact(h3 inv t rfl ha).tr (show Dr G σ w s' t (vv s')from Jd s' v _ h1) (hk s')
 |bp s' Cn p=>
  obtain⟨g,c0,ty,kk,Gq,Le,Kh,h⟩:=h;obtain⟨cur,h1,h2,h3⟩:=h;have La:=hk s g kk Le;refine⟨g,c0,ty,kk,Gq,La.1,by rw[La.2];exact Kh,?_⟩
  refine⟨cur,h1,h2,fun inv t e hp ha=>?_⟩
  obtain⟨v,Ek⟩:=cur;simp only at e;subst e;exact(h3 inv t rfl hp ha).tr (show Dr G σ w s' t (vv s')from Jd s' v _ h1) (hk s')
 |Px fb yb s' Cn p=>
  obtain⟨gb,xb,tb,kb,Jx,Ku,Nq,h⟩:=h;obtain⟨g,c0,ty,kk,Gq,Le,Kh,h⟩:=h;obtain⟨cur,h1,h2,h3⟩:=h;have La:=hk s g kk Le;have hbk:=hk s gb kb Jx;refine⟨gb,xb,tb,kb,hbk.1,by rw[hbk.2];exact Ku,(by first|exact Bi.mono hG yb _ Nq|exact Nq),?_⟩
  refine⟨g,c0,ty,kk,Gq,La.1,by rw[La.2];exact Kh,?_⟩
  refine⟨cur,h1,h2,fun inv t e hp ha=>?_⟩
  obtain⟨v,Ek⟩:=cur;simp only at e;subst e;exact(h3 inv t rfl hp ha).tr (show Dr G σ w s' t (vv s')from Jd s' v _ h1) (hk s')
 |bd s' Cn p=>
  obtain⟨cur,h1,h2,h3⟩:=h;refine⟨cur,h1,h2,fun inv t e ha=>?_⟩
  obtain⟨v,Ek⟩:=cur;simp only at e;subst e;exact(h3 inv t rfl ha).tr (show Dr G σ w s' t (vv s')from Jd s' v _ h1) (hk s')
 |cl f fs cs=>exact h
 |al s' Cn=>exact h
 |_=>
  rw[Fa.own rfl]at h ⊢;exact Dx.tr h hG fun b k hb=>hk s b k hb
theorem Rel.grow(h:Rel G σ Fr w0 st a w){w':World}(hos:w'.os=w.os)(ht:w'.tape=w.tape)(Aae:w'.output=w.output)(Cq:w.heap.size≤w'.heap.size)
 (hold:∀b,b<w.heap.size→w'.heap[b]?=w.heap[b]?):Rel G σ Fr w0 st a w':=
 ⟨h.Bz.grow hos ht Aae Cq hold,h.defers,h.n,h.len,fun s ver sv hs=>(h.Bj s ver sv hs).Mk (Mem.le.refl G) (fun s' b k hb=>⟨hb,hold b (h.Bz.own b _ hb).2.2⟩) h.Bj,h.Nv⟩
theorem Rel.drew(h:Rel G σ Fr w0 st a w):Rel G σ Fr w0 st a w.drew:=h.grow rfl rfl rfl (Ay _) fun _ _=>rfl
def Eo(d:Nat)(sv:SV):M:=.get d fun ver _=>.set d (ver+1) (sv.fresh (ver+1)) .done
theorem Rel.Yu{Q:St→Prop}{d:Nat}{sv:SV}{c:Value}{o:Obj}(h:Rel G σ Fr w0 st a w)(Up:d<w0.n)(hr:sv.root=none)(hnp:∀h,sv≠ .par h)
 (Nr:∀σ',(∀b Ca,Ca.1≠d→σ b=some Ca→σ' b=some Ca)→σ' w.heap.size=some (d,0)→Dx G σ' (w.alloc o) d sv c) (hq:(Eo d sv).wp P Q st):
 ∃σ' st',Rel G σ' Fr w0 st' (a.put (some d) c) (w.alloc o)∧Q st':=by
 have A97:Gc G σ Fr w0 (w.alloc o):=h.Bz.grow rfl rfl rfl (by simp) fun b hb=>M3 w _ b hb
 simp only[Eo,M.wp]at hq;cases hd:st[d]? with
 |none=>simp[hd]at hq
 |some cur=>
  simp only[hd]at hq;obtain⟨f1,f2,f3⟩:=h.Bz.fresh (Ay w.heap.size);have Dj:Gc G ((σ.drop d).new w.heap.size (d,0)) Fr w0 (w.alloc o):=
   (A97.drop d).new f1 f2 (by simp) fun b' Dc=>(Lab.D1.1 Dc).1 rfl
  refine⟨_,_,h.put Up Dj (Mem.le.refl G) hd (Bk _) ?_ ?_ (fun h e=>absurd (Amq.1 e) (hnp h)) W0,hq⟩
  ·intro s' Hf b k hb;have Di:=(h.Bz.own b _ hb).2.2;exact⟨Lab.Ao8 (by omega) (Lab.D1.2 ⟨Hf,hb⟩),M3 w _ b Di⟩
  ·rw[Fa.own (by rw[Aia];exact hr),Amr]
   refine Nr _ ?_ Lab.Arr;rintro b ⟨s',k⟩ Hf hb;have Di:=(h.Bz.own b _ hb).2.2;exact Lab.Ao8 (by omega) (Lab.D1.2 ⟨Hf,hb⟩)
def Ayh(d:Nat)(t:T):M:=Eo d (.box t)
theorem A6g{o:Oper}{e:TypeId}{d:Nat}{t:T}(hd:o.dst=some d)(ho:o.op= .alloc e)(hz:A5o P e t=true):Sound P N o (Ayh d t):=by
 intro G σ Fr w0 st a w Q next E hN hr hw hn A9
 subst hN;unfold A5o at hz;split at hz
 ·rename_i i hi;split at hz
  ·rename_i z hzv;obtain⟨σ',st',h1,h2⟩:=hr.Yu (A9 d hd) (sv:=.box t) (o:=.cells z.cells e) (c:=.pointer (some ⟨w.heap.size,0,none⟩)) rfl (by intro _ e;cases e)
    (fun σ' _ hb=>⟨_,z.cells,e,rfl,hb,heap_alloc_new w _,Bos _ _ _ _ hz⟩) hw
   refine Df (w':=w.alloc (.cells z.cells e)) ?_ (by rw[hd];exact hn G σ' st' _ _ (Mem.le.refl G) h1 h2)
   simp[execOp,ho,Instr.alloc,zeroValue,typeInfo,hi,hzv,newVar,newRow]
  ·cases hz
 ·cases hz
def Bgh(d:Nat)(x:Bh):M:=Q5 x fun u=>Eo d (.box (.one (.i u)))
theorem Bgs{o:Oper}{e:TypeId}{d:Nat}{x:Operand}{x':Bh}(hd:o.dst=some d)(ho:o.op= .box e x)(hx:Bu N x x'=true):Sound P N o (Bgh d x'):=by
 intro G σ Fr w0 st a w Q next E hN hr hw hn A9
 subst hN;obtain⟨u,G',σ',st',hG,D2,h1,hv⟩:=Se hr hx hw;obtain⟨Qj,Nx,h2,h3⟩:=D2.Yu (A9 d hd) (sv:=.box (.one (.i u))) (o:=.cells (a.eval x).cells e) (c:=.pointer (some ⟨w.heap.size,0,none⟩)) rfl (by intro _ e;cases e)
  (fun σ' _ hb=>⟨_,_,e,rfl,hb,heap_alloc_new w _,hv.cells⟩) h1
 refine Df (w':=w.alloc (.cells (a.eval x).cells e)) ?_ (by rw[hd];exact hn G' Qj Nx _ _ hG h2 h3)
 simp[execOp,ho,Instr.box,newVar,newRow]
def A4e(d:Option Nat)(x:Bh)(i off:Nat):M:=rdP x (fun s k ver o r=>.Co (d≠some s) fun _=>.get s fun cur _=>.Co (ver=cur) fun _=>Ci d (.pt s k ver (o+off) (r++[i])) .done)
 (fun y=>match y with
   | .agg l=>match l[i]? with
     |some u=>.Co (sizes (l.take i)=off) fun _=>Ci d (.rp u) .done
     |none=>.fail
   |_=>.fail)
def Aga(P:Program)(t:TypeId)(i off:Nat):Bool:=match P.underlying t with
 |some (.struct fs)=>match fs[i]? with
  |some f=>f.offset==off&&match P.info? f.type with
   |some j=>j.size != 0
   |none=>false
  |none=>false
 |_=>false
theorem Afb{t:TypeId}{i off b o:Nat}(h:Aga P t i off=true)(w:World):
 (Instr.fieldAt t (.pointer (some ⟨b,o,none⟩)) i).run P w= .ok (.pointer (some ⟨b,o+off,none⟩)) w:=by
 unfold Aga at h;split at h
 ·rename_i fs hu;split at h
  ·rename_i f hf;simp only[Ad,beq_iff_eq]at h;obtain⟨rfl,h⟩:=h;split at h
   ·rename_i j hj;have hj0:j.size≠0:=by simpa using h
    simp[Instr.fieldAt,run_underlying hu,hf,Instr.sureAddr,fieldPlace,sizeOf,typeInfo,hj,hj0,add_lit]
   ·cases h
  ·cases h
 ·cases h
theorem Rel.Au1{Q:St→Prop}{d:Option Nat}{s k ver off b:Nat}{r:List Nat}{cur:Nat × SV}(hr:Rel G σ Fr w0 st a w)(hdb:∀d',d=some d'→d'<w0.n)(hs:st[s]?=some cur)(A2:d≠some s)(Qm:ver=cur.1)(hb:σ b=some (s,k))
 (hq:(Ab.Ci d (.pt s k ver off r) .done).wp P Q st):∃σ' st',Rel G σ' Fr w0 st' (a.put d (.pointer (some ⟨b,off,none⟩))) w∧Q st':=
 hr.Ci hdb (sv:=.pt s k ver off r) (c:=.pointer (some ⟨b,off,none⟩)) (fun d' hd Cn _=>by
  refine⟨cur,?_,by omega,fun _=>⟨b,Lab.D1.2 ⟨by rintro rfl;exact A2 hd,hb⟩,rfl⟩⟩
  rw[Az (by rintro rfl;exact A2 hd)];exact hs) hq
theorem A6j{o:Oper}{t:TypeId}{x:Operand}{x':Bh}{i off:Nat}(ho:o.op= .fieldAddr t x i)(hx:Bu N x x'=true)(ht:Aga P t i off=true):
 Sound P N o (A4e o.dst x' i off):=by
 intro G σ Fr w0 st a w Q next E hN hr hw hn A9
 subst hN;rcases Arx hr hx hw with⟨s,k,ver,of,r,cur,h1,hs,hp⟩|⟨u,h1,hp⟩
 ·simp only[M.wp,hs]at h1;obtain⟨A2,Qm,h1⟩:=h1;obtain⟨b,hb,hpp⟩:=hp Qm;obtain⟨σ',st',r1,r2⟩:=hr.Au1 A9 hs A2 Qm hb h1;refine Df (w':=w) ?_ (hn G σ' st' _ w (Mem.le.refl G) r1 r2);simp[execOp,ho,hpp,Afb ht]
 ·split at h1
  ·rename_i l;split at h1
   ·rename_i u hu;obtain⟨rfl,h1⟩:=h1;obtain⟨b,of,bl,ty,fz,pre,cs,post,p1,p2,p3,p4,p5⟩:=hp;obtain⟨c1,c,c2,e1,e2,e3,_⟩:=B4.nth i p5 hu;obtain⟨σ',st',r1,r2⟩:=hr.Ci A9 (sv:=.rp u) (c:=.pointer (some ⟨b,of+sizes (l.take i),none⟩))
     (fun _ _ _ _=>⟨b,_,bl,ty,fz,pre++c1,c,c2++post,rfl,p2,by simp[p3,e1],by simp[p4,e2],e3⟩) h1
    refine Df (w':=w) ?_ (hn G σ' st' _ w (Mem.le.refl G) r1 r2);simp[execOp,ho,p1,Afb ht]
   ·exact h1.elim
  ·exact h1.elim
def Uk(P:Program)(t:TypeId)(sz:Nat):Bool:=match P.underlying t with
 |some (.slice e)=>match P.info? e with
  |some i=>i.size==sz&&sz != 0
  |none=>false
 |_=>false
def A4f(d:Option Nat)(sz:Nat)(x i:Bh):M:=Qi i fun n=>match n with
 | .int _ n=>match x with
   | .t m=>.get m fun ver sv=>match sv with
     | .v (.list l)=>match l[n.toNat]? with
       |some u=>.Co (0≤n∧u.size=sz) fun _=>Ci d (.rp u) .done
       |none=>.fail
     | .vec _ Ex l=>.Co (0≤n∧n.toNat<l.length∧Ex=sz∧d≠some m) fun _=>Ci d (.pt m 0 ver (n.toNat*sz) [n.toNat]) .done
     | .Km s k ver=>.get s fun cur Ek=>.Co (ver=cur) fun _=>match Ek.Fu k with
       |some (_,Ex,l)=>.Co (0≤n∧n.toNat<l.length∧Ex=sz∧d≠some s) fun _=>Ci d (.pt s k ver (n.toNat*sz) [n.toNat]) .done
       |none=>.fail
     |_=>.fail
   |_=>.fail
 |_=>.fail
theorem Afe{t:TypeId}{sz b off len cap:Nat}{k:IntKind}{n:Int}(h:Uk P t sz=true)(w:World)(h0:0≤n)(h1:n.toNat<len):
 (Instr.indexAt t (.slice (some ⟨b,off,none⟩) len cap) (.int k n)).run P w= .ok (.pointer (some ⟨b,off+n.toNat*sz,none⟩)) w:=by
 unfold Uk at h;split at h
 ·rename_i e hu;split at h
  ·rename_i i hi;simp only[Ad,beq_iff_eq]at h;have hn:0≤n∧n<(len:Int):=⟨h0,by omega⟩
   simp[Instr.indexAt,asIntOf,run_underlying hu,hn,sizeOf,typeInfo,hi,h.1,add_lit]
  ·cases h
 ·cases h
theorem Bb.list{l:List I}{c:Value}:Bb G (.list l) c↔∃a cap,c= .slice a l.length cap∧l.length≤cap∧cap≤maxLen∧
 (l=[]∨∃b off bl ty fz sz,a=some ⟨b,off,none⟩∧G b=some (.cells bl ty fz)∧(∀x∈l,x.size=sz)∧
   off+l.length*sz≤bl.size∧B4 G l ((bl.toList.drop off).take (l.length*sz))):=by
 unfold Bb;rw[if_neg (by simp[I.isAgg])]
 simp only[Bi,Em,and_true]
theorem A6k{o:Oper}{t:TypeId}{x i:Operand}{x' i':Bh}{sz:Nat}(ho:o.op= .indexAddr t x i)(hx:Bu N x x'=true)(hi:Bu N i i'=true)(ht:Uk P t sz=true):
 Sound P N o (A4f o.dst sz x' i'):=by
 intro G σ Fr w0 st a w Q next E hN hr hw hn A9
 subst hN;obtain⟨n,h1,hnv⟩:=Hs hr hi hw;clear hw;split at h1
 ·rename_i k n;rw[Bb.int]at hnv;cases x' with
  |t m=>
   obtain⟨rfl,Ej⟩:=Gb hx;simp only[M.wp]at h1;cases hs:st[m]? with
   |none=>simp[hs]at h1
   |some cur=>
    obtain⟨ver,sv⟩:=cur;simp only[hs]at h1;have Ba:=hr.slot Ej hs;have run:∀{b off len cap:Nat},a.eval (.tmp m)= .slice (some ⟨b,off,none⟩) len cap→0≤n→n.toNat<len→
     (execOp a.eval o).run P w= .ok (.value (.pointer (some ⟨b,off+n.toNat*sz,none⟩))) w:=by
     intro b off len cap he h0 hl;simp[execOp,ho,he,hnv,Afe ht w h0 hl]
    split at h1
    ·rename_i l;split at h1
     ·rename_i u hu;obtain⟨⟨h0,rfl⟩,h1⟩:=h1;have Di:n.toNat<l.length:=(Ak.1 hu).1;obtain⟨ad,cap,hc,_,_,he⟩:=Bb.list.1 Ba;rcases he with he|⟨b,off,bl,ty,fz,sz,rfl,hg,Cq,hle,D2⟩
      ·subst he;simp at Di
      ·have Bxn:=Cq u (Aw hu);subst Bxn;obtain⟨c1,c,c2,e1,e2,e3,_⟩:=B4.nth n.toNat D2 hu;have Bai:sizes (l.take n.toNat)=n.toNat*u.size:=by
        rw[Ht (sz:=u.size) fun z hz=>Cq z (C6 hz),Ck,Da (Nat.le_of_lt Di)]
       have hbl:bl.toList=(bl.toList.take off++c1)++c++(c2++(bl.toList.drop off).drop (l.length*u.size)):=by
        have h2:=B3 off bl.toList;have h3:=B3 (l.length*u.size) (bl.toList.drop off);rw[e1]at h3
        calc bl.toList=bl.toList.take off++bl.toList.drop off:=h2.symm
         _=bl.toList.take off++(c1++c++c2++(bl.toList.drop off).drop (l.length*u.size)):=by rw[h3]
         _=_:=by simp
       have Boc:(bl.toList.take off).length=off:=by
        rw[Ck,Da];have:bl.toList.length=bl.size:=by simp
        omega
       obtain⟨σ',st',r1,r2⟩:=hr.Ci A9 (sv:=.rp u) (c:=.pointer (some ⟨b,off+n.toNat*u.size,none⟩))
        (fun _ _ _ _=>⟨b,_,bl,ty,fz,bl.toList.take off++c1,c,_,rfl,hg,hbl,by rw[Cw,Boc,e2,Bai],e3⟩) h1
       exact Df (w':=w) (run hc h0 Di) (hn G σ' st' _ w (Mem.le.refl G) r1 r2)
     ·exact h1.elim
    ·rename_i e Ex l;obtain⟨⟨h0,Di,rfl,A2⟩,h1⟩:=h1;have Kc:∃b,σ b=some (m,0)∧∃cap,a.eval (.tmp m)= .slice (some ⟨b,0,none⟩) l.length cap:=by
      obtain⟨xs,k1,k2,k3,k4⟩:=Ba;rcases k1.2 with⟨hc,hz⟩|⟨g,cap,cur,hc,_⟩
      ·omega
      ·exact⟨g,k4 g (by rw[hc];rfl),cap,hc⟩
     obtain⟨b,hb,cap,hc⟩:=Kc;obtain⟨σ',st',r1,r2⟩:=hr.Au1 A9 hs A2 rfl hb h1;refine Df (w':=w) ?_ (hn G σ' st' _ w (Mem.le.refl G) r1 r2);have:=run hc h0 Di;rwa [Bm]at this
    ·rename_i s kk Cn;obtain⟨cur,g1,g2,g3⟩:=Ba;simp only[M.wp,g1]at h1;obtain⟨hv,h1⟩:=h1;obtain⟨e,Ex,l,g4,g5⟩:=g3 hv;simp only[g4,M.wp]at h1;obtain⟨⟨h0,Di,rfl,A2⟩,h1⟩:=h1;have Kc:∃b,σ b=some (s,kk)∧∃cap,a.eval (.tmp m)= .slice (some ⟨b,0,none⟩) l.length cap:=by
      obtain⟨xs,k1,k2,k3,k4⟩:=g5;rcases k1.2 with⟨hc,hz⟩|⟨g,cap,cur,hc,_⟩
      ·omega
      ·exact⟨g,k4 g (by rw[hc];rfl),cap,hc⟩
     obtain⟨b,hb,cap,hc⟩:=Kc;obtain⟨σ',st',r1,r2⟩:=hr.Au1 A9 g1 A2 hv hb h1;refine Df (w':=w) ?_ (hn G σ' st' _ w (Mem.le.refl G) r1 r2);have:=run hc h0 Di;rwa [Bm]at this
    ·exact h1.elim
  |_=>exact h1.elim
 ·exact h1.elim
end

def SV.U8:SV→Nat→SV
 | .vec _ _ _,0=>.no
 | .box (.one (.vec _ _ _)),1=>.box (.one (.i .Ln))
 | .box (.st fs),j+1=>match fs[j]? with
   |some (.vec _ _ _)=>.box (.st (fs.set j (.i .Ln)))
   |_=>.box (.st fs)
 |sv,_=>sv
section
variable{P:Program}{N:Nat}{G:Mem}{σ:Lab}{Fr:Mem}{w0:Base}{w:World}{st:St}{a:Act}
theorem Gc.Sk(h:Gc G σ Fr w0 w)(Ca:Nat × Nat):Gc G (σ.Sk Ca) Fr w0 w:=
 ⟨h.fixed,fun b l hb=>h.own b l (Lab.J0.1 hb).2,fun b b' l hb Dc=>h.inj b b' l (Lab.J0.1 hb).2 (Lab.J0.1 Dc).2,h.frame,h.os,h.tape,h.output,h.size,h.apart,h.Mv⟩
theorem Fg.one{Ca:Nat × Nat}{e:TypeId}{sz:Nat}{l:List I}{c:Value}(h:Fg G σ w Ca e sz l c):c.oneCell'=true:=by
 obtain⟨xs,h1,_⟩:=h;rcases h1.2 with⟨rfl,_⟩|⟨g,cap,cur,rfl,_⟩<;>rfl
theorem Rel.U8{s k ver Cn:Nat}{sv:SV}{e:TypeId}{sz:Nat}{l:List I}(h:Rel G σ Fr w0 st a w)(hs:st[s]?=some (ver,sv))(hv:sv.Fu k=some (e,sz,l))(Di:ver<Cn):
 Rel G (σ.Sk (s,k)) Fr w0 (st.set s (Cn,sv.U8 k)) a w:=by
 refine Rel.self (new:=sv.U8 k) (ver:=Cn) h (h.Bz.Sk (s,k)) (Mem.le.refl G) hs Di
  (fun s' Hf b k' hb=>⟨Lab.J0.2 ⟨fun e=>Hf (by cases e;rfl),hb⟩,rfl⟩) ?_ (by
    intro h e;unfold SV.U8 at e;repeat' split at e
    all_goals first|(subst e;rw[Aon]at hv;cases hv)|cases e) (by
    intro inv t e;exfalso;unfold SV.U8 at e;repeat' split at e
    all_goals first|(subst e;cases k<;>cases hv)|cases e)
 ·have hold:=h.Bj s ver sv hs;generalize val a w0 s=c at hold ⊢;unfold SV.Fu at hv;split at hv
  ·trivial
  ·cases hv;obtain⟨b,cells,ty,h1,h2,h3,h4⟩:=hold;refine⟨b,cells,ty,h1,Lab.J0.2 ⟨by simp,h2⟩,h3,?_⟩
   obtain⟨c',hc',h4⟩:=h4;exact⟨c',hc',h4.one⟩
  ·rename_i fs j;split at hv
   ·rename_i e' Ex l' hf;cases hv;obtain⟨b,cells,ty,h1,h2,h3,h4⟩:=hold;simp only[SV.U8,hf];refine⟨b,cells,ty,h1,Lab.J0.2 ⟨by simp,h2⟩,h3,?_⟩
    refine Gw.Bbm (Mem.le.refl G) h4 hf (fun b k A2 hb=>⟨Lab.J0.2 ⟨fun e=>A2 (by cases e;omega),hb⟩,rfl⟩) fun c hc=>?_
    obtain⟨c',rfl,hc⟩:=hc;exact⟨c',rfl,hc.one⟩
   ·cases hv
  ·cases hv
def Ahe(e:TypeId)(sz:Nat)(x:Bh)(k:List I→M):M:=match x with
 | .Fo _ _=>k []
 | .c _=>.fail
 | .t n=>.get n fun ver sv=>match sv with
   | .vec e' Ex l=>.Co (e'=e∧Ex=sz) fun _=>.set n (ver+1) .no (k l)
   | .Km s kk v=>.get s fun cur Ek=>.Co (v=cur) fun _=>match Ek.Fu kk with
     |some (e',Ex,l)=>.Co (e'=e∧Ex=sz) fun _=>.set s (cur+1) (Ek.U8 kk) (k l)
     |none=>.fail
   | .sub s kk v m=>.get s fun cur Ek=>.Co (v=cur) fun _=>match Ek.Fu kk with
     |some (e',Ex,l)=>.Co (e'=e∧Ex=sz) fun _=>.set s (cur+1) (Ek.U8 kk) (k (l.take m))
     |none=>.fail
   |_=>.fail
def A9a(G:Mem)(σ:Lab)(Fr:Mem)(w:World)(e:TypeId)(sz:Nat)(l:List I)(c:Value):Prop:=
 ∃xs,Lx w e sz c l.length xs∧B4 G l xs∧(∀x∈l,x.size=sz)∧∀b,c.ownBlock=some b→G b=none∧Fr b=none∧σ b=none
theorem Fg.free{Ca:Nat × Nat}{e:TypeId}{sz:Nat}{l:List I}{c:Value}(h:Fg G σ w Ca e sz l c)(Dj:Gc G σ Fr w0 w){σ':Lab}(hσ:∀b,σ b=some Ca→σ' b=none):A9a G σ' Fr w e sz l c:=by
 obtain⟨xs,h1,h2,h3,h4⟩:=h;refine⟨xs,h1,h2,h3,fun b hb=>?_⟩
 obtain⟨k1,k2,_⟩:=Dj.own b _ (h4 b hb);exact⟨k1,k2,hσ b (h4 b hb)⟩
theorem Af2{e:TypeId}{sz:Nat}{x:Operand}{y:Bh}{k:List I→M}{Q:St→Prop}(h:Rel G σ Fr w0 st a w)(ho:Bu w0.n x y=true)(hq:(Ahe e sz y k).wp P Q st):
 ∃l σ' st',Rel G σ' Fr w0 st' a w∧(k l).wp P Q st'∧A9a G σ' Fr w e sz l (a.eval x):=by
 cases y with
 |c i=>exact hq.elim
 |Fo e' Ex=>
  refine⟨[],σ,st,h,hq,[],?_,rfl,by simp,?_⟩
  ·rw[Nj ho];exact Lx.nil w e sz
  ·rw[Nj ho];simp[Value.ownBlock]
 |t n=>
  obtain⟨rfl,Ej⟩:=Gb ho;simp only[Ahe,M.wp]at hq;cases hs:st[n]? with
  |none=>simp[hs]at hq
  |some cur=>
   obtain⟨ver,sv⟩:=cur;simp only[hs]at hq;have Ba:=h.slot Ej hs;cases sv with
   |vec e' Ex l=>
    obtain⟨⟨rfl,rfl⟩,hq⟩:=hq;refine⟨l,σ.drop n,_,h.drop hs (Bk ver),hq,Fg.free Ba h.Bz fun b hb=>?_⟩
    cases hd:σ.drop n b with
    |none=>rfl
    |some Ca=>
     obtain⟨s,k'⟩:=Ca;obtain⟨h1,h2⟩:=Lab.D1.1 hd;rw[hb]at h2;cases h2;exact absurd rfl h1
   |Km s kk v=>
    obtain⟨cur,h1,h2,h3⟩:=Ba;simp only[M.wp,h1]at hq;obtain⟨hv,hq⟩:=hq;obtain⟨e',Ex,l,h4,h5⟩:=h3 hv;simp only[h4,M.wp]at hq;obtain⟨⟨rfl,rfl⟩,hq⟩:=hq;exact⟨l,_,_,h.U8 (k:=kk) h1 h4 (Bk cur.1),hq,h5.free h.Bz fun b hb=>by simp[Lab.Sk,hb]⟩
   |sub s kk v m=>
    obtain⟨cur,h1,h2,h3⟩:=Ba;simp only[M.wp,h1]at hq;obtain⟨hv,hq⟩:=hq;obtain⟨e',Ex,l,h4,h5⟩:=h3 hv;simp only[h4,M.wp]at hq;obtain⟨⟨rfl,rfl⟩,hq⟩:=hq;exact⟨l.take m,_,_,h.U8 (k:=kk) h1 h4 (Bk cur.1),hq,h5.free h.Bz fun b hb=>by simp[Lab.Sk,hb]⟩
   |_=>exact hq.elim
theorem Rel.Ajb{Q:St→Prop}{d:Nat}{e:TypeId}{sz:Nat}{l:List I}{c':Value}{w':World}{row:Option Nat}(h:Rel G σ Fr w0 st a w)(Up:d<w0.n)(hg:w.grownBy w' row)
 (Kc:∀b,row=some b→G b=none∧Fr b=none∧σ b=none) (Fm:A9a G σ Fr w' e sz l c') (hq:(Eo d (.vec e sz l)).wp P Q st):
 ∃σ' st',Rel G σ' Fr w0 st' (a.put (some d) c') w'∧Q st':=by
 simp only[Eo,M.wp]at hq;cases hd:st[d]? with
 |none=>simp[hd]at hq
 |some cur=>
  simp only[hd]at hq;have lt:∀{b:Nat} {o:Obj},w.heap[b]?=some o→b<w.heap.size:=fun h=>(C3.1 h).1
  have Mk:∀b Ca,σ b=some Ca→w'.heap[b]?=w.heap[b]?:=fun b Ca hb=>
   hg.block b (h.Bz.own b Ca hb).2.2 (by intro e;obtain⟨_,_,k⟩:=Kc b e.symm;rw[k]at hb;cases hb)
  have Dj:Gc G σ Fr w0 w':=by
   refine⟨?_,?_,h.Bz.inj,?_,hg.os.trans h.Bz.os,hg.tape.trans h.Bz.tape,hg.output.trans h.Bz.output,C2 h.Bz.size hg.size,h.Bz.apart,h.Bz.Mv⟩
   ·intro b o hb;have:=h.Bz.fixed b o hb;rw[hg.block b (lt this) (by intro e;obtain⟨k,_,_⟩:=Kc b e.symm;rw[k]at hb;cases hb)]
    exact this
   ·intro b Ca hb;obtain⟨h1,h2,h3⟩:=h.Bz.own b Ca hb;exact⟨h1,h2,Nat.lt_of_lt_of_le h3 hg.size⟩
   ·intro b o hb;have:=h.Bz.frame b o hb;rw[hg.block b (lt this) (by intro e;obtain⟨_,k,_⟩:=Kc b e.symm;rw[k]at hb;cases hb)]
    exact this
  obtain⟨xs,k1,k2,k3,k4⟩:=Fm;cases hb:c'.ownBlock with
  |none=>
   refine⟨_,_,h.put Up (Dj.drop d) (Mem.le.refl G) hd (Bk _) ?_ ?_,hq⟩
   ·intro s' Hf b k Dc;exact⟨Lab.D1.2 ⟨Hf,Dc⟩,Mk b _ Dc⟩
   ·exact⟨xs,k1,k2,k3,fun b Dc=>by rw[hb]at Dc;cases Dc⟩
  |some b=>
   obtain⟨f1,f2,f3⟩:=k4 b hb;have Di:=k1.lt b hb;have Qk:Gc G ((σ.drop d).new b (d,0)) Fr w0 w':=(Dj.drop d).new f1 f2 Di fun b' Dc=>(Lab.D1.1 Dc).1 rfl
   refine⟨_,_,h.put Up Qk (Mem.le.refl G) hd (Bk _) ?_ ?_,hq⟩
   ·intro s' Hf b' k Dc;exact⟨Lab.Ao8 (by rintro rfl;rw[f3]at Dc;cases Dc) (Lab.D1.2 ⟨Hf,Dc⟩),Mk b' _ Dc⟩
   ·exact⟨xs,k1,k2,k3,fun b' Dc=>by rw[hb]at Dc;cases Dc;exact Lab.Arr⟩
def Aso(P:Program)(t e:TypeId)(sz bytes:Nat):Bool:=match P.underlying t with
 |some (.slice e')=>e'==e&&match P.info? e with
  |some i=>i.size==sz&&i.bytes==bytes&&sz != 0&&match i.zero with
   |some z=>z.cells.size==sz
   |none=>false
  |none=>false
 |_=>false
def Bgf(d:Nat)(e:TypeId)(sz bytes:Nat)(x y:Bh):M:=Q5 y fun u=>match u with
 | .list ys=>Ahe e sz x fun l=>.Co ((l.length+ys.length)*bytes≤140737488355328∧l.length+ys.length≤maxLen∧(∀u∈ys,u.size=sz)∧e<1000000) fun _=>Eo d (.vec e sz (l++ys))
 |_=>.fail
theorem Z1(t ty e:TypeId)(sz:Nat){i:TypeInfo}(ht:P.underlying t=some (.slice e))(hi:P.info? e=some i)(v:Value)(n:Nat)(xs:List Value)(Fm:w.ownsRow 0 e sz v n xs)(c:Nat):
 (Builtin.append_ #[t,t] ty #[v,.slice none 0 c]).run P w= .ok v w:=by
 rcases Fm.2 with⟨rfl,rfl⟩|⟨g,cap,cur,rfl,_,_,hnc,_⟩
 ·simp[Builtin.append_,run_underlying ht,sizeOf,typeInfo,hi,Builtin.lenOf,Builtin.firstCells]
 ·simp[Builtin.append_,run_underlying ht,sizeOf,typeInfo,hi,Builtin.lenOf,Builtin.firstCells,hnc,storeCells]
theorem Bgp{o:Oper}{d:Nat}{t e:TypeId}{x y:Operand}{x' y':Bh}{sz bytes:Nat}(hd:o.dst=some d)
 (ho:o.op= .call {callee:=.builtin .append,args:= #[x,y],argTypes:= #[t,t]}) (hx:Bu N x x'=true) (hy:Bu N y y'=true) (ht:Aso P t e sz bytes=true):
 Sound P N o (Bgf d e sz bytes x' y'):=by
 intro G0 σ0 Fr w0 st0 a w Q next E hN hr hw hn A9
 subst hN;obtain⟨u,G,σ1,st1,hG,Hr,h1,hv⟩:=Se hr hy hw;clear hw;split at h1
 ·rename_i ys;obtain⟨l,σ,st,Kn,h2,xs,k1,k2,k3,k4⟩:=Af2 Hr hx h1;obtain⟨⟨hby,Awe,Cq,Tq⟩,h2⟩:=h2;unfold Aso at ht;split at ht
  ·rename_i e' hu;simp only[Ad,beq_iff_eq]at ht;obtain⟨rfl,ht⟩:=ht;split at ht
   ·rename_i i hi;simp only[Ad,beq_iff_eq,bne_iff_ne,ne_eq]at ht;obtain⟨⟨⟨rfl,rfl⟩,h0⟩,ht⟩:=ht;split at ht
    ·rename_i z hz;simp only[beq_iff_eq]at ht;have exec:∀{v' w'},(Builtin.append_ #[t,t] o.type #[a.eval x,a.eval y]).run P w= .ok v' w'→(execOp a.eval o).run P w= .ok (.value v') w':=by
      intro v' w' Ez;simp[execOp,ho,resolve,invoke,builtin,Ez]
     have fin:∀{v':Value} {w':World} {row:Option Nat},(Builtin.append_ #[t,t] o.type #[a.eval x,a.eval y]).run P w= .ok v' w'→w.grownBy w' row→
      (∀b,row=some b→G b=none∧Fr b=none∧σ b=none)→A9a G σ Fr w' e' i.size (l++ys) v'→o.wp P a w next E:=by
      intro v' w' row Ez Qv Kc N2;obtain⟨σ',st',r1,r2⟩:=Kn.Ajb (A9 d hd) Qv Kc N2 h2;exact Df (exec Ez) (by rw[hd];exact hn G σ' st' _ w' hG r1 r2)
     obtain⟨ad,cap,hc,Tg,Zq,Atf⟩:=Bb.list.1 hv;have A2a:w.grownBy w none:=⟨rfl,rfl,rfl,Ay _,fun _ _ _=>rfl⟩
     have own:∀(A:Addr) (news:List Value),ad=some A→news.length=ys.length*i.size→B4 G ys news→(∀j u,news[j]?=some u→w.cell? (A.add j)=some u)→o.wp P a w next E:=by
      intro A news hA hl Ba Acf;subst hA;obtain⟨v',w',Ez,q1,q2,_,q3⟩:=run_append_own_at (P:=P) w 0 t o.type e' i z i.size i.bytes hu hi hz rfl rfl ht (by omega) (a.eval x) l.length xs (k1.to Tq) A ys.length cap news hl Acf (B4.one _ _ Ba) Awe hby (A3 _)
      rw[←hc]at Ez;refine fin Ez q2 (fun b hb=>k4 b hb) ⟨xs++news,by rw[Cw];exact .of q1,B4.append k2 Ba,?_,?_⟩
      ·intro z hz;rcases Aj.1 hz with hz|hz
       ·exact k3 z hz
       ·exact Cq z hz
      ·intro b hb;rcases q3 with q3|q3
       ·rw[q3]at hb;exact k4 b hb
       ·rw[q3]at hb;cases hb;exact Kn.Bz.fresh (Ay _)
     rcases Atf with rfl|⟨b,off,bl,ty,fz,Ex,rfl,hg,Arf,hle,Ba⟩
     ·cases ad with
      |none=>
       have Ez:=Z1 (P:=P) t o.type e' i.size hu hi (a.eval x) l.length xs (k1.to Tq) cap;have Gq:a.eval y= .slice none 0 cap:=hc;rw[←Gq]at Ez;exact fin Ez A2a (fun b hb=>by cases hb) (by rw[Dk];exact⟨xs,k1,k2,k3,k4⟩)
      |some A=>exact own A [] rfl (by simp) rfl (by simp)
     ·cases ys with
      |nil=>exact own _ [] rfl (by simp) rfl (by simp)
      |cons y0 ys'=>
       have A2t:Ex=i.size:=by rw[←Arf y0 (by simp),Cq y0 (by simp)]
       subst A2t;refine own _ _ rfl ?_ Ba ?_
       ·rw[Ck,Br,Da];have:bl.toList.length=bl.size:=by simp
        omega
       ·intro j u hj;have hh:=Kn.Bz.fixed b _ hg;rw[add_lit,cell_of_row w b (off+j) bl ty fz hh];have:bl[off+j]?=bl.toList[off+j]?:=by simp
        rw[this];rw[Jc]at hj;split at hj
        ·rwa [Ei]at hj
        ·cases hj
    ·cases ht
   ·cases ht
  ·cases ht
 ·exact h1.elim
end
end Go.Ab
