/- Lemmas -/
import Derived.Test.YtkpojedpcabojaaGreatDoorAb8
set_option linter.unusedVariables false
set_option linter.unusedSimpArgs false
namespace Go.Ab
def Bcp:I→Value→Bool
 | .list [],.slice none 0 0=>true
 |x,c=>cOk x c
mutual
def zI:I→List Value→Option (List Value)
 | .agg l,cs=>zIs l cs
 | .arr sz l,cs=>if l.all (fun x=>x.size==sz)then zIs l cs else none
 |x,c::cs=>if Bcp x c then some cs else none
 |_,[]=>none
def zIs:List I→List Value→Option (List Value)
 | [],cs=>some cs
 |x::l,cs=>match zI x cs with
  |some cs=>zIs l cs
  |none=>none
end
def zF:F→List Value→Option (List Value)
 | .i x,cs=>zI x cs
 | .vec _ _ [],.slice none 0 0::cs=>some cs
 |_,_=>none
def zFs:List F→List Value→Option (List Value)
 | [],cs=>some cs
 |f::fs,cs=>match zF f cs with
  |some cs=>zFs fs cs
  |none=>none
def zT:T→List Value→Bool
 | .one f,cs=>match zF f cs with
   |some []=>true
   |_=>false
 | .st fs,cs=>match zFs fs cs with
   |some []=>true
   |_=>false
theorem Lx{x:I}{c:Value}(h:Bcp x c=true)(hx:x.isAgg=false)(G:Mem):D8 G x [c]:=by
 unfold Bcp at h;split at h
 ·exact⟨none,0,rfl,Bz _,by simp[maxLen],.inl rfl⟩
 ·have:=Yk h G;unfold C7 at this;rwa [if_neg (by simp[hx])]at this
mutual
theorem A0a(G:Mem):∀(x:I) (cs rest:List Value),zI x cs=some rest→∃c,cs=c++rest∧D8 G x c
 | .agg l,cs,rest,h=>by
   simp only[zI]at h;obtain⟨c,e,h⟩:=A3q G l cs rest h;exact⟨c,e,h⟩
 | .arr sz l,cs,rest,h=>by
   simp only[zI]at h;split at h
   ·rename_i hl;obtain⟨c,e,h⟩:=A3q G l cs rest h;refine⟨c,e,h,fun x hx=>?_⟩
    simpa using Aia.1 hl x hx
   ·cases h
 | .und,cs,rest,h=>by
   cases cs with
   |nil=>simp[zI]at h
   |cons c cs=>simp[zI,Bcp,cOk]at h
 | .int k n,cs,rest,h=>by
   cases cs with
   |nil=>simp[zI]at h
   |cons c cs=>
    simp only[zI]at h;split at h
    ·rename_i hz;cases h;exact⟨[c],rfl,Lx hz rfl G⟩
    ·cases h
 | .Aw9,cs,rest,h=>by
   cases cs with
   |nil=>simp[zI]at h
   |cons c cs=>
    simp only[zI]at h;split at h
    ·rename_i hz;cases h;exact⟨[c],rfl,Lx hz rfl G⟩
    ·cases h
 | .A3c,cs,rest,h=>by
   cases cs with
   |nil=>simp[zI]at h
   |cons c cs=>
    simp only[zI]at h;split at h
    ·rename_i hz;cases h;exact⟨[c],rfl,Lx hz rfl G⟩
    ·cases h
 | .bool b,cs,rest,h=>by
   cases cs with
   |nil=>simp[zI]at h
   |cons c cs=>
    simp only[zI]at h;split at h
    ·rename_i hz;cases h;exact⟨[c],rfl,Lx hz rfl G⟩
    ·cases h
 | .str s,cs,rest,h=>by
   cases cs with
   |nil=>simp[zI]at h
   |cons c cs=>
    simp only[zI]at h;split at h
    ·rename_i hz;cases h;exact⟨[c],rfl,Lx hz rfl G⟩
    ·cases h
 | .list l,cs,rest,h=>by
   cases cs with
   |nil=>simp[zI]at h
   |cons c cs=>
    simp only[zI]at h;split at h
    ·rename_i hz;cases h;exact⟨[c],rfl,Lx hz rfl G⟩
    ·cases h
 | .fn f,cs,rest,h=>by
   cases cs with
   |nil=>simp[zI]at h
   |cons c cs=>
    simp only[zI]at h;split at h
    ·rename_i hz;cases h;exact⟨[c],rfl,Lx hz rfl G⟩
    ·cases h
 | .clo f A1q,cs,rest,h=>by
   cases cs with
   |nil=>simp[zI]at h
   |cons c cs=>
    simp only[zI]at h;split at h
    ·rename_i hz;cases h;exact⟨[c],rfl,Lx hz rfl G⟩
    ·cases h
 | .A1v,cs,rest,h=>by
   cases cs with
   |nil=>simp[zI]at h
   |cons c cs=>
    simp only[zI]at h;split at h
    ·rename_i hz;cases h;exact⟨[c],rfl,Lx hz rfl G⟩
    ·cases h
 | .ifc t x,cs,rest,h=>by
   cases cs with
   |nil=>simp[zI]at h
   |cons c cs=>simp[zI,Bcp,cOk]at h
theorem A3q(G:Mem):∀(l:List I) (cs rest:List Value),zIs l cs=some rest→∃c,cs=c++rest∧F9 G l c
 | [],cs,rest,h=>by simp only[zIs,A0]at h;subst h;exact⟨[],rfl,rfl⟩
 |x::l,cs,rest,h=>by
  simp only[zIs]at h;cases hx:zI x cs with
  |none=>simp[hx]at h
  |some cs'=>
   simp only[hx]at h;obtain⟨c,e,h1⟩:=A0a G x cs cs' hx;obtain⟨d,e',h2⟩:=A3q G l cs' rest h;exact⟨c++d,by rw[e,e',Df],c,d,rfl,h1,h2⟩
end
theorem Acq(G:Mem)(σ:Lab)(w:World)(Gf:Nat × Nat){f:F}{cs rest:List Value}(h:zF f cs=some rest):∃c,cs=c++rest∧Avi G σ w Gf f c:=by
 unfold zF at h;split at h
 ·exact A0a G _ _ _ h
 ·cases h;exact⟨[_],rfl,_,rfl,[],Arr.nil w _ _,rfl,by simp,by simp[Value.ownBlock]⟩
 ·cases h
theorem Aaa(G:Mem)(σ:Lab)(w:World)(s:Nat):∀{fs:List F} {j:Nat} {cs rest:List Value},zFs fs cs=some rest→∃c,cs=c++rest∧Amt G σ w s j fs c
 | [],_,cs,rest,h=>by simp only[zFs,A0]at h;subst h;exact⟨[],rfl,rfl⟩
 |f::fs,j,cs,rest,h=>by
  simp only[zFs]at h;cases hx:zF f cs with
  |none=>simp[hx]at h
  |some cs'=>
   simp only[hx]at h;obtain⟨c,e,h1⟩:=Acq G σ w (s,j+1) hx;obtain⟨d,e',h2⟩:=Aaa G σ w s (j:=j+1) h;exact⟨c++d,by rw[e,e',Df],c,d,rfl,h1,h2⟩
theorem Ahw(G:Mem)(σ:Lab)(w:World)(s:Nat){t:T}{cs:List Value}(h:zT t cs=true):A74 G σ w s t cs:=by
 unfold zT at h;split at h
 ·split at h
  ·rename_i f _ hz;obtain⟨c,e,h1⟩:=Acq G σ w (s,1) hz;rw[R2]at e;rw[e];exact h1
  ·cases h
 ·split at h
  ·rename_i fs _ hz;obtain⟨c,e,h1⟩:=Aaa G σ w s (j:=0) hz;rw[R2]at e;rw[e];exact h1
  ·cases h
def Aab(P:Program)(t:TypeId)(x:T):Bool:=match P.info? t with
 |some i=>match i.zero with
  |some z=>zT x z.cells.toList
  |none=>false
 |none=>false
section
variable{P:Program}{N:Nat}{G:Mem}{σ:Lab}{Fr:Mem}{w0:Base}{w:World}{st:St}{a:Act}
theorem Aa4{o:Oper}{t:TypeId}{x y:Operand}{x' y':D6}{agg:Bool}{sz:Nat}(hd:o.dst=none)(ho:o.op= .store t x y)(hx:Jj N x x'=true)(hy:Jj N y y'=true)(ht:Asu P t agg sz=true):
 Sound P N o (Zq sz x' y'):=by
 intro G σ Fr w0 st a w Q next E hN hr hw hn C2
 subst hN;obtain⟨u,G',σ',st',hG,Hm,h1,hv⟩:=L6 hr hy hw;rcases U9 Hm hx h1 with⟨s,k,ver,off,r,cur,h2,hs,hp⟩|⟨u,h2,hp⟩
 ·by_cases At9:ver=cur.1
  ·obtain⟨b,hb,hpp⟩:=hp At9;obtain⟨_,w',σ'',As9,Aih,Bbj,hq⟩:=Yz (agg:=agg) Hm hs (fun _=>hb) ht hv h2
   refine Pz (w':=w') ?_ ?_
   ·simp[execOp,ho,hpp,Instr.storeAt,Instr.sureAddr,Aih]
   ·rw[hd];exact hn G' σ'' As9 _ w' hG Bbj hq
  ·simp only[T9,M.wp,hs]at h2;exact absurd h2.1 At9
 ·exact h2.elim
def Lab.new(σ:Lab)(b:Nat)(Gf:Nat × Nat):Lab:=fun b'=>if b'=b then some Gf else σ b'
theorem Lab.A6m{b:Nat}{Gf:Nat × Nat}:σ.new b Gf b=some Gf:=by simp[Lab.new]
theorem Lab.A5o{b b':Nat}{Gf Avk:Nat × Nat}(hb:b'≠b)(h:σ b'=some Avk):σ.new b Gf b'=some Avk:=by simp[Lab.new,hb,h]
theorem WOk.grow(h:WOk G σ Fr w0 w){w':World}(hos:w'.os=w.os)(ht:w'.tape=w.tape)(Azk:w'.output=w.output)(Hr:w.heap.size≤w'.heap.size)
 (hold:∀b,b<w.heap.size→w'.heap[b]?=w.heap[b]?):WOk G σ Fr w0 w':=by
 have lt:∀{b:Nat} {o:Obj},w.heap[b]?=some o→b<w.heap.size:=fun h=>(Ht.1 h).1
 refine⟨?_,?_,h.inj,?_,hos.trans h.os,ht.trans h.tape,Azk.trans h.output,Kq h.size Hr,h.apart,h.amb⟩
 ·intro b o hb;have:=h.fixed b o hb;rw[hold b (lt this)];exact this
 ·intro b Gf hb;obtain⟨h1,h2,h3⟩:=h.own b Gf hb;exact⟨h1,h2,by omega⟩
 ·intro b o hb;have:=h.frame b o hb;rw[hold b (lt this)];exact this
theorem WOk.new{b:Nat}{Gf:Nat × Nat}(h:WOk G σ Fr w0 w)(h1:G b=none)(h2:Fr b=none)(h3:b<w.heap.size)(h4:∀b',σ b'≠some Gf):WOk G (σ.new b Gf) Fr w0 w:=by
 refine⟨h.fixed,?_,?_,h.frame,h.os,h.tape,h.output,h.size,h.apart,h.amb⟩
 ·intro b' Avk Sy;unfold Lab.new at Sy;split at Sy
  ·rename_i e;subst e;exact⟨h1,h2,h3⟩
  ·exact h.own b' Avk Sy
 ·intro b1 b2 Avk hb1 hb2;unfold Lab.new at hb1 hb2;split at hb1<;>split at hb2
  ·rename_i e1 e2;rw[e1,e2]
  ·cases hb1;exact absurd hb2 (h4 b2)
  ·cases hb2;exact absurd hb1 (h4 b1)
  ·exact h.inj b1 b2 Avk hb1 hb2
theorem WOk.fresh(h:WOk G σ Fr w0 w){b:Nat}(hb:w.heap.size≤b):G b=none∧Fr b=none∧σ b=none:=by
 have lt:∀{o:Obj},w.heap[b]?=some o→False:=fun h=>by have:=(Ht.1 h).1;omega
 refine⟨?_,?_,?_⟩
 ·cases hg:G b with
  |none=>rfl
  |some o=>exact(lt (h.fixed b o hg)).elim
 ·cases hg:Fr b with
  |none=>rfl
  |some o=>exact(lt (h.frame b o hg)).elim
 ·cases hg:σ b with
  |none=>rfl
  |some Gf=>have:=(h.own b Gf hg).2.2;omega
theorem K8(w:World)(o:Obj)(b:Nat)(h:b<w.heap.size):(w.alloc o).heap[b]?=w.heap[b]?:=by
 show(w.heap.push o)[b]?=w.heap[b]?;rw[Am3,if_neg (Nat.ne_of_lt h)]
theorem Ait.Asq{G':Mem}{σ':Lab}{w':World}{vv:Nat→Value}{s:Nat}{sv:SV}{c:Value}(h:Ait G σ w st vv s sv c)(hG:G.le G')(hk:∀s',Kept σ σ' w w' s')
 (Anw:∀s ver sv,st[s]?=some (ver,sv)→Ait G σ w st vv s sv (vv s)):Ait G' σ' w' st vv s sv c:=by
 cases sv with
 |bor s' k Gu=>
  obtain⟨cur,h1,h2,h3⟩:=h;refine⟨cur,h1,h2,fun e=>?_⟩
  obtain⟨e,sz,l,h4,h5⟩:=h3 e;exact⟨e,sz,l,h4,h5.tr hG fun b hb=>hk s' b k hb⟩
 |sub s' k Gu n=>
  obtain⟨cur,h1,h2,h3⟩:=h;refine⟨cur,h1,h2,fun e=>?_⟩
  obtain⟨e,sz,l,h4,h5⟩:=h3 e;exact⟨e,sz,l,h4,h5.tr hG fun b hb=>hk s' b k hb⟩
 |suf s' k Gu n=>
  obtain⟨cur,h1,h2,h3⟩:=h;refine⟨cur,h1,h2,fun e=>?_⟩
  obtain⟨e,sz,l,c0,h4,h5,h6⟩:=h3 e;exact⟨e,sz,l,c0,h4,h5.tr hG fun b hb=>hk s' b k hb,h6⟩
 |pt s' k Gu off r=>
  obtain⟨cur,h1,h2,h3⟩:=h;refine⟨cur,h1,h2,fun e=>?_⟩
  obtain⟨b,h4,h5⟩:=h3 e;exact⟨b,(hk s' b k h4).1,h5⟩
 |pdt s' Gu p b=>
  obtain⟨c0,hc0,h⟩:=h;obtain⟨cur,h1,h2,h3⟩:=h;refine⟨c0,hc0,?_⟩;refine⟨cur,h1,h2,fun inv t e hp ha=>?_⟩
  obtain⟨v,sv'⟩:=cur;simp only at e;subst e;exact(h3 inv t rfl hp ha).tr (show Ac5 G σ w s' t (vv s')from Anw s' v _ h1) (hk s')
 |pd s' Gu p=>
  obtain⟨cur,h1,h2,h3⟩:=h;refine⟨cur,h1,h2,fun inv t e hp ha=>?_⟩
  obtain⟨v,sv'⟩:=cur;simp only at e;subst e;exact(h3 inv t rfl hp ha).tr (show Ac5 G σ w s' t (vv s')from Anw s' v _ h1) (hk s')
 |bs s' Gu p lo n=>
  obtain⟨cur,h1,h2,h3⟩:=h;refine⟨cur,h1,h2,fun e0 inv t e=>?_⟩
  obtain⟨v,sv'⟩:=cur;simp only at e;subst e;exact⟨(h3 e0 inv t rfl).1,(h3 e0 inv t rfl).2.tr (show Ac5 G σ w s' t (vv s')from Anw s' v _ h1) (hk s')⟩
 |kcl f s' Gu p=>
  obtain⟨g,c0,ty,kk,hc0,hg1,hg2,h⟩:=h;obtain⟨cur,h1,h2,h3⟩:=h;have hgk:=hk s g kk hg1;refine⟨g,c0,ty,kk,hc0,hgk.1,by rw[hgk.2];exact hg2,?_⟩
  refine⟨cur,h1,h2,fun inv t e ha=>?_⟩
  obtain⟨v,sv'⟩:=cur;simp only at e;subst e;exact(h3 inv t rfl ha).tr (show Ac5 G σ w s' t (vv s')from Anw s' v _ h1) (hk s')
 |bp s' Gu p=>
  obtain⟨g,c0,ty,kk,hc0,hg1,hg2,h⟩:=h;obtain⟨cur,h1,h2,h3⟩:=h;have hgk:=hk s g kk hg1;refine⟨g,c0,ty,kk,hc0,hgk.1,by rw[hgk.2];exact hg2,?_⟩
  refine⟨cur,h1,h2,fun inv t e hp ha=>?_⟩
  obtain⟨v,sv'⟩:=cur;simp only at e;subst e;exact(h3 inv t rfl hp ha).tr (show Ac5 G σ w s' t (vv s')from Anw s' v _ h1) (hk s')
 |ocl fb yb s' Gu p=>
  obtain⟨gb,xb,tb,kb,hb1,hb2,hb3,h⟩:=h;obtain⟨g,c0,ty,kk,hc0,hg1,hg2,h⟩:=h;obtain⟨cur,h1,h2,h3⟩:=h;have hgk:=hk s g kk hg1;have hbk:=hk s gb kb hb1;refine⟨gb,xb,tb,kb,hbk.1,by rw[hbk.2];exact hb2,(by first|exact D8.mono hG yb _ hb3|exact hb3),?_⟩
  refine⟨g,c0,ty,kk,hc0,hgk.1,by rw[hgk.2];exact hg2,?_⟩
  refine⟨cur,h1,h2,fun inv t e hp ha=>?_⟩
  obtain⟨v,sv'⟩:=cur;simp only at e;subst e;exact(h3 inv t rfl hp ha).tr (show Ac5 G σ w s' t (vv s')from Anw s' v _ h1) (hk s')
 |bd s' Gu p=>
  obtain⟨cur,h1,h2,h3⟩:=h;refine⟨cur,h1,h2,fun inv t e ha=>?_⟩
  obtain⟨v,sv'⟩:=cur;simp only at e;subst e;exact(h3 inv t rfl ha).tr (show Ac5 G σ w s' t (vv s')from Anw s' v _ h1) (hk s')
 |cl f fs cs=>exact h
 |al s' Gu=>exact h
 |_=>
  rw[Ait.own rfl]at h ⊢;exact Ab1.tr h hG fun b k hb=>hk s b k hb
theorem Rel.grow(h:Rel G σ Fr w0 st a w){w':World}(hos:w'.os=w.os)(ht:w'.tape=w.tape)(Azk:w'.output=w.output)(Hr:w.heap.size≤w'.heap.size)
 (hold:∀b,b<w.heap.size→w'.heap[b]?=w.heap[b]?):Rel G σ Fr w0 st a w':=
 ⟨h.Fc.grow hos ht Azk Hr hold,h.defers,h.n,h.len,fun s ver sv hs=>(h.Eb s ver sv hs).Asq (Mem.le.refl G) (fun s' b k hb=>⟨hb,hold b (h.Fc.own b _ hb).2.2⟩) h.Eb,h.As8⟩
theorem Rel.drew(h:Rel G σ Fr w0 st a w):Rel G σ Fr w0 st a w.drew:=h.grow rfl rfl rfl (Bz _) fun _ _=>rfl
def Jz(d:Nat)(sv:SV):M:=.get d fun ver _=>.set d (ver+1) (sv.fresh (ver+1)) .done
theorem Rel.Ayv{Q:St→Prop}{d:Nat}{sv:SV}{c:Value}{o:Obj}(h:Rel G σ Fr w0 st a w)(hdn:d<w0.n)(hr:sv.root=none)(hnp:∀h,sv≠ .par h)
 (hsv:∀σ',(∀b Gf,Gf.1≠d→σ b=some Gf→σ' b=some Gf)→σ' w.heap.size=some (d,0)→Ab1 G σ' (w.alloc o) d sv c) (hq:(Jz d sv).wp P Q st):
 ∃σ' st',Rel G σ' Fr w0 st' (a.put (some d) c) (w.alloc o)∧Q st':=by
 have Beg:WOk G σ Fr w0 (w.alloc o):=h.Fc.grow rfl rfl rfl (by simp) fun b hb=>K8 w _ b hb
 simp only[Jz,M.wp]at hq;cases hd:st[d]? with
 |none=>simp[hd]at hq
 |some cur=>
  simp only[hd]at hq;obtain⟨f1,f2,f3⟩:=h.Fc.fresh (Bz w.heap.size);have H2:WOk G ((σ.drop d).new w.heap.size (d,0)) Fr w0 (w.alloc o):=
   (Beg.drop d).new f1 f2 (by simp) fun b' Sy=>(Lab.Ade.1 Sy).1 rfl
  refine⟨_,_,h.put hdn H2 (Mem.le.refl G) hd (Ej _) ?_ ?_ (fun h e=>absurd (Te.1 e) (hnp h)) Nx,hq⟩
  ·intro s' hs' b k hb;have Ze:=(h.Fc.own b _ hb).2.2;exact⟨Lab.A5o (by omega) (Lab.Ade.2 ⟨hs',hb⟩),K8 w _ b Ze⟩
  ·rw[Ait.own (by rw[Sm];exact hr),Tf]
   refine hsv _ ?_ Lab.A6m;rintro b ⟨s',k⟩ hs' hb;have Ze:=(h.Fc.own b _ hb).2.2;exact Lab.A5o (by omega) (Lab.Ade.2 ⟨hs',hb⟩)
def W9(d:Nat)(t:T):M:=Jz d (.box t)
theorem Aan{o:Oper}{e:TypeId}{d:Nat}{t:T}(hd:o.dst=some d)(ho:o.op= .alloc e)(hz:Aab P e t=true):Sound P N o (W9 d t):=by
 intro G σ Fr w0 st a w Q next E hN hr hw hn C2
 subst hN;unfold Aab at hz;split at hz
 ·rename_i i hi;split at hz
  ·rename_i z hzv;obtain⟨σ',st',h1,h2⟩:=hr.Ayv (C2 d hd) (sv:=.box t) (o:=.cells z.cells e) (c:=.pointer (some ⟨w.heap.size,0,none⟩)) rfl (by intro _ e;cases e)
    (fun σ' _ hb=>⟨_,z.cells,e,rfl,hb,heap_alloc_new w _,Ahw _ _ _ _ hz⟩) hw
   refine Jt (w':=w.alloc (.cells z.cells e)) ?_ (by rw[hd];exact hn G σ' st' _ _ (Mem.le.refl G) h1 h2)
   simp[execOp,ho,Instr.alloc,zeroValue,typeInfo,hi,hzv,newVar,newRow]
  ·cases hz
 ·cases hz
def Af8(d:Nat)(x:D6):M:=Lw x fun u=>Jz d (.box (.one (.i u)))
theorem Agg{o:Oper}{e:TypeId}{d:Nat}{x:Operand}{x':D6}(hd:o.dst=some d)(ho:o.op= .box e x)(hx:Jj N x x'=true):Sound P N o (Af8 d x'):=by
 intro G σ Fr w0 st a w Q next E hN hr hw hn C2
 subst hN;obtain⟨u,G',σ',st',hG,Hm,h1,hv⟩:=L6 hr hx hw;obtain⟨σ'',As9,h2,h3⟩:=Hm.Ayv (C2 d hd) (sv:=.box (.one (.i u))) (o:=.cells (a.eval x).cells e) (c:=.pointer (some ⟨w.heap.size,0,none⟩)) rfl (by intro _ e;cases e)
  (fun σ' _ hb=>⟨_,_,e,rfl,hb,heap_alloc_new w _,hv.cells⟩) h1
 refine Jt (w':=w.alloc (.cells (a.eval x).cells e)) ?_ (by rw[hd];exact hn G' σ'' As9 _ _ hG h2 h3)
 simp[execOp,ho,Instr.box,newVar,newRow]
def Y8(d:Option Nat)(x:D6)(i off:Nat):M:=rdP x (fun s k ver o r=>.Hh (d≠some s) fun _=>.get s fun cur _=>.Hh (ver=cur) fun _=>Gj d (.pt s k ver (o+off) (r++[i])) .done)
 (fun y=>match y with
   | .agg l=>match l[i]? with
     |some u=>.Hh (sizes (l.take i)=off) fun _=>Gj d (.rp u) .done
     |none=>.fail
   |_=>.fail)
def Rz(P:Program)(t:TypeId)(i off:Nat):Bool:=match P.underlying t with
 |some (.struct fs)=>match fs[i]? with
  |some f=>f.offset==off&&match P.info? f.type with
   |some j=>j.size != 0
   |none=>false
  |none=>false
 |_=>false
theorem Rp{t:TypeId}{i off b o:Nat}(h:Rz P t i off=true)(w:World):
 (Instr.fieldAt t (.pointer (some ⟨b,o,none⟩)) i).run P w= .ok (.pointer (some ⟨b,o+off,none⟩)) w:=by
 unfold Rz at h;split at h
 ·rename_i fs hu;split at h
  ·rename_i f hf;simp only[Ap,beq_iff_eq]at h;obtain⟨rfl,h⟩:=h;split at h
   ·rename_i j hj;have hj0:j.size≠0:=by simpa using h
    simp[Instr.fieldAt,run_underlying hu,hf,Instr.sureAddr,fieldPlace,sizeOf,typeInfo,hj,hj0,add_lit]
   ·cases h
  ·cases h
 ·cases h
theorem Rel.A7v{Q:St→Prop}{d:Option Nat}{s k ver off b:Nat}{r:List Nat}{cur:Nat × SV}(hr:Rel G σ Fr w0 st a w)(hdb:∀d',d=some d'→d'<w0.n)(hs:st[s]?=some cur)(Cf:d≠some s)(At9:ver=cur.1)(hb:σ b=some (s,k))
 (hq:(Ab.Gj d (.pt s k ver off r) .done).wp P Q st):∃σ' st',Rel G σ' Fr w0 st' (a.put d (.pointer (some ⟨b,off,none⟩))) w∧Q st':=
 hr.Gj hdb (sv:=.pt s k ver off r) (c:=.pointer (some ⟨b,off,none⟩)) (fun d' hd Gu _=>by
  refine⟨cur,?_,by omega,fun _=>⟨b,Lab.Ade.2 ⟨by rintro rfl;exact Cf hd,hb⟩,rfl⟩⟩
  rw[B3 (by rintro rfl;exact Cf hd)];exact hs) hq
theorem Aaq{o:Oper}{t:TypeId}{x:Operand}{x':D6}{i off:Nat}(ho:o.op= .fieldAddr t x i)(hx:Jj N x x'=true)(ht:Rz P t i off=true):
 Sound P N o (Y8 o.dst x' i off):=by
 intro G σ Fr w0 st a w Q next E hN hr hw hn C2
 subst hN;rcases U9 hr hx hw with⟨s,k,ver,of,r,cur,h1,hs,hp⟩|⟨u,h1,hp⟩
 ·simp only[M.wp,hs]at h1;obtain⟨Cf,At9,h1⟩:=h1;obtain⟨b,hb,hpp⟩:=hp At9;obtain⟨σ',st',r1,r2⟩:=hr.A7v C2 hs Cf At9 hb h1;refine Jt (w':=w) ?_ (hn G σ' st' _ w (Mem.le.refl G) r1 r2);simp[execOp,ho,hpp,Rp ht]
 ·split at h1
  ·rename_i l;split at h1
   ·rename_i u hu;obtain⟨rfl,h1⟩:=h1;obtain⟨b,of,bl,ty,fz,pre,cs,post,p1,p2,p3,p4,p5⟩:=hp;obtain⟨c1,c,c2,e1,e2,e3,_⟩:=F9.nth i p5 hu;obtain⟨σ',st',r1,r2⟩:=hr.Gj C2 (sv:=.rp u) (c:=.pointer (some ⟨b,of+sizes (l.take i),none⟩))
     (fun _ _ _ _=>⟨b,_,bl,ty,fz,pre++c1,c,c2++post,rfl,p2,by simp[p3,e1],by simp[p4,e2],e3⟩) h1
    refine Jt (w':=w) ?_ (hn G σ' st' _ w (Mem.le.refl G) r1 r2);simp[execOp,ho,p1,Rp ht]
   ·exact h1.elim
  ·exact h1.elim
def M3(P:Program)(t:TypeId)(sz:Nat):Bool:=match P.underlying t with
 |some (.slice e)=>match P.info? e with
  |some i=>i.size==sz&&sz != 0
  |none=>false
 |_=>false
def Y9(d:Option Nat)(sz:Nat)(x i:D6):M:=rdI i fun n=>match n with
 | .int _ n=>match x with
   | .t m=>.get m fun ver sv=>match sv with
     | .v (.list l)=>match l[n.toNat]? with
       |some u=>.Hh (0≤n∧u.size=sz) fun _=>Gj d (.rp u) .done
       |none=>.fail
     | .vec _ sz' l=>.Hh (0≤n∧n.toNat<l.length∧sz'=sz∧d≠some m) fun _=>Gj d (.pt m 0 ver (n.toNat*sz) [n.toNat]) .done
     | .bor s k ver=>.get s fun cur sv'=>.Hh (ver=cur) fun _=>match sv'.Aka k with
       |some (_,sz',l)=>.Hh (0≤n∧n.toNat<l.length∧sz'=sz∧d≠some s) fun _=>Gj d (.pt s k ver (n.toNat*sz) [n.toNat]) .done
       |none=>.fail
     |_=>.fail
   |_=>.fail
 |_=>.fail
theorem Rs{t:TypeId}{sz b off len cap:Nat}{k:IntKind}{n:Int}(h:M3 P t sz=true)(w:World)(h0:0≤n)(h1:n.toNat<len):
 (Instr.indexAt t (.slice (some ⟨b,off,none⟩) len cap) (.int k n)).run P w= .ok (.pointer (some ⟨b,off+n.toNat*sz,none⟩)) w:=by
 unfold M3 at h;split at h
 ·rename_i e hu;split at h
  ·rename_i i hi;simp only[Ap,beq_iff_eq]at h;have hn:0≤n∧n<(len:Int):=⟨h0,by omega⟩
   simp[Instr.indexAt,asIntOf,run_underlying hu,hn,sizeOf,typeInfo,hi,h.1,add_lit]
  ·cases h
 ·cases h
theorem C7.list{l:List I}{c:Value}:C7 G (.list l) c↔∃a cap,c= .slice a l.length cap∧l.length≤cap∧cap≤maxLen∧
 (l=[]∨∃b off bl ty fz sz,a=some ⟨b,off,none⟩∧G b=some (.cells bl ty fz)∧(∀x∈l,x.size=sz)∧
   off+l.length*sz≤bl.size∧F9 G l ((bl.toList.drop off).take (l.length*sz))):=by
 unfold C7;rw[if_neg (by simp[I.isAgg])]
 simp only[D8,Ajg,and_true]
theorem Aar{o:Oper}{t:TypeId}{x i:Operand}{x' i':D6}{sz:Nat}(ho:o.op= .indexAddr t x i)(hx:Jj N x x'=true)(hi:Jj N i i'=true)(ht:M3 P t sz=true):
 Sound P N o (Y9 o.dst sz x' i'):=by
 intro G σ Fr w0 st a w Q next E hN hr hw hn C2
 subst hN;obtain⟨n,h1,hnv⟩:=J8 hr hi hw;clear hw;split at h1
 ·rename_i k n;rw[C7.int]at hnv;cases x' with
  |t m=>
   obtain⟨rfl,Agv⟩:=J0 hx;simp only[M.wp]at h1;cases hs:st[m]? with
   |none=>simp[hs]at h1
   |some cur=>
    obtain⟨ver,sv⟩:=cur;simp only[hs]at h1;have Dh:=hr.slot Agv hs;have run:∀{b off len cap:Nat},a.eval (.tmp m)= .slice (some ⟨b,off,none⟩) len cap→0≤n→n.toNat<len→
     (execOp a.eval o).run P w= .ok (.value (.pointer (some ⟨b,off+n.toNat*sz,none⟩))) w:=by
     intro b off len cap he h0 hl;simp[execOp,ho,he,hnv,Rs ht w h0 hl]
    split at h1
    ·rename_i l;split at h1
     ·rename_i u hu;obtain⟨⟨h0,rfl⟩,h1⟩:=h1;have Ze:n.toNat<l.length:=(A7.1 hu).1;obtain⟨ad,cap,hc,_,_,he⟩:=C7.list.1 Dh;rcases he with he|⟨b,off,bl,ty,fz,sz,rfl,hg,Hr,hle,Hm⟩
      ·subst he;simp at Ze
      ·have Buk:=Hr u (Cb hu);subst Buk;obtain⟨c1,c,c2,e1,e2,e3,_⟩:=F9.nth n.toNat Hm hu;have Beu:sizes (l.take n.toNat)=n.toNat*u.size:=by
        rw[J3 (sz:=u.size) fun z hz=>Hr z (P2 hz),Hg,U6 (Nat.le_of_lt Ze)]
       have hbl:bl.toList=(bl.toList.take off++c1)++c++(c2++(bl.toList.drop off).drop (l.length*u.size)):=by
        have h2:=Fj off bl.toList;have h3:=Fj (l.length*u.size) (bl.toList.drop off);rw[e1]at h3
        calc bl.toList=bl.toList.take off++bl.toList.drop off:=h2.symm
         _=bl.toList.take off++(c1++c++c2++(bl.toList.drop off).drop (l.length*u.size)):=by rw[h3]
         _=_:=by simp
       have Bk7:(bl.toList.take off).length=off:=by
        rw[Hg,U6];have:bl.toList.length=bl.size:=by simp
        omega
       obtain⟨σ',st',r1,r2⟩:=hr.Gj C2 (sv:=.rp u) (c:=.pointer (some ⟨b,off+n.toNat*u.size,none⟩))
        (fun _ _ _ _=>⟨b,_,bl,ty,fz,bl.toList.take off++c1,c,_,rfl,hg,hbl,by rw[Hq,Bk7,e2,Beu],e3⟩) h1
       exact Jt (w':=w) (run hc h0 Ze) (hn G σ' st' _ w (Mem.le.refl G) r1 r2)
     ·exact h1.elim
    ·rename_i e sz' l;obtain⟨⟨h0,Ze,rfl,Cf⟩,h1⟩:=h1;have Ars:∃b,σ b=some (m,0)∧∃cap,a.eval (.tmp m)= .slice (some ⟨b,0,none⟩) l.length cap:=by
      obtain⟨xs,k1,k2,k3,k4⟩:=Dh;rcases k1.2 with⟨hc,hz⟩|⟨g,cap,cur,hc,_⟩
      ·omega
      ·exact⟨g,k4 g (by rw[hc];rfl),cap,hc⟩
     obtain⟨b,hb,cap,hc⟩:=Ars;obtain⟨σ',st',r1,r2⟩:=hr.A7v C2 hs Cf rfl hb h1;refine Jt (w':=w) ?_ (hn G σ' st' _ w (Mem.le.refl G) r1 r2);have:=run hc h0 Ze;rwa [E3]at this
    ·rename_i s kk Gu;obtain⟨cur,g1,g2,g3⟩:=Dh;simp only[M.wp,g1]at h1;obtain⟨hv,h1⟩:=h1;obtain⟨e,sz',l,g4,g5⟩:=g3 hv;simp only[g4,M.wp]at h1;obtain⟨⟨h0,Ze,rfl,Cf⟩,h1⟩:=h1;have Ars:∃b,σ b=some (s,kk)∧∃cap,a.eval (.tmp m)= .slice (some ⟨b,0,none⟩) l.length cap:=by
      obtain⟨xs,k1,k2,k3,k4⟩:=g5;rcases k1.2 with⟨hc,hz⟩|⟨g,cap,cur,hc,_⟩
      ·omega
      ·exact⟨g,k4 g (by rw[hc];rfl),cap,hc⟩
     obtain⟨b,hb,cap,hc⟩:=Ars;obtain⟨σ',st',r1,r2⟩:=hr.A7v C2 g1 Cf hv hb h1;refine Jt (w':=w) ?_ (hn G σ' st' _ w (Mem.le.refl G) r1 r2);have:=run hc h0 Ze;rwa [E3]at this
    ·exact h1.elim
  |_=>exact h1.elim
 ·exact h1.elim
end

def SV.Awr:SV→Nat→SV
 | .vec _ _ _,0=>.no
 | .box (.one (.vec _ _ _)),1=>.box (.one (.i .und))
 | .box (.st fs),j+1=>match fs[j]? with
   |some (.vec _ _ _)=>.box (.st (fs.set j (.i .und)))
   |_=>.box (.st fs)
 |sv,_=>sv
section
variable{P:Program}{N:Nat}{G:Mem}{σ:Lab}{Fr:Mem}{w0:Base}{w:World}{st:St}{a:Act}
theorem WOk.Ave(h:WOk G σ Fr w0 w)(Gf:Nat × Nat):WOk G (σ.Ave Gf) Fr w0 w:=
 ⟨h.fixed,fun b l hb=>h.own b l (Lab.Aom.1 hb).2,fun b b' l hb Sy=>h.inj b b' l (Lab.Aom.1 hb).2 (Lab.Aom.1 Sy).2,h.frame,h.os,h.tape,h.output,h.size,h.apart,h.amb⟩
theorem Aiu.one{Gf:Nat × Nat}{e:TypeId}{sz:Nat}{l:List I}{c:Value}(h:Aiu G σ w Gf e sz l c):c.oneCell'=true:=by
 obtain⟨xs,h1,_⟩:=h;rcases h1.2 with⟨rfl,_⟩|⟨g,cap,cur,rfl,_⟩<;>rfl
theorem Rel.Awr{s k ver Gu:Nat}{sv:SV}{e:TypeId}{sz:Nat}{l:List I}(h:Rel G σ Fr w0 st a w)(hs:st[s]?=some (ver,sv))(hv:sv.Aka k=some (e,sz,l))(Ze:ver<Gu):
 Rel G (σ.Ave (s,k)) Fr w0 (st.set s (Gu,sv.Awr k)) a w:=by
 refine Rel.self (new:=sv.Awr k) (ver:=Gu) h (h.Fc.Ave (s,k)) (Mem.le.refl G) hs Ze
  (fun s' hs' b k' hb=>⟨Lab.Aom.2 ⟨fun e=>hs' (by cases e;rfl),hb⟩,rfl⟩) ?_ (by
    intro h e;unfold SV.Awr at e;repeat' split at e
    all_goals first|(subst e;rw[Tr]at hv;cases hv)|cases e) (by
    intro inv t e;exfalso;unfold SV.Awr at e;repeat' split at e
    all_goals first|(subst e;cases k<;>cases hv)|cases e)
 ·have hold:=h.Eb s ver sv hs;generalize val a w0 s=c at hold ⊢;unfold SV.Aka at hv;split at hv
  ·trivial
  ·cases hv;obtain⟨b,cells,ty,h1,h2,h3,h4⟩:=hold;refine⟨b,cells,ty,h1,Lab.Aom.2 ⟨by simp,h2⟩,h3,?_⟩
   obtain⟨c',hc',h4⟩:=h4;exact⟨c',hc',h4.one⟩
  ·rename_i fs j;split at hv
   ·rename_i e' sz' l' hf;cases hv;obtain⟨b,cells,ty,h1,h2,h3,h4⟩:=hold;simp only[SV.Awr,hf];refine⟨b,cells,ty,h1,Lab.Aom.2 ⟨by simp,h2⟩,h3,?_⟩
    refine Amt.Bfd (Mem.le.refl G) h4 hf (fun b k Cf hb=>⟨Lab.Aom.2 ⟨fun e=>Cf (by cases e;omega),hb⟩,rfl⟩) fun c hc=>?_
    obtain⟨c',rfl,hc⟩:=hc;exact⟨c',rfl,hc.one⟩
   ·cases hv
  ·cases hv
def R3(e:TypeId)(sz:Nat)(x:D6)(k:List I→M):M:=match x with
 | .Ahc _ _=>k []
 | .c _=>.fail
 | .t n=>.get n fun ver sv=>match sv with
   | .vec e' sz' l=>.Hh (e'=e∧sz'=sz) fun _=>.set n (ver+1) .no (k l)
   | .bor s kk v=>.get s fun cur sv'=>.Hh (v=cur) fun _=>match sv'.Aka kk with
     |some (e',sz',l)=>.Hh (e'=e∧sz'=sz) fun _=>.set s (cur+1) (sv'.Awr kk) (k l)
     |none=>.fail
   | .sub s kk v m=>.get s fun cur sv'=>.Hh (v=cur) fun _=>match sv'.Aka kk with
     |some (e',sz',l)=>.Hh (e'=e∧sz'=sz) fun _=>.set s (cur+1) (sv'.Awr kk) (k (l.take m))
     |none=>.fail
   |_=>.fail
def Bdy(G:Mem)(σ:Lab)(Fr:Mem)(w:World)(e:TypeId)(sz:Nat)(l:List I)(c:Value):Prop:=
 ∃xs,Arr w e sz c l.length xs∧F9 G l xs∧(∀x∈l,x.size=sz)∧∀b,c.ownBlock=some b→G b=none∧Fr b=none∧σ b=none
theorem Aiu.free{Gf:Nat × Nat}{e:TypeId}{sz:Nat}{l:List I}{c:Value}(h:Aiu G σ w Gf e sz l c)(H2:WOk G σ Fr w0 w){σ':Lab}(hσ:∀b,σ b=some Gf→σ' b=none):Bdy G σ' Fr w e sz l c:=by
 obtain⟨xs,h1,h2,h3,h4⟩:=h;refine⟨xs,h1,h2,h3,fun b hb=>?_⟩
 obtain⟨k1,k2,_⟩:=H2.own b _ (h4 b hb);exact⟨k1,k2,hσ b (h4 b hb)⟩
theorem Rx{e:TypeId}{sz:Nat}{x:Operand}{y:D6}{k:List I→M}{Q:St→Prop}(h:Rel G σ Fr w0 st a w)(ho:Jj w0.n x y=true)(hq:(R3 e sz y k).wp P Q st):
 ∃l σ' st',Rel G σ' Fr w0 st' a w∧(k l).wp P Q st'∧Bdy G σ' Fr w e sz l (a.eval x):=by
 cases y with
 |c i=>exact hq.elim
 |Ahc e' sz'=>
  refine⟨[],σ,st,h,hq,[],?_,rfl,by simp,?_⟩
  ·rw[Le ho];exact Arr.nil w e sz
  ·rw[Le ho];simp[Value.ownBlock]
 |t n=>
  obtain⟨rfl,Agv⟩:=J0 ho;simp only[R3,M.wp]at hq;cases hs:st[n]? with
  |none=>simp[hs]at hq
  |some cur=>
   obtain⟨ver,sv⟩:=cur;simp only[hs]at hq;have Dh:=h.slot Agv hs;cases sv with
   |vec e' sz' l=>
    obtain⟨⟨rfl,rfl⟩,hq⟩:=hq;refine⟨l,σ.drop n,_,h.drop hs (Ej ver),hq,Aiu.free Dh h.Fc fun b hb=>?_⟩
    cases hd:σ.drop n b with
    |none=>rfl
    |some Gf=>
     obtain⟨s,k'⟩:=Gf;obtain⟨h1,h2⟩:=Lab.Ade.1 hd;rw[hb]at h2;cases h2;exact absurd rfl h1
   |bor s kk v=>
    obtain⟨cur,h1,h2,h3⟩:=Dh;simp only[M.wp,h1]at hq;obtain⟨hv,hq⟩:=hq;obtain⟨e',sz',l,h4,h5⟩:=h3 hv;simp only[h4,M.wp]at hq;obtain⟨⟨rfl,rfl⟩,hq⟩:=hq;exact⟨l,_,_,h.Awr (k:=kk) h1 h4 (Ej cur.1),hq,h5.free h.Fc fun b hb=>by simp[Lab.Ave,hb]⟩
   |sub s kk v m=>
    obtain⟨cur,h1,h2,h3⟩:=Dh;simp only[M.wp,h1]at hq;obtain⟨hv,hq⟩:=hq;obtain⟨e',sz',l,h4,h5⟩:=h3 hv;simp only[h4,M.wp]at hq;obtain⟨⟨rfl,rfl⟩,hq⟩:=hq;exact⟨l.take m,_,_,h.Awr (k:=kk) h1 h4 (Ej cur.1),hq,h5.free h.Fc fun b hb=>by simp[Lab.Ave,hb]⟩
   |_=>exact hq.elim
theorem Rel.A3i{Q:St→Prop}{d:Nat}{e:TypeId}{sz:Nat}{l:List I}{c':Value}{w':World}{row:Option Nat}(h:Rel G σ Fr w0 st a w)(hdn:d<w0.n)(hg:w.grownBy w' row)
 (Ars:∀b,row=some b→G b=none∧Fr b=none∧σ b=none) (Akd:Bdy G σ Fr w' e sz l c') (hq:(Jz d (.vec e sz l)).wp P Q st):
 ∃σ' st',Rel G σ' Fr w0 st' (a.put (some d) c') w'∧Q st':=by
 simp only[Jz,M.wp]at hq;cases hd:st[d]? with
 |none=>simp[hd]at hq
 |some cur=>
  simp only[hd]at hq;have lt:∀{b:Nat} {o:Obj},w.heap[b]?=some o→b<w.heap.size:=fun h=>(Ht.1 h).1
  have Asq:∀b Gf,σ b=some Gf→w'.heap[b]?=w.heap[b]?:=fun b Gf hb=>
   hg.block b (h.Fc.own b Gf hb).2.2 (by intro e;obtain⟨_,_,k⟩:=Ars b e.symm;rw[k]at hb;cases hb)
  have H2:WOk G σ Fr w0 w':=by
   refine⟨?_,?_,h.Fc.inj,?_,hg.os.trans h.Fc.os,hg.tape.trans h.Fc.tape,hg.output.trans h.Fc.output,Kq h.Fc.size hg.size,h.Fc.apart,h.Fc.amb⟩
   ·intro b o hb;have:=h.Fc.fixed b o hb;rw[hg.block b (lt this) (by intro e;obtain⟨k,_,_⟩:=Ars b e.symm;rw[k]at hb;cases hb)]
    exact this
   ·intro b Gf hb;obtain⟨h1,h2,h3⟩:=h.Fc.own b Gf hb;exact⟨h1,h2,Nat.lt_of_lt_of_le h3 hg.size⟩
   ·intro b o hb;have:=h.Fc.frame b o hb;rw[hg.block b (lt this) (by intro e;obtain⟨_,k,_⟩:=Ars b e.symm;rw[k]at hb;cases hb)]
    exact this
  obtain⟨xs,k1,k2,k3,k4⟩:=Akd;cases hb:c'.ownBlock with
  |none=>
   refine⟨_,_,h.put hdn (H2.drop d) (Mem.le.refl G) hd (Ej _) ?_ ?_,hq⟩
   ·intro s' hs' b k Sy;exact⟨Lab.Ade.2 ⟨hs',Sy⟩,Asq b _ Sy⟩
   ·exact⟨xs,k1,k2,k3,fun b Sy=>by rw[hb]at Sy;cases Sy⟩
  |some b=>
   obtain⟨f1,f2,f3⟩:=k4 b hb;have Ze:=k1.lt b hb;have At8:WOk G ((σ.drop d).new b (d,0)) Fr w0 w':=(H2.drop d).new f1 f2 Ze fun b' Sy=>(Lab.Ade.1 Sy).1 rfl
   refine⟨_,_,h.put hdn At8 (Mem.le.refl G) hd (Ej _) ?_ ?_,hq⟩
   ·intro s' hs' b' k Sy;exact⟨Lab.A5o (by rintro rfl;rw[f3]at Sy;cases Sy) (Lab.Ade.2 ⟨hs',Sy⟩),Asq b' _ Sy⟩
   ·exact⟨xs,k1,k2,k3,fun b' Sy=>by rw[hb]at Sy;cases Sy;exact Lab.A6m⟩
def Vi(P:Program)(t e:TypeId)(sz bytes:Nat):Bool:=match P.underlying t with
 |some (.slice e')=>e'==e&&match P.info? e with
  |some i=>i.size==sz&&i.bytes==bytes&&sz != 0&&match i.zero with
   |some z=>z.cells.size==sz
   |none=>false
  |none=>false
 |_=>false
def Af6(d:Nat)(e:TypeId)(sz bytes:Nat)(x y:D6):M:=Lw y fun u=>match u with
 | .list ys=>R3 e sz x fun l=>.Hh ((l.length+ys.length)*bytes≤140737488355328∧l.length+ys.length≤maxLen∧(∀u∈ys,u.size=sz)∧e<1000000) fun _=>Jz d (.vec e sz (l++ys))
 |_=>.fail
theorem Pj(t ty e:TypeId)(sz:Nat){i:TypeInfo}(ht:P.underlying t=some (.slice e))(hi:P.info? e=some i)(v:Value)(n:Nat)(xs:List Value)(Akd:w.ownsRow 0 e sz v n xs)(c:Nat):
 (Builtin.append_ #[t,t] ty #[v,.slice none 0 c]).run P w= .ok v w:=by
 rcases Akd.2 with⟨rfl,rfl⟩|⟨g,cap,cur,rfl,_,_,hnc,_⟩
 ·simp[Builtin.append_,run_underlying ht,sizeOf,typeInfo,hi,Builtin.lenOf,Builtin.firstCells]
 ·simp[Builtin.append_,run_underlying ht,sizeOf,typeInfo,hi,Builtin.lenOf,Builtin.firstCells,hnc,storeCells]
theorem Agd{o:Oper}{d:Nat}{t e:TypeId}{x y:Operand}{x' y':D6}{sz bytes:Nat}(hd:o.dst=some d)
 (ho:o.op= .call {callee:=.builtin .append,args:= #[x,y],argTypes:= #[t,t]}) (hx:Jj N x x'=true) (hy:Jj N y y'=true) (ht:Vi P t e sz bytes=true):
 Sound P N o (Af6 d e sz bytes x' y'):=by
 intro G0 σ0 Fr w0 st0 a w Q next E hN hr hw hn C2
 subst hN;obtain⟨u,G,σ1,st1,hG,hr1,h1,hv⟩:=L6 hr hy hw;clear hw;split at h1
 ·rename_i ys;obtain⟨l,σ,st,hr2,h2,xs,k1,k2,k3,k4⟩:=Rx hr1 hx h1;obtain⟨⟨hby,A1r,Hr,Avd⟩,h2⟩:=h2;unfold Vi at ht;split at ht
  ·rename_i e' hu;simp only[Ap,beq_iff_eq]at ht;obtain⟨rfl,ht⟩:=ht;split at ht
   ·rename_i i hi;simp only[Ap,beq_iff_eq,bne_iff_ne,ne_eq]at ht;obtain⟨⟨⟨rfl,rfl⟩,h0⟩,ht⟩:=ht;split at ht
    ·rename_i z hz;simp only[beq_iff_eq]at ht;have exec:∀{v' w'},(Builtin.append_ #[t,t] o.type #[a.eval x,a.eval y]).run P w= .ok v' w'→(execOp a.eval o).run P w= .ok (.value v') w':=by
      intro v' w' Aih;simp[execOp,ho,resolve,invoke,builtin,Aih]
     have fin:∀{v':Value} {w':World} {row:Option Nat},(Builtin.append_ #[t,t] o.type #[a.eval x,a.eval y]).run P w= .ok v' w'→w.grownBy w' row→
      (∀b,row=some b→G b=none∧Fr b=none∧σ b=none)→Bdy G σ Fr w' e' i.size (l++ys) v'→o.wp P a w next E:=by
      intro v' w' row Aih hgr Ars Atb;obtain⟨σ',st',r1,r2⟩:=hr2.A3i (C2 d hd) hgr Ars Atb h2;exact Jt (exec Aih) (by rw[hd];exact hn G σ' st' _ w' hG r1 r2)
     obtain⟨ad,cap,hc,hlc,hcm,A65⟩:=C7.list.1 hv;have Ba8:w.grownBy w none:=⟨rfl,rfl,rfl,Bz _,fun _ _ _=>rfl⟩
     have own:∀(A:Addr) (news:List Value),ad=some A→news.length=ys.length*i.size→F9 G ys news→(∀j u,news[j]?=some u→w.cell? (A.add j)=some u)→o.wp P a w next E:=by
      intro A news hA hl Dh A4o;subst hA;obtain⟨v',w',Aih,q1,q2,_,q3⟩:=run_append_own_at (P:=P) w 0 t o.type e' i z i.size i.bytes hu hi hz rfl rfl ht (by omega) (a.eval x) l.length xs (k1.to Avd) A ys.length cap news hl A4o (F9.one _ _ Dh) A1r hby (Cr _)
      rw[←hc]at Aih;refine fin Aih q2 (fun b hb=>k4 b hb) ⟨xs++news,by rw[Hq];exact .of q1,F9.append k2 Dh,?_,?_⟩
      ·intro z hz;rcases Bv.1 hz with hz|hz
       ·exact k3 z hz
       ·exact Hr z hz
      ·intro b hb;rcases q3 with q3|q3
       ·rw[q3]at hb;exact k4 b hb
       ·rw[q3]at hb;cases hb;exact hr2.Fc.fresh (Bz _)
     rcases A65 with rfl|⟨b,off,bl,ty,fz,sz',rfl,hg,A6i,hle,Dh⟩
     ·cases ad with
      |none=>
       have Aih:=Pj (P:=P) t o.type e' i.size hu hi (a.eval x) l.length xs (k1.to Avd) cap;have hc0:a.eval y= .slice none 0 cap:=hc;rw[←hc0]at Aih;exact fin Aih Ba8 (fun b hb=>by cases hb) (by rw[R2];exact⟨xs,k1,k2,k3,k4⟩)
      |some A=>exact own A [] rfl (by simp) rfl (by simp)
     ·cases ys with
      |nil=>exact own _ [] rfl (by simp) rfl (by simp)
      |cons y0 ys'=>
       have Bbr:sz'=i.size:=by rw[←A6i y0 (by simp),Hr y0 (by simp)]
       subst Bbr;refine own _ _ rfl ?_ Dh ?_
       ·rw[Hg,Ei,U6];have:bl.toList.length=bl.size:=by simp
        omega
       ·intro j u hj;have hh:=hr2.Fc.fixed b _ hg;rw[add_lit,cell_of_row w b (off+j) bl ty fz hh];have:bl[off+j]?=bl.toList[off+j]?:=by simp
        rw[this];rw[Am5]at hj;split at hj
        ·rwa [Ae3]at hj
        ·cases hj
    ·cases ht
   ·cases ht
  ·cases ht
 ·exact h1.elim
end
end Go.Ab
