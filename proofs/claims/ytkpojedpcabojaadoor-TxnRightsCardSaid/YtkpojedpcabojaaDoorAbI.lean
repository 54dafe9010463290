/- Lemmas -/
import Derived.Test.YtkpojedpcabojaaDoorAbE4
import Derived.Deep.AppendSrc
import Derived.Laws.OwnMore
set_option linter.unusedVariables false
set_option linter.unusedSimpArgs false
namespace Go.Ab
open Go.Op
mutual
def zD:D→List Value→Option (List Value)
 | .it x,cs=>zI x cs
 | .st l,cs=>zDs l cs
 | .vec _ _ [],.slice none 0 0::cs=>some cs
 |_,_=>none
def zDs:List D→List Value→Option (List Value)
 | [],cs=>some cs
 |d::l,cs=>match zD d cs with
  |some cs=>zDs l cs
  |none=>none
end
mutual
theorem zD_spec(G:Mem)(w:World):∀(d:D) (cs rest:List Value),zD d cs=some rest→∃c,cs=c++rest∧RepD G w d c []
 | .it x,cs,rest,h=>by
   simp only[zD]at h;obtain⟨c,e,h⟩:=zI_spec G x cs rest h;exact⟨c,e,by simp only[RepD,and_true];exact h⟩
 | .st l,cs,rest,h=>by
   simp only[zD]at h;obtain⟨c,e,h⟩:=zDs_spec G w l cs rest h;exact⟨c,e,by simp only[RepD];exact h⟩
 | .vec e sz [],cs,rest,h=>by
   cases cs with
   |nil=>simp[zD]at h
   |cons c r=>
    cases c<;>first|(simp[zD]at h;done)|skip
    rename_i ad n m;cases ad<;>cases n<;>cases m<;>first|(simp[zD]at h;done)|skip
    simp only[zD,Option.some.injEq]at h;subst h;exact⟨[.slice none 0 0],rfl,by simp[RepD]⟩
 | .vec e sz (_::_),cs,rest,h=>by simp[zD]at h
 | .ptr d,cs,rest,h=>by simp[zD]at h
 | .map ks vs,cs,rest,h=>by simp[zD]at h
theorem zDs_spec(G:Mem)(w:World):∀(l:List D) (cs rest:List Value),zDs l cs=some rest→∃c,cs=c++rest∧RepDs G w l c []
 | [],cs,rest,h=>by simp only[zDs,Option.some.injEq]at h;subst h;exact⟨[],rfl,by simp[RepDs]⟩
 |d::l,cs,rest,h=>by
  simp only[zDs]at h;split at h
  ·rename_i cs' hd;obtain⟨c,rfl,h1⟩:=zD_spec G w d cs cs' hd;obtain⟨c',rfl,h2⟩:=zDs_spec G w l cs' rest h;refine⟨c++c',by simp,?_⟩
   simp only[RepDs];exact⟨c,c',[],[],rfl,rfl,h1,h2⟩
  ·cases h
end
def Wq(P:Program)(t:TypeId)(x:D):Bool:=match P.info? t with
 |some i=>match i.zero with
  |some z=>match zD x z.cells.toList with
   |some []=>true
   |_=>false
  |none=>false
 |none=>false
def W6(d:Nat)(t:D):M:=Jz d (.own [] (.ptr t))
def Abj(d:Nat)(x:Opd):M:=M6 x fun u=>Jz d (.own [] (.ptr u))
def Py:List (Nat × Opd)→List D→(List D→M)→M
 | [],zs,k=>k zs
 |(i,x)::ps,zs,k=>M6 x fun u=>match zs[i]? with
  |some z=>.need (u.size=z.size) fun _=>Py ps (zs.set i u) k
  |none=>.fail
def Xc(d:Nat)(zs:List D)(ps:List (Nat × Opd)):M:=Py ps zs fun l=>Jz d (.own [] (mkSt l))
def U0(P:Program)(t:TypeId)(zs:List D):Bool:=match P.underlying t,P.info? t with
 |some (.struct fs),some i=>(match i.zero with
  |some z=>match zDs zs z.cells.toList with
   |some []=>true
   |_=>false
  |none=>false)&&
  fs.size==zs.length&&(List.range zs.length).all fun j=>match fs[j]?,zs[j]? with
   |some f,some z=>f.offset==dsizes (zs.take j)&&match P.info? f.type with
    |some i=>i.size==z.size
    |none=>false
   |_,_=>false
 |_,_=>false
def V5(d:Nat)(e:TypeId)(sz:Nat)(z:I)(n:Nat)(ps:List (Nat × Opd)):M:=Py ps (List.replicate n (.it z)) fun l=>.need (l.length=n∧∀u∈l,u.size=sz) fun _=>Jz d (.own [] (.vec e sz l))
def Ry:D→Option (List D)
 | .vec _ _ l=>some l
 | .it x=>match x with
   | .list l=>some (l.map D.it)
   |_=>none
 |_=>none
def Wn(d:Nat)(e:TypeId)(sz bytes:Nat)(x y:Opd):M:=M6 y fun u=>M6 x fun v=>match v,Ry u with
 | .vec e' sz' l,some ys=>.need (e'=e∧sz'=sz∧(l.length+ys.length)*bytes≤140737488355328∧l.length+ys.length≤maxLen∧(∀u∈ys,u.size=sz)∧e<1000000) fun _=>Jz d (.own [] (.vec e sz (l++ys)))
 |_,_=>.fail
section
variable{P:Program}{N:Nat}{G:Mem}{σ:Lab}{Fr:Mem}{w0:Base}{w:World}{st:St}{a:Act}
theorem Rel.turned{w':World}{row:Option Nat}(h:Rel G σ Fr w0 st a w)(hg:w.grownBy w' row)(hrow:∀b,row=some b→G b=none∧Fr b=none∧σ b=none):Rel G σ Fr w0 st a w':=by
 have lt:∀{b:Nat} {o:Obj},w.heap[b]?=some o→b<w.heap.size:=fun h=>(Array.getElem?_eq_some_iff.1 h).1
 have keep:∀b lab,σ b=some lab→w'.heap[b]?=w.heap[b]?:=fun b lab hb=>
  hg.block b (h.wok.own b lab hb).2.2 (by intro e;obtain⟨_,_,k⟩:=hrow b e.symm;rw[k]at hb;cases hb)
 have hok:WOk G σ Fr w0 w':=by
  refine⟨?_,?_,h.wok.inj,?_,hg.os.trans h.wok.os,hg.tape.trans h.wok.tape,hg.output.trans h.wok.output,Nat.le_trans h.wok.size hg.size,h.wok.apart,h.wok.amb⟩
  ·intro b o hb;have:=h.wok.fixed b o hb;rw[hg.block b (lt this) (by intro e;obtain⟨k,_,_⟩:=hrow b e.symm;rw[k]at hb;cases hb)]
   exact this
  ·intro b lab hb;obtain⟨h1,h2,h3⟩:=h.wok.own b lab hb;exact⟨h1,h2,Nat.lt_of_lt_of_le h3 hg.size⟩
  ·intro b o hb;have:=h.wok.frame b o hb;rw[hg.block b (lt this) (by intro e;obtain⟨_,k,_⟩:=hrow b e.symm;rw[k]at hb;cases hb)]
   exact this
 exact⟨hok,h.defers,h.n,h.len,fun s ver sv hs=>(h.slots s ver sv hs).keep (Mem.le.refl G) (fun s' b k hb=>⟨hb,keep b _ hb⟩) h.slots,h.pars⟩
theorem Uu{Q:St→Prop}{d:Nat}{u:D}{bs:List Nat}{cells:Array Value}{e:TypeId}(h:Rel G σ Fr w0 st a w)(hdn:d<w0.n)(hu:RepD G w u cells.toList bs)(hnd:bs.Nodup)
 (hf:∀b∈bs,G b=none∧Fr b=none∧σ b=none∧b<w.heap.size) (hq:(Jz d (.own [] (.ptr u))).wp P Q st):
 ∃σ' st',Rel G σ' Fr w0 st' (a.put (some d) (.pointer (some ⟨w.heap.size,0,none⟩))) (w.alloc (.cells cells e))∧Q st':=by
 have hr:Rel G σ Fr w0 st a (w.alloc (.cells cells e)):=h.grow rfl rfl rfl (by simp) fun b hb=>K8 w _ b hb
 obtain⟨f1,f2,f3⟩:=h.wok.fresh (Nat.le_refl w.heap.size);refine hr.adopt hdn ⟨w.heap.size::bs,?_,rfl,List.nodup_cons.2 ⟨fun hb=>?_,hnd⟩,fun b hb=>?_⟩ hq
 ·simp only[RepD,Value.cells];exact⟨w.heap.size,cells,e,bs,rfl,heap_alloc_new w _,hu.tr (Mem.le.refl G) fun b hb=>K8 w _ b (hf b hb).2.2.2,rfl⟩
 ·have:=(hf _ hb).2.2.2;omega
 ·rcases List.mem_cons.1 hb with rfl|hb
  ·exact⟨f1,f2,f3,by simp⟩
  ·obtain⟨k1,k2,k3,k4⟩:=hf b hb;exact⟨k1,k2,k3,by simp;omega⟩
theorem Zs{o:Oper}{e:TypeId}{d:Nat}{t:D}(hd:o.dst=some d)(ho:o.op= .alloc e)(hz:Wq P e t=true):Sound P N o (W6 d t):=by
 intro G σ Fr w0 st a w Q next E hN hr hw hn hdst
 subst hN;unfold Wq at hz;split at hz
 ·rename_i i hi;split at hz
  ·rename_i z hzv;split at hz
   ·rename_i hzd;obtain⟨c,hc,hrep⟩:=zD_spec G w t _ _ hzd;rw[List.append_nil]at hc;obtain⟨σ',st',h1,h2⟩:=Uu (P:=P) (e:=e) (cells:=z.cells) hr (hdst d hd) (by rw[hc];exact hrep) List.nodup_nil (by simp) hw
    refine Jt (w':=w.alloc (.cells z.cells e)) ?_ (by rw[hd];exact hn G σ' st' _ _ (Mem.le.refl G) h1 h2)
    simp[execOp,ho,Instr.alloc,zeroValue,typeInfo,hi,hzv,newVar,newRow]
   ·cases hz
  ·cases hz
 ·cases hz
theorem Ada{o:Oper}{e:TypeId}{d:Nat}{x:Operand}{x':Opd}(hd:o.dst=some d)(ho:o.op= .box e x)(hx:Jj N x x'=true):Sound P N o (Abj d x'):=by
 intro G σ Fr w0 st a w Q next E hN hr hw hn hdst
 subst hN;obtain⟨u,bs,G',σ',st',hG,hr',h1,⟨f1,f2,f3,f4⟩,_⟩:=Lv hr hx hw;obtain⟨σ'',st'',h2,h3⟩:=Uu (P:=P) (e:=e) (cells:=(a.eval x).cells) hr' (hdst d hd) f1 f3 f4 h1;refine Jt (w':=w.alloc (.cells (a.eval x).cells e)) ?_ (by rw[hd];exact hn G' σ'' st'' _ _ hG h2 h3)
 simp[execOp,ho,Instr.box,newVar,newRow]
theorem Rq{place:Nat→Option (Nat × Nat)}{Q:St→Prop}:∀{ps:List (Nat × Operand)} {ps':List (Nat × Opd)} {zs:List D} {cells:Array Value} {bs:List Nat} {k:List D→M} {G:Mem} {σ:Lab} {st:St},
 Rel G σ Fr w0 st a w→La w0.n ps ps'=true→(Py ps' zs k).wp P Q st→RepDs G w zs cells.toList bs→bs.Nodup→(∀b∈bs,G b=none∧Fr b=none∧σ b=none∧b<w.heap.size)→
 (∀i z,zs[i]?=some z→place i=some (dsizes (zs.take i),z.size))→
 ∃zs' cells' bs' G' σ' st',G.le G'∧Rel G' σ' Fr w0 st' a w∧(k zs').wp P Q st'∧RepDs G' w zs' cells'.toList bs'∧bs'.Nodup∧(∀b∈bs',G' b=none∧Fr b=none∧σ' b=none∧b<w.heap.size)∧
  Instr.fill place cells (ps.map fun p=>(p.1,a.eval p.2))=some cells'
 | [],[],zs,cells,bs,k,G,σ,st,hr,_,hq,hz,hnd,hf,_=>⟨zs,cells,bs,G,σ,st,Mem.le.refl G,hr,hq,hz,hnd,hf,rfl⟩
 |(i,x)::ps,(j,y)::ps',zs,cells,bs,k,G,σ,st,hr,ho,hq,hz,hnd,hf,hpl=>by
  simp only[La,Bool.and_eq_true,beq_iff_eq]at ho;obtain⟨⟨rfl,ho⟩,hos⟩:=ho;obtain⟨u,bu,G',σ',st',hG,hr',h1,⟨g1,g2,g3,g4⟩,g5,g6⟩:=Lv hr ho hq;cases hzi:zs[i]? with
  |none=>simp only[hzi]at h1;exact h1.elim
  |some z=>
   simp only[hzi]at h1;obtain⟨hsz,h1⟩:=h1;obtain⟨c1,c,c2,b1,b,b2,e1,rfl,e2,e3,hset,_⟩:=RepDs.nth hz hzi;have hcl:c.length=(a.eval x).cells.size:=by
    rw[RepD.length e3, ←hsz, ←RepD.length g1];simp
   have hfold:=Yp (v:=a.eval x) (off:=dsizes (zs.take i)) e1 e2 hcl;have hplace:=hpl i z hzi;have hbu:∀x∈bu,x ∉ b1++b++b2:=fun x hx hm=>g5 x hx (hf x hm).2.2.1
   obtain⟨n1,n2⟩:=Px hnd g3 fun x hx=>.inr (hbu x hx)
   obtain⟨zs',cells',bs',G'',σ'',st'',hG',hr'',h2,h3,h4,h5,h6⟩:=Rq (place:=place) hr' hos h1 (bs:=b1++bu++b2) (cells:=(a.eval x).cells.zipIdx.foldl (fun(cs:Array Value) (p:Value × Nat)=>cs.setIfInBounds (dsizes (zs.take i)+p.2) p.1) cells)
    (by rw[hfold];exact hset G' w u _ bu hG g1 fun _ _=>rfl) n1 (fun x hx=>by
      rcases(n2 x).1 hx with⟨hm,_⟩|hm
      ·obtain⟨k1,k2,k3,k4⟩:=hf x hm;obtain⟨q1,q2⟩:=g6 x k3 k1;exact⟨q2,k2,q1,k4⟩
      ·exact g4 x hm) (by
      intro i' z' hz';have hi:i<zs.length:=(List.getElem?_eq_some_iff.1 hzi).1;rw[Sf hzi hsz];by_cases hii:i'=i
      ·subst hii;rw[List.getElem?_set_self hi]at hz';cases hz';rw[hplace,hsz]
      ·rw[List.getElem?_set_ne (Ne.symm hii)]at hz';rw[hpl i' z' hz'])
   refine⟨zs',cells',bs',G'',σ'',st'',hG.trans hG',hr'',h2,h3,h4,h5,?_⟩;simp only[List.map_cons,Instr.fill,hplace];have hszc:(a.eval x).cells.size=z.size:=by rw[←hcl,RepD.length e3]
   have hle:¬(dsizes (zs.take i)+(a.eval x).cells.size>cells.size):=by
    have:cells.size=cells.toList.length:=by simp
    rw[this,e1, ←e2, ←hcl];simp
   rw[if_neg (by simp[hszc]at hle ⊢;omega)]
   exact h6
 | [],_::_,_,_,_,_,_,_,_,_,ho,_,_,_,_,_=>by cases ho
 |_::_,[],_,_,_,_,_,_,_,_,ho,_,_,_,_,_=>by simp[La]at ho
theorem Zw{o:Oper}{d:Nat}{t:TypeId}{ps:Array (Nat × Operand)}{zs:List D}{ps':List (Nat × Opd)}(hd:o.dst=some d)(ho:o.op= .build t ps)(hp:La N ps.toList ps'=true)(ht:U0 P t zs=true):
 Sound P N o (Xc d zs ps'):=by
 intro G σ Fr w0 st a w Q next E hN hr hw hn hdst
 subst hN;unfold U0 at ht;split at ht
 ·rename_i fs i hu hi;simp only[Bool.and_eq_true,beq_iff_eq]at ht;obtain⟨⟨hz,hlen⟩,hall⟩:=ht;cases hzv:i.zero with
  |none=>simp[hzv]at hz
  |some z=>
   simp only[hzv]at hz;have hz':∃c,z.cells.toList=c++[]∧RepDs G w zs c []:=by
    split at hz
    ·rename_i h;exact zDs_spec G w zs _ _ h
    ·cases hz
   obtain⟨c,hc,hz'⟩:=hz';rw[List.append_nil]at hc;subst hc;have hfield:∀j f zz,fs[j]?=some f→zs[j]?=some zz→f.offset=dsizes (zs.take j)∧(sizeOf f.type).run P w= .ok zz.size w:=by
    intro j f zz hf hzz;have hj:j<zs.length:=(List.getElem?_eq_some_iff.1 hzz).1;have:=List.all_eq_true.1 hall j (List.mem_range.2 hj);simp only[hf,hzz,Bool.and_eq_true,beq_iff_eq]at this;obtain⟨h1,h2⟩:=this;refine⟨h1,?_⟩;cases hfi:P.info? f.type with
    |none=>simp[hfi]at h2
    |some jn=>
     simp only[hfi,beq_iff_eq]at h2;simp[sizeOf,typeInfo,hfi,h2]
   let szf:Field→Nat:=fun f=>((P.info? f.type).map (·.size)).getD 0
   have hszf:∀f∈fs.toList,(sizeOf f.type).run P w= .ok (szf f) w:=by
    intro f hf;obtain⟨j,hj⟩:=List.mem_iff_getElem?.1 hf;have hj':j<zs.length:=by
     have:=(List.getElem?_eq_some_iff.1 hj).1;simp at this;omega
    have h2:=(hfield j f zs[j] (by simpa using hj) (List.getElem?_eq_getElem hj')).2
    cases hfi:P.info? f.type with
    |none=>simp[sizeOf,typeInfo,hfi]at h2
    |some jn=>simp[sizeOf,typeInfo,hfi,szf]
   have hplaces:∀j zz,zs[j]?=some zz→(fs.toList.map fun f=>(f.offset,szf f)).toArray[j]?=some (dsizes (zs.take j),zz.size):=by
    intro j z0 hzj;have hj:j<zs.length:=(List.getElem?_eq_some_iff.1 hzj).1;have hjf:fs[j]?=some (fs[j]'(by omega)):=Array.getElem?_eq_getElem (by omega)
    obtain⟨h1,h2⟩:=hfield j _ z0 hjf hzj;have h3:=hszf _ (by simp:fs[j]'(by omega)∈fs.toList)
    rw[h2]at h3;have h4:z0.size=szf (fs[j]'(by omega)):=by injection h3
    simp[hjf,h1,h4]
   obtain⟨zs',cells',bs',G',σ',st',hG,hr',h2,h3,h4,h5,h6⟩:=Rq (place:=fun j=>(fs.toList.map fun f=>(f.offset,szf f)).toArray[j]?) hr hp hw hz' List.nodup_nil (by simp) hplaces
   obtain⟨σ2,st2,r1,r2⟩:=hr'.adopt (P:=P) (hdst d hd) (c:=.agg cells') ⟨bs',RepD.mkSt.2 h3,by rw[Sw];rfl,h4,h5⟩ h2
   refine Jt (w':=w) ?_ (by rw[hd];exact hn G' σ2 st2 _ w hG r1 r2)
   have hm:=Ux (P:=P) (w:=w) hszf;have hparts:(ps.map fun(p:Nat × Operand)=>(p.1,a.eval p.2)).toList=ps.toList.map fun p=>(p.1,a.eval p.2):=by simp
   have hm':(fs.mapM fun f=>(do pure (f.offset, ←sizeOf f.type):Sem (Nat × Nat))).run P w= .ok (fs.toList.map fun f=>(f.offset,szf f)).toArray w:=by
    rw[Array.mapM_eq_mapM_toList,Sem.run_map,hm];rfl
   have hzero:(zeroValue t).run P w= .ok z w:=by simp[zeroValue,typeInfo,hi,hzv]
   simp only[execOp,ho,Instr.build,Sem.run_bind,hzero,Result.andThen,run_underlying hu,hm',hparts,h6,Sem.run_pure]
 ·cases ht
theorem Wm{z:I}{c:List Value}(h:RepI G z c)(n:Nat):RepDs G w (List.replicate n (.it z)) (List.replicate n c).flatten []:=by
 have:=Po h n;rw[←List.map_replicate];exact RepDs.its.2 ⟨this,rfl⟩
theorem Xy{o:Oper}{d:Nat}{t e:TypeId}{sz n:Nat}{z:I}{ps:Array (Nat × Operand)}{ps':List (Nat × Opd)}(hd:o.dst=some d)(ho:o.op= .buildSlice t n ps)(hp:La N ps.toList ps'=true)(ht:N6 P t e sz z n=true):
 Sound P N o (V5 d e sz z n ps'):=by
 intro G σ Fr w0 st a w Q next E hN hr hw hn hdst
 subst hN;unfold N6 at ht;split at ht
 ·rename_i e' hu;simp only[Bool.and_eq_true,beq_iff_eq,bne_iff_ne,ne_eq,decide_eq_true_eq]at ht;obtain⟨⟨⟨rfl,hn4⟩,hn0⟩,ht⟩:=ht;split at ht
  ·rename_i i hi;simp only[Bool.and_eq_true,beq_iff_eq,bne_iff_ne,ne_eq,decide_eq_true_eq]at ht;obtain⟨⟨⟨⟨rfl,h0⟩,hs4⟩,hzsz⟩,ht⟩:=ht;split at ht
   ·rename_i v hv;simp only[Bool.and_eq_true,beq_iff_eq]at ht;obtain⟨hvs,hz⟩:=ht;have hz':∃c,v.cells.toList=c++[]∧RepI G z c:=by
     split at hz
     ·rename_i h;exact zI_spec G z _ _ h
     ·cases hz
    obtain⟨c,hc,hz'⟩:=hz';rw[List.append_nil]at hc;subst hc;have hcells0:RepDs G w (List.replicate n (.it z)) ((Array.range (n*i.size)).map (fun j=>v.cells[j % v.cells.size]!)).toList []:=by
     rw[Wj hvs];exact Wm hz' n
    have hplace:∀(j:Nat) (zz:D),(List.replicate n (D.it z))[j]?=some zz→(fun j:Nat=>some (j*i.size,i.size)) j=some (dsizes ((List.replicate n (D.it z)).take j),zz.size):=by
     intro j zz hzz;have hj:j<n:=by have:=(List.getElem?_eq_some_iff.1 hzz).1;simpa using this
     have hzz':zz= .it z:=by rw[List.getElem?_replicate,if_pos hj]at hzz;cases hzz;rfl
     subst hzz';rw[Sg (sz:=i.size) (by intro x hx;rw[List.eq_of_mem_replicate hx];exact hzsz) (by simp;omega)]
     simp[D.size,hzsz]
    obtain⟨l,cells,bs',G',σ',st',hG,hr',h2,h3,h3n,h3f,h4⟩:=Rq (place:=fun j=>some (j*i.size,i.size)) hr hp hw hcells0 List.nodup_nil (by simp) hplace
    obtain⟨⟨hl,hsz⟩,h2⟩:=h2;have hclen:cells.size=n*i.size:=by
     have:=RepDs.length h3;rw[Lr hsz,hl]at this;simpa using this
    have hnm:n≤maxLen:=by simp only[maxLen];omega
    have hg:Rel G' σ' Fr w0 st' a (w.alloc (.cells cells e')):=hr'.grow rfl rfl rfl (by simp) fun b hb=>K8 w _ b hb
    obtain⟨f1,f2,f3⟩:=hr'.wok.fresh (Nat.le_refl w.heap.size);obtain⟨σ'',st'',r1,r2⟩:=hg.adopt (P:=P) (hdst d hd) (c:=.slice (some ⟨w.heap.size,0,none⟩) n n) ⟨w.heap.size::bs',by
     simp only[RepD,Value.cells];refine .inr ⟨w.heap.size,0,n,cells,cells.toList,bs',by rw[hl],Row.of (heap_alloc_new w _),fun _=>⟨rfl,hclen⟩,by rw[hl];exact Nat.le_refl _,hnm,by rw[Nat.zero_add,hclen];exact Nat.le_refl _,?_,h3.tr (Mem.le.refl G') fun b hb=>K8 w _ b (h3f b hb).2.2.2,hsz,rfl⟩
     rw[hl, ←hclen];have:cells.size=cells.toList.length:=by simp
     rw[this,List.drop_zero,List.take_length],rfl,List.nodup_cons.2 ⟨fun hb=>by have:=(h3f _ hb).2.2.2;omega,h3n⟩,fun b hb=>by
     rcases List.mem_cons.1 hb with rfl|hb
     ·exact⟨f1,f2,f3,by simp⟩
     ·obtain⟨k1,k2,k3,k4⟩:=h3f b hb;exact⟨k1,k2,k3,by simp;omega⟩⟩ h2
    have hbig:¬(n*i.size>2^24):=by
     have:n*i.size≤4096*4096:=Nat.mul_le_mul hn4 hs4;omega
    have hparts:(ps.map fun(p:Nat × Operand)=>(p.1,a.eval p.2)).toList=ps.toList.map fun p=>(p.1,a.eval p.2):=by simp
    have hzero:(zeroValue e').run P w= .ok v w:=by simp[zeroValue,typeInfo,hi,hv]
    have hsizeOf:(sizeOf e').run P w= .ok i.size w:=by simp[sizeOf,typeInfo,hi]
    refine Jt (w':=w.alloc (.cells cells e')) ?_ (by rw[hd];exact hn G' σ'' st'' _ _ hG r1 r2)
    have hne:n*i.size≠0:=Nat.mul_ne_zero hn0 h0;have h4':Instr.fill (fun j=>some (j*i.size,i.size)) ((Array.range (n*i.size)).map (fun j=>v.cells[j % v.cells.size]!)) (ps.toList.map fun p=>(p.1,a.eval p.2))=some cells:=h4
    simp only[execOp,ho,Instr.buildSlice,Sem.run_bind,run_underlying hu,Result.andThen,hsizeOf];rw[if_neg hbig,if_neg hne];simp only[Sem.run_bind,hzero,Result.andThen,Sem.run_pure,hparts,h4'];simp[newRow]
   ·cases ht
  ·cases ht
 ·cases ht
theorem RepDs.append{l m:List D}{cs ds:List Value}{bs bs':List Nat}(h:RepDs G w l cs bs)(h':RepDs G w m ds bs'):RepDs G w (l++m) (cs++ds) (bs++bs'):=by
 induction l generalizing cs bs with
 |nil=>
  simp only[RepDs]at h;obtain⟨rfl,rfl⟩:=h;exact h'
 |cons x l ih=>
  simp only[RepDs]at h;obtain⟨c,c',b,b',rfl,rfl,h1,h2⟩:=h;simp only[List.cons_append,RepDs];exact⟨c,c'++ds,b,b'++bs',by simp,by simp,h1,ih h2⟩
theorem Aaf{u:D}{ys:List D}{c:Value}{bs:List Nat}{sz:Nat}(h:FreeB G σ Fr w u c bs)(hok:WOk G σ Fr w0 w)(he:Ry u=some ys)(hsz:∀u∈ys,u.size=sz):
 ∃ad cap,c= .slice ad ys.length cap∧((ad=none∧ys=[])∨∃A news bn,ad=some A∧news.length=ys.length*sz∧RepDs G w ys news bn∧bn.Nodup∧(∀b∈bn,b∈bs)∧∀j u,news[j]?=some u→w.cell? (A.add j)=some u):=by
 obtain⟨h1,h2,h3,h4⟩:=h;cases u with
 |vec e sz' l=>
  simp only[Ry,Option.some.injEq]at he;subst he;rw[J9 h2]at h1;simp only[RepD]at h1;rcases h1 with⟨e1,rfl,_⟩|⟨g,off,cap,cur,xs,bs',e1,⟨ty,fz,q1,_⟩,_,q2,q3,q4,q5,q6,q7,rfl⟩
  ·injection e1 with e1
   exact⟨none,0,e1,.inl ⟨rfl,rfl⟩⟩
  ·injection e1 with e1
   refine⟨_,cap,e1,.inr ⟨_,xs,bs',rfl,?_,q6,(List.nodup_cons.1 h3).2,fun b hb=>by simp[hb],?_⟩⟩
   ·rw[RepDs.length q6,Lr hsz]
   ·intro j u hj;rw[add_lit,cell_of_row w g (off+j) cur ty fz q1];have:cur[off+j]?=cur.toList[off+j]?:=by simp
    rw[this];rw[←q5,List.getElem?_take]at hj;split at hj
    ·rw[List.getElem?_drop]at hj;exact hj
    ·cases hj
 |it x=>
  cases x with
  |list l=>
   simp only[Ry,Option.some.injEq]at he;subst he;simp only[RepD]at h1;obtain⟨h1,rfl⟩:=h1;rw[J9 h2]at h1;have hv:RepV G (.list l) c:=by
    unfold RepV;rw[if_neg (by simp[I.isAgg])]
    exact h1
   obtain⟨ad,cap,hc,hlc,hcm,hcase⟩:=RepV.list.1 hv;refine⟨ad,cap,by simpa using hc,?_⟩
   rcases hcase with rfl|⟨b,off,bl,ty,fz,sz',rfl,hg,hsz',hle,hrep⟩
   ·cases ad with
    |none=>exact .inl ⟨rfl,rfl⟩
    |some A=>exact .inr ⟨A,[],[],rfl,by simp,by simp[RepDs],List.nodup_nil,by simp,by simp⟩
   ·cases l with
    |nil=>exact .inr ⟨_,[],[],rfl,by simp,by simp[RepDs],List.nodup_nil,by simp,by simp⟩
    |cons y0 l'=>
     have hszz:sz'=sz:=by
      rw[←hsz' y0 (by simp)]
      exact hsz (.it y0) (by simp)
     subst hszz;refine .inr ⟨_,_,[],rfl,?_,RepDs.its.2 ⟨hrep,rfl⟩,List.nodup_nil,by simp,?_⟩
     ·rw[List.length_take,List.length_drop,Nat.min_eq_left]
      ·simp
      ·have:bl.toList.length=bl.size:=by simp
       omega
     ·intro j u hj;have hh:=hok.fixed b _ hg;rw[add_lit,cell_of_row w b (off+j) bl ty fz hh];have:bl[off+j]?=bl.toList[off+j]?:=by simp
      rw[this];rw[List.getElem?_take]at hj;split at hj
      ·rwa [List.getElem?_drop]at hj
      ·cases hj
  |_=>simp[Ry]at he
 |_=>simp[Ry]at he
theorem Ac8{o:Oper}{d:Nat}{t e:TypeId}{x y:Operand}{x' y':Opd}{sz bytes:Nat}(hd:o.dst=some d)
 (ho:o.op= .call {callee:=.builtin .append,args:= #[x,y],argTypes:= #[t,t]}) (hx:Jj N x x'=true) (hy:Jj N y y'=true) (ht:Vi P t e sz bytes=true):
 Sound P N o (Wn d e sz bytes x' y'):=by
 intro G0 σ0 Fr w0 st0 a w Q next E hN hr hw hn hdst
 subst hN;obtain⟨u,bu,G1,σ1,st1,hG1,hr1,h1,hfu,_,_⟩:=Lv hr hy hw;obtain⟨v,bv,G,σ,st,hG2,hr2,h2,hfv,hlv,hk2⟩:=Lv hr1 hx h1;have hG:G0.le G:=hG1.trans hG2;clear hw h1;have hfu1:=hfu
 replace hfu:=hfu.later hG2 hk2
 split at h2
 ·rename_i e' sz' l ys hys;obtain⟨⟨rfl,rfl,hby,hmax,hsz,hbig⟩,h2⟩:=h2;obtain⟨v1,v2,v3,v4⟩:=hfv;rw[J9 v2]at v1;obtain⟨ad,cap,hcy,hcase⟩:=Aaf hfu hr2.wok hys hsz;have hdis:∀b∈bu,b ∉ bv:=fun b hb hb'=>hlv b hb' (hfu1.2.2.2 b hb).2.2.1
  unfold Vi at ht;split at ht
  ·rename_i e'' hu;simp only[Bool.and_eq_true,beq_iff_eq]at ht;obtain⟨rfl,ht⟩:=ht;split at ht
   ·rename_i i hi;simp only[Bool.and_eq_true,beq_iff_eq,bne_iff_ne,ne_eq]at ht;obtain⟨⟨⟨rfl,rfl⟩,h0⟩,ht⟩:=ht;split at ht
    ·rename_i z hz;simp only[beq_iff_eq]at ht;have exec:∀{v' w'},(Builtin.append_ #[t,t] o.type #[a.eval x,a.eval y]).run P w= .ok v' w'→(execOp a.eval o).run P w= .ok (.value v') w':=by
      intro v' w' hrun;simp[execOp,ho,resolve,invoke,builtin,hrun]
     obtain⟨xs,bx,hown,hxs,hxsz,hbx,hrowb⟩:∃xs bx,w.ownsRow 0 e'' i.size (a.eval x) l.length xs∧RepDs G w l xs bx∧(∀x∈l,x.size=i.size)∧bx.Nodup∧
      ∀b,(b∈bx∨(a.eval x).ownBlock=some b)→(b∈bv∧(b∈bx→(a.eval x).ownBlock≠some b)):=by
      simp only[RepD]at v1;rcases v1 with⟨e1,rfl,rfl⟩|⟨g,off,cp,cur,xs,bs',e1,q1,q0,q2,q3,q4,q5,q6,q7,rfl⟩
      ·injection e1 with e1
       rw[e1];exact⟨[],[],(OwnsR.nil w e'' i.size).to hbig,by simp[RepDs],by simp,List.nodup_nil,by simp[Value.ownBlock]⟩
      ·injection e1 with e1
       rw[e1];obtain⟨rfl,q4'⟩:=q0 hbig;refine⟨xs,bs',⟨by rw[RepDs.length q6,Lr q7],.inr ⟨g,cp,cur,rfl,Nat.zero_le _,q1.to hbig,q2,q3,q4',q5⟩⟩,q6,q7,(List.nodup_cons.1 v3).2,?_⟩
       intro b hb;simp only[Value.ownBlock,Option.some.injEq]at hb ⊢;rcases hb with hb|rfl
       ·exact⟨by simp[hb],fun _ e=>by cases e;exact(List.nodup_cons.1 v3).1 hb⟩
       ·exact⟨by simp,fun h e=>(List.nodup_cons.1 v3).1 h⟩
     have fin:∀{v':Value} {w':World} {row:Option Nat} {news:List Value} {bn:List Nat},(Builtin.append_ #[t,t] o.type #[a.eval x,a.eval y]).run P w= .ok v' w'→w.grownBy w' row→row=(a.eval x).ownBlock→
      RepDs G w ys news bn→bn.Nodup→(∀b∈bn,b∈bu)→w'.ownsRow 0 e'' i.size v' (l.length+ys.length) (xs++news)→(v'.ownBlock=(a.eval x).ownBlock∨v'.ownBlock=some w.heap.size)→o.wp P a w next E:=by
      intro v' w' row news bn hrun hgr hrow hy1 hy2 hy3 hq1 hq2;have hrowfree:∀b,row=some b→G b=none∧Fr b=none∧σ b=none:=fun b hb=>by
       obtain⟨k1,k2,k3,_⟩:=v4 b (hrowb b (.inr (by rw[←hrow];exact hb))).1
       exact⟨k1,k2,k3⟩
      have hr3:=hr2.turned hgr hrowfree;have hnest:∀b∈bx++bn,(G b=none∧Fr b=none∧σ b=none∧b<w.heap.size)∧(a.eval x).ownBlock≠some b:=by
       intro b hb;rcases List.mem_append.1 hb with hb|hb
       ·obtain⟨k1,k2⟩:=hrowb b (.inl hb);exact⟨v4 b k1,k2 hb⟩
       ·refine⟨hfu.2.2.2 b (hy3 b hb),fun e=>?_⟩
        exact hdis b (hy3 b hb) (hrowb b (.inr e)).1
      have hsame:∀b∈bx++bn,w'.heap[b]?=w.heap[b]?:=fun b hb=>hgr.block b (hnest b hb).1.2.2.2 (by rw[hrow];exact fun e=>(hnest b hb).2 e.symm)
      have hnd:(bx++bn).Nodup:=by
       rw[List.nodup_append];refine⟨hbx,hy2,fun b hb c hc e=>?_⟩
       subst e;exact hdis b (hy3 b hc) (hrowb b (.inl hb)).1
      have hrep:RepDs G w' (l++ys) (xs++news) (bx++bn):=(hxs.append hy1).tr (Mem.le.refl G) hsame;have hszs:∀z∈l++ys,z.size=i.size:=by
       intro z hz;rcases List.mem_append.1 hz with hz|hz
       ·exact hxsz z hz
       ·exact hsz z hz
      have hFB:FreeD G σ Fr w' (.vec e'' i.size (l++ys)) v':=by
       have hq1':=OwnsR.of hq1;rcases hq1'.2 with⟨rfl,hl0⟩|⟨g,cp,cur,rfl,_,k1,k2,k3,k4,k5⟩
       ·have hl:l=[]:=List.eq_nil_of_length_eq_zero (by omega)
        have hyl:ys=[]:=List.eq_nil_of_length_eq_zero (by omega)
        subst hl hyl;exact⟨[],by simp[RepD,Value.cells],rfl,List.nodup_nil,by simp⟩
       ·refine⟨g::(bx++bn),?_,rfl,List.nodup_cons.2 ⟨fun hb=>?_,hnd⟩,fun b hb=>?_⟩
        ·simp only[RepD,Value.cells];exact .inr ⟨g,0,cp,cur,xs++news,bx++bn,by simp,k1,fun _=>⟨rfl,k4⟩,by simpa using k2,k3,by rw[Nat.zero_add,k4];exact Nat.le_refl _,by simpa using k5,hrep,hszs,rfl⟩
        ·rcases hq2 with h|h
         ·exact(hnest g hb).2 h.symm
         ·simp only[Value.ownBlock,Option.some.injEq]at h;have:=(hnest g hb).1.2.2.2;omega
        ·rcases List.mem_cons.1 hb with rfl|hb
         ·have hlt:b<w'.heap.size:=by
           obtain⟨_,_,k,_⟩:=k1;exact(Array.getElem?_eq_some_iff.1 k).1
          rcases hq2 with h|h
          ·obtain⟨q1,q2,q3,_⟩:=v4 b (hrowb b (.inr h.symm)).1;exact⟨q1,q2,q3,hlt⟩
          ·simp only[Value.ownBlock,Option.some.injEq]at h;obtain⟨q1,q2,q3⟩:=hr2.wok.fresh (Nat.le_of_eq h.symm);exact⟨q1,q2,q3,hlt⟩
         ·obtain⟨q1,q2,q3,q4⟩:=(hnest b hb).1;exact⟨q1,q2,q3,Nat.lt_of_lt_of_le q4 hgr.size⟩
      obtain⟨σ',st',r1,r2⟩:=hr3.adopt (P:=P) (hdst d hd) hFB h2;exact Jt (exec hrun) (by rw[hd];exact hn G σ' st' _ w' hG r1 r2)
     have hgrow0:w.grownBy w (a.eval x).ownBlock:=⟨rfl,rfl,rfl,Nat.le_refl _,fun _ _ _=>rfl⟩
     rcases hcase with⟨rfl,rfl⟩|⟨A,news,bn,rfl,hl,hrep,hbn,hbu,hcells⟩
     ·have hrun:=Pj (P:=P) t o.type e'' i.size hu hi (a.eval x) l.length xs hown cap;rw[show Value.slice none 0 cap=a.eval y from hcy.symm]at hrun;exact fin (news:=[]) (bn:=[]) hrun hgrow0 rfl (by simp[RepDs]) List.nodup_nil (by simp) (by simpa using hown) (.inl rfl)
     ·obtain⟨v',w',hrun,q1,q2,_,q3⟩:=run_append_own_at (P:=P) w 0 t o.type e'' i z i.size i.bytes hu hi hz rfl rfl ht (by omega) (a.eval x) l.length xs hown A ys.length cap news hl hcells (RepDs.one hrep) hmax hby (Nat.zero_le _)
      rw[show Value.slice (some A) ys.length cap=a.eval y from hcy.symm]at hrun;exact fin hrun q2 rfl hrep hbn hbu q1 q3
    ·cases ht
   ·cases ht
  ·cases ht
 ·exact h2.elim
end

open Go.Op
def Uj(d:Nat)(x:Opd)(i:Nat):M:=match x with
 | .t n=>.get n fun ver sv=>match sv with
   | .tupd l=>match l[i]? with
     |some u=>match u with
      | .it y=>Jz d (.v y)
      |u=>.need (n≠d∧u.whole=true) fun _=>.set n (ver+1) (.tupd (l.set i u.husk)) (Jz d (.own [] u))
     |none=>.fail
   |_=>.fail
 |_=>.fail
def Ui(d:Nat)(x:Opd)(i:Nat):M:=match x with
 | .t n=>.get n fun _ sv=>match sv with
   | .tupd _=>Uj d x i
   |_=>Ti d x i
 |_=>Ti d x i
def Ace(d:Option Nat)(str:Bool)(sz:Nat)(x:Opd)(lo hi:Option Opd):M:=Lw x fun u=>match u with
 | .list l=>rdB lo 0 fun i=>rdB hi l.length fun j=>.need (str=false∧0≤i∧i≤j∧j≤l.length∧∀u∈l,u.size=sz) fun _=>setD d (.v (.list ((l.take j.toNat).drop i.toNat))) .done
 |_=>.fail
section
variable{P:Program}{N:Nat}{G:Mem}{σ:Lab}{Fr:Mem}{w0:Base}{w:World}{st:St}{a:Act}
theorem Ae2{o:Oper}{t:TypeId}{x:Operand}{lo hi:Option Operand}{x':Opd}{lo' hi':Option Opd}{str:Bool}{sz:Nat}(ho:o.op= .slice t x lo hi none)(hx:Jj N x x'=true)
 (hlo:oOk N lo lo'=true) (hhi:oOk N hi hi'=true) (ht:Um P t str sz=true):Sound P N o (Ace o.dst str sz x' lo' hi'):=by
 intro G0 σ0 Fr w0 st0 a w Q next E hN hr0 hw hn hdst
 subst hN;have hsl:str=false→∃e i,P.underlying t=some (.slice e)∧P.info? e=some i∧i.size=sz:=by
  rintro rfl;unfold Um at ht;split at ht
  ·cases ht
  ·rename_i e h;split at ht
   ·rename_i i hi;exact⟨e,i,h,hi,by simpa using ht⟩
   ·cases ht
  ·cases ht
 obtain⟨u,G,σ,st,hG,hr,h0,hrep⟩:=L6 hr0 hx hw;split at h0
 ·rename_i l;obtain⟨i,h1,hi1⟩:=Mb hr hlo h0;obtain⟨j,h2,hj1⟩:=Mb hr hhi h1;obtain⟨⟨k1,k2,k3,k4,k5⟩,h3⟩:=h2;obtain⟨e,i0,hu,hi0,hsz⟩:=hsl k1;have hrep':RepV G (.list l) (a.eval x):=hrep;obtain⟨ad,cap,hc,hlc,_⟩:=RepV.list.1 hrep';have hb:=Lg (P:=P) (isSlice:=true) (len:=l.length) (cap:=cap) w hi1 hj1 k2 k3 k4 hlc;rw[hc]at hrep';have hv:=RepV.sliced (i:=i.toNat) (j:=j.toNat) (sz:=sz) hrep' (by omega) (by omega) fun _=>k5
  refine J1 hr (fun G'' σ'' st'' a' w' hG''=>hn G'' σ'' st'' a' w' (hG.trans hG'')) hdst hv h3 ?_
  simp[execOp,ho,Instr.sliceAt,Instr.slice,run_underlying hu,hc,hb,sizeOf,typeInfo,hi0,hsz]
 ·exact h0.elim
theorem Adp{o:Oper}{d i:Nat}{x:Operand}{x':Opd}(hd:o.dst=some d)(ho:o.op= .extract x i)(hx:Jj N x x'=true):Sound P N o (Uj d x' i):=by
 intro G σ Fr w0 st a w Q next E hN hr hw hn hdst
 subst hN;cases x' with
 |c _=>exact hw.elim
 |nils _ _=>exact hw.elim
 |t n=>
  obtain⟨rfl,hnlt⟩:=J0 hx;simp only[Uj,M.wp]at hw;cases hs:st[n]? with
  |none=>simp[hs]at hw
  |some cur=>
   obtain⟨ver,sv⟩:=cur;simp only[hs]at hw;have hrep:=hr.slot hnlt hs;split at hw
   ·rename_i l;obtain⟨arr,bs,hc,h1,h2,h3⟩:=hrep;split at hw
    ·rename_i u hu;obtain⟨v,b1,b,b2,hv,rfl,hva,hrv,hset,_⟩:=RepVs.nth h1 hu;have run:(execOp a.eval o).run P w= .ok (.value v) w:=by
      have:arr[i]?=some v:=by simpa using hv
      simp[execOp,ho,hc,Instr.extract,this]
     split at hw
     ·rename_i y;simp only[RepD]at hrv;have hvy:RepV G y v:=by
       unfold RepV;simp only[D.isAgg]at hva;split
       ·rename_i hy;rw[hy]at hva;obtain⟨a',rfl⟩:=Nr hva;exact⟨a',rfl,hrv.1⟩
       ·rename_i hy;rw[show y.isAgg=false by simpa using hy]at hva
        rw[J9 hva]at hrv;exact hrv.1
      obtain⟨σ',st',r1,r2⟩:=hr.setNV (hdst d hd) hvy hw;exact Jt run (by rw[hd];exact hn G σ' st' _ w (Mem.le.refl G) r1 r2)
     ·obtain⟨⟨hne,hwh⟩,hw⟩:=hw;obtain⟨hag,hsz,_⟩:=Vp hwh;have hdis:∀z∈b1++b2,z ∉ b:=by
       intro z hz hb;simp only[List.nodup_append,List.mem_append]at h2 hz;rcases hz with hz|hz
       ·exact h2.1.2.2 z hz z hb rfl
       ·exact h2.2.2 z (.inr hb) z hz rfl
      have hr2:=Rel.self (new:=.tupd (l.set i u.husk)) (ver:=ver+1) hr (hr.wok.shed (bs:=b)) (Mem.le.refl G) hs (Nat.lt_succ_self _)
       (fun s' hs' z k' hz=>⟨Lab.shed_some.2 ⟨fun hm=>by
         obtain⟨kk,hkk⟩:=h3 z (by simp[hm])
         rw[hz]at hkk;cases hkk;exact hs' rfl,hz⟩,rfl⟩) (by
         refine⟨arr,b1++b2,?_,?_,?_,?_⟩
         ·rw[←hc,J2 (by rw[hr.n];exact hnlt)]
         ·have:=hset G w u.husk [] (Mem.le.refl G) (by rw[hag];exact hva) (Ys hwh hrv G w) fun _ _=>rfl
          simpa using this
         ·simp only[List.nodup_append,List.mem_append]at h2 ⊢;exact⟨h2.1.1,h2.2.1,fun x hx y hy=>h2.2.2 x (.inl hx) y hy⟩
         ·intro z hz;obtain⟨kk,hkk⟩:=h3 z (by simp only[List.mem_append]at hz ⊢;rcases hz with h|h<;>simp[h])
          exact⟨kk,Lab.shed_some.2 ⟨hdis z hz,hkk⟩⟩)
      obtain⟨σ',st',r1,r2⟩:=hr2.adopt (P:=P) (hdst d hd) (c:=v) ⟨b,hrv,hva,by
       simp only[List.nodup_append]at h2;exact h2.1.2.1,fun z hz=>by
       obtain⟨kk,hkk⟩:=h3 z (by simp[hz])
       obtain⟨k1,k2,k3⟩:=hr.wok.own z _ hkk;exact⟨k1,k2,by simp[Lab.shed,hz],k3⟩⟩ hw
      exact Jt run (by rw[hd];exact hn G σ' st' _ w (Mem.le.refl G) r1 r2)
    ·exact hw.elim
   ·exact hw.elim
theorem Adi{o:Oper}{d i:Nat}{x:Operand}{x':Opd}(hd:o.dst=some d)(ho:o.op= .extract x i)(hx:Jj N x x'=true):Sound P N o (Ui d x' i):=by
 intro G σ Fr w0 st a w Q next E hN hr hw hn hdst
 have:(Uj d x' i).wp P Q st∨(Ti d x' i).wp P Q st:=by
  cases x' with
  |c _=>exact .inr hw
  |nils _ _=>exact .inr hw
  |t n=>
   simp only[Ui,M.wp]at hw;cases hs:st[n]? with
   |none=>simp[hs]at hw
   |some cur=>
    simp only[hs]at hw;split at hw
    ·exact .inl hw
    ·exact .inr hw
 rcases this with h|h
 ·exact Adp hd ho hx G σ Fr w0 st a w Q next E hN hr h hn hdst
 ·exact Agk hd ho hx G σ Fr w0 st a w Q next E hN hr h hn hdst
end

open Go.Op
def Q4(op:BinOp)(k:IntKind)(x y:Int):Int:=
 let a:=BitVec.ofInt k.bits x
 let b:=BitVec.ofInt k.bits y
 match op with
 | .and=>k.wrap (a &&& b).toNat
 | .or=>k.wrap (a ||| b).toNat
 | .xor=>k.wrap (a^^^b).toNat
 |_=>k.wrap (a &&& ~~~b).toNat
def shlI(k:IntKind)(x y:Int):Int:=k.wrap (x*2^(min y.toNat k.bits))
def shrI(k:IntKind)(x y:Int):Int:=x.fdiv (2^(min y.toNat k.bits))
def Abf(d:Option Nat)(op:BinOp)(x y:Opd):M:=rdI x fun i=>rdI y fun j=>match i,j with
 | .int ka a,.int kb b=>match op with
   | .and=>.need (ka=kb) fun _=>setD d (.v (.int ka (Q4 .and ka a b))) .done
   | .or=>.need (ka=kb) fun _=>setD d (.v (.int ka (Q4 .or ka a b))) .done
   | .xor=>.need (ka=kb) fun _=>setD d (.v (.int ka (Q4 .xor ka a b))) .done
   | .andNot=>.need (ka=kb) fun _=>setD d (.v (.int ka (Q4 .andNot ka a b))) .done
   | .quo=>.need (ka=kb∧b≠0) fun _=>setD d (.v (.int ka (ka.wrap (a.tdiv b)))) .done
   | .rem=>.need (ka=kb∧b≠0) fun _=>setD d (.v (.int ka (a.tmod b))) .done
   | .shl=>.need (0≤b) fun _=>setD d (.v (.int ka (shlI ka a b))) .done
   | .shr=>.need (0≤b) fun _=>setD d (.v (.int ka (shrI ka a b))) .done
   |_=>.fail
 |_,_=>.fail
def Abm(d:Option Nat)(k:IntKind)(x:Opd):M:=rdI x fun i=>match i with
 | .int _ n=>setD d (.v (.int k (k.wrap n))) .done
 |_=>.fail
def Ym(P:Program)(dst:TypeId)(k:IntKind)(src:TypeId):Bool:=(P.underlying src).isSome&&match P.underlying dst with
 |some (.int k')=>k==k'
 |_=>false
section
variable{P:Program}{N:Nat}{G:Mem}{σ:Lab}{Fr:Mem}{w0:Base}{w:World}{st:St}{a:Act}
theorem Ac9{o:Oper}{op:BinOp}{t u:TypeId}{x y:Operand}{x' y':Opd}(ho:o.op= .binOp op t x y u)(hx:Jj N x x'=true)(hy:Jj N y y'=true):
 Sound P N o (Abf o.dst op x' y'):=by
 intro G σ Fr w0 st a w Q next E hN hr hw hn hdst
 subst hN;obtain⟨i,h1,hi⟩:=J8 hr hx hw;clear hw;obtain⟨j,hw,hj⟩:=J8 hr hy h1;clear h1;split at hw
 ·rename_i ka m kb n;rw[RepV.int]at hi hj;split at hw
  ·obtain⟨rfl,hw⟩:=hw;exact J1 hr hn hdst (RepV.int.2 rfl) hw (by simp[execOp,ho,hi,hj,eqGuard,Go.binOp,Op.intBits,Q4])
  ·obtain⟨rfl,hw⟩:=hw;exact J1 hr hn hdst (RepV.int.2 rfl) hw (by simp[execOp,ho,hi,hj,eqGuard,Go.binOp,Op.intBits,Q4])
  ·obtain⟨rfl,hw⟩:=hw;exact J1 hr hn hdst (RepV.int.2 rfl) hw (by simp[execOp,ho,hi,hj,eqGuard,Go.binOp,Op.intBits,Q4])
  ·obtain⟨rfl,hw⟩:=hw;exact J1 hr hn hdst (RepV.int.2 rfl) hw (by simp[execOp,ho,hi,hj,eqGuard,Go.binOp,Op.intBits,Q4])
  ·obtain⟨⟨rfl,hb⟩,hw⟩:=hw;exact J1 hr hn hdst (RepV.int.2 rfl) hw (by simp[execOp,ho,hi,hj,eqGuard,Go.binOp,Op.intDiv,hb])
  ·obtain⟨⟨rfl,hb⟩,hw⟩:=hw;exact J1 hr hn hdst (RepV.int.2 rfl) hw (by simp[execOp,ho,hi,hj,eqGuard,Go.binOp,Op.intDiv,hb])
  ·obtain⟨hb,hw⟩:=hw;have hb':¬n<0:=by omega
   exact J1 hr hn hdst (RepV.int.2 rfl) hw (by simp[execOp,ho,hi,hj,eqGuard,Go.binOp,Op.shift,hb',shlI])
  ·obtain⟨hb,hw⟩:=hw;have hb':¬n<0:=by omega
   exact J1 hr hn hdst (RepV.int.2 rfl) hw (by simp[execOp,ho,hi,hj,eqGuard,Go.binOp,Op.shift,hb',shrI])
  ·exact hw.elim
 ·exact hw.elim
theorem Adh{o:Oper}{k:IntKind}{src dst:TypeId}{x:Operand}{x':Opd}(ho:o.op= .convert src dst x)(hx:Jj N x x'=true)(ht:Ym P dst k src=true):Sound P N o (Abm o.dst k x'):=by
 intro G σ Fr w0 st a w Q next E hN hr hw hn hdst
 subst hN;obtain⟨i,h1,hi⟩:=J8 hr hx hw;unfold Ym at ht;simp only[Bool.and_eq_true,Option.isSome_iff_exists]at ht;obtain⟨⟨ds,hs⟩,ht⟩:=ht;split at ht
 ·rename_i k' hk;simp only[beq_iff_eq]at ht;subst ht;split at h1
  ·rw[RepV.int]at hi;refine J1 hr hn hdst (RepV.int.2 rfl) h1 ?_;simp[execOp,ho,hi,convert,run_underlying hs,run_underlying hk,Conv.intToInt]
  ·exact h1.elim
 ·cases ht
end
end Go.Ab
