/- Lemmas -/
import Derived.Test.YtmfdopkcaeokeaaAbE6
import Derived.Deep.AppendSrc
import Derived.Laws.OwnMore
set_option linter.unusedVariables false
set_option linter.unusedSimpArgs false
namespace Go.Ab
open Go.Op
def E3 (op:BinOp) (k:IntKind) (x y:Int):Int:=
 let a:=BitVec.ofInt k.bits x
 let b:=BitVec.ofInt k.bits y
 match op with
 | .and=>k.wrap (a &&& b).toNat
 | .or=>k.wrap (a ||| b).toNat
 | .xor=>k.wrap (a^^^b).toNat
 |_=>k.wrap (a &&& ~~~b).toNat
def shlI (k:IntKind) (x y:Int):Int:=k.wrap (x*2^(min y.toNat k.bits))
def shrI (k:IntKind) (x y:Int):Int:=x.fdiv (2^(min y.toNat k.bits))
def Wg (d:Option Nat) (op:BinOp) (x y:Opd):M:=Bk x fun i=>Bk y fun j=>match i,j with
 | .int ka a,.int kb b=>match op with
   | .and=>.need (ka=kb) fun _=>setD d (.v (.int ka (E3 .and ka a b))) .done
   | .or=>.need (ka=kb) fun _=>setD d (.v (.int ka (E3 .or ka a b))) .done
   | .xor=>.need (ka=kb) fun _=>setD d (.v (.int ka (E3 .xor ka a b))) .done
   | .andNot=>.need (ka=kb) fun _=>setD d (.v (.int ka (E3 .andNot ka a b))) .done
   | .quo=>.need (ka=kb∧b≠0) fun _=>setD d (.v (.int ka (ka.wrap (a.tdiv b)))) .done
   | .rem=>.need (ka=kb∧b≠0) fun _=>setD d (.v (.int ka (a.tmod b))) .done
   | .shl=>.need (0≤b) fun _=>setD d (.v (.int ka (shlI ka a b))) .done
   | .shr=>.need (0≤b) fun _=>setD d (.v (.int ka (shrI ka a b))) .done
   |_=>.fail
 |_,_=>.fail
def Ub (d:Option Nat) (x:Opd):M:=Bk x fun i=>match i with
 | .int k n=>setD d (.v (.int k (E3 .xor k (if k.signed then -1 else k.max) n))) .done
 |_=>.fail
def Wk (d:Option Nat) (k:IntKind) (x:Opd):M:=Bk x fun i=>match i with
 | .int _ n=>setD d (.v (.int k (k.wrap n))) .done
 |_=>.fail
def S9 (P:Program) (dst:TypeId) (k:IntKind) (src:TypeId):Bool:=(P.underlying src).isSome&&match P.underlying dst with
 |some (.int k')=>k==k'
 |_=>false
def Ws (d:Nat) (e:TypeId) (sz bytes:Nat) (z:I) (x:Opd):M:=Bk x fun i=>match i with
 | .int _ n=>.need (0≤n∧bytes*n.toNat≤140737488355328∧n≤9223372036854775807∧n.toNat*sz≤16777216) fun _=>Av d (.vec e sz (List.replicate n.toNat z))
 |_=>.fail
def Tq (P:Program) (t e:TypeId) (sz bytes:Nat) (z:I):Bool:=match P.underlying t with
 |some (.slice e')=>e'==e&&match P.info? e with
  |some i=>i.size==sz&&i.bytes==bytes&&sz != 0&&z.size==sz&&match i.zero with
   |some v=>v.cells.size==sz&&match zI z v.cells.toList with
    |some []=>true
    |_=>false
   |none=>false
  |none=>false
 |_=>false
def Ke (sz:Nat) (x:Opd) (k:TypeId→List I→M):M:=match x with
 | .nils e _=>C4 e sz x (k e)
 | .c _=>.fail
 | .t n=>.get n fun _ sv=>match sv with
   | .vec e _ _=>C4 e sz (.t n) (k e)
   | .bor s kk _=>.get s fun _ sv'=>match sv'.vecAt kk with
     |some (e,_,_)=>C4 e sz (.t n) (k e)
     |none=>.fail
   | .sub s kk _ _=>.get s fun _ sv'=>match sv'.vecAt kk with
     |some (e,_,_)=>C4 e sz (.t n) (k e)
     |none=>.fail
   |_=>.fail
def Wf (d:Nat) (er:TypeId) (sz bytes:Nat) (str:Bool) (x y:Opd):M:=match str with
 |true=>Bk y fun u=>match u with
  | .str s=>Ke sz x fun e l=>.need ((l.length+s.length)*bytes≤140737488355328∧l.length+s.length≤maxLen∧sz=1∧(e<1000000→e=er)) fun _=>Av d (.vec e sz (l++s.map He))
  |_=>.fail
 |false=>B9 y fun u=>match u with
  | .list ys=>Ke sz x fun e l=>.need ((l.length+ys.length)*bytes≤140737488355328∧l.length+ys.length≤maxLen∧(∀u∈ys,u.size=sz)∧(e<1000000→e=er)) fun _=>Av d (.vec e sz (l++ys))
  |_=>.fail
def Kt (P:Program) (t tx er:TypeId) (sz bytes:Nat) (str:Bool):Bool:=(match P.underlying t with
 |some (.slice e')=>e'==er&&match P.info? er with
  |some i=>i.size==sz&&i.bytes==bytes&&sz != 0&&match i.zero with
   |some z=>z.cells.size==sz
   |none=>false
  |none=>false
 |_=>false)&&match P.underlying tx with
  |some .string=>str
  |some (.slice _)=> !str
  |_=>false
section
variable{P:Program}{N:Nat}{G:Mem}{σ:Lab}{Fr:Mem}{w0:Base}{w:World}{st:St}{a:Act}
theorem Xz {o:Oper} {op:BinOp} {t u:TypeId} {x y:Operand} {x' y':Opd} (ho:o.op= .binOp op t x y u) (hx:Ac N x x'=true) (hy:Ac N y y'=true):
 Sound P N o (Wg o.dst op x' y'):=by
 intro G σ Fr w0 st a w Q next E hN hr hw hn hdst
 subst hN
 obtain⟨i,h1,hi⟩:=Az hr hx hw
 clear hw
 obtain⟨j,hw,hj⟩:=Az hr hy h1
 clear h1
 split at hw
 ·rename_i ka m kb n
  rw[RepV.int]at hi hj
  split at hw
  ·obtain⟨rfl,hw⟩:=hw
   exact Ay hr hn hdst (RepV.int.2 rfl) hw (by simp[execOp,ho,hi,hj,eqGuard,Go.binOp,Op.intBits,E3])
  ·obtain⟨rfl,hw⟩:=hw
   exact Ay hr hn hdst (RepV.int.2 rfl) hw (by simp[execOp,ho,hi,hj,eqGuard,Go.binOp,Op.intBits,E3])
  ·obtain⟨rfl,hw⟩:=hw
   exact Ay hr hn hdst (RepV.int.2 rfl) hw (by simp[execOp,ho,hi,hj,eqGuard,Go.binOp,Op.intBits,E3])
  ·obtain⟨rfl,hw⟩:=hw
   exact Ay hr hn hdst (RepV.int.2 rfl) hw (by simp[execOp,ho,hi,hj,eqGuard,Go.binOp,Op.intBits,E3])
  ·obtain⟨⟨rfl,hb⟩,hw⟩:=hw
   exact Ay hr hn hdst (RepV.int.2 rfl) hw (by simp[execOp,ho,hi,hj,eqGuard,Go.binOp,Op.intDiv,hb])
  ·obtain⟨⟨rfl,hb⟩,hw⟩:=hw
   exact Ay hr hn hdst (RepV.int.2 rfl) hw (by simp[execOp,ho,hi,hj,eqGuard,Go.binOp,Op.intDiv,hb])
  ·obtain⟨hb,hw⟩:=hw
   have hb':¬n<0:=by omega
   exact Ay hr hn hdst (RepV.int.2 rfl) hw (by simp[execOp,ho,hi,hj,eqGuard,Go.binOp,Op.shift,hb',shlI])
  ·obtain⟨hb,hw⟩:=hw
   have hb':¬n<0:=by omega
   exact Ay hr hn hdst (RepV.int.2 rfl) hw (by simp[execOp,ho,hi,hj,eqGuard,Go.binOp,Op.shift,hb',shrI])
  ·exact hw.elim
 ·exact hw.elim
theorem Vr {o:Oper} {t:TypeId} {x:Operand} {x':Opd} (ho:o.op= .unOp .xor t x) (hx:Ac N x x'=true):Sound P N o (Ub o.dst x'):=by
 intro G σ Fr w0 st a w Q next E hN hr hw hn hdst
 subst hN
 obtain⟨i,h1,hi⟩:=Az hr hx hw
 split at h1
 ·rw[RepV.int]at hi
  exact Ay hr hn hdst (RepV.int.2 rfl) h1 (by simp[execOp,ho,hi,Op.unary,Op.intBits,E3])
 ·exact h1.elim
theorem X4 {o:Oper} {k:IntKind} {src dst:TypeId} {x:Operand} {x':Opd} (ho:o.op= .convert src dst x) (hx:Ac N x x'=true) (ht:S9 P dst k src=true):Sound P N o (Wk o.dst k x'):=by
 intro G σ Fr w0 st a w Q next E hN hr hw hn hdst
 subst hN
 obtain⟨i,h1,hi⟩:=Az hr hx hw
 unfold S9 at ht
 simp only[Bool.and_eq_true,Option.isSome_iff_exists]at ht
 obtain⟨⟨ds,hs⟩,ht⟩:=ht
 split at ht
 ·rename_i k' hk
  simp only[beq_iff_eq]at ht
  subst ht
  split at h1
  ·rw[RepV.int]at hi
   refine Ay hr hn hdst (RepV.int.2 rfl) h1 ?_
   simp[execOp,ho,hi,convert,run_underlying hs,run_underlying hk,Conv.intToInt]
  ·exact h1.elim
 ·cases ht
theorem Lp {sz:Nat} {x:Operand} {y:Opd} {k:TypeId→List I→M} {Q:St→Prop} (h:Rel G σ Fr w0 st a w) (ho:Ac w0.n x y=true) (hq:(Ke sz y k).wp P Q st):
 ∃e l σ' st',Rel G σ' Fr w0 st' a w∧(k e l).wp P Q st'∧Free G σ' Fr w e sz l (a.eval x):=by
 have fin:∀e,(C4 e sz y (k e)).wp P Q st→∃e l σ' st',Rel G σ' Fr w0 st' a w∧(k e l).wp P Q st'∧Free G σ' Fr w e sz l (a.eval x):=by
  intro e hq
  obtain⟨l,σ',st',h1,h2,h3⟩:=Fe h ho hq
  exact⟨e,l,σ',st',h1,h2,h3⟩
 cases y with
 |c i=>exact hq.elim
 |nils e _=>exact fin e hq
 |t n=>
  simp only[Ke,M.wp]at hq
  cases hs:st[n]? with
  |none=>simp[hs]at hq
  |some cur=>
   simp only[hs]at hq
   split at hq
   ·exact fin _ hq
   ·rename_i s kk v _
    simp only[M.wp]at hq
    cases h1:st[s]? with
    |none=>simp[h1]at hq
    |some cur'=>
     simp only[h1]at hq
     split at hq
     ·exact fin _ hq
     ·exact hq.elim
   ·rename_i s kk v m _
    simp only[M.wp]at hq
    cases h1:st[s]? with
    |none=>simp[h1]at hq
    |some cur'=>
     simp only[h1]at hq
     split at hq
     ·exact fin _ hq
     ·exact hq.elim
   ·exact hq.elim
theorem Cr (w:World) (b j:Nat) (bl:Array Value) (ty:TypeId) (fz:Nat × Nat) (h:w.heap[b]?=some (.cells bl ty fz)) (hj:j<bl.size) (hf:fz=(0,0)∨bl.size≤fz.1):
 (w.cell? ⟨b,j,none⟩).isSome=true∧w.frozen? ⟨b,j,none⟩=false:=by
 constructor
 ·rw[cell_of_row w b j bl ty fz h]
  simp[hj]
 ·simp only[World.frozen?,h]
  rcases hf with rfl|hf
  ·simp
  ·simp;omega
theorem T3 (t tx ty er e:TypeId) (i:TypeInfo) (z:Value) (ht:P.underlying t=some (.slice er)) (hi:P.info? er=some i) (hz:i.zero=some z) (hzs:z.cells.size=i.size) (h0:0<i.size)
 (v:Value) (n:Nat) (xs:List Value) (hown:OwnsR w e i.size v n xs) (he:e<1000000→e=er) (x:Value) (m:Nat) (news:List Value) (hs:Src P i.size tx x m news w)
 (h63:n+m≤maxLen) (hbytes:(n+m)*i.bytes≤140737488355328):
 ∃v' w',(Builtin.append_ #[t,tx] ty #[v,x]).run P w= .ok v' w'∧OwnsR w' e i.size v' (n+m) (xs++news)∧w.grownBy w' v.ownBlock∧(v'.ownBlock=v.ownBlock∨v'.ownBlock=some w.heap.size):=by
 have hsmall:n+m≤9223372036854775807:=by simp only[maxLen]at h63;omega
 have hlen:(xs++news).length=(n+m)*i.size:=by rw[List.length_append,hown.1,hs.newsLen,Nat.add_mul]
 have grown:∀(base:Option Addr) (old:Nat),v= .slice base n old→old<n+m→(Builtin.firstCells i.size n (.slice base n old)).run P w.drew= .ok xs.toArray w.drew→
  ∃v' w',(Builtin.append_ #[t,tx] ty #[v,x]).run P w= .ok v' w'∧OwnsR w' e i.size v' (n+m) (xs++news)∧w.grownBy w' v.ownBlock∧(v'.ownBlock=v.ownBlock∨v'.ownBlock=some w.heap.size):=by
  intro base old hv ho hfc
  have hrun:=run_append_grow_src (P:=P) w t tx ty er i z ht hi hz base n old xs hfc x m news hs ho (by omega) (growslice_fits (by omega) hbytes)
  have hge:=grownCap_ge w (n+m) old er
  have hcm:grownCap w (n+m) old er≤maxLen:=grownCap_le_maxLen w (n+m) old er h63
  rw[←hv]at hrun
  refine⟨_,_,hrun,⟨hlen,.inr ⟨w.heap.size,_,_,rfl,Nat.zero_le _,⟨er,(0,0),heap_alloc_new w.drew _,.inl rfl,fun h=>⟨(he h).symm,rfl⟩⟩,hge,hcm,?_,?_⟩⟩,⟨rfl,rfl,rfl,by simp,fun k hk _=>Ce w.drew _ k hk⟩,.inr rfl⟩
  ·simp only[Array.size_append,List.size_toArray,size_zeroCells,hzs,hlen, ←Nat.add_mul]
   congr 1
   omega
  ·simp only[Array.toList_append]
   rw[←hlen]
   exact List.take_left
 rcases hown.2 with⟨rfl,rfl⟩|⟨g,cap,cur,rfl,_,⟨ty',fz,hg,hfz,hty⟩,hnc,hcm,hcs,htake⟩
 ·have hx:xs=[]:=List.eq_nil_of_length_eq_zero (by simpa using hown.1)
  subst hx
  by_cases hm:m=0
  ·subst hm
   have hn:news=[]:=List.eq_nil_of_length_eq_zero (by simpa using hs.newsLen)
   subst hn
   refine⟨.slice none 0 0,w,?_,OwnsR.nil w e i.size,⟨rfl,rfl,rfl,Nat.le_refl _,fun _ _ _=>rfl⟩,.inl rfl⟩
   have h1:=hs.len w
   have h2:=hs.cells
   rcases hs.kind with⟨e',hk⟩|hk<;>simp[Builtin.append_,run_underlying ht,run_underlying hk,sizeOf,typeInfo,hi,h1,h2]
  ·exact grown none 0 rfl (by omega) (run_firstCells_none w.drew i.size 0 0 0)
 ·by_cases hroom:n+m≤cap
  ·have hfit:n*i.size+news.length≤cur.size:=by rw[hs.newsLen,hcs, ←Nat.add_mul];exact Nat.mul_le_mul_right _ hroom
   have hrun:=run_append_room_src (P:=P) w t tx ty er i ht hi g 0 n cap x m news hs hroom (fun j hj=>(Cr w g _ cur ty' fz hg (by omega) hfz).1) (fun j hj=>(Cr w g _ cur ty' fz hg (by omega) hfz).2)
   have hset:w.setCells g (0+n*i.size) news=w.setRow g (cur.toList.take (n*i.size)++news++cur.toList.drop (n*i.size+news.length)).toArray:=by
    have h1:=run_storeCells_cells (P:=P) g (0+n*i.size) news 0 w (fun j hj=>(Cr w g _ cur ty' fz hg (by omega) hfz).1) (fun j hj=>(Cr w g _ cur ty' fz hg (by omega) hfz).2) hs.one
    have h2:=B5 P g (0+n*i.size) ty' fz news 0 cur w hg hfz (by omega) hs.one
    rw[h1]at h2
    simpa using h2
   rw[hset]at hrun
   have hsz:(cur.toList.take (n*i.size)++news++cur.toList.drop (n*i.size+news.length)).toArray.size=cur.size:=by
    simp only[List.size_toArray,List.length_append,List.length_take,List.length_drop,Array.length_toList]
    omega
   refine⟨_,_,hrun,⟨hlen,.inr ⟨g,cap,_,rfl,Nat.zero_le _,⟨ty',fz,setRow_heap w g cur _ ty' fz hg,by rw[hsz];exact hfz,hty⟩,hroom,hcm,by rw[hsz];exact hcs,?_⟩⟩,⟨rfl,rfl,rfl,by simp,fun k _ hk=>setRow_other w g k _ (fun e=>hk (by simp[Value.ownBlock,e]))⟩,.inl rfl⟩
   rw[htake, ←hlen]
   exact List.take_left
  ·refine grown (some ⟨g,0,none⟩) cap rfl (by omega) ?_
   have hl:xs.length=n*i.size:=hown.1
   refine run_firstCells_some w.drew i.size n ⟨g,0,none⟩ n cap xs hl ?_
   intro j u hj
   have h1:w.drew.cell? ((⟨g,0,none⟩:Addr).add j)=cur[j]?:=by
    rw[add_lit,Nat.zero_add]
    exact cell_of_row w.drew g j cur ty' fz hg
   rw[h1]
   have:cur[j]?=cur.toList[j]?:=by simp
   rw[this]
   rw[←htake,List.getElem?_take]at hj
   split at hj
   ·exact hj
   ·cases hj
theorem Xx {o:Oper} {d:Nat} {t tx er:TypeId} {x y:Operand} {x' y':Opd} {sz bytes:Nat} {str:Bool} (hd:o.dst=some d)
 (ho:o.op= .call {callee:=.builtin .append,args:= #[x,y],argTypes:= #[t,tx]}) (hx:Ac N x x'=true) (hy:Ac N y y'=true) (ht:Kt P t tx er sz bytes str=true):
 Sound P N o (Wf d er sz bytes str x' y'):=by
 intro G0 σ0 Fr w0 st0 a w Q next E hN hr hw hn hdst
 subst hN
 unfold Kt at ht
 simp only[Bool.and_eq_true]at ht
 obtain⟨ht,htx⟩:=ht
 split at ht
 ·rename_i e' hu
  simp only[Bool.and_eq_true,beq_iff_eq]at ht
  obtain⟨rfl,ht⟩:=ht
  split at ht
  ·rename_i i hi
   simp only[Bool.and_eq_true,beq_iff_eq,bne_iff_ne,ne_eq]at ht
   obtain⟨⟨⟨rfl,rfl⟩,h0⟩,ht⟩:=ht
   split at ht
   ·rename_i z hz
    simp only[beq_iff_eq]at ht
    have exec:∀{v' w'},(Builtin.append_ #[t,tx] o.type #[a.eval x,a.eval y]).run P w= .ok v' w'→(execOp a.eval o).run P w= .ok (.value v') w':=by
     intro v' w' hrun
     simp[execOp,ho,resolve,invoke,builtin,hrun]
    have fin:∀{G:Mem} {σ:Lab} {st:St} {e:TypeId} {l ys:List I} {news:List Value},G0.le G→Rel G σ Fr w0 st a w→Free G σ Fr w e i.size l (a.eval x)→Src P i.size tx (a.eval y) ys.length news w→RepIs G ys news→(∀u∈ys,u.size=i.size)→
     l.length+ys.length≤maxLen→(l.length+ys.length)*i.bytes≤140737488355328→(e<1000000→e=e')→(Av d (.vec e i.size (l++ys))).wp P Q st→o.wp P a w next E:=by
     intro G σ st e l ys news hG hr2 ⟨xs,k1,k2,k3,k4⟩ hsrc hrep hsz hmax hby he h2
     obtain⟨v',w',hrun,q1,q2,q3⟩:=T3 (P:=P) t tx o.type e' e i z hu hi hz ht (by omega) (a.eval x) l.length xs k1 he (a.eval y) ys.length news hsrc hmax hby
     obtain⟨σ',st',r1,r2⟩:=hr2.putOwned (P:=P) (e:=e) (sz:=i.size) (l:=l++ys) (hdst d hd) q2 (fun b hb=>k4 b hb) ⟨xs++news,by rw[List.length_append];exact q1,RepIs.append k2 hrep,by
      intro z hz
      rcases List.mem_append.1 hz with hz|hz
      ·exact k3 z hz
      ·exact hsz z hz,by
      intro b hb
      rcases q3 with q3|q3
      ·rw[q3]at hb;exact k4 b hb
      ·rw[q3]at hb;cases hb;exact hr2.wok.fresh (Nat.le_refl _)⟩ h2
     exact Am (exec hrun) (by rw[hd];exact hn G σ' st' _ w' hG r1 r2)
    cases str with
    |true=>
     have hstr:P.underlying tx=some .string:=by
      split at htx
      ·assumption
      ·simp at htx
      ·cases htx
     obtain⟨u,h1,hv⟩:=Az hr hy hw
     split at h1
     ·rename_i s
      obtain⟨e,l,σ,st,hr2,h2,hfree⟩:=Lp hr hx h1
      obtain⟨⟨hby,hmax,hs1,he⟩,h2⟩:=h2
      obtain⟨hc,hsl⟩:=RepV.str.1 hv
      have hsrc:=Src.ofString (P:=P) (w:=w) hstr ⟨⟨s⟩⟩
      rw[←hc,show(⟨⟨s⟩⟩:ByteArray).size=(s.map He).length by rw[List.length_map];rfl, ←hs1]at hsrc
      refine fin (Mem.le.refl G0) hr2 hfree hsrc (Fp s) (by
       intro u hu
       obtain⟨b,_,rfl⟩:=List.mem_map.1 hu
       exact hs1.symm) (by rw[List.length_map];exact hmax) (by rw[List.length_map];exact hby) he h2
     ·exact h1.elim
    |false=>
     have hsl:∃e',P.underlying tx=some (.slice e'):=by
      split at htx
      ·cases htx
      ·exact⟨_,by assumption⟩
      ·cases htx
     obtain⟨e2,hsl⟩:=hsl
     obtain⟨u,G,σ1,st1,hG,hr1,h1,hv⟩:=Cb hr hy hw
     split at h1
     ·rename_i ys
      obtain⟨e,l,σ,st,hr2,h2,hfree⟩:=Lp hr1 hx h1
      obtain⟨⟨hby,hmax,hsz,he⟩,h2⟩:=h2
      obtain⟨ad,cap,hcy,hcase⟩:=Ht (σ:=σ) (Fr:=Fr) (u:=.it (.list ys)) (ys:=ys.map D.it) (sz:=i.size) (FreeB.item hv) hr2.wok rfl (by
       intro u hu
       obtain⟨y,hy,rfl⟩:=List.mem_map.1 hu
       exact hsz y hy)
      rw[List.length_map]at hcy hcase
      rcases hcase with⟨rfl,hnil⟩|⟨A,news,bn,rfl,hl,hrep,_,_,hcells⟩
      ·have:ys=[]:=by simpa using hnil
       subst this
       exact fin hG hr2 hfree (news:=[]) (by rw[hcy];exact Src.ofNil (w:=w) hsl cap) (by simp[RepIs]) (by simp) (by simpa using hmax) (by simpa using hby) he h2
      ·have hrI:=(RepDs.its.1 hrep).1
       exact fin hG hr2 hfree (by rw[hcy];exact Src.ofSlice w hsl A ys.length cap news hl hcells (RepIs.one _ _ hrI)) hrI hsz hmax hby he h2
     ·exact h1.elim
   ·cases ht
  ·cases ht
 ·cases ht
theorem Yc {o:Oper} {d:Nat} {t e:TypeId} {sz bytes:Nat} {z:I} {x:Operand} {x':Opd} (hd:o.dst=some d) (ho:o.op= .makeSlice t x x) (hx:Ac N x x'=true) (ht:Tq P t e sz bytes z=true):
 Sound P N o (Ws d e sz bytes z x'):=by
 intro G σ Fr w0 st a w Q next E hN hr hw hn hdst
 subst hN
 obtain⟨i,h1,hi⟩:=Az hr hx hw
 unfold Tq at ht
 split at ht
 ·rename_i e' hu
  simp only[Bool.and_eq_true,beq_iff_eq]at ht
  obtain⟨rfl,ht⟩:=ht
  split at ht
  ·rename_i inf hinf
   simp only[Bool.and_eq_true,beq_iff_eq,bne_iff_ne,ne_eq]at ht
   obtain⟨⟨⟨⟨rfl,rfl⟩,h0⟩,hzsz⟩,ht⟩:=ht
   split at ht
   ·rename_i v hv
    simp only[Bool.and_eq_true,beq_iff_eq]at ht
    obtain⟨hvs,hz⟩:=ht
    have hz':∃c,v.cells.toList=c++[]∧RepI G z c:=by
     split at hz
     ·rename_i h;exact zI_spec G z _ _ h
     ·cases hz
    obtain⟨c,hc,hz'⟩:=hz'
    rw[List.append_nil]at hc
    subst hc
    split at h1
    ·rename_i k n
     rw[RepV.int]at hi
     obtain⟨⟨hn0,hby,hn63,hcells⟩,h1⟩:=h1
     have hnn:(n.toNat:Int)=n:=Int.toNat_of_nonneg hn0
     obtain⟨w',hrun,hown,hgr⟩:=run_makeSlice_full (P:=P) w 0 t e' inf v inf.size hu hinf hv rfl k k n.toNat hcells (by omega) (by simp only[maxLen];omega) (Nat.zero_le _)
     rw[hnn]at hrun
     have hrow:(madeCells v.cells (n.toNat*inf.size)).toList=(List.replicate n.toNat v.cells.toList).flatten:=by
      have:=Fy hvs n.toNat
      rw[←this]
      rfl
     obtain⟨σ',st',r1,r2⟩:=hr.putOwned (P:=P) (e:=e') (sz:=inf.size) (l:=List.replicate n.toNat z) (hdst d hd) hgr (fun b hb=>by cases hb) ⟨_,by rw[List.length_replicate];exact OwnsR.of hown,by rw[hrow];exact Cz hz' _,by
      intro u hu
      rw[List.eq_of_mem_replicate hu]
      exact hzsz,fun b hb=>by
      simp only[Value.ownBlock,Option.some.injEq]at hb
      exact hr.wok.fresh (Nat.le_of_eq hb)⟩ h1
     exact Am (v:=.slice (some ⟨w.heap.size,0,none⟩) n.toNat n.toNat) (w':=w') (by simp[execOp,ho,hi,hrun]) (by rw[hd];exact hn G σ' st' _ w' (Mem.le.refl G) r1 r2)
    ·exact h1.elim
   ·cases ht
  ·cases ht
 ·cases ht
end

open Go.Op
def Ef (_:Nat) (sv:SV):Nat × SV:=match sv with
 | .own _ _=>(0,.own [] (.it .und))
 | .pd _ _ _=>(0,.pd 0 0 [])
 | .bd _ _ _=>(0,.bd 0 0 [])
 | .par h=>(0,.par h)
 |_=>(0,.no)
def Bw (x:Opd) (yes no:M):M:=match x with
 | .t n=>.getp n Ef fun _ sv=>match sv with
   | .own _ _=>yes
   | .pd _ _ _=>yes
   | .bd _ _ _=>yes
   | .par h=>.getp h Ef fun _ sv'=>match sv' with
     | .own _ _=>yes
     |_=>no
   |_=>no
 |_=>no
def lv (inv:Inv) (q:List Nat):Nat:=inv.foldl (fun m e=>match Nat.blt q.length e.1.length||Bn e.1 q with|true=>m|false=>Nat.max m e.2) 0
def seen (ver:Nat) (inv:Inv) (m:List Nat) (f:D→Option SV):Option D→Nat × SV
 |some u=>match f u with
  |some r=>(Nat.min (lv inv m) ver,r)
  |none=>(0,.no)
 |none=>(0,.no)
def eyeO (f:D→Option SV) (ver:Nat) (sv:SV):Nat × SV:=match sv with
 | .own inv t=>match t with
   | .ptr u=>seen ver inv [0] f (some u)
   |_=>(0,.no)
 |_=>(0,.no)
def eyeP (v:Nat) (p:List Nat) (f:D→Option SV) (ver:Nat) (sv:SV):Nat × SV:=match sv with
 | .own inv t=>match alive v inv p with
   |true=>seen ver inv p f (D.at p t)
   |false=>(0,.no)
 |_=>(0,.no)
def eyeR (f:D→Option SV) (ver:Nat) (sv:SV):Nat × SV:=match sv with
 | .own inv t=>match t.head with
   |true=>seen ver inv [] f (some t)
   |false=>(0,.no)
 |_=>(0,.no)
def eyeH (v:Nat) (p:List Nat) (f:D→Option SV) (ver:Nat) (sv:SV):Nat × SV:=match sv with
 | .own inv t=>match A5 v inv p with
   |true=>seen ver inv p f (D.at p t)
   |false=>(0,.no)
 |_=>(0,.no)
def noR (r:SV) (m:M):M:=match r with
 | .no=>.fail
 |_=>m
def rdDP (x:Opd) (f:D→Option SV) (k:(s v:Nat)→List Nat→SV→M):M:=match x with
 | .t n=>.getp n Ef fun _ sv=>match sv with
   | .own _ _=>.getp n (eyeO f) fun v r=>noR r (k n v [0] r)
   | .pd _ _ _=>.get n fun _ sv=>match sv with
     | .pd s v p=>match p with
       | []=>.fail
       |i::q=>.getp s (eyeP v (i::q) f) fun v' r=>noR r (k s v' (i::q) r)
     |_=>.fail
   | .par h=>.getp h (eyeO f) fun v r=>noR r (k h v [0] r)
   |_=>.fail
 |_=>.fail
def rdHP (x:Opd) (f:D→Option SV) (k:(s v:Nat)→List Nat→SV→M):M:=match x with
 | .t n=>.getp n Ef fun _ sv=>match sv with
   | .own _ _=>.getp n (eyeR f) fun v r=>noR r (k n v [] r)
   | .bd _ _ _=>.get n fun _ sv=>match sv with
     | .bd s v p=>.getp s (eyeH v p f) fun v' r=>noR r (k s v' p r)
     |_=>.fail
   | .par h=>.getp h (eyeR f) fun v r=>noR r (k h v [] r)
   |_=>.fail
 |_=>.fail
def Za (i:Nat) (u:D):Option SV:=match Dc u i with
 |some o=>some (.v (.int .i64 (o:Nat)))
 |none=>none
def Rx (d:Option Nat) (x:Opd) (i off:Nat):M:=rdDP x (Za i) fun s v p r=>match r with
 | .v y=>.need (y= .int .i64 (off:Nat)∧d≠some s) fun _=>setD d (.pd s v (p++[i])) .done
 |_=>.fail
def Abr (_:Nat) (sv:SV):Nat × SV:=match sv with
 | .own _ t=>(match t with
   | .ptr _=>(0,.pd 0 0 [])
   |_=>(0,.no))
 | .par h=>(0,.par h)
 |_=>(0,.no)
def Tk (x:Opd) (yes no:M):M:=match x with
 | .t n=>.getp n Abr fun _ sv=>match sv with
   | .par h=>.getp h Abr fun _ sv'=>match sv' with
     | .pd _ _ _=>yes
     |_=>no
   |_=>no
 |_=>no
def Abs (_:D):Option SV:=some (.pd 0 0 [])
def Z3 (d:Option Nat) (x:Opd):M:=rdDP x Abs fun s v p _=>.need (d≠some s) fun _=>setD d (.pd s v p) .done
def Ab5:D→Option SV
 | .it y=>some (.v y)
 | .vec _ _ _=>some (.bd 0 0 [])
 | .map _ _=>some (.bd 0 0 [])
 | .ptr _=>some (.pd 0 0 [])
 | .st _=>some (.own [] (.it .und))
def Ui (d:Option Nat) (agg:Bool) (sz:Nat) (x:Opd):M:=rdDP x Ab5 fun s v p r=>match r with
 | .v y=>.need (y.isAgg=agg∧y.size=sz) fun _=>setD d (.v y) .done
 | .bd _ _ _=>.need (agg=false∧sz=1∧d≠some s) fun _=>setD d (.bd s v p) .done
 | .pd _ _ _=>.need (agg=false∧sz=1∧d≠some s) fun _=>setD d (.pd s v (p++[0])) .done
 | .own _ _=>Ug d agg sz x
 |_=>.fail
def Qq:D→Option SV
 | .vec _ sz l=>some (.v (.agg [.int .i64 (sz:Nat),.int .i64 l.length]))
 |_=>none
def Rz (d:Option Nat) (sz:Nat) (x i:Opd):M:=Bk i fun n=>match n with
 | .int _ n=>rdHP x Qq fun s v p r=>match r with
   | .v y=>match y with
     | .agg l=>match l with
       | [a,b]=>match b with
         | .int _ len=>.need (0≤n∧n<len∧a= .int .i64 (sz:Nat)∧d≠some s) fun _=>setD d (.pd s v (p++[n.toNat])) .done
         |_=>.fail
       |_=>.fail
     |_=>.fail
   |_=>.fail
 |_=>.fail
def Wn (d:Option Nat) (str:Bool) (x:Opd):M:=rdHP x Qq fun _ _ _ r=>match r with
 | .v y=>match y with
   | .agg l=>match l with
     | [_,b]=>match b with
       | .int k len=>.need (str=false∧k= .i64) fun _=>.fact (len≤maxLen) (setD d (.v (.int .i64 len)) .done)
       |_=>.fail
     |_=>.fail
   |_=>.fail
 |_=>.fail
section
variable{P:Program}{N:Nat}{G:Mem}{σ:Lab}{Fr:Mem}{w0:Base}{w:World}{st:St}{a:Act}
theorem Bc {o:Oper} {x:Opd} {yes no:M} (h1:Sound P N o yes) (h2:Sound P N o no):Sound P N o (Bw x yes no):=by
 intro G σ Fr w0 st a w Q next E hN hr hw hn hdst
 have:yes.wp P Q st∨no.wp P Q st:=by
  cases x with
  |c _=>exact .inr hw
  |nils _ _=>exact .inr hw
  |t n=>
   simp only[Bw,M.wp]at hw
   cases hs:st[n]? with
   |none=>simp[hs]at hw
   |some cur=>
    obtain⟨cv,csv⟩:=cur
    simp only[hs]at hw
    cases csv with
    |own _ _=>exact .inl hw
    |pd _ _ _=>exact .inl hw
    |bd _ _ _=>exact .inl hw
    |par hh=>
     simp only[Ef,M.wp]at hw
     cases hs':st[hh]? with
     |none=>simp[hs']at hw
     |some cur'=>
      obtain⟨cv',csv'⟩:=cur'
      simp only[hs']at hw
      cases csv'<;>first|exact .inl hw|exact .inr hw
    |_=>exact .inr hw
 rcases this with h|h
 ·exact h1 G σ Fr w0 st a w Q next E hN hr h hn hdst
 ·exact h2 G σ Fr w0 st a w Q next E hN hr h hn hdst
theorem D6 {ver:Nat} {inv:Inv} {m:List Nat} {f:D→Option SV} {du:Option D} {k:Nat→SV→M} {Q:St→Prop}
 (h:((fun v r=>noR r (k v r)) (seen ver inv m f du).1 (seen ver inv m f du).2).wp P Q st):∃u r v,du=some u∧f u=some r∧v≤ver∧(k v r).wp P Q st:=by
 cases du with
 |none=>exact h.elim
 |some u=>
  cases hf:f u with
  |none=>simp only[seen,hf]at h;exact h.elim
  |some r=>
   simp only[seen,hf]at h
   refine⟨u,r,Nat.min (lv inv m) ver,rfl,hf,Nat.min_le_right _ _,?_⟩
   cases r<;>first|exact h.elim|exact h
theorem Ex {x:Operand} {y:Opd} {f:D→Option SV} {k:(s v:Nat)→List Nat→SV→M} {Q:St→Prop} (h:Rel G σ Fr w0 st a w) (ho:Ac w0.n x y=true) (hq:(rdDP y f k).wp P Q st):
 ∃s cur inv t p u r v,(k s v p r).wp P Q st∧st[s]?=some (cur,.own inv t)∧p≠[]∧PtD w t (val a w0 s) p (a.eval x)∧t.at p=some u∧f u=some r∧v≤cur:=by
 cases y with
 |c _=>exact hq.elim
 |nils _ _=>exact hq.elim
 |t n=>
  obtain⟨rfl,hnlt⟩:=A1 ho
  simp only[rdDP,M.wp]at hq
  cases hs:st[n]? with
  |none=>simp[hs]at hq
  |some cur=>
   obtain⟨ver,sv⟩:=cur
   simp only[hs]at hq
   have hrep:=h.slot hnlt hs
   have hv:val a w0 n=a.eval (.tmp n):=A2 (by rw[h.n];exact hnlt)
   cases sv with
   |own inv t=>
    simp only[Ef,M.wp,hs]at hq
    cases t with
    |ptr t=>
     obtain⟨u,r,v,h1,h2,h3,h4⟩:=D6 (k:=fun v r=>k n v [0] r) hq
     cases h1
     exact⟨n,ver,inv,_,[0],t,r,v,h4,hs,by simp,by rw[hv];exact OwnD.pt hrep,rfl,h2,h3⟩
    |_=>exact hq.elim
   |pd s v p=>
    obtain⟨cur,h1,h2,h3⟩:=hrep
    simp only[Ef,M.wp,hs]at hq
    cases p with
    |nil=>exact hq.elim
    |cons i q=>
     simp only[M.wp,h1]at hq
     obtain⟨cv,csv⟩:=cur
     cases csv with
     |own inv t=>
      simp only[eyeP]at hq
      cases ha:alive v inv (i::q)with
      |false=>rw[ha]at hq;exact hq.elim
      |true=>
       rw[ha]at hq
       obtain⟨u,r,v',k1,k2,k3,k4⟩:=D6 (k:=fun v' r=>k s v' (i::q) r) hq
       exact⟨s,cv,inv,t,i::q,u,r,v',k4,h1,by simp,h3 inv t rfl (by simp) ha,k1,k2,k3⟩
     |_=>exact hq.elim
   |par hh=>
    obtain⟨hv',hle⟩:=h.pars n ver hh hs
    rw[hv]at hv'
    simp only[Ef,M.wp]at hq
    cases h1:st[hh]? with
    |none=>simp[h1]at hq
    |some cur=>
     obtain⟨cv,csv⟩:=cur
     simp only[h1]at hq
     have hrep':=h.slots hh cv csv h1
     cases csv with
     |own inv t=>
      cases t with
      |ptr t=>
       obtain⟨u,r,v,k1,k2,k3,k4⟩:=D6 (k:=fun v r=>k hh v [0] r) hq
       cases k1
       exact⟨hh,cv,inv,_,[0],t,r,v,k4,h1,by simp,by rw[hv'];exact OwnD.pt hrep',rfl,k2,k3⟩
      |_=>exact hq.elim
     |_=>exact hq.elim
   |_=>exact hq.elim
theorem Tx {x:Operand} {y:Opd} {f:D→Option SV} {k:(s v:Nat)→List Nat→SV→M} {Q:St→Prop} (h:Rel G σ Fr w0 st a w) (ho:Ac w0.n x y=true) (hq:(rdHP y f k).wp P Q st):
 ∃s cur inv t p u r v,(k s v p r).wp P Q st∧st[s]?=some (cur,.own inv t)∧HdD w t (val a w0 s) p (a.eval x)∧t.at p=some u∧f u=some r∧v≤cur:=by
 cases y with
 |c _=>exact hq.elim
 |nils _ _=>exact hq.elim
 |t n=>
  obtain⟨rfl,hnlt⟩:=A1 ho
  simp only[rdHP,M.wp]at hq
  cases hs:st[n]? with
  |none=>simp[hs]at hq
  |some cur=>
   obtain⟨ver,sv⟩:=cur
   simp only[hs]at hq
   have hrep:=h.slot hnlt hs
   have hv:val a w0 n=a.eval (.tmp n):=A2 (by rw[h.n];exact hnlt)
   cases sv with
   |own inv t=>
    simp only[Ef,M.wp,hs,eyeR]at hq
    cases ht:t.head with
    |false=>rw[ht]at hq;exact hq.elim
    |true=>
     rw[ht]at hq
     obtain⟨u,r,v,h1,h2,h3,h4⟩:=D6 (k:=fun v r=>k n v [] r) hq
     cases h1
     exact⟨n,ver,inv,_,[],_,r,v,h4,hs,by rw[hv];exact OwnD.hd hrep ht,rfl,h2,h3⟩
   |bd s v p=>
    obtain⟨cur,h1,h2,h3⟩:=hrep
    simp only[Ef,M.wp,hs,h1]at hq
    obtain⟨cv,csv⟩:=cur
    cases csv with
    |own inv t=>
     simp only[eyeH]at hq
     cases ha:A5 v inv p with
     |false=>rw[ha]at hq;exact hq.elim
     |true=>
      rw[ha]at hq
      obtain⟨u,r,v',k1,k2,k3,k4⟩:=D6 (k:=fun v' r=>k s v' p r) hq
      exact⟨s,cv,inv,t,p,u,r,v',k4,h1,h3 inv t rfl ha,k1,k2,k3⟩
    |_=>exact hq.elim
   |par hh=>
    obtain⟨hv',hle⟩:=h.pars n ver hh hs
    rw[hv]at hv'
    simp only[Ef,M.wp]at hq
    cases h1:st[hh]? with
    |none=>simp[h1]at hq
    |some cur=>
     obtain⟨cv,csv⟩:=cur
     simp only[h1]at hq
     have hrep':=h.slots hh cv csv h1
     cases csv with
     |own inv t=>
      simp only[eyeR]at hq
      cases ht:t.head with
      |false=>rw[ht]at hq;exact hq.elim
      |true=>
       rw[ht]at hq
       obtain⟨u,r,v,k1,k2,k3,k4⟩:=D6 (k:=fun v r=>k hh v [] r) hq
       cases k1
       exact⟨hh,cv,inv,_,[],_,r,v,k4,h1,by rw[hv'];exact OwnD.hd hrep' ht,rfl,k2,k3⟩
     |_=>exact hq.elim
   |_=>exact hq.elim
theorem Gx {o:Oper} {Q:St→Prop} {next:Act→World→Prop} {E:Exit→Act→World→Prop} {s cur v:Nat} {inv:Inv} {t:D} {q:List Nat} {c:Value} (hr:Rel G σ Fr w0 st a w) (hdst:∀d,o.dst=some d→d<w0.n) (hs:st[s]?=some (cur,.own inv t)) (hle:v≤cur)
 (hn:∀G' σ' st' a' w',G.le G'→Rel G' σ' Fr w0 st' a' w'→Q st'→next a' w') (hne:o.dst≠some s) (hp:PtD w t (val a w0 s) q c) (hrun:(execOp a.eval o).run P w= .ok (.value c) w)
 (hq:(setD o.dst (.pd s v q) .done).wp P Q st):o.wp P a w next E:=by
 obtain⟨σ',st',r1,r2⟩:=hr.setD hdst (sv:=.pd s v q) (c:=c) (fun d' hd ver _=>by
  refine⟨_,by rw[List.getElem?_set_ne (by rintro rfl;exact hne hd)];exact hs,hle,fun inv' t' e _ _=>?_⟩
  cases e
  rw[An (by rintro rfl;exact hne hd)]
  exact hp) hq
 exact Am hrun (hn G σ' st' _ w (Mem.le.refl G) r1 r2)
theorem Up {o:Oper} {Q:St→Prop} {next:Act→World→Prop} {E:Exit→Act→World→Prop} {s cur v:Nat} {inv:Inv} {t:D} {q:List Nat} {c:Value} (hr:Rel G σ Fr w0 st a w) (hdst:∀d,o.dst=some d→d<w0.n) (hs:st[s]?=some (cur,.own inv t)) (hle:v≤cur)
 (hn:∀G' σ' st' a' w',G.le G'→Rel G' σ' Fr w0 st' a' w'→Q st'→next a' w') (hne:o.dst≠some s) (hp:HdD w t (val a w0 s) q c) (hrun:(execOp a.eval o).run P w= .ok (.value c) w)
 (hq:(setD o.dst (.bd s v q) .done).wp P Q st):o.wp P a w next E:=by
 obtain⟨σ',st',r1,r2⟩:=hr.setD hdst (sv:=.bd s v q) (c:=c) (fun d' hd ver _=>by
  refine⟨_,by rw[List.getElem?_set_ne (by rintro rfl;exact hne hd)];exact hs,hle,fun inv' t' e _=>?_⟩
  cases e
  rw[An (by rintro rfl;exact hne hd)]
  exact hp) hq
 exact Am hrun (hn G σ' st' _ w (Mem.le.refl G) r1 r2)
theorem Uw {o:Oper} {t:TypeId} {x:Operand} {x':Opd} {i off:Nat} (ho:o.op= .fieldAddr t x i) (hx:Ac N x x'=true) (ht:Jb P t i off=true):
 Sound P N o (Rx o.dst x' i off):=by
 intro G σ Fr w0 st a w Q next E hN hr hw hn hdst
 subst hN
 obtain⟨s,cur,inv,tr,p,u,r,v,h1,hs,hp0,hpt,hat,hf,hle⟩:=Ex hr hx hw
 have hown:=hr.slots s cur _ hs
 unfold Za at hf
 split at hf
 ·rename_i off' hof
  cases hf
  obtain⟨⟨hoff,hne⟩,h1⟩:=h1
  have hoff:off'=off:=by injection hoff with _ hoff;exact_mod_cast hoff
  subst hoff
  obtain⟨b,off,bl,ty,fz,pre,cs,post,ubs,e1,e2,e3,e4,e5,e6,e7⟩:=PtD.block hown hat hpt
  obtain⟨y,cs',k1,k2⟩:=Mt (w:=w) (b:=b) (o:=off) (cs:=cs) hof
  refine Gx hr hdst hs hle hn hne ⟨y,b,off+off',cs',by rw[Dg hat];exact k1,by rw[Ck hat e7 k1];exact k2,rfl⟩ ?_ h1
  simp[execOp,ho,e1,Hu ht]
 ·cases hf
theorem R8 {o:Oper} {x:Operand} {x':Opd} (ho:o.op= .move x∨o.op= .assign x) (hx:Ac N x x'=true):Sound P N o (Z3 o.dst x'):=by
 intro G σ Fr w0 st a w Q next E hN hr hw hn hdst
 subst hN
 obtain⟨s,cur,inv,tr,p,u,r,v,h1,hs,hp0,hpt,hat,hf,hle⟩:=Ex hr hx hw
 obtain⟨hne,h1⟩:=h1
 refine Gx hr hdst hs hle hn hne hpt ?_ h1
 rcases ho with ho|ho<;>simp[execOp,ho]
theorem Qi {o:Oper} {x:Opd} {m1 m2:M} (h1:Sound P N o m1) (h2:Sound P N o m2):Sound P N o (Tk x m1 m2):=by
 intro G σ Fr w0 st a w Q next E hN hr hw hn hdst
 cases x with
 |c _=>exact h2 G σ Fr w0 st a w Q next E hN hr hw hn hdst
 |nils _ _=>exact h2 G σ Fr w0 st a w Q next E hN hr hw hn hdst
 |t n=>
  simp only[Tk,M.wp]at hw
  cases hs:st[n]? with
  |none=>rw[hs]at hw;exact hw.elim
  |some cur=>
   rw[hs]at hw
   dsimp only at hw
   split at hw
   ·rename_i h _
    simp only[M.wp]at hw
    cases hs2:st[h]? with
    |none=>rw[hs2]at hw;exact hw.elim
    |some cur2=>
     rw[hs2]at hw
     dsimp only at hw
     split at hw
     ·exact h1 G σ Fr w0 st a w Q next E hN hr hw hn hdst
     ·exact h2 G σ Fr w0 st a w Q next E hN hr hw hn hdst
   ·exact h2 G σ Fr w0 st a w Q next E hN hr hw hn hdst
theorem Uy {o:Oper} {t:TypeId} {x i:Operand} {x' i':Opd} {sz:Nat} (ho:o.op= .indexAddr t x i) (hx:Ac N x x'=true) (hi:Ac N i i'=true) (ht:Bz P t sz=true):
 Sound P N o (Rz o.dst sz x' i'):=by
 intro G σ Fr w0 st a w Q next E hN hr hw hn hdst
 subst hN
 obtain⟨n,h1,hnv⟩:=Az hr hi hw
 clear hw
 split at h1
 ·rename_i k n
  rw[RepV.int]at hnv
  obtain⟨s,cur,inv,tr,p,u,r,v,h1,hs,hhd,hat,hf,hle⟩:=Tx hr hx h1
  have hown:=hr.slots s cur _ hs
  unfold Qq at hf
  split at hf
  ·rename_i e sz' l
   cases hf
   obtain⟨⟨h0,hlt,hsz,hne⟩,h1⟩:=h1
   have hsz:sz'=sz:=by injection hsz with _ hsz;exact_mod_cast hsz
   subst hsz
   have hlt:n.toNat<l.length:=by omega
   obtain⟨hh,ubs,e5,e6,e7⟩:=HdD.read hown hat hhd
   simp only[RepD]at e5
   rcases e5 with⟨_,rfl,_⟩|⟨g,off,cap,cu,xs,bs',q1,⟨ty,fz,q2,_⟩,_⟩
   ·simp at hlt
   ·injection q1 with q1
    have hk:(D.vec e sz' l).kid n.toNat=some l[n.toNat]:=by simp[D.kid,List.getElem?_eq_getElem hlt]
    refine Gx hr hdst hs hle hn hne (c:=.pointer (some ⟨g,off+n.toNat*sz',none⟩)) ⟨_,g,off+n.toNat*sz',(cu.toList.drop (off+n.toNat*sz')).take sz',by rw[Dg hat];exact hk,?_,rfl⟩ ?_ h1
    ·rw[Ck hat e7 hk,q1]
     simp only[Au,List.getElem?_eq_getElem hlt,q2]
    ·simp[execOp,ho,q1,hnv,Hx ht w h0 hlt]
  ·cases hf
 ·exact h1.elim
theorem Ya {o:Oper} {t:TypeId} {x:Operand} {x':Opd} {str:Bool} (ho:o.op= .call {callee:=.builtin .len,args:= #[x],argTypes:= #[t]}) (hx:Ac N x x'=true) (ht:Hh P t str=true):
 Sound P N o (Wn o.dst str x'):=by
 intro G σ Fr w0 st a w Q next E hN hr hw hn hdst
 subst hN
 obtain⟨s,cur,inv,tr,p,u,r,v,h1,hs,hhd,hat,hf,hle⟩:=Tx hr hx hw
 have hown:=hr.slots s cur _ hs
 unfold Qq at hf
 split at hf
 ·rename_i e sz' l
  cases hf
  obtain⟨⟨rfl,_⟩,h1⟩:=h1
  obtain⟨hh,ubs,e5,e6,e7⟩:=HdD.read hown hat hhd
  simp only[RepD]at e5
  have hsl:∃e,P.underlying t=some (.slice e):=by
   unfold Hh at ht
   split at ht
   ·cases ht
   ·rename_i e h;exact⟨e,h⟩
   ·cases ht
  obtain⟨e',hu⟩:=hsl
  have fin:∀{ad:Option Addr} {cap:Nat},a.eval x= .slice ad l.length cap→l.length≤maxLen→o.wp P a w next E:=by
   intro ad cap he hm
   exact Ay hr hn hdst (RepV.int.2 rfl) (h1 (by exact_mod_cast hm)) (by simp[execOp,ho,resolve,invoke,builtin,Builtin.len_,run_underlying hu,he,goInt])
  rcases e5 with⟨q1,rfl,_⟩|⟨g,off,cap,cu,xs,bs',q1,_,_,q2,q3,_⟩
  ·injection q1 with q1
   exact fin q1 (Nat.zero_le _)
  ·injection q1 with q1
   exact fin q1 (Nat.le_trans q2 q3)
 ·cases hf
theorem Vy {o:Oper} {t:TypeId} {x:Operand} {x':Opd} {agg:Bool} {sz:Nat} (ho:o.op= .load t x) (hx:Ac N x x'=true) (ht:tyOk P t agg sz=true):Sound P N o (Ui o.dst agg sz x'):=by
 intro G σ Fr w0 st a w Q next E hN hr hw hn hdst
 have hold:=Vw (P:=P) ho hx ht
 subst hN
 have run:∀{b off:Nat} {v:Value},a.eval x= .pointer (some ⟨b,off,none⟩)→(loadVar t ⟨b,off,none⟩).run P w= .ok v w→(execOp a.eval o).run P w= .ok (.value v) w:=by
  intro b off v hp hl
  simp[execOp,ho,hp,Instr.loadAt,Instr.sureAddr,hl]
 obtain⟨s,cur,inv,tr,p,u,r,v,h1,hs,hp0,hpt,hat,hf,hle⟩:=Ex hr hx hw
 have hown:=hr.slots s cur _ hs
 obtain⟨b,off,bl,ty,fz,pre,cs,post,ubs,e1,e2,e3,e4,e5,e6,e7⟩:=PtD.block hown hat hpt
 have hone:=RepD.one e5
 have hlen:=RepD.length e5
 cases u with
 |it y=>
  cases hf
  obtain⟨⟨rfl,rfl⟩,h1⟩:=h1
  simp only[RepD]at e5
  obtain⟨v,hl,hv⟩:=D4 (P:=P) ht e2 e3 e4 e5.1
  exact Ay hr hn hdst hv h1 (run e1 hl)
 |vec e sz' l=>
  cases hf
  obtain⟨⟨rfl,rfl,hne⟩,h1⟩:=h1
  obtain⟨c,rfl⟩:=List.length_eq_one_iff.1 hlen
  have hl:=(Bb (P:=P) (cs:=[c]) ht e2 e3 e4).2 c rfl rfl
  exact Up hr hdst hs hle hn hne ⟨_,_,hat,rfl,e7⟩ (run e1 hl) h1
 |map ks vs=>
  cases hf
  obtain⟨⟨rfl,rfl,hne⟩,h1⟩:=h1
  obtain⟨c,rfl⟩:=List.length_eq_one_iff.1 hlen
  have hl:=(Bb (P:=P) (cs:=[c]) ht e2 e3 e4).2 c rfl rfl
  exact Up hr hdst hs hle hn hne ⟨_,_,hat,rfl,e7⟩ (run e1 hl) h1
 |ptr d=>
  cases hf
  obtain⟨⟨rfl,rfl,hne⟩,h1⟩:=h1
  obtain⟨c,rfl⟩:=List.length_eq_one_iff.1 hlen
  have hl:=(Bb (P:=P) (cs:=[c]) ht e2 e3 e4).2 c rfl rfl
  simp only[RepD]at e5
  obtain⟨g,cells,ty',bs',q1,q2,_⟩:=e5
  injection q1 with q1
  subst q1
  refine Gx hr hdst hs hle hn hne ⟨d,g,0,cells.toList,by rw[Dg hat];rfl,?_,rfl⟩ (run e1 hl) h1
  rw[Ck hat e7 (y:=d) rfl]
  simp[Au,q2]
 |st l=>
  cases hf
  exact hold G σ Fr w0 st a w Q next E rfl hr h1 hn hdst
end

open Go.Op
def Y3 (_:D):Option SV:=some (.v .und)
def Wu (d:Option Nat) (x:Opd):M:=Bw x (rdDP x Y3 fun s v p _=>.need (d≠some s) fun _=>setD d (.pd s v p) .done) (match x with
 | .t n=>.get n fun _ sv=>match sv with
   | .pt s k ver off r=>.get s fun cur _=>.need (d≠some s∧ver=cur) fun _=>setD d (.pt s k ver off r) .done
   |_=>.fail
 |_=>.fail)
def Ww (d:Option Nat) (neg:Bool) (x:Opd):M:=Bw x (rdDP x Y3 fun _ _ _ _=>setD d (.v (.bool neg)) .done) (match x with
 | .t n=>.get n fun _ sv=>match sv with
   | .pt s _ ver _ _=>.get s fun cur _=>.need (ver=cur) fun _=>setD d (.v (.bool neg)) .done
   | .v y=>match y with
     | .nilp=>setD d (.v (.bool (!neg))) .done
     |_=>.fail
   |_=>.fail
 |_=>.fail)
def P6 (P:Program) (t:TypeId) (y:Operand):Bool:=(match P.underlying t with
 |some (.pointer _)=>true
 |_=>false)&&(match y with
 | .const (.pointer none)=>true
 |_=>false)
def Wh (d:Option Nat) (sz n:Nat) (z:I) (ps:List (Nat × Opd)):M:=Fj ps (List.replicate n z) fun l=>.need (∀x∈l,x.size=sz) fun _=>setD d (.v (.arr sz l)) .done
def S7 (P:Program) (t:TypeId) (sz n:Nat) (z:I):Bool:=match P.underlying t,P.info? t with
 |some (.array n' e),some i=>n'==n&&z.size==sz&&(match i.zero with
  |some v=>match zIs (List.replicate n z) v.cells.toList with
   |some []=>true
   |_=>false
  |none=>false)&&(match P.info? e with
  |some j=>j.size==sz
  |none=>false)
 |_,_=>false
def We (d:Option Nat) (agg:Bool) (sz len:Nat) (x i:Opd):M:=Bk x fun u=>Bk i fun n=>match u,n with
 | .arr sz' l,.int _ n=>match l[n.toNat]? with
   |some y=>.need (0≤n∧n<(len:Int)∧sz'=sz∧y.isAgg=agg∧y.size=sz) fun _=>setD d (.v y) .done
   |none=>.fail
 |_,_=>.fail
def S3 (P:Program) (t:TypeId) (agg:Bool) (sz len:Nat):Bool:=match P.underlying t with
 |some (.array n e)=>n==len&&tyOk P e agg sz
 |_=>false
section
variable{P:Program}{N:Nat}{G:Mem}{σ:Lab}{Fr:Mem}{w0:Base}{w:World}{st:St}{a:Act}
theorem Yg {o:Oper} {x:Operand} {x':Opd} (ho:o.op= .nilCheck x) (hx:Ac N x x'=true):Sound P N o (Wu o.dst x'):=by
 refine Bc ?_ ?_
 ·intro G σ Fr w0 st a w Q next E hN hr hw hn hdst
  subst hN
  obtain⟨s,cur,inv,tr,p,u,r,v,h1,hs,hp0,hpt,hat,hf,hle⟩:=Ex hr hx hw
  obtain⟨hne,h1⟩:=h1
  have hpt':=hpt
  obtain⟨_,b,off,cs,_,_,hc⟩:=hpt'
  refine Gx hr hdst hs hle hn hne hpt ?_ h1
  simp[execOp,ho,hc]
 ·intro G σ Fr w0 st a w Q next E hN hr hw hn hdst
  subst hN
  cases x' with
  |c _=>exact hw.elim
  |nils _ _=>exact hw.elim
  |t n=>
   obtain⟨rfl,hnlt⟩:=A1 hx
   simp only[M.wp]at hw
   cases hs:st[n]? with
   |none=>simp[hs]at hw
   |some cur=>
    obtain⟨ver,sv⟩:=cur
    simp only[hs]at hw
    have hrep:=hr.slot hnlt hs
    split at hw
    ·rename_i s k v off r
     obtain⟨cur,g1,g2,g3⟩:=hrep
     simp only[M.wp,g1]at hw
     obtain⟨⟨hne,hv⟩,hw⟩:=hw
     obtain⟨b,g4,g5⟩:=g3 hv
     obtain⟨σ',st',r1,r2⟩:=hr.setD hdst (sv:=.pt s k v off r) (c:=a.eval (.tmp n)) (fun d' hd ver _=>
      ⟨cur,by rw[List.getElem?_set_ne (by rintro rfl;exact hne hd)];exact g1,g2,fun e=>⟨b,Lab.drop_some.2 ⟨fun e=>hne (by rw[hd,e]),g4⟩,g5⟩⟩) hw
     refine Am (v:=a.eval (.tmp n)) (w':=w) ?_ (hn G σ' st' _ w (Mem.le.refl G) r1 r2)
     simp[execOp,ho,g5]
    ·exact hw.elim
theorem Tb {d:Nat} {t e:TypeId} (hu:P.underlying t=some (.pointer e)) (x:Option Addr) (w:World):(Op.equalIn (d+1) t (.pointer x) (.pointer none)).run P w= .ok x.isNone w:=by
 cases x<;>simp[Op.equalIn,run_underlying hu]
theorem Xg {t e:TypeId} (hu:P.underlying t=some (.pointer e)) (x:Option Addr) (w:World):(Op.equal t (.pointer x) (.pointer none)).run P w= .ok x.isNone w:=Tb (d:=9999) hu x w
theorem Qj {o:Oper} {neg:Bool} {t u:TypeId} {x y:Operand} {x':Opd} (ho:o.op= .binOp (if neg then .neq else .eql) t x y u) (hx:Ac N x x'=true) (hy:P6 P t y=true):Sound P N o (Ww o.dst neg x'):=by
 unfold P6 at hy
 simp only[Bool.and_eq_true]at hy
 obtain⟨hu,hy⟩:=hy
 split at hu
 ·rename_i e hu'
  split at hy
  ·have run:∀{a:Act} {w:World} {ad:Option Addr},a.eval x= .pointer ad→(execOp a.eval o).run P w= .ok (.value (.bool (if neg then !ad.isNone else ad.isNone))) w:=by
    intro a w ad he
    have hq:=Xg hu' ad w
    have hy':a.eval (.const (.pointer none))= .pointer none:=rfl
    cases neg<;>simp[execOp,ho,he,hy',eqGuard,binOp,hq]
   refine Bc ?_ ?_
   ·intro G σ Fr w0 st a w Q next E hN hr hw hn hdst
    subst hN
    obtain⟨s,cur,inv,tr,p,u,r,v,h1,hs,hp0,hpt,hat,hf,hle⟩:=Ex hr hx hw
    obtain⟨_,b,off,cs,_,_,hc⟩:=hpt
    refine Ay hr hn hdst (RepV.bool.2 rfl) h1 ?_
    have:=run (w:=w) hc
    cases neg<;>simpa using this
   ·intro G σ Fr w0 st a w Q next E hN hr hw hn hdst
    subst hN
    cases x' with
    |c _=>exact hw.elim
    |nils _ _=>exact hw.elim
    |t n=>
     obtain⟨rfl,hnlt⟩:=A1 hx
     simp only[M.wp]at hw
     cases hs:st[n]? with
     |none=>simp[hs]at hw
     |some cur=>
      obtain⟨ver,sv⟩:=cur
      simp only[hs]at hw
      have hrep:=hr.slot hnlt hs
      split at hw
      ·rename_i s k v off r
       obtain⟨cur,g1,g2,g3⟩:=hrep
       simp only[M.wp,g1]at hw
       obtain⟨hv,hw⟩:=hw
       obtain⟨b,g4,g5⟩:=g3 hv
       refine Ay hr hn hdst (RepV.bool.2 rfl) hw ?_
       have:=run (w:=w) g5
       cases neg<;>simpa using this
      ·split at hw
       ·have hc:a.eval (.tmp n)= .pointer none:=by
         have h:RepV G .nilp (a.eval (.tmp n)):=hrep
         unfold RepV at h
         rw[if_neg (by simp[I.isAgg])]at h
         simpa[RepI]using h
        refine Ay hr hn hdst (RepV.bool.2 rfl) hw ?_
        have:=run (w:=w) hc
        cases neg<;>simpa using this
       ·exact hw.elim
      ·exact hw.elim
  ·cases hy
 ·cases hu
theorem X0 {o:Oper} {t:TypeId} {ps:Array (Nat × Operand)} {sz n:Nat} {z:I} {ps':List (Nat × Opd)} (ho:o.op= .build t ps) (hp:Bo N ps.toList ps'=true) (ht:S7 P t sz n z=true):
 Sound P N o (Wh o.dst sz n z ps'):=by
 intro G σ Fr w0 st a w Q next E hN hr hw hn hdst
 subst hN
 unfold S7 at ht
 split at ht
 ·rename_i n' e i hu hi
  simp only[Bool.and_eq_true,beq_iff_eq]at ht
  obtain⟨⟨⟨rfl,hzs⟩,hz⟩,hes⟩:=ht
  cases hzv:i.zero with
  |none=>simp[hzv]at hz
  |some v=>
   simp only[hzv]at hz
   have hz':∃c,v.cells.toList=c++[]∧RepIs G (List.replicate n' z) c:=by
    split at hz
    ·rename_i h;exact zIs_spec G _ _ _ h
    ·cases hz
   obtain⟨c,hc,hz'⟩:=hz'
   rw[List.append_nil]at hc
   subst hc
   have hes':(sizeOf e).run P w= .ok sz w:=by
    cases hfi:P.info? e with
    |none=>simp[hfi]at hes
    |some j=>
     simp only[hfi,beq_iff_eq]at hes
     simp[sizeOf,typeInfo,hfi,hes]
   have hplace:∀(j:Nat) (zz:I),(List.replicate n' z)[j]?=some zz→(fun j:Nat=>some (j*sz,sz)) j=some (sizes ((List.replicate n' z).take j),zz.size):=by
    intro j zz hzz
    have hj:j<n':=by have:=(List.getElem?_eq_some_iff.1 hzz).1;simpa using this
    have hzz':zz=z:=by rw[List.getElem?_replicate,if_pos hj]at hzz;cases hzz;rfl
    subst hzz'
    rw[List.take_replicate,A0 (sz:=sz) (by intro x hx;rw[List.eq_of_mem_replicate hx,hzs]),List.length_replicate,Nat.min_eq_left (Nat.le_of_lt hj),hzs]
   obtain⟨l,cells,G',σ',st',hG,hr',h2,h3,h4⟩:=Fq (place:=fun j=>some (j*sz,sz)) hr hp hw hz' hplace
   obtain⟨hsz,h2⟩:=h2
   have hv:RepV G' (.arr sz l) (.agg cells):=by
    unfold RepV
    rw[if_pos (show(I.arr sz l).isAgg=true from rfl)]
    exact⟨cells,rfl,h3,hsz⟩
   refine Ay hr' (fun G'' σ'' st'' a' w' hG''=>hn G'' σ'' st'' a' w' (hG.trans hG'')) hdst hv h2 ?_
   have hparts:(ps.map fun(p:Nat × Operand)=>(p.1,a.eval p.2)).toList=ps.toList.map fun p=>(p.1,a.eval p.2):=by simp
   have hzero:(zeroValue t).run P w= .ok v w:=by simp[zeroValue,typeInfo,hi,hzv]
   simp only[execOp,ho,Instr.build,Sem.run_bind,hzero,Result.andThen,run_underlying hu,hes',hparts,h4,Sem.run_pure]
 ·cases ht
theorem Xw {o:Oper} {t:TypeId} {x i:Operand} {x' i':Opd} {agg:Bool} {sz len:Nat} (ho:o.op= .index t x i) (hx:Ac N x x'=true) (hi:Ac N i i'=true) (ht:S3 P t agg sz len=true):
 Sound P N o (We o.dst agg sz len x' i'):=by
 intro G σ Fr w0 st a w Q next E hN hr hw hn hdst
 subst hN
 obtain⟨u,h1,hu⟩:=Az hr hx hw
 clear hw
 obtain⟨v,hw,hv⟩:=Az hr hi h1
 clear h1
 split at hw
 ·rename_i sz' l k n
  split at hw
  ·rename_i y hy
   obtain⟨⟨h0,hlt,rfl,rfl,hys⟩,hw⟩:=hw
   unfold RepV at hu
   rw[if_pos (show(I.arr sz' l).isAgg=true from rfl)]at hu
   obtain⟨arr,hc,hu,hall⟩:=hu
   rw[RepV.int]at hv
   obtain⟨c1,c,c2,e1,e2,e3,_⟩:=RepIs.nth n.toNat hu hy
   have hl:=RepI.length _ _ e3
   unfold S3 at ht
   split at ht
   ·rename_i n' e hus
    simp only[Bool.and_eq_true,beq_iff_eq]at ht
    obtain⟨rfl,ht⟩:=ht
    obtain⟨g1,g2⟩:=Dd ht w
    have hoff:sizes (l.take n.toNat)=n.toNat*sz':=by
     have hnl:n.toNat<l.length:=(List.getElem?_eq_some_iff.1 hy).1
     rw[A0 (sz:=sz') (fun x hx=>hall x (List.mem_of_mem_take hx)),List.length_take,Nat.min_eq_left (Nat.le_of_lt hnl)]
    rw[hoff]at e2
    have hval:∃v,(part e arr (n.toNat*sz')).run P w= .ok v w∧RepV G y v:=by
     cases hagg:y.isAgg with
     |true=>
      rw[hagg]at g1
      refine⟨.agg (arr.extract (n.toNat*sz') (n.toNat*sz'+sz')),by simp[part,g1,g2],?_⟩
      unfold RepV
      rw[if_pos hagg]
      refine⟨_,rfl,?_⟩
      have:(arr.extract (n.toNat*sz') (n.toNat*sz'+sz')).toList=c:=by
       rw[hys]at hl
       rw[Array.toList_extract,e1,List.extract_eq_take_drop, ←e2, ←hl,Nat.add_sub_cancel_left,List.append_assoc,List.drop_left,List.take_left]
      rw[this];exact e3
     |false=>
      rw[hagg]at g1
      have hone:y.size=1:=by cases y<;>simp_all [I.isAgg,I.size]
      rw[hone]at hl
      match c,hl with
      | [v],_=>
        have hv:arr[n.toNat*sz']?=some v:=by
         have:arr[n.toNat*sz']?=arr.toList[n.toNat*sz']?:=by simp
         rw[this,e1, ←e2]
         simp
        refine⟨v,by simp[part,g1,hv],?_⟩
        unfold RepV
        rw[if_neg (by simp[hagg])]
        exact e3
    obtain⟨v',hrun,hv'⟩:=hval
    refine Ay hr hn hdst hv' hw ?_
    simp[execOp,ho,hc,hv,Instr.index,asIntOf,run_underlying hus,h0,hlt,g2,hrun]
   ·cases ht
  ·exact hw.elim
 ·exact hw.elim
end
end Go.Ab
