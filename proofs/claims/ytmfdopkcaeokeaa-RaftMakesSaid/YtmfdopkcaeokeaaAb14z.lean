/- Lemmas -/
import Derived.Test.YtmfdopkcaeokeaaAb13
set_option linter.unusedVariables false
set_option linter.unusedSimpArgs false
namespace Go.Ab
def Rv (d:Nat) (e:TypeId) (sz:Nat) (z:I) (n:Nat) (ps:List (Nat × Opd)):M:=Fj ps (List.replicate n z) fun l=>.need (l.length=n∧∀u∈l,u.size=sz) fun _=>Av d (.vec e sz l)
def Es (P:Program) (t e:TypeId) (sz:Nat) (z:I) (n:Nat):Bool:=match P.underlying t with
 |some (.slice e')=>e'==e&&n≤4096&&n != 0&&match P.info? e with
  |some i=>i.size==sz&&sz != 0&&sz≤4096&&z.size==sz&&match i.zero with
   |some v=>v.cells.size==sz&&match zI z v.cells.toList with
    |some []=>true
    |_=>false
   |none=>false
  |none=>false
 |_=>false
def Lf (d:Nat) (x:Opd) (i:Nat):M:=match x with
 | .t n=>.get n fun ver sv=>match sv with
   | .tup fs=>match fs[i]? with
     |some (.i y)=>Av d (.v y)
     |some (.vec e sz l)=>.need (n≠d) fun _=>.set n (ver+1) (.tup (fs.set i (.i .und))) (Av d (.vec e sz l))
     |none=>.fail
   |_=>.fail
 |_=>.fail
def Zz (d:Option Nat) (agg:Bool) (sz:Nat) (x:Opd) (i off:Nat):M:=Bk x fun u=>match u with
 | .agg l=>match l[i]? with
   |some y=>.need (sizes (l.take i)=off∧y.isAgg=agg∧y.size=sz) fun _=>setD d (.v y) .done
   |none=>.fail
 |_=>.fail
def Abx (d:Option Nat) (max:Bool) (x y:Opd):M:=Bk x fun u=>Bk y fun v=>match u,v with
 | .int k a,.int k' b=>.need (k=k') fun _=>selI max (.int k (Max.max a b)) (.int k (Min.min a b)) fun r=>setD d (.v r) .done
 | .str a,.str b=>.need (max=true) fun _=>.ite (!Op.bytesLess a b) (setD d (.v (.str a)) .done) (setD d (.v (.str b)) .done)
 |_,_=>.fail
section
variable{P:Program}{N:Nat}{G:Mem}{σ:Lab}{Fr:Mem}{w0:Base}{w:World}{st:St}{a:Act}
theorem U0 {o:Oper} {max:Bool} {x y:Operand} {x' y':Opd} {t:Array TypeId} (ho:o.op= .call {callee:=.builtin (if max then .max else .min),args:= #[x,y],argTypes:=t}) (hx:Ac N x x'=true) (hy:Ac N y y'=true):
 Sound P N o (Abx o.dst max x' y'):=by
 intro G σ Fr w0 st a w Q next E hN hr hw hn hdst
 subst hN
 obtain⟨i,h1,hi⟩:=Az hr hx hw
 clear hw
 obtain⟨j,hw,hj⟩:=Az hr hy h1
 clear h1
 split at hw
 ·rename_i k m k' n
  obtain⟨rfl,h1⟩:=hw
  rw[RepV.int]at hi hj
  have h1:(setD o.dst (.v (.int k (if max then Max.max m n else Min.min m n))) .done).wp P Q st:=by cases max<;>exact h1
  refine Ay hr hn hdst (RepV.int.2 rfl) h1 ?_
  cases max with
  |true=>
   have e:(if n>m then n else m)=Max.max m n:=by
    rw[Int.max_def];split<;>split<;>omega
   simp[execOp,ho,resolve,invoke,builtin,Builtin.max_,Builtin.max2,hi,hj,e]
  |false=>
   have e:(if n<m then n else m)=Min.min m n:=by
    rw[Int.min_def];split<;>split<;>omega
   simp[execOp,ho,resolve,invoke,builtin,Builtin.min_,Builtin.min2,hi,hj,e]
 ·rename_i s t
  obtain⟨rfl,h1,h2⟩:=hw
  obtain⟨hi,hil⟩:=RepV.str.1 hi
  obtain⟨hj,hjl⟩:=RepV.str.1 hj
  cases hc: !Op.bytesLess s t with
  |true=>
   refine Ay hr hn hdst (RepV.str.2 ⟨rfl,hil⟩) (h1 hc) ?_
   simp[execOp,ho,resolve,invoke,builtin,Builtin.max_,Builtin.max2,hi,hj,Op.stringOp,hc,asBool]
  |false=>
   refine Ay hr hn hdst (RepV.str.2 ⟨rfl,hjl⟩) (h2 hc) ?_
   simp[execOp,ho,resolve,invoke,builtin,Builtin.max_,Builtin.max2,hi,hj,Op.stringOp,hc,asBool]
 ·exact hw.elim
def Pf (P:Program) (t:TypeId) (i off:Nat) (agg:Bool) (sz:Nat):Bool:=match P.underlying t with
 |some (.struct fs)=>match fs[i]? with
  |some f=>f.offset==off&&tyOk P f.type agg sz
  |none=>false
 |_=>false
theorem Aaj {o:Oper} {t:TypeId} {x:Operand} {x':Opd} {i off sz:Nat} {agg:Bool} (ho:o.op= .field t x i) (hx:Ac N x x'=true) (ht:Pf P t i off agg sz=true):
 Sound P N o (Zz o.dst agg sz x' i off):=by
 intro G σ Fr w0 st a w Q next E hN hr hw hn hdst
 subst hN
 obtain⟨u,h1,hu⟩:=Az hr hx hw
 clear hw
 split at h1
 ·rename_i l
  split at h1
  ·rename_i y hy
   obtain⟨⟨rfl,rfl,rfl⟩,h1⟩:=h1
   unfold RepV at hu
   rw[if_pos (show(I.agg l).isAgg=true from rfl)]at hu
   obtain⟨arr,hc,hu⟩:=hu
   obtain⟨c1,c,c2,e1,e2,e3,_⟩:=RepIs.nth i hu hy
   have hl:=RepI.length _ _ e3
   unfold Pf at ht
   split at ht
   ·rename_i fs hus
    split at ht
    ·rename_i f hf
     simp only[Bool.and_eq_true,beq_iff_eq]at ht
     obtain⟨hoff,ht⟩:=ht
     obtain⟨g1,g2⟩:=Dd ht w
     have hval:∃v,(part f.type arr f.offset).run P w= .ok v w∧RepV G y v:=by
      rw[hoff]
      cases hagg:y.isAgg with
      |true=>
       rw[hagg]at g1
       refine⟨.agg (arr.extract (sizes (l.take i)) (sizes (l.take i)+y.size)),by simp[part,g1,g2],?_⟩
       unfold RepV
       rw[if_pos hagg]
       refine⟨_,rfl,?_⟩
       have:(arr.extract (sizes (l.take i)) (sizes (l.take i)+y.size)).toList=c:=by
        rw[Array.toList_extract,e1,List.extract_eq_take_drop, ←e2, ←hl,Nat.add_sub_cancel_left,List.append_assoc,List.drop_left,List.take_left]
       rw[this];exact e3
      |false=>
       rw[hagg]at g1
       have hone:y.size=1:=by cases y<;>simp_all [I.isAgg,I.size]
       rw[hone]at hl
       match c,hl with
       | [v],_=>
         have hv:arr[sizes (l.take i)]?=some v:=by
          have:arr[sizes (l.take i)]?=arr.toList[sizes (l.take i)]?:=by simp
          rw[this,e1, ←e2]
          simp
         refine⟨v,by simp[part,g1,hv],?_⟩
         unfold RepV
         rw[if_neg (by simp[hagg])]
         exact e3
     obtain⟨v,hrun,hv⟩:=hval
     exact Ay hr hn hdst hv h1 (by simp[execOp,ho,hc,Instr.field,run_underlying hus,hf,asAgg,hrun])
    ·cases ht
   ·cases ht
  ·exact h1.elim
 ·exact h1.elim
theorem RepTup.nth {s:Nat}:∀{fs:List F} {j i:Nat} {cs:List Value} {f:F},RepTup G σ w s j fs cs→fs[i]?=some f→
 ∃c,cs[i]?=some c∧(match f with| .i x=>RepV G x c| .vec e sz l=>VecAt G σ w (s,j+i+1) e sz l c)
 | [],_,i,_,_,_,h=>by simp at h
 | .i x::fs,j,0,cs,f,h,hi=>by
   simp only[List.getElem?_cons_zero,Option.some.injEq]at hi
   subst hi
   obtain⟨c,d,rfl,h1,_⟩:=h
   exact⟨c,rfl,h1⟩
 | .vec e sz l::fs,j,0,cs,f,h,hi=>by
   simp only[List.getElem?_cons_zero,Option.some.injEq]at hi
   subst hi
   obtain⟨c,d,rfl,h1,_⟩:=h
   exact⟨c,rfl,h1⟩
 | .i x::fs,j,i+1,cs,f,h,hi=>by
   simp only[List.getElem?_cons_succ]at hi
   obtain⟨c,d,rfl,_,h2⟩:=h
   obtain⟨c',h3,h4⟩:=RepTup.nth h2 hi
   refine⟨c',by simpa using h3,?_⟩
   rwa [show j+(i+1)+1=j+1+i+1 by omega]
 | .vec _ _ _::fs,j,i+1,cs,f,h,hi=>by
   simp only[List.getElem?_cons_succ]at hi
   obtain⟨c,d,rfl,_,h2⟩:=h
   obtain⟨c',h3,h4⟩:=RepTup.nth h2 hi
   refine⟨c',by simpa using h3,?_⟩
   rwa [show j+(i+1)+1=j+1+i+1 by omega]
theorem RepTup.lose {s:Nat}:∀{fs:List F} {j i:Nat} {cs:List Value} {e:TypeId} {sz:Nat} {l:List I},RepTup G σ w s j fs cs→fs[i]?=some (.vec e sz l)→
 RepTup G (σ.lose (s,j+i+1)) w s j (fs.set i (.i .und)) cs
 | [],_,i,_,_,_,_,_,h=>by simp at h
 | .i x::fs,j,0,cs,e,sz,l,h,hi=>by simp at hi
 | .vec e' sz' l'::fs,j,0,cs,e,sz,l,h,hi=>by
   obtain⟨c,d,rfl,h1,h2⟩:=h
   simp only[List.set_cons_zero]
   refine⟨c,d,rfl,?_,RepTup.tr (Mem.le.refl G) h2 fun b k hj hb=>⟨Lab.lose_some.2 ⟨by simp;omega,hb⟩,rfl⟩⟩
   unfold RepV
   rw[if_neg (by simp[I.isAgg])]
   exact⟨c,rfl,h1.one⟩
 | .i x::fs,j,i+1,cs,e,sz,l,h,hi=>by
   simp only[List.getElem?_cons_succ]at hi
   obtain⟨c,d,rfl,h1,h2⟩:=h
   simp only[List.set_cons_succ]
   rw[show j+(i+1)+1=j+1+i+1 by omega]
   exact⟨c,d,rfl,h1,RepTup.lose h2 hi⟩
 | .vec _ _ _::fs,j,i+1,cs,e,sz,l,h,hi=>by
   simp only[List.getElem?_cons_succ]at hi
   obtain⟨c,d,rfl,h1,h2⟩:=h
   simp only[List.set_cons_succ]
   rw[show j+(i+1)+1=j+1+i+1 by omega]
   exact⟨c,d,rfl,h1.tr (Mem.le.refl G) fun b hb=>⟨Lab.lose_some.2 ⟨by simp;omega,hb⟩,rfl⟩,RepTup.lose h2 hi⟩
theorem Aai {o:Oper} {d i:Nat} {x:Operand} {x':Opd} (hd:o.dst=some d) (ho:o.op= .extract x i) (hx:Ac N x x'=true):Sound P N o (Lf d x' i):=by
 intro G σ Fr w0 st a w Q next E hN hr hw hn hdst
 subst hN
 cases x' with
 |c _=>exact hw.elim
 |nils _ _=>exact hw.elim
 |t n=>
  obtain⟨rfl,hnlt⟩:=A1 hx
  simp only[Lf,M.wp]at hw
  cases hs:st[n]? with
  |none=>simp[hs]at hw
  |some cur=>
   obtain⟨ver,sv⟩:=cur
   simp only[hs]at hw
   have hrep:=hr.slot hnlt hs
   split at hw
   ·rename_i fs
    obtain⟨arr,hc,hrep⟩:=hrep
    have run:∀{c:Value},arr.toList[i]?=some c→(execOp a.eval o).run P w= .ok (.value c) w:=by
     intro c hci
     have:arr[i]?=some c:=by simpa using hci
     simp[execOp,ho,hc,Instr.extract,this]
    split at hw
    ·rename_i y hy
     obtain⟨c,h1,h2⟩:=RepTup.nth hrep hy
     obtain⟨σ',st',r1,r2⟩:=hr.setNV (hdst d hd) h2 hw
     exact Am (run h1) (by rw[hd];exact hn G σ' st' _ w (Mem.le.refl G) r1 r2)
    ·rename_i e sz l hy
     obtain⟨hne,hw⟩:=hw
     obtain⟨c,h1,h2⟩:=RepTup.nth hrep hy
     rw[Nat.zero_add]at h2
     have hr2:=Rel.self (new:=.tup (fs.set i (.i .und))) (ver:=ver+1) hr (hr.wok.lose (n,i+1)) (Mem.le.refl G) hs (Nat.lt_succ_self _)
      (fun s' hs' b k' hb=>⟨Lab.lose_some.2 ⟨fun e=>hs' (by cases e;rfl),hb⟩,rfl⟩) (by
        refine⟨arr,?_,?_⟩
        ·rw[←hc,A2 (by rw[hr.n];exact hnlt)]
        ·have:=RepTup.lose hrep hy
         rwa [Nat.zero_add]at this)
     have hfree:=VecAt.free h2 hr.wok (σ':=σ.lose (n,i+1)) fun b hb=>by simp[Lab.lose,hb]
     obtain⟨σ',st',r1,r2⟩:=hr2.putOwned (hdst d hd) (row:=none) ⟨rfl,rfl,rfl,Nat.le_refl _,fun _ _ _=>rfl⟩ (fun b hb=>by cases hb) hfree hw
     exact Am (run h1) (by rw[hd];exact hn G σ' st' _ w (Mem.le.refl G) r1 r2)
    ·exact hw.elim
   ·exact hw.elim
theorem Cz {z:I} {c:List Value} (h:RepI G z c):∀n,RepIs G (List.replicate n z) (List.replicate n c).flatten
 |0=>rfl
 |n+1=>⟨c,_,by simp[List.replicate_succ],h,Cz h n⟩
theorem Fy {z:Array Value} {sz:Nat} (hz:z.size=sz) (n:Nat):((Array.range (n*sz)).map (fun j=>z[j % z.size]!)).toList=(List.replicate n z.toList).flatten:=by
 induction n with
 |zero=>simp
 |succ n ih=>
  rw[List.replicate_succ',List.flatten_append, ←ih,Nat.add_mul,Nat.one_mul]
  simp only[Array.toList_map,Array.toList_range,List.range_add,List.map_append,List.map_map]
  congr 1
  apply List.ext_getElem
  ·simp[hz]
  ·intro j h1 h2
   simp at h1
   simp[hz,Nat.mul_add_mod_of_lt h1,h1]
theorem Ut {o:Oper} {d:Nat} {t e:TypeId} {sz n:Nat} {z:I} {ps:Array (Nat × Operand)} {ps':List (Nat × Opd)} (hd:o.dst=some d) (ho:o.op= .buildSlice t n ps) (hp:Bo N ps.toList ps'=true) (ht:Es P t e sz z n=true):
 Sound P N o (Rv d e sz z n ps'):=by
 intro G σ Fr w0 st a w Q next E hN hr hw hn hdst
 subst hN
 unfold Es at ht
 split at ht
 ·rename_i e' hu
  simp only[Bool.and_eq_true,beq_iff_eq,bne_iff_ne,ne_eq,decide_eq_true_eq]at ht
  obtain⟨⟨⟨rfl,hn4⟩,hn0⟩,ht⟩:=ht
  split at ht
  ·rename_i i hi
   simp only[Bool.and_eq_true,beq_iff_eq,bne_iff_ne,ne_eq,decide_eq_true_eq]at ht
   obtain⟨⟨⟨⟨rfl,h0⟩,hs4⟩,hzsz⟩,ht⟩:=ht
   split at ht
   ·rename_i v hv
    simp only[Bool.and_eq_true,beq_iff_eq]at ht
    obtain⟨hvs,hz⟩:=ht
    have hz':∃c,v.cells.toList=c++[]∧RepI G z c:=by
     split at hz
     ·rename_i h;exact zI_spec G z _ _ h
     ·cases hz
    obtain⟨c,hc,hz'⟩:=hz'
    rw[List.append_nil]at hc
    subst hc
    let cells0:Array Value:=(Array.range (n*i.size)).map (fun j=>v.cells[j % v.cells.size]!)
    have hcells0:RepIs G (List.replicate n z) cells0.toList:=by
     rw[Fy hvs]
     exact Cz hz' n
    have hplace:∀(j:Nat) (zz:I),(List.replicate n z)[j]?=some zz→(fun j:Nat=>some (j*i.size,i.size)) j=some (sizes ((List.replicate n z).take j),zz.size):=by
     intro j zz hzz
     have hj:j<n:=by have:=(List.getElem?_eq_some_iff.1 hzz).1;simpa using this
     have hzz':zz=z:=by rw[List.getElem?_replicate,if_pos hj]at hzz;cases hzz;rfl
     subst hzz'
     rw[List.take_replicate,A0 (sz:=i.size) (by intro x hx;rw[List.eq_of_mem_replicate hx,hzsz]),List.length_replicate,Nat.min_eq_left (Nat.le_of_lt hj),hzsz]
    obtain⟨l,cells,G',σ',st',hG,hr',h2,h3,h4⟩:=Fq (place:=fun j=>some (j*i.size,i.size)) hr hp hw hcells0 hplace
    obtain⟨⟨hl,hsz⟩,h2⟩:=h2
    have hclen:cells.size=n*i.size:=by
     have:=RepIs.length _ _ h3
     rw[A0 hsz,hl]at this
     simpa using this
    have hnm:n≤maxLen:=by simp only[maxLen];omega
    obtain⟨σ'',st'',r1,r2⟩:=hr'.newBlock (hdst d hd) (sv:=.vec e' i.size l) (o:=.cells cells e') (c:=.slice (some ⟨w.heap.size,0,none⟩) n n) rfl (by intro _ e;cases e)
     (fun σ1 _ hb=>⟨cells.toList,⟨by rw[hl];simpa using hclen,.inr ⟨w.heap.size,n,cells,by rw[hl],Nat.zero_le _,Row.of (heap_alloc_new w _),by rw[hl];exact Nat.le_refl _,hnm,hclen,by
       rw[hl, ←hclen]
       have:cells.size=cells.toList.length:=by simp
       rw[this,List.take_length]⟩⟩,h3,hsz,fun b hb'=>by cases hb';exact hb⟩) h2
    have hbig:¬(n*i.size>2^24):=by
     have:n*i.size≤4096*4096:=Nat.mul_le_mul hn4 hs4
     omega
    have hparts:(ps.map fun(p:Nat × Operand)=>(p.1,a.eval p.2)).toList=ps.toList.map fun p=>(p.1,a.eval p.2):=by simp
    have hzero:(zeroValue e').run P w= .ok v w:=by simp[zeroValue,typeInfo,hi,hv]
    have hsizeOf:(sizeOf e').run P w= .ok i.size w:=by simp[sizeOf,typeInfo,hi]
    refine Am (w':=w.alloc (.cells cells e')) ?_ (by rw[hd];exact hn G' σ'' st'' _ _ hG r1 r2)
    have hne:n*i.size≠0:=Nat.mul_ne_zero hn0 h0
    have h4':Instr.fill (fun j=>some (j*i.size,i.size)) ((Array.range (n*i.size)).map (fun j=>v.cells[j % v.cells.size]!)) (ps.toList.map fun p=>(p.1,a.eval p.2))=some cells:=h4
    simp only[execOp,ho,Instr.buildSlice,Sem.run_bind,run_underlying hu,Result.andThen,hsizeOf]
    rw[if_neg hbig,if_neg hne]
    simp only[Sem.run_bind,hzero,Result.andThen,Sem.run_pure,hparts,h4']
    simp[newRow]
   ·cases ht
  ·cases ht
 ·cases ht
def Uc (d:Nat) (e:TypeId) (sz:Nat):M:=Av d (.vec e sz [])
theorem Vs {o:Oper} {d:Nat} {t e:TypeId} {sz:Nat} (hd:o.dst=some d) (ho:o.op= .buildSlice t 0 #[]) (ht:(P.underlying t=some (.slice e))∧(P.info? e).isSome=true):Sound P N o (Uc d e sz):=by
 intro G σ Fr w0 st a w Q next E hN hr hw hn hdst
 subst hN
 obtain⟨hu,hi⟩:=ht
 cases hi':P.info? e with
 |none=>simp[hi']at hi
 |some i=>
  obtain⟨σ'',st'',r1,r2⟩:=hr.newBlock (hdst d hd) (sv:=.vec e sz []) (o:=.cells #[] e) (c:=.slice (some ⟨w.heap.size,0,none⟩) 0 0) rfl (by intro _ e;cases e)
   (fun σ1 _ hb=>⟨[],⟨by simp,.inr ⟨w.heap.size,0, #[],rfl,Nat.zero_le _,Row.of (heap_alloc_new w _),Nat.le_refl _,by simp[maxLen],by simp,by simp⟩⟩,rfl,by simp,fun b hb'=>by cases hb';exact hb⟩) hw
  refine Am (w':=w.alloc (.cells #[] e)) ?_ (by rw[hd];exact hn G σ'' st'' _ _ (Mem.le.refl G) r1 r2)
  have h0:Array.range 0= #[]:=rfl
  simp[execOp,ho,Instr.buildSlice,run_underlying hu,sizeOf,typeInfo,hi',newRow,Instr.fill,h0]
end

inductive ETy where
 |int (k:IntKind)
 |bool
 |str
 |st (l:List ETy)
 deriving Inhabited
mutual
def ETy.size:ETy→Nat
 | .st l=>ETy.sizes l
 |_=>1
def ETy.sizes:List ETy→Nat
 | []=>0
 |e::l=>e.size+ETy.sizes l
end
def ETy.isSt:ETy→Bool
 | .st _=>true
 |_=>false
mutual
def ETy.ok (P:Program):Nat→ETy→TypeId→Bool
 |0,_,_=>false
 |_+1,.int k,t=>match P.underlying t with
  |some (.int k')=>k==k'
  |_=>false
 |_+1,.bool,t=>match P.underlying t with
  |some .bool=>true
  |_=>false
 |_+1,.str,t=>match P.underlying t with
  |some .string=>true
  |_=>false
 |n+1,.st l,t=> !P.stoodInHeld t&&ETy.oks P n l (P.fieldsOf t).toList 0&&(match P.underlying t with
  |some (.struct _)=>true
  |_=>false)
def ETy.oks (P:Program):Nat→List ETy→List Field→Nat→Bool
 |_,[],[],_=>true
 |n,e::l,f::fs,o=>f.name != "_" &&f.offset==o&&e.ok P n f.type&&tyOk P f.type e.isSt e.size&&ETy.oks P n l fs (o+e.size)
 |_,_,_,_=>false
end
mutual
def eqI:ETy→I→I→Option Bool
 | .int k,.int k1 a,.int k2 b=>if k1=k∧k2=k then some (decide (a=b))else none
 | .bool,.bool a,.bool b=>some (decide (a=b))
 | .str,.str a,.str b=>some (decide (a=b))
 | .st es,.agg l,.agg m=>eqIs es l m
 |_,_,_=>none
def eqIs:List ETy→List I→List I→Option Bool
 | [],[],[]=>some true
 |e::es,x::l,y::m=>match eqI e x y with
  |some r=>match eqIs es l m with
   |some r'=>some (r&&r')
   |none=>none
  |none=>none
 |_,_,_=>none
end
section
variable{P:Program}{N:Nat}{G:Mem}{σ:Lab}{Fr:Mem}{w0:Base}{w:World}{st:St}{a:Act}
theorem Nq {arr:Array Value} {pre cs post:List Value} {y:I} {t:TypeId} (h:arr.toList=pre++cs++post) (hy:RepI G y cs) (ht:tyOk P t y.isAgg y.size=true):
 ∃v,(part t arr pre.length).run P w= .ok v w∧RepV G y v:=by
 obtain⟨g1,g2⟩:=Dd ht w
 have hl:=RepI.length _ _ hy
 cases hagg:y.isAgg with
 |true=>
  rw[hagg]at g1
  refine⟨.agg (arr.extract pre.length (pre.length+y.size)),by simp[part,g1,g2],?_⟩
  unfold RepV
  rw[if_pos hagg]
  refine⟨_,rfl,?_⟩
  have:(arr.extract pre.length (pre.length+y.size)).toList=cs:=by
   rw[Array.toList_extract,h,List.extract_eq_take_drop, ←hl,Nat.add_sub_cancel_left,List.append_assoc,List.drop_left,List.take_left]
  rw[this];exact hy
 |false=>
  rw[hagg]at g1
  have hone:y.size=1:=by cases y<;>simp_all [I.isAgg,I.size]
  rw[hone]at hl
  match cs,hl with
  | [v],_=>
    have hv:arr[pre.length]?=some v:=by
     have:arr[pre.length]?=arr.toList[pre.length]?:=by simp
     rw[this,h]
     simp
    refine⟨v,by simp[part,g1,hv],?_⟩
    unfold RepV
    rw[if_neg (by simp[hagg])]
    exact hy
mutual
theorem eqI_shape:∀(e:ETy) (x y:I) (r:Bool),eqI e x y=some r→x.size=e.size∧y.size=e.size∧x.isAgg=e.isSt∧y.isAgg=e.isSt
 | .int k,x,y,r,h=>by
   cases x<;>cases y<;>simp[eqI]at h
   simp[I.size,ETy.size,I.isAgg,ETy.isSt]
 | .bool,x,y,r,h=>by
   cases x<;>cases y<;>simp[eqI]at h
   simp[I.size,ETy.size,I.isAgg,ETy.isSt]
 | .str,x,y,r,h=>by
   cases x<;>cases y<;>simp[eqI]at h
   simp[I.size,ETy.size,I.isAgg,ETy.isSt]
 | .st es,x,y,r,h=>by
   cases x<;>cases y<;>simp only[eqI,reduceCtorEq]at h
   obtain⟨h1,h2⟩:=eqIs_shape es _ _ r h
   simp[I.size,ETy.size,I.isAgg,ETy.isSt,h1,h2]
theorem eqIs_shape:∀(es:List ETy) (l m:List I) (r:Bool),eqIs es l m=some r→sizes l=ETy.sizes es∧sizes m=ETy.sizes es
 | [],l,m,r,h=>by
   cases l<;>cases m<;>simp[eqIs]at h
   simp[sizes,ETy.sizes]
 |e::es,l,m,r,h=>by
  cases l with
  |nil=>cases m<;>simp[eqIs]at h
  |cons x l=>
   cases m with
   |nil=>simp[eqIs]at h
   |cons y m=>
    simp only[eqIs]at h
    cases h1:eqI e x y with
    |none=>simp[h1]at h
    |some r1=>
     cases h2:eqIs es l m with
     |none=>simp[h1,h2]at h
     |some r2=>
      obtain⟨k1,k2,_,_⟩:=eqI_shape e x y r1 h1
      obtain⟨k3,k4⟩:=eqIs_shape es l m r2 h2
      simp[sizes,ETy.sizes,k1,k2,k3,k4]
end
mutual
theorem eqI_run (G:Mem):∀(n d:Nat) (e:ETy) (t:TypeId) (x y:I) (u v:Value) (r:Bool),n≤d→e.ok P n t=true→eqI e x y=some r→RepV G x u→RepV G y v→(Op.equalIn d t u v).run P w= .ok r w
 |0,_,_,_,_,_,_,_,_,_,ho,_,_,_=>by simp[ETy.ok]at ho
 |n+1,0,_,_,_,_,_,_,_,hd,_,_,_,_=>by omega
 |n+1,d+1,.int k,t,x,y,u,v,r,_,ho,h,hx,hy=>by
  cases x<;>cases y<;>simp only[eqI,reduceCtorEq]at h
  split at h
  ·rename_i hk
   cases h
   rw[RepV.int]at hx hy
   simp only[ETy.ok]at ho
   split at ho
   ·rename_i hu
    rw[hx,hy,hk.1,hk.2,run_equalIn_int w d t _ _ _ _ hu,beq_eq]
   ·cases ho
  ·cases h
 |n+1,d+1,.bool,t,x,y,u,v,r,_,ho,h,hx,hy=>by
  cases x<;>cases y<;>simp only[eqI,Option.some.injEq,reduceCtorEq]at h
  rename_i p q
  subst h
  rw[RepV.bool]at hx hy
  simp only[ETy.ok]at ho
  split at ho
  ·rename_i hu
   have e:(p==q)=decide (p=q):=by cases p<;>cases q<;>rfl
   rw[hx,hy,run_equalIn_bool' w d t p q hu,e]
  ·cases ho
 |n+1,d+1,.str,t,x,y,u,v,r,_,ho,h,hx,hy=>by
  cases x<;>cases y<;>simp only[eqI,Option.some.injEq,reduceCtorEq]at h
  rename_i p q
  subst h
  rw[RepV.str]at hx hy
  simp only[ETy.ok]at ho
  split at ho
  ·rename_i hu
   have e:((⟨⟨p⟩⟩:ByteArray).toList==(⟨⟨q⟩⟩:ByteArray).toList)=decide (p=q):=by
    rw[Bool.eq_iff_iff]
    simp
   rw[hx.1,hy.1,run_equalIn_string w d t _ _ hu,e]
  ·cases ho
 |n+1,d+1,.st es,t,x,y,u,v,r,hd,ho,h,hx,hy=>by
  cases x<;>cases y<;>simp only[eqI,reduceCtorEq]at h
  rename_i l m
  unfold RepV at hx hy
  rw[if_pos (show(I.agg l).isAgg=true from rfl)]at hx
  rw[if_pos (show(I.agg m).isAgg=true from rfl)]at hy
  obtain⟨xs,rfl,hx⟩:=hx
  obtain⟨ys,rfl,hy⟩:=hy
  simp only[ETy.ok,Bool.and_eq_true,Bool.not_eq_true']at ho
  obtain⟨⟨h1,h2⟩,h3⟩:=ho
  split at h3
  ·rename_i fs hu
   have hfs:P.fieldsOf t=fs:=by simp[Program.fieldsOf,hu]
   rw[run_equalIn_struct w d t xs ys (by rw[hfs];exact hu) h1]
   exact eqIs_run G n d es _ 0 l m xs ys [] [] xs.toList ys.toList r (by omega) h2 h (by simp) (by simp) rfl rfl hx hy
  ·cases h3
theorem eqIs_run (G:Mem):∀(n d:Nat) (es:List ETy) (fs:List Field) (o:Nat) (l m:List I) (xs ys:Array Value) (p q cs ds:List Value) (r:Bool),n≤d→ETy.oks P n es fs o=true→eqIs es l m=some r→
 xs.toList=p++cs→ys.toList=q++ds→p.length=o→q.length=o→RepIs G l cs→RepIs G m ds→(Op.eqFields d xs ys fs).run P w= .ok r w
 |n,d,[],fs,o,l,m,xs,ys,p,q,cs,ds,r,hd,ho,h,_,_,_,_,_,_=>by
  cases fs with
  |cons f fs=>simp[ETy.oks]at ho
  |nil=>
   cases l<;>cases m<;>simp[eqIs]at h
   subst h
   simp[Op.eqFields]
 |n,d,e::es,fs,o,l,m,xs,ys,p,q,cs,ds,r,hd,ho,h,hp,hq,hpl,hql,hl,hm=>by
  cases fs with
  |nil=>simp[ETy.oks]at ho
  |cons f fs=>
   cases l with
   |nil=>cases m<;>simp[eqIs]at h
   |cons x l=>
    cases m with
    |nil=>simp[eqIs]at h
    |cons y m=>
     simp only[eqIs]at h
     cases h1:eqI e x y with
     |none=>simp[h1]at h
     |some r1=>
      cases h2:eqIs es l m with
      |none=>simp[h1,h2]at h
      |some r2=>
       simp only[h1,h2,Option.some.injEq]at h
       subst h
       simp only[ETy.oks,Bool.and_eq_true,beq_iff_eq,bne_iff_ne,ne_eq]at ho
       obtain⟨⟨⟨⟨k1,k2⟩,k3⟩,k4⟩,k5⟩:=ho
       obtain⟨s1,s2,s3,s4⟩:=eqI_shape e x y r1 h1
       obtain⟨c1,d1,e1,e2,e3⟩:=hl
       obtain⟨c2,d2,e4,e5,e6⟩:=hm
       obtain⟨u,hu1,hu2⟩:=Nq (P:=P) (w:=w) (pre:=p) (post:=d1) (by rw[hp,e1,List.append_assoc]) e2 (by rw[s3,s1];exact k4)
       obtain⟨v,hv1,hv2⟩:=Nq (P:=P) (w:=w) (pre:=q) (post:=d2) (by rw[hq,e4,List.append_assoc]) e5 (by rw[s4,s2];exact k4)
       have hr1:=eqI_run G n d e f.type x y u v r1 hd k3 h1 hu2 hv2
       have hl1:=RepI.length _ _ e2
       have hl2:=RepI.length _ _ e5
       have ih:=eqIs_run G n d es fs (o+e.size) l m xs ys (p++c1) (q++c2) d1 d2 r2 hd k5 h2 (by rw[hp,e1,List.append_assoc]) (by rw[hq,e4,List.append_assoc]) (by simp[hpl,hl1,s1]) (by simp[hql,hl2,s2]) e3 e6
       rw[hpl]at hu1
       rw[hql]at hv1
       simp only[Op.eqFields]
       rw[if_pos k1]
       simp only[Sem.run_bind,k2,hu1,hv1,hr1,Result.andThen]
       cases r1 with
       |true=>simpa using ih
       |false=>simp
end
def Abw (d:Option Nat) (neg:Bool) (e:ETy) (x y:Opd):M:=Bk x fun i=>Bk y fun j=>match eqI e i j with
 |some r=>selI neg (.bool (!r)) (.bool r) fun r=>setD d (.v r) .done
 |none=>.fail
def eqOk (P:Program) (e:ETy) (t:TypeId):Bool:=e.ok P 20 t&&(match e with
 | .st _=> !P.eqGuardType P.depth t
 | .bool=>true
 |_=>false)
theorem Uv {o:Oper} {neg:Bool} {t u:TypeId} {x y:Operand} {x' y':Opd} {e:ETy} (ho:o.op= .binOp (if neg then .neq else .eql) t x y u) (hx:Ac N x x'=true) (hy:Ac N y y'=true) (he:eqOk P e t=true):
 Sound P N o (Abw o.dst neg e x' y'):=by
 intro G σ Fr w0 st a w Q next E hN hr hw hn hdst
 subst hN
 obtain⟨i,h1,hi⟩:=Az hr hx hw
 clear hw
 obtain⟨j,hw,hj⟩:=Az hr hy h1
 clear h1
 split at hw
 ·rename_i r hr'
  unfold eqOk at he
  simp only[Bool.and_eq_true]at he
  have hrun:=eqI_run (P:=P) (w:=w) G 20 10000 e t i j _ _ r (by omega) he.1 hr' hi hj
  have hw:(setD o.dst (.v (.bool (if neg then !r else r))) .done).wp P Q st:=by cases neg<;>exact hw
  refine Ay hr hn hdst (RepV.bool.2 rfl) hw ?_
  cases e with
  |st es=>
   cases i<;>cases j<;>simp only[eqI,reduceCtorEq]at hr'
   unfold RepV at hi hj
   rw[if_pos (show(I.agg _).isAgg=true from rfl)]at hi hj
   obtain⟨xs,hxs,_⟩:=hi
   obtain⟨ys,hys,_⟩:=hj
   have hg:P.eqGuardType P.depth t=false:=by simpa using he.2
   rw[hxs,hys]at hrun
   cases neg with
   |true=>simp[execOp,ho,hxs,hys,run_eqGuard_agg w .neq t x y xs ys hg,run_neq_struct,hrun]
   |false=>simp[execOp,ho,hxs,hys,run_eqGuard_agg w .eql t x y xs ys hg,run_eql_struct,hrun]
  |bool=>
   cases i<;>cases j<;>simp only[eqI,reduceCtorEq]at hr'
   rw[RepV.bool]at hi hj
   rw[hi,hj]at hrun
   have hrun':(Op.equal t (.bool _) (.bool _)).run P w=_:=hrun
   cases neg with
   |true=>simp[execOp,ho,hi,hj,eqGuard,binOp,hrun']
   |false=>simp[execOp,ho,hi,hj,eqGuard,binOp,hrun']
  |_=>simp at he
 ·exact hw.elim
theorem Vh {d:Nat} {t e:TypeId} (hu:P.underlying t=some (.slice e)) (ad:Option Addr) (n cap nn cc:Nat) (w:World):
 (Op.equalIn (d+1) t (.slice ad n cap) (.slice none nn cc)).run P w= .ok ad.isNone w:=by
 cases ad<;>simp[Op.equalIn,run_underlying hu]
theorem Y8 {t e:TypeId} (hu:P.underlying t=some (.slice e)) (ad:Option Addr) (n cap nn cc:Nat) (w:World):
 (Op.equal t (.slice ad n cap) (.slice none nn cc)).run P w= .ok ad.isNone w:=Vh (d:=9999) hu ad n cap nn cc w
def Um (d:Option Nat) (neg:Bool) (x:Opd):M:=match x with
 | .t n=>.get n fun _ sv=>match sv with
   | .v (.list l)=>.all (fun b=>b=true→l=[]) fun b=>selI neg (.bool (!b)) (.bool b) fun r=>setD d (.v r) .done
   | .vec _ _ l=>.all (fun b=>b=true→l=[]) fun b=>selI neg (.bool (!b)) (.bool b) fun r=>setD d (.v r) .done
   | .bor s k v=>.get s fun cur sv'=>.need (v=cur) fun _=>match sv'.vecAt k with
     |some (_,_,l)=>.all (fun b=>b=true→l=[]) fun b=>selI neg (.bool (!b)) (.bool b) fun r=>setD d (.v r) .done
     |none=>.fail
   |_=>.fail
 |_=>.fail
def Sy (P:Program) (t:TypeId) (y:Operand):Bool:=(match P.underlying t with
 |some (.slice _)=>true
 |_=>false)&&(match y with
 | .const (.slice none _ _)=>true
 |_=>false)
theorem R9 {o:Oper} {neg:Bool} {t u:TypeId} {x y:Operand} {x':Opd} (ho:o.op= .binOp (if neg then .neq else .eql) t x y u) (hx:Ac N x x'=true) (hy:Sy P t y=true):Sound P N o (Um o.dst neg x'):=by
 intro G σ Fr w0 st a w Q next E hN hr hw hn hdst
 subst hN
 unfold Sy at hy
 simp only[Bool.and_eq_true]at hy
 obtain⟨hu,hy⟩:=hy
 split at hu
 ·rename_i e hu'
  split at hy
  ·rename_i nn cc
   have run:∀{ad:Option Addr} {n cap:Nat},a.eval x= .slice ad n cap→(execOp a.eval o).run P w= .ok (.value (.bool (if neg then !ad.isNone else ad.isNone))) w:=by
    intro ad n cap he
    have hq:=Y8 hu' ad n cap nn cc w
    have hy':a.eval (.const (.slice none nn cc))= .slice none nn cc:=rfl
    cases neg<;>simp[execOp,ho,he,hy',eqGuard,binOp,hq]
   have fin:∀{ad:Option Addr} {cap:Nat} {l:List I},a.eval x= .slice ad l.length cap→(ad=none→l=[])→
    (M.all (fun b=>b=true→l=[]) fun b=>selI neg (.bool (!b)) (.bool b) fun r=>setD o.dst (.v r) .done).wp P Q st→o.wp P a w next E:=by
    intro ad cap l he hl hq
    have hq':=hq ad.isNone (fun h=>hl (by simpa using h))
    have hq':(setD o.dst (.v (.bool (if neg then !ad.isNone else ad.isNone))) .done).wp P Q st:=by cases neg<;>exact hq'
    exact Ay hr hn hdst (RepV.bool.2 rfl) hq' (run he)
   have vnil:∀{lab:Nat × Nat} {e:TypeId} {sz:Nat} {l:List I} {c:Value},VecAt G σ w lab e sz l c→∃ad cap,c= .slice ad l.length cap∧(ad=none→l=[]):=by
    intro lab e sz l c h
    obtain⟨xs,h1,_⟩:=h
    rcases h1.2 with⟨rfl,h0⟩|⟨g,cap,cur,rfl,_⟩
    ·exact⟨none,0,by rw[h0],fun _=>List.eq_nil_of_length_eq_zero h0⟩
    ·exact⟨_,cap,rfl,fun h=>by cases h⟩
   cases x' with
   |c _=>exact hw.elim
   |nils _ _=>exact hw.elim
   |t n=>
    obtain⟨rfl,hnlt⟩:=A1 hx
    simp only[Um,M.wp]at hw
    cases hs:st[n]? with
    |none=>simp[hs]at hw
    |some cur=>
     obtain⟨ver,sv⟩:=cur
     simp only[hs]at hw
     have hrep:=hr.slot hnlt hs
     split at hw
     ·rename_i l
      have hrep':RepV G (.list l) (a.eval (.tmp n)):=hrep
      obtain⟨ad,cap,hc,_,_,h4⟩:=RepV.list.1 hrep'
      refine fin hc (fun e=>?_) hw
      rcases h4 with h4|⟨b,off,bl,ty,fz,sz,h5,_⟩
      ·exact h4
      ·rw[e]at h5;cases h5
     ·obtain⟨ad,cap,hc,hl⟩:=vnil hrep
      exact fin hc hl hw
     ·rename_i s k v
      obtain⟨cur,g1,g2,g3⟩:=hrep
      simp only[M.wp,g1]at hw
      obtain⟨hv,hw⟩:=hw
      obtain⟨e,sz,l,g4,g5⟩:=g3 hv
      simp only[g4]at hw
      obtain⟨ad,cap,hc,hl⟩:=vnil g5
      exact fin hc hl hw
     ·exact hw.elim
  ·cases hy
 ·cases hu
theorem Yk {o:Oper} {t:TypeId} {x i:Operand} {x' i':Opd} (ho:o.op= .index t x i) (hx:Ac N x x'=true) (hi:Ac N i i'=true) (ht:P.underlying t=some .string):Sound P N o (Aa1 o.dst x' i'):=by
 intro G σ Fr w0 st a w Q next E hN hr hw hn hdst
 subst hN
 obtain⟨u,h1,hu⟩:=Az hr hx hw
 clear hw
 obtain⟨v,hw,hv⟩:=Az hr hi h1
 clear h1
 split at hw
 ·rename_i s k n
  split at hw
  ·rename_i b hb
   obtain⟨h0,hw⟩:=hw
   rw[RepV.str]at hu
   rw[RepV.int]at hv
   have hlt:n.toNat<s.length:=(List.getElem?_eq_some_iff.1 hb).1
   have hget:(⟨⟨s⟩⟩:ByteArray)[n.toNat]?=some b:=by
    have hsz:n.toNat<(⟨⟨s⟩⟩:ByteArray).size:=hlt
    have:(⟨⟨s⟩⟩:ByteArray)[n.toNat]=b:=by
     have:=(List.getElem?_eq_some_iff.1 hb).2
     exact this
    rw[getElem?_pos (⟨⟨s⟩⟩:ByteArray) n.toNat hsz,this]
   refine Ay hr hn hdst (RepV.int.2 rfl) hw ?_
   simp[execOp,ho,hu.1,hv,Instr.index,asIntOf,run_underlying ht,h0,hget]
  ·exact hw.elim
 ·exact hw.elim
end

def T5 (d:Option Nat) (sz len:Nat) (x i:Opd):M:=Bk i fun n=>match n with
 | .int _ n=>rdP x (fun s k ver o r=>.need (0≤n∧n.toNat<len∧d≠some s) fun _=>.get s fun cur _=>.need (ver=cur) fun _=>setD d (.pt s k ver (o+n.toNat*sz) (r++[n.toNat])) .done)
   (fun y=>match y with
     | .arr sz' l=>match l[n.toNat]? with
       |some u=>.need (0≤n∧n.toNat<len∧sz'=sz) fun _=>setD d (.rp u) .done
       |none=>.fail
     |_=>.fail)
 |_=>.fail
def N8 (P:Program) (t:TypeId) (sz len:Nat):Bool:=match P.underlying t with
 |some (.array n e)=>match P.info? e with
  |some i=>i.size==sz&&n==len
  |none=>false
 |_=>false
section
variable{P:Program}{N:Nat}{G:Mem}{σ:Lab}{Fr:Mem}{w0:Base}{w:World}{st:St}{a:Act}
theorem Hr {t:TypeId} {sz len b o:Nat} {k:IntKind} {n:Int} (h:N8 P t sz len=true) (w:World) (h0:0≤n) (h1:n.toNat<len):
 (Instr.indexAt t (.pointer (some ⟨b,o,none⟩)) (.int k n)).run P w= .ok (.pointer (some ⟨b,o+n.toNat*sz,none⟩)) w:=by
 unfold N8 at h
 split at h
 ·rename_i m e hu
  split at h
  ·rename_i i hi
   simp only[Bool.and_eq_true,beq_iff_eq]at h
   obtain⟨h2,rfl⟩:=h
   have hn:0≤n∧n<(m:Int):=⟨h0,by omega⟩
   simp[Instr.indexAt,asIntOf,run_underlying hu,hn,sizeOf,typeInfo,hi,h2,add_lit,Instr.sureAddr]
  ·cases h
 ·cases h
theorem Vn {o:Oper} {t:TypeId} {x i:Operand} {x' i':Opd} {sz len:Nat} (ho:o.op= .indexAddr t x i) (hx:Ac N x x'=true) (hi:Ac N i i'=true) (ht:N8 P t sz len=true):
 Sound P N o (T5 o.dst sz len x' i'):=by
 intro G σ Fr w0 st a w Q next E hN hr hw hn hdst
 subst hN
 obtain⟨n,h1,hnv⟩:=Az hr hi hw
 clear hw
 split at h1
 ·rename_i k n
  rw[RepV.int]at hnv
  rcases J9 hr hx h1 with⟨s,kk,ver,of,r,cur,h1,hs,hp⟩|⟨u,h1,hp⟩
  ·simp only[M.wp,hs]at h1
   obtain⟨⟨h0,hlt,hne⟩,hver,h1⟩:=h1
   obtain⟨b,hb,hpp⟩:=hp hver
   obtain⟨σ',st',r1,r2⟩:=hr.setPt hdst hs hne hver hb h1
   refine Am (w':=w) ?_ (hn G σ' st' _ w (Mem.le.refl G) r1 r2)
   simp[execOp,ho,hpp,hnv,Hr ht w h0 hlt]
  ·split at h1
   ·rename_i sz' l
    split at h1
    ·rename_i u hu
     obtain⟨⟨h0,hlt,rfl⟩,h1⟩:=h1
     obtain⟨b,of,bl,ty,fz,pre,cs,post,p1,p2,p3,p4,p5⟩:=hp
     obtain⟨p5,p6⟩:=p5
     obtain⟨c1,c,c2,e1,e2,e3,_⟩:=RepIs.nth n.toNat p5 hu
     have htake:sizes (l.take n.toNat)=n.toNat*sz':=by
      have hlt':n.toNat<l.length:=(List.getElem?_eq_some_iff.1 hu).1
      rw[A0 (sz:=sz') fun z hz=>p6 z (List.mem_of_mem_take hz),List.length_take,Nat.min_eq_left (Nat.le_of_lt hlt')]
     obtain⟨σ',st',r1,r2⟩:=hr.setD hdst (sv:=.rp u) (c:=.pointer (some ⟨b,of+n.toNat*sz',none⟩))
      (fun _ _ _ _=>⟨b,_,bl,ty,fz,pre++c1,c,c2++post,rfl,p2,by simp[p3,e1],by simp[p4,e2,htake],e3⟩) h1
     refine Am (w':=w) ?_ (hn G σ' st' _ w (Mem.le.refl G) r1 r2)
     simp[execOp,ho,p1,hnv,Hr ht w h0 hlt]
    ·exact h1.elim
   ·exact h1.elim
 ·exact h1.elim
end

def Un (d:Option Nat) (sz:Nat) (x lo:Opd):M:=match x with
 | .t n=>.get n fun _ sv=>match sv with
   | .bor s k v=>.get s fun cur sv'=>.need (v=cur) fun _=>match sv'.vecAt k with
     |some (_,sz',l)=>Bk lo fun i=>match i with
      | .int _ i=>.need (sz'=sz∧0≤i∧i.toNat≤l.length∧d≠some s) fun _=>setD d (.suf s k v i.toNat) .done
      |_=>.fail
     |none=>.fail
   |_=>.fail
 |_=>.fail
def Ua (d:Option Nat) (sz:Nat) (z:I) (x:Opd):M:=match x with
 | .t n=>.get n fun _ sv=>match sv with
   | .suf s 0 v m=>.get s fun cur sv'=>.need (v=cur) fun _=>match sv' with
     | .vec e sz' l=>.need (sz'=sz) fun _=>.set s (cur+1) (.vec e sz' (l.take m++List.replicate (l.length - m) z)) (setD d (.tup []) .done)
     |_=>.fail
   |_=>.fail
 |_=>.fail
def Xd (P:Program) (t:TypeId) (sz:Nat) (z:I):Bool:=match P.underlying t with
 |some (.slice e)=>match P.info? e with
  |some i=>i.size==sz&&z.size==sz&&match i.zero with
   |some v=>v.cells.size==sz&&match zI z v.cells.toList with
    |some []=>true
    |_=>false
   |none=>false
  |none=>false
 |_=>false
section
variable{P:Program}{N:Nat}{G:Mem}{σ:Lab}{Fr:Mem}{w0:Base}{w:World}{st:St}{a:Act}
theorem Aav {o:Oper} {t:TypeId} {x lo:Operand} {x' lo':Opd} {sz:Nat} (ho:o.op= .slice t x (some lo) none none) (hx:Ac N x x'=true) (hl:Ac N lo lo'=true) (ht:Bz P t sz=true):
 Sound P N o (Un o.dst sz x' lo'):=by
 intro G σ Fr w0 st a w Q next E hN hr hw hn hdst
 subst hN
 cases x' with
 |t n=>
  obtain⟨rfl,hnlt⟩:=A1 hx
  simp only[Un,M.wp]at hw
  cases hs:st[n]? with
  |none=>simp[hs]at hw
  |some cur0=>
   obtain⟨ver,sv⟩:=cur0
   simp only[hs]at hw
   have hrep:=hr.slot hnlt hs
   split at hw
   ·rename_i s k v
    obtain⟨cur,g1,g2,g3⟩:=hrep
    simp only[M.wp,g1]at hw
    obtain⟨hv,hw⟩:=hw
    obtain⟨e',sz',l,g4,g5⟩:=g3 hv
    simp only[g4]at hw
    obtain⟨i,h1,hi⟩:=Az hr hl hw
    split at h1
    ·rename_i kd i
     rw[RepV.int]at hi
     obtain⟨⟨rfl,h0,hle,hne⟩,h1⟩:=h1
     obtain⟨ad,cap,hc,hlm⟩:=g5.len
     have hlc:l.length≤cap:=by
      obtain⟨xs,q1,_⟩:=g5
      rcases q1.2 with⟨q2,q3⟩|⟨g,cap',cur,q2,_,_,q3,_⟩
      ·omega
      ·rw[hc]at q2;cases q2;exact q3
     have hb:=Bm (P:=P) (a:=a) (isSlice:=true) (len:=l.length) (cap:=cap) (lo:=some lo) (hi:=none) (i:=i) (j:=(l.length:Int)) w (.inr ⟨lo,kd,rfl,hi⟩) (.inl ⟨rfl,rfl⟩) h0 (by omega) (Int.le_refl _) hlc
     have hsl:∃e i0,P.underlying t=some (.slice e)∧P.info? e=some i0∧i0.size=sz':=by
      unfold Bz at ht
      split at ht
      ·rename_i e hu
       split at ht
       ·rename_i i0 hi0
        simp only[Bool.and_eq_true,beq_iff_eq]at ht
        exact⟨e,i0,hu,hi0,ht.1⟩
       ·cases ht
      ·cases ht
     obtain⟨e,i0,hu,hi0,hsz⟩:=hsl
     obtain⟨σ',st',r1,r2⟩:=hr.setD hdst (sv:=.suf s k v i.toNat) (c:=.slice (if cap=i.toNat then ad else ad.map (·.add (i.toNat*sz'))) (l.length - i.toNat) (cap - i.toNat)) (fun d' hd ver' _=>by
      refine⟨cur,by rw[List.getElem?_set_ne (by rintro rfl;exact hne hd)];exact g1,g2,fun _=>⟨e',sz',l,a.eval (.tmp n),g4,?_,⟨ad,cap,hc,hle,hlc,rfl⟩⟩⟩
      exact g5.tr (Mem.le.refl G) fun b hb=>⟨Lab.drop_some.2 ⟨by rintro rfl;exact hne hd,hb⟩,rfl⟩) h1
     refine Am (w':=w) ?_ (hn G σ' st' _ w (Mem.le.refl G) r1 r2)
     simp only[Option.map_some,Option.map_none]at hb
     simp[execOp,ho,Instr.sliceAt,Instr.slice,run_underlying hu,hc,hb,sizeOf,typeInfo,hi0,hsz]
    ·exact h1.elim
   ·exact hw.elim
 |_=>exact hw.elim
theorem Nz (z:Array Value) (n:Nat):(Builtin.zeroCells z n).toList=(List.replicate n z.toList).flatten:=Fy rfl n
theorem Aag {o:Oper} {t:TypeId} {x:Operand} {x':Opd} {sz:Nat} {z:I} (ho:o.op= .call {callee:=.builtin .clear,args:= #[x],argTypes:= #[t]}) (hx:Ac N x x'=true) (ht:Xd P t sz z=true):
 Sound P N o (Ua o.dst sz z x'):=by
 intro G σ Fr w0 st a w Q next E hN hr hw hn hdst
 subst hN
 unfold Xd at ht
 split at ht
 case h_2=>cases ht
 rename_i e hu
 split at ht
 case h_2=>cases ht
 rename_i i hi
 simp only[Bool.and_eq_true,beq_iff_eq]at ht
 obtain⟨⟨hisz,hzsz⟩,ht⟩:=ht
 split at ht
 case h_2=>cases ht
 rename_i v hv
 simp only[Bool.and_eq_true,beq_iff_eq]at ht
 obtain⟨hvs,hz⟩:=ht
 have hz':∃c,v.cells.toList=c++[]∧RepI G z c:=by
  split at hz
  ·rename_i h;exact zI_spec G z _ _ h
  ·cases hz
 obtain⟨c,hc,hz'⟩:=hz'
 rw[List.append_nil]at hc
 subst hc
 cases x' with
 |t n=>
  obtain⟨rfl,hnlt⟩:=A1 hx
  simp only[Ua,M.wp]at hw
  cases hs:st[n]? with
  |none=>simp[hs]at hw
  |some cur0=>
   obtain⟨ver,sv⟩:=cur0
   simp only[hs]at hw
   have hrep:=hr.slot hnlt hs
   split at hw
   ·rename_i s vv m
    obtain⟨cur,g1,g2,g3⟩:=hrep
    simp only[M.wp,g1]at hw
    obtain⟨hver,hw⟩:=hw
    obtain⟨cv,csv⟩:=cur
    cases csv with
    |vec e' sz' l=>
     obtain⟨rfl,hw⟩:=hw
     obtain⟨e1,sz1,l1,c0,g4,g5,ad,cap,g6,g7,g8,g9⟩:=g3 hver
     cases g4
     have hown:VecAt G σ w (s,0) e' sz' l (val a w0 s):=hr.slots s cv _ g1
     have key:∃w',(Builtin.clear_ #[t] o.type #[a.eval (.tmp n)]).run P w= .ok (.tuple #[]) w'∧WOk G σ Fr w0 w'∧(∀s',s'≠s→Kept σ σ w w' s')∧VecAt G σ w' (s,0) e' sz' (l.take m++List.replicate (l.length - m) z) (val a w0 s):=by
      rw[g9]
      by_cases h0:l.length - m=0
      ·refine⟨w,?_,hr.wok,fun s' _=>Kept.refl σ w s',?_⟩
       ·rw[h0]
        simp only[Builtin.clear_]
        simp[run_underlying hu]
        split<;>simp_all
       ·rw[h0,List.take_of_length_le (by omega)]
        simpa using hown
      ·have hne:l≠[]:=by rintro rfl;simp at h0
       obtain⟨b,hb0⟩:∃b,ad=some ⟨b,0,none⟩:=by
        obtain⟨xs,q1,_⟩:=g5
        rcases q1.2 with⟨_,q3⟩|⟨g,cap',cur,q2,_⟩
        ·exact absurd (List.eq_nil_of_length_eq_zero q3) hne
        ·rw[g6]at q2;cases q2;exact⟨g,rfl⟩
       subst hb0
       have hb:σ b=some (s,0):=by
        obtain⟨xs,_,_,_,q4⟩:=g5
        exact q4 b (by rw[g6];rfl)
       obtain⟨bl,xs,post,cap2,k1,k2,k3,k4,k5,k6,k7,k8⟩:=hown.row hr.wok hb hne
       have hxl:xs.length=l.length*sz':=by rw[RepIs.length _ _ k7,A0 k8]
       have hzl:(Builtin.zeroCells v.cells (l.length - m)).toList.length=(l.length - m)*sz':=by
        simp[Builtin.zeroCells,hvs]
       have hzr:RepIs G (List.replicate (l.length - m) z) (Builtin.zeroCells v.cells (l.length - m)).toList:=by
        rw[Nz]
        exact Cz hz' _
       have hmul:m*sz'+(l.length - m)*sz'=l.length*sz':=by
        rw[←Nat.add_mul]
        congr 1
        omega
       have hbl:bl.size=bl.toList.length:=by simp
       have k5r:=k5
       obtain⟨ty5,fz5,k5',k5'',_⟩:=k5
       have hst:=B5 P b (m*sz') ty5 fz5 (Builtin.zeroCells v.cells (l.length - m)).toList 0 bl w k5' k5'' (by rw[hzl,hbl,k6,List.length_append,hxl];omega) (RepIs.one _ _ hzr)
       have hcm:¬cap=m:=by omega
       obtain⟨c1,c2,p1,p2,p3⟩:=RepIs.split (l:=l.take m) (m:=l.drop m) (by rw[List.take_append_drop];exact k7)
       have hc1:c1.length=m*sz':=by
        rw[RepIs.length _ _ p2,A0 fun x hx=>k8 x (List.mem_of_mem_take hx),List.length_take,Nat.min_eq_left (by omega)]
       have hc2:c2.length=(l.length - m)*sz':=by
        rw[RepIs.length _ _ p3,A0 fun x hx=>k8 x (List.mem_of_mem_drop hx),List.length_drop]
       have t1:bl.toList.take (m*sz'+0)=c1:=by rw[k6,p1,Nat.add_zero, ←hc1,List.append_assoc,List.take_left]
       have t2:bl.toList.drop (m*sz'+0+(Builtin.zeroCells v.cells (l.length - m)).toList.length)=post:=by
        rw[hzl,k6,p1,Nat.add_zero, ←hc1, ←hc2, ←List.length_append,List.drop_left]
       rw[t1,t2]at hst
       have hrs:(c1++(Builtin.zeroCells v.cells (l.length - m)).toList++post).toArray.size=bl.size:=by
        rw[hbl,k6,p1]
        simp only[List.size_toArray,List.length_append,hc2,hzl]
       refine⟨w.setRow b (c1++(Builtin.zeroCells v.cells (l.length - m)).toList++post).toArray,?_,hr.wok.setRow hb _,fun s' hs'=>Kept.setRow hb hs' _,?_⟩
       ·rw[if_neg hcm]
        have hadd:Option.map (fun x:Addr=>x.add (m*sz')) (some ⟨b,0,none⟩)=some ⟨b,m*sz',none⟩:=by
         simp[add_lit]
        rw[hadd]
        obtain⟨q,hq⟩:∃q,l.length - m=q+1:=⟨l.length - m - 1,by omega⟩
        rw[hq]at hst ⊢
        have hzv:(zeroValue e).run P w= .ok v w:=by simp[zeroValue,typeInfo,hi,hv]
        simp[Builtin.clear_,run_underlying hu,hzv,hst]
       ·refine⟨c1++(Builtin.zeroCells v.cells (l.length - m)).toList,⟨?_,.inr ⟨b,cap2,_,?_,Nat.zero_le _,k5r.set hrs,?_,k3,?_,?_⟩⟩,RepIs.append p2 hzr,?_,?_⟩
        ·rw[List.length_append,hc1,hzl,hmul,List.length_append,List.length_take,List.length_replicate,Nat.min_eq_left (by omega)]
         congr 1
         omega
        ·rw[k1,List.length_append,List.length_take,List.length_replicate,Nat.min_eq_left (by omega),show m+(l.length - m)=l.length from by omega]
        ·rw[List.length_append,List.length_take,List.length_replicate,Nat.min_eq_left (by omega)]
         omega
        ·rw[←k4,hbl,k6,p1]
         simp only[List.size_toArray,List.length_append,hc2,hzl]
        ·have:(l.take m++List.replicate (l.length - m) z).length*sz'=(c1++(Builtin.zeroCells v.cells (l.length - m)).toList).length:=by
          simp only[List.length_append,List.length_take,List.length_replicate,hc1,hzl,hmul,Nat.min_eq_left g7]
          congr 1
          omega
         rw[this]
         exact List.take_left
        ·intro x hx
         rcases List.mem_append.1 hx with hx|hx
         ·exact k8 x (List.mem_of_mem_take hx)
         ·rw[List.eq_of_mem_replicate hx,hzsz]
        ·intro b' hb'
         rw[k1]at hb'
         simp only[Value.ownBlock,Option.some.injEq]at hb'
         subst hb'
         exact hb
     obtain⟨w',hrun,hok',hk',hv'⟩:=key
     have hr1:=Rel.self (new:=.vec e' sz' (l.take m++List.replicate (l.length - m) z)) (ver:=cv+1) hr hok' (Mem.le.refl G) g1 (Nat.lt_succ_self _) hk' hv'
     obtain⟨σ',st',r1,r2⟩:=hr1.setD hdst (sv:=.tup []) (c:=.tuple #[]) (fun _ _ _ _=>⟨#[],rfl,rfl⟩) hw
     refine Am (w':=w') ?_ (hn G σ' st' _ w' (Mem.le.refl G) r1 r2)
     have hinv:(execOp a.eval o).run P w= .ok (.value (.tuple #[])) w':=by
      simp[execOp,ho,resolve,invoke,builtin,hrun]
     exact hinv
    |_=>exact hw.elim
   ·exact hw.elim
 |_=>exact hw.elim
end
end Go.Ab
