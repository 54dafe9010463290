/- Lemmas -/
import Derived.Test.YtkpojedpcabojaaDoorAbO
import Derived.Maps.RangeRun
import Derived.Deep.LoopGhost
set_option linter.unusedVariables false
set_option linter.unusedSimpArgs false
namespace Go.Ab
open Go.Op
open Go.ChangeMaps (setBlock)
def Vg(d:Nat)(x:Opd):M:=Eb x fun u=>match u with
 | .map ks vs=>Ay d (.mit ks vs (List.range ks.length) none)
 |_=>.fail
def Mq(d:Nat)(x:Opd):M:=match x with
 | .t n=>.get n fun ver sv=>match sv with
   | .mit ks vs left _=>.need (d≠n) fun _=>.ite left.isEmpty (setD (some d) (.tup [.i (.bool false)]) .done)
    (.any left fun i=>match ks[i]? with
      |some k=>match vs[i]? with
       |some v=>match v with
        | .it y=>.set n (ver+1) (.mit ks vs (left.erase i) (some i)) (setD (some d) (.tup [.i (.bool true),.i k,.i y]) .done)
        |_=>.fail
       |none=>.fail
      |none=>.fail)
   |_=>.fail
 |_=>.fail
def P3(d:Nat)(x:Opd):M:=match x with
 | .t n=>.get n fun _ sv=>match sv with
   | .mit ks vs _ cur=>match cur with
     |some i=>match ks[i]? with
      |some k=>match vs[i]? with
       |some v=>match v with
        | .it y=>setD (some d) (.tup [.i k,.i y]) .done
        |_=>.fail
       |none=>.fail
      |none=>.fail
     |none=>.fail
   |_=>.fail
 |_=>.fail
section
variable{P:Program}{N:Nat}{G:Mem}{σ:Lab}{Fr:Mem}{w0:Base}{w:World}{st:St}{a:Act}
theorem V3{o:Oper}{d:Nat}{t:TypeId}{x:Operand}{x':Opd}(hd:o.dst=some d)(ho:o.op= .range t x)(hx:Ac N x x'=true)(ht:Vc P t=true):Sound P N o (Vg d x'):=by
 intro G σ Fr w0 st a w Q next E hN hr hw hn hdst
 subst hN;unfold Vc at ht;split at ht
 case h_2=>cases ht
 rename_i tk tv hu;obtain⟨u,G',σ',st',hG,hr',h1,hf⟩:=Nu hr hx hw;split at h1
 ·rename_i ks vs;obtain⟨bs,f1,f2,f3,f4⟩:=hf;rw[Bh f2]at f1;simp only[RepD]at f1;obtain⟨b,es,clock,kc,vc,bs0,e1,hb,rfl,rfl,hks,hvs,hp,hlt,rfl⟩:=f1;injection e1 with e1
  have he:a.eval x= .map (some b):=e1;have hl:es.toList.length=ks.length:=by
   have:=hks.get.1;simpa using this.symm
  let o':Obj:=.mapIter (some b) clock #[] clock
  have hr1:Rel G' σ' Fr w0 st' a (w.alloc o'):=hr'.grow rfl rfl rfl (by simp) fun b hb=>B8 w _ b hb
  obtain⟨g1,g2,g3⟩:=hr'.wok.fresh (Nat.le_refl w.heap.size);have hfree:∀x∈w.heap.size::b::bs0,G' x=none∧Fr x=none∧σ' x=none∧x<(w.alloc o').heap.size:=by
   intro x hx;rcases List.mem_cons.1 hx with rfl|hx
   ·exact⟨g1,g2,g3,by simp⟩
   ·obtain⟨k1,k2,k3,k4⟩:=f4 x hx;exact⟨k1,k2,k3,by simp;omega⟩
  have hnd:(w.heap.size::b::bs0).Nodup:=List.nodup_cons.2 ⟨fun hm=>by
   have:=(f4 _ hm).2.2.2;omega,f3⟩
  simp only[Ay,M.wp]at h1;cases hds:st'[d]? with
  |none=>simp[hds]at h1
  |some cur=>
   simp only[hds]at h1;have hok:WOk G' ((σ'.drop d).adopt d 0 (w.heap.size::b::bs0)) Fr w0 (w.alloc o'):=(hr1.wok.drop d).adopt (fun b k hb=>absurd rfl (Lab.drop_some.1 hb).1) fun x hx=>⟨(hfree x hx).1,(hfree x hx).2.1,(hfree x hx).2.2.2⟩
   have hold:∀x,x<w.heap.size→(w.alloc o').heap[x]?=w.heap[x]?:=fun x hx=>B8 w _ x hx
   have hfin:Rel G' ((σ'.drop d).adopt d 0 (w.heap.size::b::bs0)) Fr w0 (st'.set d (cur.1+1,.mit ks vs (List.range ks.length) none)) (a.put (some d) (.pointer (some ⟨w.heap.size,0,none⟩))) (w.alloc o'):=by
    refine hr1.put (new:=.mit ks vs (List.range ks.length) none) (ver:=cur.1+1) (hdst d hd) hok (Mem.le.refl G') hds (Nat.lt_succ_self _) ?_ ?_ (fun h e=>by cases e) (fun inv t e=>by cases e)
    ·intro s' hs' x k hx;refine⟨?_,rfl⟩;rw[Lab.adopt_old]
     ·exact Lab.drop_some.2 ⟨hs',hx⟩
     ·intro hm;rw[(hfree x hm).2.2.1]at hx;cases hx
    ·exact⟨w.heap.size,b,clock, #[],es,bs0,rfl,heap_alloc_new w _,by rw[hold b (f4 b (by simp)).2.2.2];exact hb,hks,hvs.tr (Mem.le.refl G') fun x hx=>hold x (f4 x (by simp[hx])).2.2.2,fun x hx=>⟨_,Lab.adopt_new hx⟩,hnd,hp,hlt,
      List.nodup_range,fun i hi=>by rw[hl];exact List.mem_range.1 hi,fun i e hie=>by
       have:=(List.getElem?_eq_some_iff.1 hie).1;rw[hl]at this;simp[this],fun i e=>by cases e⟩
   refine An (w':=w.alloc o') ?_ (by rw[hd];exact hn G' _ _ _ _ hG hfin h1)
   simp[execOp,ho,he,run_range_map w t tk tv b es clock hu hb,o']
 ·exact h1.elim
theorem Mv{es:Array MapEntry}{seen:Array Nat}{e:MapEntry}:e∈(leftOf es seen).toList↔e∈es.toList∧seen.contains e.born=false:=by
 simp[leftOf]
theorem Uz{o:Oper}{d:Nat}{x:Operand}{x':Opd}(hd:o.dst=some d)(ho:o.op= .next x false)(hx:Ac N x x'=true):Sound P N o (Mq d x'):=by
 intro G σ Fr w0 st a w Q next E hN hr hw hn hdst
 subst hN;cases x' with
 |c _=>exact hw.elim
 |nils _ _=>exact hw.elim
 |t n=>
  obtain⟨rfl,hnlt⟩:=A7 hx;simp only[Mq,M.wp]at hw;cases hs:st[n]? with
  |none=>simp[hs]at hw
  |some cur=>
   obtain⟨ver,sv⟩:=cur;simp only[hs]at hw;have hrep:=hr.slot hnlt hs;split at hw
   ·rename_i ks vs left cur0;obtain⟨hne,h1,h2⟩:=hw;obtain⟨g,b,clock,seen,es,bs,hc,hg,hb,hks,hvs,hlab,hnd,hp,hlt,hln,hll,hlf,hcur⟩:=hrep;have hgb:g≠b:=fun e=>by
     have:=(List.nodup_cons.1 hnd).1;simp[e]at this
    have hgbs:∀x∈bs,x≠g:=fun x hx e=>by
     have:=(List.nodup_cons.1 hnd).1;exact this (by simp[←e,hx])
    rcases run_next_at (P:=P) w o.type g b clock clock seen es clock hg hb hlt (Nat.le_refl _)with⟨h0,hrun⟩|⟨e,he,w1,hal,hrun⟩
    ·have hle:left.isEmpty=true:=by
      cases left with
      |nil=>rfl
      |cons i r=>
       obtain⟨e,hie⟩:∃e,es.toList[i]?=some e:=⟨_,List.getElem?_eq_getElem (hll i (by simp))⟩
       have h3:=(hlf i e hie).1 (by simp)
       have:e∈(leftOf es seen).toList:=Mv.2 ⟨List.mem_of_getElem? hie,h3⟩;rw[Array.eq_empty_of_size_eq_zero h0]at this;cases this
     obtain⟨σ',st',r1,r2⟩:=hr.setD (d:=some d) (by rintro _ ⟨⟩;exact hdst d hd) (sv:=.tup [.i (.bool false)]) (c:=.tuple #[.bool false]) (fun d' hd ver _=>⟨_,rfl,_,_,rfl,RepV.bool.2 rfl,rfl⟩) (h1 hle)
     refine An (w':=w) ?_ (by rw[hd];exact hn G σ' st' _ w (Mem.le.refl G) r1 r2)
     simp only[execOp,ho,hc,hrun,Sem.run_bind,Result.andThen,Sem.run_pure]
    ·obtain⟨hem,hes⟩:=Mv.1 he;obtain⟨i,hie⟩:=List.getElem?_of_mem hem;have hil:i∈left:=(hlf i e hie).2 hes;have hle:left.isEmpty=false:=by
      cases left with
      |nil=>cases hil
      |cons _ _=>rfl
     have h3:=(h2 hle).out i hil;dsimp only at h3;split at h3
     case h_2=>exact h3.elim
     rename_i k hki;split at h3
     case h_2=>exact h3.elim
     rename_i v hvi;split at h3
     case h_2=>exact h3.elim
     rename_i y;obtain⟨_,q0⟩:=hks.get;obtain⟨kv,q1,q2,q3⟩:=q0 i k hki;rw[List.getElem?_map,hie]at q1;cases q1;obtain⟨vv,b1,bi,b2,p1,_,p2,p3,_⟩:=hvs.nth hvi;rw[List.getElem?_map,hie]at p1;cases p1;simp only[RepD]at p3;have hkv:=Vq q3 q2;have hyv:=Vq p3.1 p2;have hr0:Rel G σ Fr w0 st a w1:=by
      rcases hal with rfl|rfl
      ·exact hr
      ·exact hr.drew
     have hh1:w1.heap=w.heap:=by rcases hal with rfl|rfl<;>rfl
     let o':Obj:=.mapIter (some b) clock (seen.push e.born) clock
     have hset:(setBlock w1 g o').heap[g]?=some o'∧∀r',r'≠g→(setBlock w1 g o').heap[r']?=w1.heap[r']?:=MapKept.heap_set (w:=w1) (o':=o') (by rw[hh1];exact hg)
     obtain⟨kg,hkg⟩:=hlab g (by simp)
     obtain⟨k1,k2,k3⟩:=hr0.wok.own g _ hkg;have hok:WOk G σ Fr w0 (setBlock w1 g o'):=by
      refine⟨?_,?_,hr0.wok.inj,?_,hr0.wok.os,hr0.wok.tape,hr0.wok.output,?_,hr0.wok.apart,hr0.wok.amb⟩
      ·intro b' o1 h;rw[hset.2 b' (by rintro rfl;rw[k1]at h;cases h)]
       exact hr0.wok.fixed b' o1 h
      ·intro b' lab h;obtain⟨q1,q2,q3⟩:=hr0.wok.own b' lab h;exact⟨q1,q2,by simpa[setBlock]using q3⟩
      ·intro b' o1 h;rw[hset.2 b' (by rintro rfl;rw[k2]at h;cases h)]
       exact hr0.wok.frame b' o1 h
      ·have:=hr0.wok.size;simpa[setBlock]using this
     have hv:val a w0 n=a.eval (.tmp n):=Bc (by rw[hr.n];exact hnlt)
     have hinj:∀j e',es.toList[j]?=some e'→(e'.born=e.born↔j=i):=by
      intro j e' hj;refine⟨fun hb'=>?_,fun hji=>by subst hji;rw[hie]at hj;cases hj;rfl⟩
      rcases Nat.lt_trichotomy j i with h|h|h
      ·have:=List.pairwise_iff_getElem.1 hp j i (by have:=(List.getElem?_eq_some_iff.1 hj).1;simpa using this) (by have:=(List.getElem?_eq_some_iff.1 hie).1;simpa using this) h
       simp only[List.getElem_map]at this;rw[(List.getElem?_eq_some_iff.1 hj).2,(List.getElem?_eq_some_iff.1 hie).2]at this;omega
      ·exact h
      ·have:=List.pairwise_iff_getElem.1 hp i j (by have:=(List.getElem?_eq_some_iff.1 hie).1;simpa using this) (by have:=(List.getElem?_eq_some_iff.1 hj).1;simpa using this) h
       simp only[List.getElem_map]at this;rw[(List.getElem?_eq_some_iff.1 hj).2,(List.getElem?_eq_some_iff.1 hie).2]at this;omega
     have hr1:Rel G σ Fr w0 (st.set n (ver+1,.mit ks vs (left.erase i) (some i))) a (setBlock w1 g o'):=by
      refine Rel.self hr0 hok (Mem.le.refl G) hs (Nat.lt_succ_self _) ?_ ?_
      ·intro s' hs' b' k hb';refine⟨hb',hset.2 b' ?_⟩;rintro rfl;rw[hkg]at hb';cases hb';exact hs' rfl
      ·refine⟨g,b,clock,seen.push e.born,es,bs,by rw[hv];exact hc,hset.1,?_,hks,?_,hlab,hnd,hp,hlt,hln.erase i,fun j hj=>hll j (List.mem_of_mem_erase hj),?_,?_⟩
       ·rw[hset.2 b (Ne.symm hgb),hh1];exact hb
       ·exact hvs.tr (Mem.le.refl G) fun x hx=>by rw[hset.2 x (hgbs x hx),hh1]
       ·intro j e' hj;rw[hln.mem_erase_iff,hlf j e' hj];have h5:=hinj j e' hj;simp only[Array.contains_eq_mem,Array.mem_push,decide_eq_false_iff_not,not_or];constructor
        ·rintro⟨h6,h7⟩;exact⟨h7,fun h8=>h6 (h5.1 h8)⟩
        ·rintro⟨h6,h7⟩;exact⟨fun h8=>h7 (h5.2 h8),h6⟩
       ·intro j hj;cases hj;exact⟨e,seen,hie,rfl⟩
     obtain⟨σ',st',r1,r2⟩:=hr1.setD (d:=some d) (by rintro _ ⟨⟩;exact hdst d hd) (sv:=.tup [.i (.bool true),.i k,.i y]) (c:=.tuple #[.bool true,e.key,e.val]) (fun d' _ ver _=>
      ⟨_,rfl,_,_,rfl,RepV.bool.2 rfl,_,_,rfl,hkv,_,_,rfl,hyv,rfl⟩) h3
     refine An (w':=setBlock w1 g o') ?_ (by rw[hd];exact hn G σ' st' _ _ (Mem.le.refl G) r1 r2)
     simp only[execOp,ho,hc,hrun,Sem.run_bind,Result.andThen,Sem.run_pure,o']
   ·exact hw.elim
theorem V2{o:Oper}{d:Nat}{x:Operand}{x':Opd}(hd:o.dst=some d)(ho:o.op= .entry x)(hx:Ac N x x'=true):Sound P N o (P3 d x'):=by
 intro G σ Fr w0 st a w Q next E hN hr hw hn hdst
 subst hN;cases x' with
 |c _=>exact hw.elim
 |nils _ _=>exact hw.elim
 |t n=>
  obtain⟨rfl,hnlt⟩:=A7 hx;simp only[P3,M.wp]at hw;cases hs:st[n]? with
  |none=>simp[hs]at hw
  |some cur=>
   obtain⟨ver,sv⟩:=cur;simp only[hs]at hw;have hrep:=hr.slot hnlt hs;split at hw
   ·rename_i ks vs left cur0;split at hw
    case h_2=>exact hw.elim
    rename_i i;split at hw
    case h_2=>exact hw.elim
    rename_i k hki;split at hw
    case h_2=>exact hw.elim
    rename_i v hvi;split at hw
    case h_2=>exact hw.elim
    rename_i y;obtain⟨g,b,clock,seen,es,bs,hc,hg,hb,hks,hvs,hlab,hnd,hp,hlt,hln,hll,hlf,hcur⟩:=hrep;obtain⟨e,seen0,hie,rfl⟩:=hcur i rfl;obtain⟨_,q0⟩:=hks.get;obtain⟨kv,q1,q2,q3⟩:=q0 i k hki;rw[List.getElem?_map,hie]at q1;cases q1;obtain⟨vv,b1,bi,b2,p1,_,p2,p3,_⟩:=hvs.nth hvi;rw[List.getElem?_map,hie]at p1;cases p1;simp only[RepD]at p3;have hkv:=Vq q3 q2;have hyv:=Vq p3.1 p2;have hrun:=run_entry_at (P:=P) w g b clock seen0 es clock e hg hb (List.mem_of_getElem? hie) (hp.imp fun h=>Nat.ne_of_lt h)
    obtain⟨σ',st',r1,r2⟩:=hr.setD (d:=some d) (by rintro _ ⟨⟩;exact hdst d hd) (sv:=.tup [.i k,.i y]) (c:=.tuple #[e.key,e.val]) (fun d' _ ver _=>
     ⟨_,rfl,_,_,rfl,hkv,_,_,rfl,hyv,rfl⟩) hw
    refine An (w':=w) ?_ (by rw[hd];exact hn G σ' st' _ _ (Mem.le.refl G) r1 r2)
    simp only[execOp,ho,hc,hrun,Sem.run_bind,Result.andThen,Sem.run_pure]
   ·exact hw.elim
end

inductive IOp where
 |mv (d:Nat) (x:Opd)
 |asg (d:Nat) (x:Opd)
 |mov (d:Nat) (e:TypeId) (sz:Nat) (x:Opd)
 |bin (d:Nat) (op:BinOp) (x y:Opd)
 |not (d:Nat) (x:Opd)
 |pick (d:Nat) (c x y:Opd)
 |load (d:Nat) (agg:Bool) (sz:Nat) (x:Opd)
 |store (sz:Nat) (x y:Opd)
 |alloc (d:Nat) (t:T)
 |box (d:Nat) (x:Opd)
 |faddr (d:Nat) (x:Opd) (i off:Nat)
 |iaddr (d:Nat) (sz:Nat) (x i:Opd)
 |len (d:Nat) (str:Bool) (x:Opd)
 |slc (d:Nat) (str:Bool) (sz:Nat) (x:Opd) (lo hi:Option Opd)
 |b2s (d:Nat) (x:Opd)
 |build (d:Nat) (zs:List I) (ps:List (Nat × Opd))
 |bsl (d:Nat) (e:TypeId) (sz:Nat) (z:I) (n:Nat) (ps:List (Nat × Opd))
 |empty (d:Nat) (e:TypeId) (sz:Nat)
 |ext (d:Nat) (x:Opd) (i:Nat)
 |mm (d:Nat) (max:Bool) (x y:Opd)
 |app (d:Nat) (e:TypeId) (sz bytes:Nat) (x y:Opd)
 |eqs (d:Nat) (neg:Bool) (e:ETy) (x y:Opd)
 |isnil (d:Nat) (neg:Bool) (x:Opd)
 |sidx (d:Nat) (x i:Opd)
 |loadF (d:Nat) (agg:Bool) (sz:Nat) (x:Opd)
 |loadB (d:Nat) (agg:Bool) (sz:Nat) (x:Opd)
 |allocD (d:Nat) (t:D)
 |boxD (d:Nat) (x:Opd)
 |buildD (d:Nat) (zs:List D) (ps:List (Nat × Opd))
 |bslD (d:Nat) (e:TypeId) (sz:Nat) (z:I) (n:Nat) (ps:List (Nat × Opd))
 |bits (d:Nat) (op:BinOp) (x y:Opd)
 |conv (d:Nat) (k:IntKind) (x:Opd)
 |nchk (d:Nat) (x:Opd)
 |movD (d:Nat) (x:Opd)
 |rngS (d:Nat) (x:Opd)
 |nextS (d:Nat) (x:Opd)
 |rngM (d:Nat) (x:Opd)
 |nextM (d:Nat) (x:Opd)
 |entM (d:Nat) (x:Opd)
 |pnil (d:Nat) (neg:Bool) (x:Opd)
 |mkmap (d:Nat)
 |mget (d:Nat) (z:I) (ok:Bool) (x k:Opd)
 |mupd (m k v:Opd)
 |mlen (d:Nat) (x:Opd)
 |dead (d:Option Nat)
 deriving Inhabited
def IOp.sem:IOp→M
 | .mv d x=>Vd x (Ack (some d) x) (Z4 (some d) x)
 | .asg d x=>Ks d x
 | .mov d e sz x=>Ajx d e sz x
 | .bin d op x y=>Ace (some d) op x y
 | .not d x=>Acn (some d) x
 | .pick d c x y=>Y1 (some d) c x y
 | .load d agg sz x=>Zq x (.need (agg=false∧sz=1) fun _=>Np (some d) x) (Cn x (V9 (some d) agg sz x) (Yu (some d) agg sz x))
 | .loadF d agg sz x=>Ajw (some d) agg sz x
 | .loadB d agg sz x=>V6 (some d) agg sz x
 | .allocD d t=>Tb d t
 | .boxD d x=>Yp d x
 | .buildD d zs ps=>Te d zs ps
 | .bslD d e sz z n ps=>Rp d e sz z n ps
 | .store sz x y=>Cn x (Ti sz x y) (Wf sz x y)
 | .alloc d t=>Tc d t
 | .box d x=>Zr x (Yq d x) (Acf d x)
 | .faddr d x i off=>Cn x (Tf (some d) x i off) (V4 (some d) x i off)
 | .iaddr d sz x i=>Cn x (Th (some d) sz x i) (Uh x (Tg (some d) sz x i) (V5 (some d) sz x i))
 | .len d str x=>Cn x (Yt (some d) str x) (match str with
   |true=>Rs (some d) true x
   |false=>Uh x (Sm (some d) x) (Rs (some d) false x))
 | .slc d str sz x lo hi=>Cn x (Y4 (some d) str sz x lo hi) (Qg (some d) str sz x lo hi)
 | .b2s d x=>Vy d x
 | .build d zs ps=>Vz (some d) zs ps
 | .bsl d e sz z n ps=>Td d e sz z n ps
 | .empty d e sz=>Ajv d e sz
 | .ext d x i=>Sj d x i
 | .mkmap d=>Wa d
 | .mget d z ok x k=>Yv d z ok x k
 | .mupd m k v=>Yx m k v
 | .mlen d x=>Yw d x
 | .mm d max x y=>Yk (some d) max x y
 | .app d e sz bytes x y=>Cn x (Si d e sz bytes x y) (Cn y (Si d e sz bytes x y) (Acd d e sz bytes x y))
 | .eqs d ng e x y=>Am9 (some d) ng e x y
 | .isnil d ng x=>Ajz (some d) ng x
 | .sidx d x i=>Adh (some d) x i
 | .bits d op x y=>Yn (some d) op x y
 | .conv d k x=>Yr (some d) k x
 | .nchk d x=>Y0 (some d) x
 | .movD d x=>Yz d x
 | .rngS d x=>Y3 d x
 | .nextS d x=>Qf (some d) x
 | .rngM d x=>Vg d x
 | .nextM d x=>Mq d x
 | .entM d x=>P3 d x
 | .pnil d ng x=>Y2 (some d) ng x
 | .dead _=>.fail
def Ar(d:Option Nat)(e:Nat):Bool:=match d with
 |some d=>d==e
 |none=>false
theorem Am{d:Option Nat}{e:Nat}(h:Ar d e=true):d=some e:=by
 unfold Ar at h;split at h
 ·simp only[beq_iff_eq]at h;rw[h]
 ·cases h
def Wy(P:Program)(t:TypeId):Bool:=match P.underlying t with
 |some (.map tk _)=>match P.underlying tk with
  |some .string=>true
  |_=>false
 |_=>false
theorem X9{P:Program}{t:TypeId}(h:Wy P t=true):∃tk tv,P.underlying t=some (.map tk tv)∧P.underlying tk=some .string:=by
 unfold Wy at h;split at h
 ·rename_i tk tv hu;split at h
  ·rename_i hk;exact⟨_,_,hu,hk⟩
  ·cases h
 ·cases h
def chk(P:Program)(N:Nat)(o:Oper)(i:IOp):Bool:=match o.op,i with
 | .binOp .eql t x y _,.eqs d false e x' y'=>Ar o.dst d&&Ac N x x'&&Ac N y y'&&eqOk P e t
 | .binOp .neq t x y _,.eqs d true e x' y'=>Ar o.dst d&&Ac N x x'&&Ac N y y'&&eqOk P e t
 | .binOp .eql t x y _,.isnil d false x'=>Ar o.dst d&&Ac N x x'&&Ai3 P t y
 | .binOp .neq t x y _,.isnil d true x'=>Ar o.dst d&&Ac N x x'&&Ai3 P t y
 | .index t x i,.sidx d x' i'=>Ar o.dst d&&Ac N x x'&&Ac N i i'&&(match P.underlying t with
  |some .string=>true
  |_=>false)
 | .move x,.mv d y| .assign x,.mv d y=>Ar o.dst d&&Ac N x y
 | .move x,.asg d y| .assign x,.asg d y=>Ar o.dst d&&Ac N x y
 | .move x,.mov d _ _ y| .assign x,.mov d _ _ y=>Ar o.dst d&&Ac N x y
 | .binOp op _ x y _,.bits d op' x' y'=>Ar o.dst d&&decide (op=op')&&Ac N x x'&&Ac N y y'
 | .convert src dst x,.conv d k x'=>Ar o.dst d&&Ac N x x'&&U0 P dst k src
 | .binOp op _ x y _,.bin d op' x' y'=>Ar o.dst d&&decide (op=op')&&Ac N x x'&&Ac N y y'
 | .unOp .not _ x,.not d x'=>Ar o.dst d&&Ac N x x'
 | .pick c x y,.pick d c' x' y'=>Ar o.dst d&&Ac N c c'&&Ac N x x'&&Ac N y y'
 | .load t x,.load d agg sz x'=>Ar o.dst d&&Ac N x x'&&tyOk P t agg sz
 | .load t x,.loadF d agg sz x'=>Ar o.dst d&&Ac N x x'&&tyOk P t agg sz
 | .load t x,.loadB d agg sz x'=>Ar o.dst d&&Ac N x x'&&tyOk P t agg sz
 | .store t x y,.store sz x' y'=>o.dst.isNone&&Ac N x x'&&Ac N y y'&&(tyOk P t true sz||tyOk P t false sz)
 | .alloc e,.alloc d t=>Ar o.dst d&&W6 P e t
 | .alloc e,.allocD d t=>Ar o.dst d&&Sn P e t
 | .box _ x,.box d x'=>Ar o.dst d&&Ac N x x'
 | .box _ x,.boxD d x'=>Ar o.dst d&&Ac N x x'
 | .fieldAddr t x i,.faddr d x' i' off=>Ar o.dst d&&Ac N x x'&&i==i'&&Ke P t i off
 | .indexAddr t x i,.iaddr d sz x' i'=>Ar o.dst d&&Ac N x x'&&Ac N i i'&&Cq P t sz
 | .slice t x lo hi none,.slc d str sz x' lo' hi'=>Ar o.dst d&&Ac N x x'&&oOk N lo lo'&&oOk N hi hi'&&Pc P t str sz
 | .convert src dst x,.b2s d x'=>Ar o.dst d&&Ac N x x'&&Zd P src dst
 | .build t ps,.build d zs ps'=>Ar o.dst d&&Cc N ps.toList ps'&&R7 P t zs
 | .build t ps,.buildD d zs ps'=>Ar o.dst d&&Cc N ps.toList ps'&&Px P t zs
 | .buildSlice t n ps,.bslD d e sz z n' ps'=>Ar o.dst d&&n==n'&&Cc N ps.toList ps'&&F4 P t e sz z n
 | .buildSlice t n ps,.bsl d e sz z n' ps'=>Ar o.dst d&&n==n'&&Cc N ps.toList ps'&&F4 P t e sz z n
 | .buildSlice t n ps,.empty d e _=>Ar o.dst d&&n==0&&ps.isEmpty&&(match P.underlying t with
  |some (.slice e')=>e'==e
  |_=>false)&&(P.info? e).isSome
 | .extract x i,.ext d x' i'=>Ar o.dst d&&Ac N x x'&&i==i'
 | .nilCheck x,.nchk d x'=>Ar o.dst d&&Ac N x x'
 | .move x,.movD d y| .assign x,.movD d y=>Ar o.dst d&&Ac N x y
 | .range t x,.rngS d x'=>Ar o.dst d&&Ac N x x'&&(match P.underlying t with
  |some .string=>true
  |_=>false)
 | .next x true,.nextS d x'=>Ar o.dst d&&Ac N x x'
 | .range t x,.rngM d x'=>Ar o.dst d&&Ac N x x'&&Vc P t
 | .next x false,.nextM d x'=>Ar o.dst d&&Ac N x x'
 | .entry x,.entM d x'=>Ar o.dst d&&Ac N x x'
 | .binOp .eql t x y _,.pnil d false x'=>Ar o.dst d&&Ac N x x'&&Rm P t y
 | .binOp .neq t x y _,.pnil d true x'=>Ar o.dst d&&Ac N x x'&&Rm P t y
 | .makeMap _ none,.mkmap d=>Ar o.dst d
 | .lookup t x k ok,.mget d z ok' x' k'=>Ar o.dst d&&ok==ok'&&Zu P t z&&Ac N x x'&&Ac N k k'
 | .mapUpdate t m k v,.mupd m' k' v'=>o.dst.isNone&&Wy P t&&Ac N m m'&&Ac N k k'&&Ac N v v'
 | .call {callee:=.builtin b,args,argTypes},i=>match b,args.toList,argTypes.toList,i with
   | .len,[x],[t],.mlen d x'=>Ar o.dst d&&Vc P t&&Ac N x x'
   | .len,[x],[t],.len d str x'=>Ar o.dst d&&Ac N x x'&&Jp P t str
   | .max,[x,y],_,.mm d true x' y'=>Ar o.dst d&&Ac N x x'&&Ac N y y'
   | .min,[x,y],_,.mm d false x' y'=>Ar o.dst d&&Ac N x x'&&Ac N y y'
   | .append,[x,y],[t,u],.app d e sz bytes x' y'=>Ar o.dst d&&t==u&&Ac N x x'&&Ac N y y'&&Qo P t e sz bytes
   |_,_,_,.dead _=>true
   |_,_,_,_=>false
 |_,.dead _=>true
 |_,_=>false
theorem Hm{α:Type}{a:Array α}{x:α}(h:a.toList=[x]):a= #[x]:=by cases a;simp_all
theorem Hn{α:Type}{a:Array α}{x y:α}(h:a.toList=[x,y]):a= #[x,y]:=by cases a;simp_all
theorem Abc{P:Program}{N:Nat}{o:Oper}{i:IOp}(h:chk P N o i=true):Sound P N o i.sem:=by
 unfold chk at h;split at h;all_goals try(simp only[Bool.and_eq_true,beq_iff_eq,decide_eq_true_eq,Bool.or_eq_true]at h)
 ·rename_i ho;obtain⟨⟨⟨h1,h2⟩,h3⟩,h4⟩:=h;have hd:=Am h1;have:=Aj5 (P:=P) (neg:=false) ho h2 h3 h4;rwa [hd]at this
 ·rename_i ho;obtain⟨⟨⟨h1,h2⟩,h3⟩,h4⟩:=h;have hd:=Am h1;have:=Aj5 (P:=P) (neg:=true) ho h2 h3 h4;rwa [hd]at this
 ·rename_i ho;obtain⟨⟨h1,h2⟩,h3⟩:=h;have hd:=Am h1;have:=Aiu (P:=P) (neg:=false) ho h2 h3;rwa [hd]at this
 ·rename_i ho;obtain⟨⟨h1,h2⟩,h3⟩:=h;have hd:=Am h1;have:=Aiu (P:=P) (neg:=true) ho h2 h3;rwa [hd]at this
 ·rename_i ho;obtain⟨⟨⟨h1,h2⟩,h3⟩,h4⟩:=h;have hd:=Am h1;split at h4
  ·rename_i hu;have:=Aau (P:=P) ho h2 h3 hu;rwa [hd]at this
  ·cases h4
 ·rename_i ho;have hd:=Am h.1;have k1:=Wt (P:=P) (.inl ho) h.2;have k2:=Tr (P:=P) (.inl ho) h.2;rw[hd]at k1 k2;exact Rx k2 k1
 ·rename_i ho;have hd:=Am h.1;have k1:=Wt (P:=P) (.inr ho) h.2;have k2:=Tr (P:=P) (.inr ho) h.2;rw[hd]at k1 k2;exact Rx k2 k1
 ·rename_i ho;exact Nr (Am h.1) (.inl ho) h.2
 ·rename_i ho;exact Nr (Am h.1) (.inr ho) h.2
 ·rename_i ho;exact Ait (Am h.1) (.inl ho) h.2
 ·rename_i ho;exact Ait (Am h.1) (.inr ho) h.2
 ·rename_i ho;obtain⟨⟨⟨h1,rfl⟩,h2⟩,h3⟩:=h;have hd:=Am h1;have:=Z8 (P:=P) ho h2 h3;rwa [hd]at this
 ·rename_i ho;obtain⟨⟨h1,h2⟩,h3⟩:=h;have hd:=Am h1;have:=Aad (P:=P) ho h2 h3;rwa [hd]at this
 ·rename_i ho;obtain⟨⟨⟨h1,rfl⟩,h2⟩,h3⟩:=h;have hd:=Am h1;have:=Acw (P:=P) ho h2 h3;rwa [hd]at this
 ·rename_i ho;have hd:=Am h.1;have:=Ac9 (P:=P) ho h.2;rwa [hd]at this
 ·rename_i ho;obtain⟨⟨⟨h1,h2⟩,h3⟩,h4⟩:=h;have hd:=Am h1;have:=Aas (P:=P) ho h2 h3 h4;rwa [hd]at this
 ·rename_i ho;obtain⟨⟨h1,h2⟩,h3⟩:=h;have hd:=Am h1;have h4:=Aak (P:=P) ho h2 h3;have h5:=X1 (P:=P) ho h2 h3;rw[hd]at h4 h5;refine Acy ?_ (Bt h5 h4);intro G σ Fr w0 st a w Q next E hN hr hw hn hdst
  obtain⟨⟨rfl,h6⟩,hw⟩:=hw;have h7:=Wr (P:=P) ho h2 h3 h6;rw[hd]at h7;exact h7 G σ Fr w0 st a w Q next E hN hr hw hn hdst
 ·rename_i ho;obtain⟨⟨h1,h2⟩,h3⟩:=h;have hd:=Am h1;have:=Ako (P:=P) ho h2 h3;rwa [hd]at this
 ·rename_i ho;obtain⟨⟨h1,h2⟩,h3⟩:=h;have hd:=Am h1;have:=Xy (P:=P) ho h2 h3;rwa [hd]at this
 ·rename_i ho;obtain⟨⟨⟨h1,h2⟩,h3⟩,h4⟩:=h;have hd:o.dst=none:=by simpa using h1
  rcases h4 with h4|h4<;>exact Bt (Wu hd ho h2 h3 h4) (X5 hd ho h2 h3 h4)
 ·rename_i ho;exact Xr (Am h.1) ho h.2
 ·rename_i ho;exact Wj (Am h.1) ho h.2
 ·rename_i ho;exact Adb (Aab (Am h.1) ho h.2) (Acx (Am h.1) ho h.2)
 ·rename_i ho;exact Aaa (Am h.1) ho h.2
 ·rename_i ho;obtain⟨⟨⟨h1,h2⟩,rfl⟩,h3⟩:=h;have hd:=Am h1;have k1:=Xw (P:=P) ho h2 h3;have k2:=Wo (P:=P) ho h2 h3;rw[hd]at k1 k2;exact Bt k2 k1
 ·rename_i ho;obtain⟨⟨⟨h1,h2⟩,h3⟩,h4⟩:=h;have hd:=Am h1;have k1:=Xx (P:=P) ho h2 h3 h4;have k2:=Wq (P:=P) ho h2 h3 h4;have k3:=Wp (P:=P) ho h2 h3 h4;rw[hd]at k1 k2 k3;exact Bt k2 (Tp k3 k1)
 ·rename_i ho;obtain⟨⟨⟨⟨h1,h2⟩,h3⟩,h4⟩,h5⟩:=h;have hd:=Am h1;have k1:=X4 (P:=P) ho h2 h3 h4 h5;have k2:=Aav (P:=P) ho h2 h3 h4 h5;rw[hd]at k1 k2;exact Bt k2 k1
 ·rename_i ho;obtain⟨⟨h1,h2⟩,h3⟩:=h;exact Acv (Am h1) ho h2 h3
 ·rename_i ho;obtain⟨⟨h1,h2⟩,h3⟩:=h;have hd:=Am h1;have:=Xt (P:=P) ho h2 h3;rwa [hd]at this
 ·rename_i ho;obtain⟨⟨h1,h2⟩,h3⟩:=h;exact Wm (Am h1) ho h2 h3
 ·rename_i ho;obtain⟨⟨⟨h1,rfl⟩,h3⟩,h4⟩:=h;exact T9 (Am h1) ho h3 h4
 ·rename_i ho;obtain⟨⟨⟨h1,rfl⟩,h3⟩,h4⟩:=h;exact Wk (Am h1) ho h3 h4
 ·rename_i ho;obtain⟨⟨⟨⟨h1,rfl⟩,h2⟩,h3⟩,h4⟩:=h;have h2':=Array.isEmpty_iff.1 h2;subst h2';refine Akn (Am h1) ho ⟨?_,h4⟩;split at h3
  ·rename_i hu;rw[beq_iff_eq]at h3;rw[hu,h3]
  ·cases h3
 ·rename_i ho;obtain⟨⟨h1,h2⟩,rfl⟩:=h;exact Aaf (Am h1) ho h2
 ·rename_i ho;obtain⟨h1,h2⟩:=h;have hd:=Am h1;have:=Aaq (P:=P) ho h2;rwa [hd]at this
 ·rename_i ho;exact Rw (Am h.1) (.inl ho) h.2
 ·rename_i ho;exact Rw (Am h.1) (.inr ho) h.2
 ·rename_i ho;obtain⟨⟨h1,h2⟩,h3⟩:=h;split at h3
  ·rename_i hu;exact Aat (Am h1) ho h2 hu
  ·cases h3
 ·rename_i ho;obtain⟨h1,h2⟩:=h;have hd:=Am h1;have:=X3 (P:=P) ho h2;rwa [hd]at this
 ·rename_i ho;exact V3 (Am h.1.1) ho h.1.2 h.2
 ·rename_i ho;exact Uz (Am h.1) ho h.2
 ·rename_i ho;exact V2 (Am h.1) ho h.2
 ·rename_i ho;obtain⟨⟨h1,h2⟩,h3⟩:=h;have hd:=Am h1;have:=Ry (P:=P) (neg:=false) ho h2 h3;rwa [hd]at this
 ·rename_i ho;obtain⟨⟨h1,h2⟩,h3⟩:=h;have hd:=Am h1;have:=Ry (P:=P) (neg:=true) ho h2 h3;rwa [hd]at this
 ·rename_i ho;exact X2 (Am h) ho
 ·rename_i ho;obtain⟨⟨⟨⟨h1,rfl⟩,h2⟩,h3⟩,h4⟩:=h;exact Aan (Am h1) ho h2 h3 h4
 ·rename_i ho;obtain⟨⟨⟨⟨h1,h2⟩,h3⟩,h4⟩,h5⟩:=h;obtain⟨tk,tv,hu,hk⟩:=X9 h2;exact Aap (by simpa using h1) ho hu hk h3 h4 h5
 ·rename_i ho;split at h;all_goals try(simp only[Bool.and_eq_true,beq_iff_eq,decide_eq_true_eq,Bool.or_eq_true]at h)
  ·rename_i h1 h2;obtain⟨⟨h3,h4⟩,h5⟩:=h;rw[Hm h1,Hm h2]at ho;exact Aao (Am h3) ho h4 h5
  ·rename_i h1 h2;obtain⟨⟨h3,h4⟩,h5⟩:=h;rw[Hm h1,Hm h2]at ho;have hd:=Am h3;have k1:=Ac4 (P:=P) ho h4 h5;have k2:=Aaj (P:=P) ho h4 h5;rw[hd]at k1 k2;refine Bt k2 ?_;split
   ·exact k1
   ·have k3:=Aai (P:=P) ho h4 h5;rw[hd]at k3;exact Tp k3 k1
  ·rename_i h1;obtain⟨⟨h3,h4⟩,h5⟩:=h;rw[Hn h1]at ho;have hd:=Am h3;have:=Ub (P:=P) (max:=true) ho h4 h5;rwa [hd]at this
  ·rename_i h1;obtain⟨⟨h3,h4⟩,h5⟩:=h;rw[Hn h1]at ho;have hd:=Am h3;have:=Ub (P:=P) (max:=false) ho h4 h5;rwa [hd]at this
  ·rename_i h1 h2;obtain⟨⟨⟨⟨h3,rfl⟩,h4⟩,h5⟩,h6⟩:=h;rw[Hn h1,Hn h2]at ho;have k1:=Acu (P:=P) (Am h3) ho h4 h5 h6;have k2:=Z7 (P:=P) (Am h3) ho h4 h5 h6;exact Bt k2 (Bt k2 k1)
  ·intro G σ Fr w0 st a w Q next E hN hr hw hn hdst;exact hw.elim
  ·cases h
 ·intro G σ Fr w0 st a w Q next E hN hr hw hn hdst;exact hw.elim
 ·cases h
end Go.Ab
