/- Lemmas -/
import Derived.Test.YtkpojedpcabojaaDoorAbO
import Derived.Maps.RangeRun
import Derived.Deep.LoopGhost
set_option linter.unusedVariables false
set_option linter.unusedSimpArgs false
namespace Go.Ab
open Go.Op
open Go.ChangeMaps (setBlock)
def Vg(d:Nat)(x:Opd):M:=Eb x fun u=>match u with
 | .map ks vs=>Ay d (.mit ks vs (List.range ks.length) none)
 |_=>.fail
def Mq(d:Nat)(x:Opd):M:=match x with
 | .t n=>.get n fun ver sv=>match sv with
   | .mit ks vs left _=>.need (d≠n) fun _=>.ite left.isEmpty (setD (some d) (.tup [.i (.bool false)]) .done)
    (.any left fun i=>match ks[i]? with
      |some k=>match vs[i]? with
       |some v=>match v with
        | .it y=>.set n (ver+1) (.mit ks vs (left.erase i) (some i)) (setD (some d) (.tup [.i (.bool true),.i k,.i y]) .done)
        |_=>.fail
       |none=>.fail
      |none=>.fail)
   |_=>.fail
 |_=>.fail
def P3(d:Nat)(x:Opd):M:=match x with
 | .t n=>.get n fun _ sv=>match sv with
   | .mit ks vs _ cur=>match cur with
     |some i=>match ks[i]? with
      |some k=>match vs[i]? with
       |some v=>match v with
        | .it y=>setD (some d) (.tup [.i k,.i y]) .done
        |_=>.fail
       |none=>.fail
      |none=>.fail
     |none=>.fail
   |_=>.fail
 |_=>.fail
section
variable{P:Program}{N:Nat}{G:Mem}{σ:Lab}{Fr:Mem}{w0:Base}{w:World}{st:St}{a:Act}
theorem V3{o:Oper}{d:Nat}{t:TypeId}{x:Operand}{x':Opd}(hd:o.dst=some d)(ho:o.op= .range t x)(hx:Ac N x x'=true)(ht:Vc P t=true):Sound P N o (Vg d x'):=by
 intro G σ Fr w0 st a w Q next E hN hr hw hn hdst
 subst hN;unfold Vc at ht;split at ht
 case h_2=>cases ht
 rename_i tk tv hu;obtain⟨u,G',σ',st',hG,hr',h1,hf⟩:=Nu hr hx hw;split at h1
 ·rename_i ks vs;obtain⟨bs,f1,f2,f3,f4⟩:=hf;rw[Bh f2]at f1;simp only[RepD]at f1;obtain⟨b,es,clock,kc,vc,bs0,e1,hb,rfl,rfl,hks,hvs,hp,hlt,rfl⟩:=f1;injection e1 with e1
  have he:a.eval x= .map (some b):=e1;have hl:es.toList.length=ks.length:=by
   have:=hks.get.1;simpa using this.symm
  let o':Obj:=.mapIter (some b) clock #[] clock
  have hr1:Rel G' σ' Fr w0 st' a (w.alloc o'):=hr'.grow rfl rfl rfl (by simp) fun b hb=>B8 w _ b hb
  obtain⟨g1,g2,g3⟩:=hr'.wok.fresh (Nat.le_refl w.heap.size);have hfree:∀x∈w.heap.size::b::bs0,G' x=none∧Fr x=none∧σ' x=none∧x<(w.alloc o').heap.size:=by
   intro x hx;rcases List.mem_cons.1 hx with rfl|hx
   ·exact⟨g1,g2,g3,by simp⟩
   ·obtain⟨k1,k2,k3,k4⟩:=f4 x hx;exact⟨k1,k2,k3,by simp;omega⟩
  have hnd:(w.heap.size::b::bs0).Nodup:=List.nodup_cons.2 ⟨fun hm=>by
   have:=(f4 _ hm).2.2.2;omega,f3⟩
  simp only[Ay,M.wp]at h1;cases hds:st'[d]? with
  |none=>simp[hds]at h1
  |some cur=>
   simp only[hds]at h1;have hok:WOk G' ((σ'.drop d).adopt d 0 (w.heap.size::b::bs0)) Fr w0 (w.alloc o'):=(hr1.wok.drop d).adopt (fun b k hb=>absurd rfl (Lab.drop_some.1 hb).1) fun x hx=>⟨(hfree x hx).1,(hfree x hx).2.1,(hfree x hx).2.2.2⟩
   have hold:∀x,x<w.heap.size→(w.alloc o').heap[x]?=w.heap[x]?:=fun x hx=>B8 w _ x hx
   have hfin:Rel G' ((σ'.drop d).adopt d 0 (w.heap.size::b::bs0)) Fr w0 (st'.set d (cur.1+1,.mit ks vs (List.range ks.length) none)) (a.put (some d) (.pointer (some ⟨w.heap.size,0,none⟩))) (w.alloc o'):=by
    refine hr1.put (new:=.mit ks vs (List.range ks.length) none) (ver:=cur.1+1) (hdst d hd) hok (Mem.le.refl G') hds (Nat.lt_succ_self _) ?_ ?_ (fun h e=>by cases e) (fun inv t e=>by cases e)
    ·intro s' hs' x k hx;refine⟨?_,rfl⟩;rw[Lab.adopt_old]
     ·exact Lab.drop_some.2 ⟨hs',hx⟩
     ·intro hm;rw[(hfree x hm).2.2.1]at hx;cases hx
    ·exact⟨w.heap.size,b,clock, #[],es,bs0,rfl,heap_alloc_new w _,by rw[hold b (f4 b (by simp)).2.2.2];exact hb,hks,hvs.tr (Mem.le.refl G') fun x hx=>hold x (f4 x (by simp[hx])).2.2.2,fun x hx=>⟨_,Lab.adopt_new hx⟩,hnd,hp,hlt,
      List.nodup_range,fun i hi=>by rw[hl];exact List.mem_range.1 hi,fun i e hie=>by
       have:=(List.getElem?_eq_some_iff.1 hie).1;rw[hl]at this;simp[this],fun i e=>by cases e⟩
   refine An (w':=w.alloc o') ?_ (by rw[hd];exact hn G' _ _ _ _ hG hfin h1)
   simp[execOp,ho,he,run_range_map w t tk tv b es clock hu hb,o']
 ·exact h1.elim
theorem Mv{es:Array MapEntry}{seen:Array Nat}{e:MapEntry}:e∈(leftOf es seen).toList↔e∈es.toList∧seen.contains e.born=false:=by
 simp[leftOf]
theorem Uz{o:Oper}{d:Nat}{x:Operand}{x':Opd}(hd:o.dst=some d)(ho:o.op= .next x false)(hx:Ac N x x'=true):Sound P N o (Mq d x'):=by
 intro G σ Fr w0 st a w Q next E hN hr hw hn hdst
 subst hN;cases x' with
 |c _=>exact hw.elim
 |nils _ _=>exact hw.elim
 |t n=>
  obtain⟨rfl,hnlt⟩:=A7 hx;simp only[Mq,M.wp]at hw;cases hs:st[n]? with
  |none=>simp[hs]at hw
  |some cur=>
   obtain⟨ver,sv⟩:=cur;simp only[hs]at hw;have hrep:=hr.slot hnlt hs;split at hw
   ·rename_i ks vs left cur0;obtain⟨hne,h1,h2⟩:=hw;obtain⟨g,b,clock,seen,es,bs,hc,hg,hb,hks,hvs,hlab,hnd,hp,hlt,hln,hll,hlf,hcur⟩:=hrep;have hgb:g≠b:=fun e=>by
     have:=(List.nodup_cons.1 hnd).1;simp[e]at this
    have hgbs:∀x∈bs,x≠g:=fun x hx e=>by
     have:=(List.nodup_cons.1 hnd).1;exact this (by simp[←e,hx])
    rcases run_next_at (P:=P) w o.type g b clock clock seen es clock hg hb hlt (Nat.le_refl _)with⟨h0,hrun⟩|⟨e,he,w1,hal,hrun⟩
    ·have hle:left.isEmpty=true:=by
      cases left with
      |nil=>rfl
      |cons i r=>
       obtain⟨e,hie⟩:∃e,es.toList[i]?=some e:=⟨_,List.getElem?_eq_getElem (hll i (by simp))⟩
       have h3:=(hlf i e hie).1 (by simp)
       have:e∈(leftOf es seen).toList:=Mv.2 ⟨List.mem_of_getElem? hie,h3⟩;rw[Array.eq_empty_of_size_eq_zero h0]at this;cases this
     obtain⟨σ',st',r1,r2⟩:=hr.setD (d:=some d) (by rintro _ ⟨⟩;exact hdst d hd) (sv:=.tup [.i (.bool false)]) (c:=.tuple #[.bool false]) (fun d' hd ver _=>⟨_,rfl,_,_,rfl,RepV.bool.2 rfl,rfl⟩) (h1 hle)
     refine An (w':=w) ?_ (by rw[hd];exact hn G σ' st' _ w (Mem.le.refl G) r1 r2)
     simp only[execOp,ho,hc,hrun,Sem.run_bind,Result.andThen,Sem.run_pure]
    ·obtain⟨hem,hes⟩:=Mv.1 he;obtain⟨i,hie⟩:=List.getElem?_of_mem hem;have hil:i∈left:=(hlf i e hie).2 hes;have hle:left.isEmpty=false:=by
      cases left with
      |nil=>cases hil
      |cons _ _=>rfl
     have h3:=(h2 hle).out i hil;dsimp only at h3;split at h3
     case h_2=>exact h3.elim
     rename_i k hki;split at h3
     case h_2=>exact h3.elim
     rename_i v hvi;split at h3
     case h_2=>exact h3.elim
     rename_i y;obtain⟨_,q0⟩:=hks.get;obtain⟨kv,q1,q2,q3⟩:=q0 i k hki;rw[List.getElem?_map,hie]at q1;cases q1;obtain⟨vv,b1,bi,b2,p1,_,p2,p3,_⟩:=hvs.nth hvi;rw[List.getElem?_map,hie]at p1;cases p1;simp only[RepD]at p3;have hkv:=Vq q3 q2;have hyv:=Vq p3.1 p2;have hr0:Rel G σ Fr w0 st a w1:=by
      rcases hal with rfl|rfl
      ·exact hr
      ·exact hr.drew
     have hh1:w1.heap=w.heap:=by rcases hal with rfl|rfl<;>rfl
     let o':Obj:=.mapIter (some b) clock (seen.push e.born) clock
     have hset:(setBlock w1 g o').heap[g]?=some o'∧∀r',r'≠g→(setBlock w1 g o').heap[r']?=w1.heap[r']?:=MapKept.heap_set (w:=w1) (o':=o') (by rw[hh1];exact hg)
     obtain⟨kg,hkg⟩:=hlab g (by simp)
     obtain⟨k1,k2,k3⟩:=hr0.wok.own g _ hkg;have hok:WOk G σ Fr w0 (setBlock w1 g o'):=by
      refine⟨?_,?_,hr0.wok.inj,?_,hr0.wok.os,hr0.wok.tape,hr0.wok.output,?_,hr0.wok.apart,hr0.wok.amb⟩
      ·intro b' o1 h;rw[hset.2 b' (by rintro rfl;rw[k1]at h;cases h)]
       exact hr0.wok.fixed b' o1 h
      ·intro b' lab h;obtain⟨q1,q2,q3⟩:=hr0.wok.own b' lab h;exact⟨q1,q2,by simpa[setBlock]using q3⟩
      ·intro b' o1 h;rw[hset.2 b' (by rintro rfl;rw[k2]at h;cases h)]
       exact hr0.wok.frame b' o1 h
      ·have:=hr0.wok.size;simpa[setBlock]using this
     have hv:val a w0 n=a.eval (.tmp n):=Bc (by rw[hr.n];exact hnlt)
     have hinj:∀j e',es.toList[j]?=some e'→(e'.born=e.born↔j=i):=by
      intro j e' hj;refine⟨fun hb'=>?_,fun hji=>by subst hji;rw[hie]at hj;cases hj;rfl⟩
      rcases Nat.lt_trichotomy j i with h|h|h
      ·have:=List.pairwise_iff_getElem.1 hp j i (by have:=(List.getElem?_eq_some_iff.1 hj).1;simpa using this) (by have:=(List.getElem?_eq_some_iff.1 hie).1;simpa using this) h
       simp only[List.getElem_map]at this;rw[(List.getElem?_eq_some_iff.1 hj).2,(List.getElem?_eq_some_iff.1 hie).2]at this;omega
      ·exact h
      ·have:=List.pairwise_iff_getElem.1 hp i j (by have:=(List.getElem?_eq_some_iff.1 hie).1;simpa using this) (by have:=(List.getElem?_eq_some_iff.1 hj).1;simpa using this) h
       simp only[List.getElem_map]at this;rw[(List.getElem?_eq_some_iff.1 hj).2,(List.getElem?_eq_some_iff.1 hie).2]at this;omega
     have hr1:Rel G σ Fr w0 (st.set n (ver+1,.mit ks vs (left.erase i) (some i))) a (setBlock w1 g o'):=by
      refine Rel.self hr0 hok (Mem.le.refl G) hs (Nat.lt_succ_self _) ?_ ?_
      ·intro s' hs' b' k hb';refine⟨hb',hset.2 b' ?_⟩;rintro rfl;rw[hkg]at hb';cases hb';exact hs' rfl
      ·refine⟨g,b,clock,seen.push e.born,es,bs,by rw[hv];exact hc,hset.1,?_,hks,?_,hlab,hnd,hp,hlt,hln.erase i,fun j hj=>hll j (List.mem_of_mem_erase hj),?_,?_⟩
       ·rw[hset.2 b (Ne.symm hgb),hh1];exact hb
       ·exact hvs.tr (Mem.le.refl G) fun x hx=>by rw[hset.2 x (hgbs x hx),hh1]
       ·intro j e' hj;rw[hln.mem_erase_iff,hlf j e' hj];have h5:=hinj j e' hj;simp only[Array.contains_eq_mem,Array.mem_push,decide_eq_false_iff_not,not_or];constructor
        ·rintro⟨h6,h7⟩;exact⟨h7,fun h8=>h6 (h5.1 h8)⟩
        ·rintro⟨h6,h7⟩;exact⟨fun h8=>h7 (h5.2 h8),h6⟩
       ·intro j hj;cases hj;exact⟨e,seen,hie,rfl⟩
     obtain⟨σ',st',r1,r2⟩:=hr1.setD (d:=some d) (by rintro _ ⟨⟩;exact hdst d hd) (sv:=.tup [.i (.bool true),.i k,.i y]) (c:=.tuple #[.bool true,e.key,e.val]) (fun d' _ ver _=>
      ⟨_,rfl,_,_,rfl,RepV.bool.2 rfl,_,_,rfl,hkv,_,_,rfl,hyv,rfl⟩) h3
     refine An (w':=setBlock w1 g o') ?_ (by rw[hd];exact hn G σ' st' _ _ (Mem.le.refl G) r1 r2)
     simp only[execOp,ho,hc,hrun,Sem.run_bind,Result.andThen,Sem.run_pure,o']
   ·exact hw.elim
theorem V2{o:Oper}{d:Nat}{x:Operand}{x':Opd}(hd:o.dst=some d)(ho:o.op= .entry x)(hx:Ac N x x'=true):Sound P N o (P3 d x'):=by
 intro G σ Fr w0 st a w Q next E hN hr hw hn hdst
 subst hN;cases x' with
 |c _=>exact hw.elim
 |nils _ _=>exact hw.elim
 |t n=>
  obtain⟨rfl,hnlt⟩:=A7 hx;simp only[P3,M.wp]at hw;cases hs:st[n]? with
  |none=>simp[hs]at hw
  |some cur=>
   obtain⟨ver,sv⟩:=cur;simp only[hs]at hw;have hrep:=hr.slot hnlt hs;split at hw
   ·rename_i ks vs left cur0;split at hw
    case h_2=>exact hw.elim
    rename_i i;split at hw
    case h_2=>exact hw.elim
    rename_i k hki;split at hw
    case h_2=>exact hw.elim
    rename_i v hvi;split at hw
    case h_2=>exact hw.elim
    rename_i y;obtain⟨g,b,clock,seen,es,bs,hc,hg,hb,hks,hvs,hlab,hnd,hp,hlt,hln,hll,hlf,hcur⟩:=hrep;obtain⟨e,seen0,hie,rfl⟩:=hcur i rfl;obtain⟨_,q0⟩:=hks.get;obtain⟨kv,q1,q2,q3⟩:=q0 i k hki;rw[List.getElem?_map,hie]at q1;cases q1;obtain⟨vv,b1,bi,b2,p1,_,p2,p3,_⟩:=hvs.nth hvi;rw[List.getElem?_map,hie]at p1;cases p1;simp only[RepD]at p3;have hkv:=Vq q3 q2;have hyv:=Vq p3.1 p2;have hrun:=run_entry_at (P:=P) w g b clock seen0 es clock e hg hb (List.mem_of_getElem? hie) (hp.imp fun h=>Nat.ne_of_lt h)
    obtain⟨σ',st',r1,r2⟩:=hr.setD (d:=some d) (by rintro _ ⟨⟩;exact hdst d hd) (sv:=.tup [.i k,.i y]) (c:=.tuple #[e.key,e.val]) (fun d' _ ver _=>
     ⟨_,rfl,_,_,rfl,hkv,_,_,rfl,hyv,rfl⟩) hw
    refine An (w':=w) ?_ (by rw[hd];exact hn G σ' st' _ _ (Mem.le.refl G) r1 r2)
    simp only[execOp,ho,hc,hrun,Sem.run_bind,Result.andThen,Sem.run_pure]
   ·exact hw.elim
end

inductive IOp where
 |mv (d:Nat) (x:Opd)
 |asg (d:Nat) (x:Opd)
 |bin (d:Nat) (op:BinOp) (x y:Opd)
 |not (d:Nat) (x:Opd)
 |pick (d:Nat) (c x y:Opd)
 |load (d:Nat) (agg:Bool) (sz:Nat) (x:Opd)
 |store (sz:Nat) (x y:Opd)
 |alloc (d:Nat) (t:T)
 |box (d:Nat) (x:Opd)
 |faddr (d:Nat) (x:Opd) (i off:Nat)
 |iaddr (d:Nat) (sz:Nat) (x i:Opd)
 |len (d:Nat) (str:Bool) (x:Opd)
 |slc (d:Nat) (str:Bool) (sz:Nat) (x:Opd) (lo hi:Option Opd)
 |b2s (d:Nat) (x:Opd)
 |build (d:Nat) (zs:List I) (ps:List (Nat × Opd))
 |bsl (d:Nat) (e:TypeId) (sz:Nat) (z:I) (n:Nat) (ps:List (Nat × Opd))
 |ext (d:Nat) (x:Opd) (i:Nat)
 |mm (d:Nat) (max:Bool) (x y:Opd)
 |app (d:Nat) (e:TypeId) (sz bytes:Nat) (x y:Opd)
 |sidx (d:Nat) (x i:Opd)
 |loadB (d:Nat) (agg:Bool) (sz:Nat) (x:Opd)
 |allocD (d:Nat) (t:D)
 |boxD (d:Nat) (x:Opd)
 |buildD (d:Nat) (zs:List D) (ps:List (Nat × Opd))
 |bslD (d:Nat) (e:TypeId) (sz:Nat) (z:I) (n:Nat) (ps:List (Nat × Opd))
 |bits (d:Nat) (op:BinOp) (x y:Opd)
 |conv (d:Nat) (k:IntKind) (x:Opd)
 |nchk (d:Nat) (x:Opd)
 |movD (d:Nat) (x:Opd)
 |rngS (d:Nat) (x:Opd)
 |nextS (d:Nat) (x:Opd)
 |rngM (d:Nat) (x:Opd)
 |nextM (d:Nat) (x:Opd)
 |entM (d:Nat) (x:Opd)
 |pnil (d:Nat) (neg:Bool) (x:Opd)
 |mkmap (d:Nat)
 |mget (d:Nat) (z:I) (ok:Bool) (x k:Opd)
 |mupd (m k v:Opd)
 |mlen (d:Nat) (x:Opd)
 |dead (d:Option Nat)
 deriving Inhabited
def IOp.sem:IOp→M
 | .mv d x=>Vd x (Ack (some d) x) (Z4 (some d) x)
 | .asg d x=>Ks d x
 | .bin d op x y=>Ace (some d) op x y
 | .not d x=>Acn (some d) x
 | .pick d c x y=>Y1 (some d) c x y
 | .load d agg sz x=>Zq x (.need (agg=false∧sz=1) fun _=>Np (some d) x) (Cn x (V9 (some d) agg sz x) (Yu (some d) agg sz x))
 | .loadB d agg sz x=>V6 (some d) agg sz x
 | .allocD d t=>Tb d t
 | .boxD d x=>Yp d x
 | .buildD d zs ps=>Te d zs ps
 | .bslD d e sz z n ps=>Rp d e sz z n ps
 | .store sz x y=>Cn x (Ti sz x y) (Wf sz x y)
 | .alloc d t=>Tc d t
 | .box d x=>Zr x (Yq d x) (Acf d x)
 | .faddr d x i off=>Cn x (Tf (some d) x i off) (V4 (some d) x i off)
 | .iaddr d sz x i=>Cn x (Th (some d) sz x i) (Uh x (Tg (some d) sz x i) (V5 (some d) sz x i))
 | .len d str x=>Cn x (Yt (some d) str x) (match str with
   |true=>Rs (some d) true x
   |false=>Uh x (Sm (some d) x) (Rs (some d) false x))
 | .slc d str sz x lo hi=>Cn x (Y4 (some d) str sz x lo hi) (Qg (some d) str sz x lo hi)
 | .b2s d x=>Vy d x
 | .build d zs ps=>Vz (some d) zs ps
 | .bsl d e sz z n ps=>Td d e sz z n ps
 | .ext d x i=>Sj d x i
 | .mkmap d=>Wa d
 | .mget d z ok x k=>Yv d z ok x k
 | .mupd m k v=>Yx m k v
 | .mlen d x=>Yw d x
 | .mm d max x y=>Yk (some d) max x y
 | .app d e sz bytes x y=>Cn x (Si d e sz bytes x y) (Cn y (Si d e sz bytes x y) (Acd d e sz bytes x y))
 | .sidx d x i=>Adh (some d) x i
 | .bits d op x y=>Yn (some d) op x y
 | .conv d k x=>Yr (some d) k x
 | .nchk d x=>Y0 (some d) x
 | .movD d x=>Yz d x
 | .rngS d x=>Y3 d x
 | .nextS d x=>Qf (some d) x
 | .rngM d x=>Vg d x
 | .nextM d x=>Mq d x
 | .entM d x=>P3 d x
 | .pnil d ng x=>Y2 (some d) ng x
 | .dead _=>.fail
def Ar(d:Option Nat)(e:Nat):Bool:=match d with
 |some d=>d==e
 |none=>false
theorem Am{d:Option Nat}{e:Nat}(h:Ar d e=true):d=some e:=by
 unfold Ar at h;split at h
 ·simp only[beq_iff_eq]at h;rw[h]
 ·cases h
def Wy(P:Program)(t:TypeId):Bool:=match P.underlying t with
 |some (.map tk _)=>match P.underlying tk with
  |some .string=>true
  |_=>false
 |_=>false
theorem X9{P:Program}{t:TypeId}(h:Wy P t=true):∃tk tv,P.underlying t=some (.map tk tv)∧P.underlying tk=some .string:=by
 unfold Wy at h;split at h
 ·rename_i tk tv hu;split at h
  ·rename_i hk;exact⟨_,_,hu,hk⟩
  ·cases h
 ·cases h
def chk(P:Program)(N:Nat)(o:Oper)(i:IOp):Bool:=match o.op,i with
 | .index t x i,.sidx d x' i'=>Ar o.dst d&&Ac N x x'&&Ac N i i'&&(match P.underlying t with
  |some .string=>true
  |_=>false)
 | .move x,.mv d y| .assign x,.mv d y=>Ar o.dst d&&Ac N x y
 | .move x,.asg d y| .assign x,.asg d y=>Ar o.dst d&&Ac N x y
 | .binOp op _ x y _,.bits d op' x' y'=>Ar o.dst d&&decide (op=op')&&Ac N x x'&&Ac N y y'
 | .convert src dst x,.conv d k x'=>Ar o.dst d&&Ac N x x'&&U0 P dst k src
 | .binOp op _ x y _,.bin d op' x' y'=>Ar o.dst d&&decide (op=op')&&Ac N x x'&&Ac N y y'
 | .unOp .not _ x,.not d x'=>Ar o.dst d&&Ac N x x'
 | .pick c x y,.pick d c' x' y'=>Ar o.dst d&&Ac N c c'&&Ac N x x'&&Ac N y y'
 | .load t x,.load d agg sz x'=>Ar o.dst d&&Ac N x x'&&tyOk P t agg sz
 | .load t x,.loadB d agg sz x'=>Ar o.dst d&&Ac N x x'&&tyOk P t agg sz
 | .store t x y,.store sz x' y'=>o.dst.isNone&&Ac N x x'&&Ac N y y'&&(tyOk P t true sz||tyOk P t false sz)
 | .alloc e,.alloc d t=>Ar o.dst d&&W6 P e t
 | .alloc e,.allocD d t=>Ar o.dst d&&Sn P e t
 | .box _ x,.box d x'=>Ar o.dst d&&Ac N x x'
 | .box _ x,.boxD d x'=>Ar o.dst d&&Ac N x x'
 | .fieldAddr t x i,.faddr d x' i' off=>Ar o.dst d&&Ac N x x'&&i==i'&&Ke P t i off
 | .indexAddr t x i,.iaddr d sz x' i'=>Ar o.dst d&&Ac N x x'&&Ac N i i'&&Cq P t sz
 | .slice t x lo hi none,.slc d str sz x' lo' hi'=>Ar o.dst d&&Ac N x x'&&oOk N lo lo'&&oOk N hi hi'&&Pc P t str sz
 | .convert src dst x,.b2s d x'=>Ar o.dst d&&Ac N x x'&&Zd P src dst
 | .build t ps,.build d zs ps'=>Ar o.dst d&&Cc N ps.toList ps'&&R7 P t zs
 | .build t ps,.buildD d zs ps'=>Ar o.dst d&&Cc N ps.toList ps'&&Px P t zs
 | .buildSlice t n ps,.bslD d e sz z n' ps'=>Ar o.dst d&&n==n'&&Cc N ps.toList ps'&&F4 P t e sz z n
 | .buildSlice t n ps,.bsl d e sz z n' ps'=>Ar o.dst d&&n==n'&&Cc N ps.toList ps'&&F4 P t e sz z n
 | .extract x i,.ext d x' i'=>Ar o.dst d&&Ac N x x'&&i==i'
 | .nilCheck x,.nchk d x'=>Ar o.dst d&&Ac N x x'
 | .move x,.movD d y| .assign x,.movD d y=>Ar o.dst d&&Ac N x y
 | .range t x,.rngS d x'=>Ar o.dst d&&Ac N x x'&&(match P.underlying t with
  |some .string=>true
  |_=>false)
 | .next x true,.nextS d x'=>Ar o.dst d&&Ac N x x'
 | .range t x,.rngM d x'=>Ar o.dst d&&Ac N x x'&&Vc P t
 | .next x false,.nextM d x'=>Ar o.dst d&&Ac N x x'
 | .entry x,.entM d x'=>Ar o.dst d&&Ac N x x'
 | .binOp .eql t x y _,.pnil d false x'=>Ar o.dst d&&Ac N x x'&&Rm P t y
 | .binOp .neq t x y _,.pnil d true x'=>Ar o.dst d&&Ac N x x'&&Rm P t y
 | .makeMap _ none,.mkmap d=>Ar o.dst d
 | .lookup t x k ok,.mget d z ok' x' k'=>Ar o.dst d&&ok==ok'&&Zu P t z&&Ac N x x'&&Ac N k k'
 | .mapUpdate t m k v,.mupd m' k' v'=>o.dst.isNone&&Wy P t&&Ac N m m'&&Ac N k k'&&Ac N v v'
 | .call {callee:=.builtin b,args,argTypes},i=>match b,args.toList,argTypes.toList,i with
   | .len,[x],[t],.mlen d x'=>Ar o.dst d&&Vc P t&&Ac N x x'
   | .len,[x],[t],.len d str x'=>Ar o.dst d&&Ac N x x'&&Jp P t str
   | .max,[x,y],_,.mm d true x' y'=>Ar o.dst d&&Ac N x x'&&Ac N y y'
   | .min,[x,y],_,.mm d false x' y'=>Ar o.dst d&&Ac N x x'&&Ac N y y'
   | .append,[x,y],[t,u],.app d e sz bytes x' y'=>Ar o.dst d&&t==u&&Ac N x x'&&Ac N y y'&&Qo P t e sz bytes
   |_,_,_,.dead _=>true
   |_,_,_,_=>false
 |_,.dead _=>true
 |_,_=>false
theorem Hm{α:Type}{a:Array α}{x:α}(h:a.toList=[x]):a= #[x]:=by cases a;simp_all
theorem Hn{α:Type}{a:Array α}{x y:α}(h:a.toList=[x,y]):a= #[x,y]:=by cases a;simp_all
theorem Abc{P:Program}{N:Nat}{o:Oper}{i:IOp}(h:chk P N o i=true):Sound P N o i.sem:=by
 unfold chk at h;split at h;all_goals try(simp only[Bool.and_eq_true,beq_iff_eq,decide_eq_true_eq,Bool.or_eq_true]at h)
 ·rename_i ho;obtain⟨⟨⟨h1,h2⟩,h3⟩,h4⟩:=h;have hd:=Am h1;split at h4
  ·rename_i hu;have:=Aau (P:=P) ho h2 h3 hu;rwa [hd]at this
  ·cases h4
 ·rename_i ho;have hd:=Am h.1;have k1:=Wt (P:=P) (.inl ho) h.2;have k2:=Tr (P:=P) (.inl ho) h.2;rw[hd]at k1 k2;exact Rx k2 k1
 ·rename_i ho;have hd:=Am h.1;have k1:=Wt (P:=P) (.inr ho) h.2;have k2:=Tr (P:=P) (.inr ho) h.2;rw[hd]at k1 k2;exact Rx k2 k1
 ·rename_i ho;exact Nr (Am h.1) (.inl ho) h.2
 ·rename_i ho;exact Nr (Am h.1) (.inr ho) h.2
 ·rename_i ho;obtain⟨⟨⟨h1,rfl⟩,h2⟩,h3⟩:=h;have hd:=Am h1;have:=Z8 (P:=P) ho h2 h3;rwa [hd]at this
 ·rename_i ho;obtain⟨⟨h1,h2⟩,h3⟩:=h;have hd:=Am h1;have:=Aad (P:=P) ho h2 h3;rwa [hd]at this
 ·rename_i ho;obtain⟨⟨⟨h1,rfl⟩,h2⟩,h3⟩:=h;have hd:=Am h1;have:=Acw (P:=P) ho h2 h3;rwa [hd]at this
 ·rename_i ho;have hd:=Am h.1;have:=Ac9 (P:=P) ho h.2;rwa [hd]at this
 ·rename_i ho;obtain⟨⟨⟨h1,h2⟩,h3⟩,h4⟩:=h;have hd:=Am h1;have:=Aas (P:=P) ho h2 h3 h4;rwa [hd]at this
 ·rename_i ho;obtain⟨⟨h1,h2⟩,h3⟩:=h;have hd:=Am h1;have h4:=Aak (P:=P) ho h2 h3;have h5:=X1 (P:=P) ho h2 h3;rw[hd]at h4 h5;refine Acy ?_ (Bt h5 h4);intro G σ Fr w0 st a w Q next E hN hr hw hn hdst
  obtain⟨⟨rfl,h6⟩,hw⟩:=hw;have h7:=Wr (P:=P) ho h2 h3 h6;rw[hd]at h7;exact h7 G σ Fr w0 st a w Q next E hN hr hw hn hdst
 ·rename_i ho;obtain⟨⟨h1,h2⟩,h3⟩:=h;have hd:=Am h1;have:=Xy (P:=P) ho h2 h3;rwa [hd]at this
 ·rename_i ho;obtain⟨⟨⟨h1,h2⟩,h3⟩,h4⟩:=h;have hd:o.dst=none:=by simpa using h1
  rcases h4 with h4|h4<;>exact Bt (Wu hd ho h2 h3 h4) (X5 hd ho h2 h3 h4)
 ·rename_i ho;exact Xr (Am h.1) ho h.2
 ·rename_i ho;exact Wj (Am h.1) ho h.2
 ·rename_i ho;exact Adb (Aab (Am h.1) ho h.2) (Acx (Am h.1) ho h.2)
 ·rename_i ho;exact Aaa (Am h.1) ho h.2
 ·rename_i ho;obtain⟨⟨⟨h1,h2⟩,rfl⟩,h3⟩:=h;have hd:=Am h1;have k1:=Xw (P:=P) ho h2 h3;have k2:=Wo (P:=P) ho h2 h3;rw[hd]at k1 k2;exact Bt k2 k1
 ·rename_i ho;obtain⟨⟨⟨h1,h2⟩,h3⟩,h4⟩:=h;have hd:=Am h1;have k1:=Xx (P:=P) ho h2 h3 h4;have k2:=Wq (P:=P) ho h2 h3 h4;have k3:=Wp (P:=P) ho h2 h3 h4;rw[hd]at k1 k2 k3;exact Bt k2 (Tp k3 k1)
 ·rename_i ho;obtain⟨⟨⟨⟨h1,h2⟩,h3⟩,h4⟩,h5⟩:=h;have hd:=Am h1;have k1:=X4 (P:=P) ho h2 h3 h4 h5;have k2:=Aav (P:=P) ho h2 h3 h4 h5;rw[hd]at k1 k2;exact Bt k2 k1
 ·rename_i ho;obtain⟨⟨h1,h2⟩,h3⟩:=h;exact Acv (Am h1) ho h2 h3
 ·rename_i ho;obtain⟨⟨h1,h2⟩,h3⟩:=h;have hd:=Am h1;have:=Xt (P:=P) ho h2 h3;rwa [hd]at this
 ·rename_i ho;obtain⟨⟨h1,h2⟩,h3⟩:=h;exact Wm (Am h1) ho h2 h3
 ·rename_i ho;obtain⟨⟨⟨h1,rfl⟩,h3⟩,h4⟩:=h;exact T9 (Am h1) ho h3 h4
 ·rename_i ho;obtain⟨⟨⟨h1,rfl⟩,h3⟩,h4⟩:=h;exact Wk (Am h1) ho h3 h4
 ·rename_i ho;obtain⟨⟨h1,h2⟩,rfl⟩:=h;exact Aaf (Am h1) ho h2
 ·rename_i ho;obtain⟨h1,h2⟩:=h;have hd:=Am h1;have:=Aaq (P:=P) ho h2;rwa [hd]at this
 ·rename_i ho;exact Rw (Am h.1) (.inl ho) h.2
 ·rename_i ho;exact Rw (Am h.1) (.inr ho) h.2
 ·rename_i ho;obtain⟨⟨h1,h2⟩,h3⟩:=h;split at h3
  ·rename_i hu;exact Aat (Am h1) ho h2 hu
  ·cases h3
 ·rename_i ho;obtain⟨h1,h2⟩:=h;have hd:=Am h1;have:=X3 (P:=P) ho h2;rwa [hd]at this
 ·rename_i ho;exact V3 (Am h.1.1) ho h.1.2 h.2
 ·rename_i ho;exact Uz (Am h.1) ho h.2
 ·rename_i ho;exact V2 (Am h.1) ho h.2
 ·rename_i ho;obtain⟨⟨h1,h2⟩,h3⟩:=h;have hd:=Am h1;have:=Ry (P:=P) (neg:=false) ho h2 h3;rwa [hd]at this
 ·rename_i ho;obtain⟨⟨h1,h2⟩,h3⟩:=h;have hd:=Am h1;have:=Ry (P:=P) (neg:=true) ho h2 h3;rwa [hd]at this
 ·rename_i ho;exact X2 (Am h) ho
 ·rename_i ho;obtain⟨⟨⟨⟨h1,rfl⟩,h2⟩,h3⟩,h4⟩:=h;exact Aan (Am h1) ho h2 h3 h4
 ·rename_i ho;obtain⟨⟨⟨⟨h1,h2⟩,h3⟩,h4⟩,h5⟩:=h;obtain⟨tk,tv,hu,hk⟩:=X9 h2;exact Aap (by simpa using h1) ho hu hk h3 h4 h5
 ·rename_i ho;split at h;all_goals try(simp only[Bool.and_eq_true,beq_iff_eq,decide_eq_true_eq,Bool.or_eq_true]at h)
  ·rename_i h1 h2;obtain⟨⟨h3,h4⟩,h5⟩:=h;rw[Hm h1,Hm h2]at ho;exact Aao (Am h3) ho h4 h5
  ·rename_i h1 h2;obtain⟨⟨h3,h4⟩,h5⟩:=h;rw[Hm h1,Hm h2]at ho;have hd:=Am h3;have k1:=Ac4 (P:=P) ho h4 h5;have k2:=Aaj (P:=P) ho h4 h5;rw[hd]at k1 k2;refine Bt k2 ?_;split
   ·exact k1
   ·have k3:=Aai (P:=P) ho h4 h5;rw[hd]at k3;exact Tp k3 k1
  ·rename_i h1;obtain⟨⟨h3,h4⟩,h5⟩:=h;rw[Hn h1]at ho;have hd:=Am h3;have:=Ub (P:=P) (max:=true) ho h4 h5;rwa [hd]at this
  ·rename_i h1;obtain⟨⟨h3,h4⟩,h5⟩:=h;rw[Hn h1]at ho;have hd:=Am h3;have:=Ub (P:=P) (max:=false) ho h4 h5;rwa [hd]at this
  ·rename_i h1 h2;obtain⟨⟨⟨⟨h3,rfl⟩,h4⟩,h5⟩,h6⟩:=h;rw[Hn h1,Hn h2]at ho;have k1:=Acu (P:=P) (Am h3) ho h4 h5 h6;have k2:=Z7 (P:=P) (Am h3) ho h4 h5 h6;exact Bt k2 (Bt k2 k1)
  ·intro G σ Fr w0 st a w Q next E hN hr hw hn hdst;exact hw.elim
  ·cases h
 ·intro G σ Fr w0 st a w Q next E hN hr hw hn hdst;exact hw.elim
 ·cases h

def Pd:List (Bool × Opd)→(List I→M)→M
 | [],k=>k []
 |(false,x)::az,k=>C2 x fun u=>Pd az fun us=>k (u::us)
 |(true,_)::az,k=>Pd az fun us=>k (.und::us)
def Q3(x:Opd)(k:SV→Nat→M):M:=match x with
 | .t n=>.get n fun _ sv=>match sv with
   | .box t=>k (.box t) n
   | .vec e sz l=>k (.vec e sz l) n
   | .pt s kk ver off r=>.get s fun cur sv'=>.need (kk=0∧off=0∧r=[]∧ver=cur) fun _=>match sv' with
     | .box t=>k (.box t) s
     |_=>.fail
   | .par h=>.get h fun _ sv'=>match sv' with
     | .box t=>k (.box t) h
     | .vec e sz l=>k (.vec e sz l) h
     | .own _ t=>k (.own [] t) h
     |_=>.fail
   | .own _ t=>k (.own [] t) n
   | .pd s ver p=>.get s fun cur sv'=>match p,sv' with
     | [0],.own inv (.ptr t)=>.need (alive ver inv [0]=true) fun _=>k (.own [] (.ptr t)) s
     |_,_=>.fail
   |_=>.fail
 |_=>.fail
def Uj(x:Opd)(k:SV→Option Nat→M):M:=match x with
 | .t n=>.get n fun _ sv=>match sv with
   | .bor s kk v=>.get s fun cur sv'=>.need (v=cur) fun _=>match kk,sv' with
     |0,.vec e sz l=>match l with
      | []=>k (.v (.list [])) none
      |y::l'=>.need (sz≠0) fun _=>k (.vec e sz (y::l')) (some s)
     |_,_=>.fail
   |_=>Q3 x fun sv s=>k sv (some s)
 |_=>Q3 x fun sv s=>k sv (some s)
def Hi:List (Bool × Opd)→List I→(List SV→List (Option Nat)→M)→M
 | [],_,k=>k [] []
 |(false,_)::az,us,k=>Hi az us.tail fun svs rs=>k (.v (us.headD .und)::svs) (none::rs)
 |(true,.nils e sz)::az,us,k=>Hi az us.tail fun svs rs=>k (.vec e sz []::svs) (none::rs)
 |(true,x)::az,us,k=>Uj x fun sv s=>Hi az us.tail fun svs rs=>k (sv::svs) (s::rs)
def Hj:List (Option Nat)→List SV→M→M
 |some s::rs,sv::outs,k=>.get s fun ver old=>.set s (ver+1) (sv.freshOf old (ver+1)) (Hj rs outs k)
 |none::rs,_::outs,k=>Hj rs outs k
 |_,_,k=>k
def somes(rs:List (Option Nat)):List Nat:=rs.filterMap id
def setR(d:Option Nat)(r:SV):M:=match d with
 |some d=>Ay d r
 |none=>.done
def N5(d:Option Nat)(f:FuncId)(az:List (Bool × Opd)):M:=Pd az fun us=>Hi az us fun svs rs=>.need ((somes rs).Nodup∧∀d',d=some d'→d' ∉ somes rs) fun _=>
 .call f svs fun r outs=>.need (∀h,r≠ .par h) fun _=>.need (∀sv∈outs,∀h,sv≠ .par h) fun _=>Hj rs outs (setR d r)
def Bw(N:Nat):List Operand→List (Bool × Opd)→Bool
 | [],[]=>true
 |x::l,(_,y)::m=>Ac N x y&&Bw N l m
 |_,_=>false
section
variable{P:Program}{N:Nat}{G:Mem}{σ:Lab}{Fr:Mem}{w0:Base}{w:World}{st:St}{a:Act}
theorem Kb{Q:St→Prop}:∀{xs:List Operand} {az:List (Bool × Opd)} {k:List I→M} {G:Mem} {σ:Lab} {st:St},Rel G σ Fr w0 st a w→Bw w0.n xs az=true→(Pd az k).wp P Q st→
 ∃us G' σ' st',G.le G'∧Rel G' σ' Fr w0 st' a w∧(k us).wp P Q st'∧us.length=az.length∧∀(i:Nat) (y:Opd) (x:Operand) (u:I),az[i]?=some (false,y)→xs[i]?=some x→us[i]?=some u→RepV G' u (a.eval x)
 | [],[],k,G,σ,st,hr,_,hq=>⟨[],G,σ,st,Mem.le.refl G,hr,hq,rfl,by simp⟩
 |x::xs,(false,y)::az,k,G,σ,st,hr,ho,hq=>by
  simp only[Bw,Bool.and_eq_true]at ho;obtain⟨u,G1,σ1,st1,hG,hr1,h1,hv⟩:=C4 hr ho.1 hq;obtain⟨us,G2,σ2,st2,hG2,hr2,h2,hl,hu⟩:=Kb hr1 ho.2 h1;refine⟨u::us,G2,σ2,st2,hG.trans hG2,hr2,h2,by simp[hl],?_⟩
  intro i y' x' u' h3 h4 h5;cases i with
  |zero=>
   simp only[List.getElem?_cons_zero,Option.some.injEq]at h4 h5;subst h4;subst h5;exact hv.mono hG2
  |succ i=>exact hu i y' x' u' (by simpa using h3) (by simpa using h4) (by simpa using h5)
 |x::xs,(true,y)::az,k,G,σ,st,hr,ho,hq=>by
  simp only[Bw,Bool.and_eq_true]at ho;obtain⟨us,G2,σ2,st2,hG2,hr2,h2,hl,hu⟩:=Kb hr ho.2 hq;refine⟨.und::us,G2,σ2,st2,hG2,hr2,h2,by simp[hl],?_⟩
  intro i y' x' u' h3 h4 h5;cases i with
  |zero=>simp at h3
  |succ i=>exact hu i y' x' u' (by simpa using h3) (by simpa using h4) (by simpa using h5)
 | [],_::_,_,_,_,_,_,ho,_=>by cases ho
 |_::_,[],_,_,_,_,_,ho,_=>by simp[Bw]at ho
def SV.lends:SV→Bool
 | .box _| .vec _ _ _| .own _ _=>true
 |_=>false
theorem SV.lends_root{sv:SV}(h:sv.lends=true):sv.root=none:=by cases sv<;>first|rfl|cases h
theorem Abu{x:Operand}{y:Opd}{k:SV→Nat→M}{Q:St→Prop}(h:Rel G σ Fr w0 st a w)(ho:Ac w0.n x y=true)(hq:(Q3 y k).wp P Q st):
 ∃sv s ver,(k sv s).wp P Q st∧st[s]?=some ver∧sv.lends=true∧RepOwn G σ w s sv (a.eval x)∧a.eval x=val a w0 s:=by
 cases y with
 |c _=>exact hq.elim
 |nils _ _=>exact hq.elim
 |t n=>
  obtain⟨rfl,hnlt⟩:=A7 ho;simp only[Q3,M.wp]at hq;cases hs:st[n]? with
  |none=>simp[hs]at hq
  |some cur=>
   obtain⟨ver,sv⟩:=cur;simp only[hs]at hq;have hrep:=h.slot hnlt hs;cases sv with
   |box t=>exact⟨_,n,_,hq,hs,rfl,hrep,(Bc (by rw[h.n];exact hnlt)).symm⟩
   |vec e sz l=>exact⟨_,n,_,hq,hs,rfl,hrep,(Bc (by rw[h.n];exact hnlt)).symm⟩
   |pt s kk ver' off r=>
    obtain⟨cur,h1,h2,h3⟩:=hrep;simp only[M.wp,h1]at hq;obtain⟨⟨rfl,rfl,rfl,hv⟩,hq⟩:=hq;obtain⟨b,h4,h5⟩:=h3 hv;obtain⟨cv,csv⟩:=cur;cases csv with
    |box t=>
     refine⟨_,s,_,hq,h1,rfl,?_⟩;obtain⟨b',cells,ty,k1,k2,k3,k4⟩:=h.slots s cv _ h1;obtain rfl:=h.wok.inj b b' _ h4 k2;exact⟨⟨b,cells,ty,h5,k2,k3,k4⟩,by rw[h5,k1]⟩
    |_=>exact hq.elim
   |own inv t=>exact⟨_,n,_,hq,hs,rfl,hrep,(Bc (by rw[h.n];exact hnlt)).symm⟩
   |pd s ver' p=>
    obtain⟨cur,h1,h2,h3⟩:=hrep;simp only[M.wp,h1]at hq;obtain⟨cv,csv⟩:=cur;simp only at hq;split at hq
    ·rename_i inv t;obtain⟨ha,hq⟩:=hq;have hown:OwnD G σ w s (.ptr t) (val a w0 s):=h.slots s cv _ h1;have e:=hown.pt_eq (h3 inv _ rfl (by simp) ha)
     exact⟨_,s,_,hq,h1,rfl,by rw[e];exact hown,e⟩
    ·exact hq.elim
   |par hh=>
    obtain⟨hv,hle⟩:=h.pars n ver hh hs;rw[Bc (by rw[h.n];exact hnlt)]at hv
    simp only[M.wp]at hq;cases h1:st[hh]? with
    |none=>simp[h1]at hq
    |some cur=>
     obtain⟨cv,csv⟩:=cur;simp only[h1]at hq;have hrep':=h.slots hh cv csv h1;rw[←hv]at hrep';cases csv with
     |box t=>exact⟨_,hh,_,hq,h1,rfl,hrep',hv⟩
     |vec e sz l=>exact⟨_,hh,_,hq,h1,rfl,hrep',hv⟩
     |own inv t=>exact⟨_,hh,_,hq,h1,rfl,hrep',hv⟩
     |_=>exact hq.elim
   |_=>exact hq.elim
theorem Abv{x:Operand}{y:Opd}{k:SV→Option Nat→M}{Q:St→Prop}(h:Rel G σ Fr w0 st a w)(ho:Ac w0.n x y=true)(hq:(Uj y k).wp P Q st):
 ∃sv r,(k sv r).wp P Q st∧((r=none∧∃u,sv= .v u∧RepV G u (a.eval x))∨∃s ver,r=some s∧st[s]?=some ver∧sv.lends=true∧RepOwn G σ w s sv (a.eval x)∧a.eval x=val a w0 s):=by
 have old:(Q3 y fun sv s=>k sv (some s)).wp P Q st→∃sv r,(k sv r).wp P Q st∧((r=none∧∃u,sv= .v u∧RepV G u (a.eval x))∨∃s ver,r=some s∧st[s]?=some ver∧sv.lends=true∧RepOwn G σ w s sv (a.eval x)∧a.eval x=val a w0 s):=by
  intro hq;obtain⟨sv,s,ver,h1,h2⟩:=Abu h ho hq;exact⟨sv,some s,h1,.inr ⟨s,ver,rfl,h2⟩⟩
 cases y with
 |c _=>exact old hq
 |nils _ _=>exact old hq
 |t n=>
  obtain⟨rfl,hnlt⟩:=A7 ho;simp only[Uj,M.wp]at hq;cases hs:st[n]? with
  |none=>simp[hs]at hq
  |some cur=>
   obtain⟨ver,sv⟩:=cur;simp only[hs]at hq;have hrep:=h.slot hnlt hs;cases sv with
   |bor s kk v=>
    obtain⟨cur,g1,g2,g3⟩:=hrep;simp only[M.wp,g1]at hq;obtain⟨hv,hq⟩:=hq;obtain⟨e,sz,l,g4,g5⟩:=g3 hv;obtain⟨cv,csv⟩:=cur;cases kk with
    |succ _=>exact hq.elim
    |zero=>
     cases csv with
     |vec e' sz' l'=>
      cases g4;have hown:VecAt G σ w (s,0) e sz l (val a w0 s):=h.slots s cv _ g1;cases l with
      |nil=>
       obtain⟨ad,cap,hc,hm⟩:=g5.len;refine⟨_,none,hq,.inl ⟨rfl,_,rfl,?_⟩⟩;obtain⟨xs,k1,_⟩:=g5;rcases k1.2 with⟨hc',_⟩|⟨g,cap',cur,hc',_,_,hn,hcm,_⟩
       ·exact RepV.list.2 ⟨none,0,hc',Nat.le_refl _,Nat.zero_le _,.inl rfl⟩
       ·exact RepV.list.2 ⟨_,cap',hc',hn,hcm,.inl rfl⟩
      |cons y l'=>
       obtain⟨hz,hq⟩:=hq;refine⟨_,some s,hq,.inr ⟨s,_,rfl,g1,rfl,g5,?_⟩⟩;obtain⟨b,hb⟩:∃b,σ b=some (s,0):=by
        obtain⟨xs,k1,k2,k3,k4⟩:=g5;rcases k1.2 with⟨_,h0⟩|⟨g,cap',cur,hc',_⟩
        ·simp at h0
        ·exact⟨g,k4 g (by rw[hc'];rfl)⟩
       obtain⟨bl,xs,post,cap,p1,_,_,p2,⟨ty,fz,p3,_⟩,_⟩:=g5.row h.wok hb (by simp)
       obtain⟨bl',xs',post',cap',q1,_,_,q2,⟨ty',fz',q3,_⟩,_⟩:=hown.row h.wok hb (by simp)
       rw[p3]at q3;cases q3;have:cap=cap':=Nat.eq_of_mul_eq_mul_right (Nat.pos_of_ne_zero hz) (p2.symm.trans q2);rw[p1,q1,this]
     |_=>exact hq.elim
   |_=>exact old hq
theorem Gj{Q:St→Prop}(h:Rel G σ Fr w0 st a w):∀{xs:List Operand} {az:List (Bool × Opd)} {us:List I} {k:List SV→List (Option Nat)→M},Bw w0.n xs az=true→us.length=az.length→
 (∀(i:Nat) (y:Opd) (x:Operand) (u:I),az[i]?=some (false,y)→xs[i]?=some x→us[i]?=some u→RepV G u (a.eval x))→(Hi az us k).wp P Q st→
 ∃svs rs,(k svs rs).wp P Q st∧svs.length=xs.length∧rs.length=xs.length∧∀(i:Nat) (sv:SV) (x:Operand),svs[i]?=some sv→xs[i]?=some x→
  (rs[i]?=some none∧((∃u,sv= .v u∧RepV G u (a.eval x))∨∃e sz,sv= .vec e sz []∧a.eval x= .slice none 0 0))∨(∃s ver,rs[i]?=some (some s)∧st[s]?=some ver∧sv.lends=true∧RepOwn G σ w s sv (a.eval x)∧a.eval x=val a w0 s)
 | [],[],us,k,_,_,_,hq=>⟨[],[],hq,rfl,rfl,by simp⟩
 |x::xs,(false,y)::az,us,k,ho,hl,hu,hq=>by
  simp only[Bw,Bool.and_eq_true]at ho;cases us with
  |nil=>simp at hl
  |cons u us=>
   obtain⟨svs,rs,h1,h2,h3,h4⟩:=Gj h ho.2 (by simpa using hl) (fun i y' x' u' a1 a2 a3=>hu (i+1) y' x' u' (by simpa using a1) (by simpa using a2) (by simpa using a3)) hq
   refine⟨.v u::svs,none::rs,h1,by simp[h2],by simp[h3],?_⟩
   intro i sv x' a1 a2;cases i with
   |zero=>
    simp only[List.getElem?_cons_zero,Option.some.injEq]at a1 a2;subst a1;subst a2;exact .inl ⟨rfl,.inl ⟨u,rfl,hu 0 y _ u rfl rfl rfl⟩⟩
   |succ i=>exact h4 i sv x' (by simpa using a1) (by simpa using a2)
 |x::xs,(true,y)::az,us,k,ho,hl,hu,hq=>by
  simp only[Bw,Bool.and_eq_true]at ho;cases us with
  |nil=>simp at hl
  |cons u us=>
   have gen:(Uj y fun sv s=>Hi az us fun svs rs=>k (sv::svs) (s::rs)).wp P Q st→∃svs rs,(k svs rs).wp P Q st∧svs.length=(x::xs).length∧rs.length=(x::xs).length∧∀(i:Nat) (sv:SV) (x':Operand),svs[i]?=some sv→(x::xs)[i]?=some x'→
    (rs[i]?=some none∧((∃u,sv= .v u∧RepV G u (a.eval x'))∨∃e sz,sv= .vec e sz []∧a.eval x'= .slice none 0 0))∨(∃s ver,rs[i]?=some (some s)∧st[s]?=some ver∧sv.lends=true∧RepOwn G σ w s sv (a.eval x')∧a.eval x'=val a w0 s):=by
    intro hq;obtain⟨sv0,r0,g1,g2⟩:=Abv h ho.1 hq;obtain⟨svs,rs,h1,h2,h3,h4⟩:=Gj h ho.2 (by simpa using hl) (fun i y' x' u' a1 a2 a3=>hu (i+1) y' x' u' (by simpa using a1) (by simpa using a2) (by simpa using a3)) g1
    refine⟨sv0::svs,r0::rs,h1,by simp[h2],by simp[h3],?_⟩
    intro i sv x' a1 a2;cases i with
    |zero=>
     simp only[List.getElem?_cons_zero,Option.some.injEq]at a1 a2;subst a1;subst a2;rcases g2 with⟨rfl,u,rfl,g3⟩|⟨s,ver,rfl,g3⟩
     ·exact .inl ⟨rfl,.inl ⟨u,rfl,g3⟩⟩
     ·exact .inr ⟨s,ver,rfl,g3⟩
    |succ i=>exact h4 i sv x' (by simpa using a1) (by simpa using a2)
   cases y with
   |t n=>exact gen hq
   |c z=>exact gen hq
   |nils e sz=>
    obtain⟨svs,rs,h1,h2,h3,h4⟩:=Gj h ho.2 (by simpa using hl) (fun i y' x' u' a1 a2 a3=>hu (i+1) y' x' u' (by simpa using a1) (by simpa using a2) (by simpa using a3)) hq
    refine⟨.vec e sz []::svs,none::rs,h1,by simp[h2],by simp[h3],?_⟩
    intro i sv x' a1 a2;cases i with
    |zero=>
     simp only[List.getElem?_cons_zero,Option.some.injEq]at a1 a2;subst a1;subst a2;exact .inl ⟨rfl,.inr ⟨e,sz,rfl,Ct ho.1⟩⟩
    |succ i=>exact h4 i sv x' (by simpa using a1) (by simpa using a2)
 | [],_::_,_,_,ho,_,_,_=>by cases ho
 |_::_,[],_,_,ho,_,_,_=>by simp[Bw]at ho
theorem Rel.many{G':Mem}{σ':Lab}{w':World}{st':St}(h:Rel G σ Fr w0 st a w)(hok:WOk G' σ' Fr w0 w')(hG:G.le G')(hlen:st'.length=st.length)
 (hs:∀s,(st'[s]?=st[s]?∧Kept σ σ' w w' s)∨∃ver old ver' new,st[s]?=some (ver,old)∧st'[s]?=some (ver',new)∧ver<ver'∧new.root=none∧(∀h,new≠ .par h)∧RepOwn G' σ' w' s new (val a w0 s)∧∀inv t,new= .own inv t→DeadOf old ver' inv t):
 Rel G' σ' Fr w0 st' a w':=by
 have kept:∀s' cur ver,st[s']?=some cur→ver≤cur.1→∃cur',st'[s']?=some cur'∧ver≤cur'.1∧(ver=cur'.1→cur'=cur∧ver=cur.1∧Kept σ σ' w w' s'):=by
  intro s' cur ver hc hv;rcases hs s' with⟨h1,h2⟩|⟨v,old,v',new,h1,h2,h3,_⟩
  ·exact⟨cur,by rw[h1];exact hc,hv,fun e=>⟨rfl,e,h2⟩⟩
  ·rw[hc]at h1;cases h1;exact⟨_,h2,by show ver≤v';simp only at hv;omega,fun e=>by exfalso;simp only at hv;have:ver=v':=e;omega⟩
 refine⟨hok,h.defers,h.n,by rw[hlen];exact h.len,?_,?_⟩
 ·intro s ver sv hsv;rcases hs s with⟨h1,h2⟩|⟨v,old,v',new,h1,h2,h3,h4,_,h5,_⟩
  ·rw[h1]at hsv;have h0:=h.slots s ver sv hsv;generalize val a w0 s=c at h0;cases sv with
   |bor s' k ver'=>
    obtain⟨cur,g1,g2,g3⟩:=h0;obtain⟨cur',k1,k2,k3⟩:=kept s' cur ver' g1 g2;refine⟨cur',k1,k2,fun e=>?_⟩
    obtain⟨rfl,e',hk⟩:=k3 e;obtain⟨e,sz,l,g4,g5⟩:=g3 e';exact⟨e,sz,l,g4,g5.tr hG fun b hb=>hk b k hb⟩
   |sub s' k ver' n=>
    obtain⟨cur,g1,g2,g3⟩:=h0;obtain⟨cur',k1,k2,k3⟩:=kept s' cur ver' g1 g2;refine⟨cur',k1,k2,fun e=>?_⟩
    obtain⟨rfl,e',hk⟩:=k3 e;obtain⟨e,sz,l,g4,g5⟩:=g3 e';exact⟨e,sz,l,g4,g5.tr hG fun b hb=>hk b k hb⟩
   |suf s' k ver' n=>
    obtain⟨cur,g1,g2,g3⟩:=h0;obtain⟨cur',k1,k2,k3⟩:=kept s' cur ver' g1 g2;refine⟨cur',k1,k2,fun e=>?_⟩
    obtain⟨rfl,e',hk⟩:=k3 e;obtain⟨e,sz,l,c0,g4,g5,g6⟩:=g3 e';exact⟨e,sz,l,c0,g4,g5.tr hG fun b hb=>hk b k hb,g6⟩
   |pt s' k ver' off r=>
    obtain⟨cur,g1,g2,g3⟩:=h0;obtain⟨cur',k1,k2,k3⟩:=kept s' cur ver' g1 g2;refine⟨cur',k1,k2,fun e=>?_⟩
    obtain⟨rfl,e',hk⟩:=k3 e;obtain⟨b,g4,g5⟩:=g3 e';exact⟨b,(hk b k g4).1,g5⟩
   |pdt s' ver' p b=>
    obtain⟨c0,hc0,h0⟩:=h0;obtain⟨cur,g1,g2,g3⟩:=h0;refine⟨c0,hc0,?_⟩;rcases hs s' with⟨k1,k2⟩|⟨v,old,v',new,k1,k2,k3,_,_,k5,k6⟩
    ·refine⟨cur,by rw[k1];exact g1,g2,fun inv t e hp ha=>?_⟩
     obtain⟨cv,csv⟩:=cur;simp only at e;subst e;exact(g3 inv t rfl hp ha).tr (show OwnD G σ w s' t (val a w0 s')from h.slots s' cv _ g1) k2
    ·rw[k1]at g1;cases g1;refine⟨_,k2,by simp only at g2 ⊢;omega,fun inv t e hp ha=>?_⟩
     simp only at e;subst e;exact(k6 inv t rfl).pt (by simp only at g2;omega) hp ha (fun i0 t0 e=>show OwnD G σ w s' t0 (val a w0 s')from h.slots s' v (.own i0 t0) (by rw[k1,e])) k5 (fun i0 t0 e ha'=>g3 i0 t0 e hp ha')
   |pd s' ver' p=>
    obtain⟨cur,g1,g2,g3⟩:=h0;rcases hs s' with⟨k1,k2⟩|⟨v,old,v',new,k1,k2,k3,_,_,k5,k6⟩
    ·refine⟨cur,by rw[k1];exact g1,g2,fun inv t e hp ha=>?_⟩
     obtain⟨cv,csv⟩:=cur;simp only at e;subst e;exact(g3 inv t rfl hp ha).tr (show OwnD G σ w s' t (val a w0 s')from h.slots s' cv _ g1) k2
    ·rw[k1]at g1;cases g1;refine⟨_,k2,by simp only at g2 ⊢;omega,fun inv t e hp ha=>?_⟩
     simp only at e;subst e;exact(k6 inv t rfl).pt (by simp only at g2;omega) hp ha (fun i0 t0 e=>show OwnD G σ w s' t0 (val a w0 s')from h.slots s' v (.own i0 t0) (by rw[k1,e])) k5 (fun i0 t0 e ha'=>g3 i0 t0 e hp ha')
   |bs s' ver' p lo n=>
    obtain⟨cur,g1,g2,g3⟩:=h0;rcases hs s' with⟨k1,k2⟩|⟨v,old,v',new,k1,k2,k3,_,_,k5,k6⟩
    ·refine⟨cur,by rw[k1];exact g1,g2,fun e0 inv t e=>?_⟩
     obtain⟨cv,csv⟩:=cur;simp only at e;subst e;exact⟨(g3 e0 inv t rfl).1,(g3 e0 inv t rfl).2.tr (show OwnD G σ w s' t (val a w0 s')from h.slots s' cv _ g1) k2⟩
    ·rw[k1]at g1;cases g1;exact⟨_,k2,by simp only at g2 ⊢;omega,fun e0=>by exfalso;simp only at g2 e0;omega⟩
   |kcl f s' ver' p=>
    obtain⟨g,c0,ty,kk,hc0,hg1,hg2,h0⟩:=h0;obtain⟨cur,g1,g2,g3⟩:=h0;have hgk:=h2 g kk hg1;refine⟨g,c0,ty,kk,hc0,hgk.1,by rw[hgk.2];exact hg2,?_⟩
    rcases hs s' with⟨k1,k2⟩|⟨v,old,v',new,k1,k2,k3,_,_,k5,k6⟩
    ·refine⟨cur,by rw[k1];exact g1,g2,fun inv t e ha=>?_⟩
     obtain⟨cv,csv⟩:=cur;simp only at e;subst e;exact(g3 inv t rfl ha).tr (show OwnD G σ w s' t (val a w0 s')from h.slots s' cv _ g1) k2
    ·rw[k1]at g1;cases g1;refine⟨_,k2,by simp only at g2 ⊢;omega,fun inv t e ha=>?_⟩
     simp only at e;subst e;exact(k6 inv t rfl).hd (by simp only at g2;omega) ha (fun i0 t0 e=>show OwnD G σ w s' t0 (val a w0 s')from h.slots s' v (.own i0 t0) (by rw[k1,e])) k5 (fun i0 t0 e ha'=>g3 i0 t0 e ha')
   |bp s' ver' p=>
    obtain⟨g,c0,ty,kk,hc0,hg1,hg2,h0⟩:=h0;obtain⟨cur,g1,g2,g3⟩:=h0;have hgk:=h2 g kk hg1;refine⟨g,c0,ty,kk,hc0,hgk.1,by rw[hgk.2];exact hg2,?_⟩
    rcases hs s' with⟨k1,k2⟩|⟨v,old,v',new,k1,k2,k3,_,_,k5,k6⟩
    ·refine⟨cur,by rw[k1];exact g1,g2,fun inv t e hp ha=>?_⟩
     obtain⟨cv,csv⟩:=cur;simp only at e;subst e;exact(g3 inv t rfl hp ha).tr (show OwnD G σ w s' t (val a w0 s')from h.slots s' cv _ g1) k2
    ·rw[k1]at g1;cases g1;refine⟨_,k2,by simp only at g2 ⊢;omega,fun inv t e hp ha=>?_⟩
     simp only at e;subst e;exact(k6 inv t rfl).pt (by simp only at g2;omega) hp ha (fun i0 t0 e=>show OwnD G σ w s' t0 (val a w0 s')from h.slots s' v (.own i0 t0) (by rw[k1,e])) k5 (fun i0 t0 e ha'=>g3 i0 t0 e hp ha')
   |ocl fb yb s' ver' p=>
    obtain⟨gb,xb,tb,kb,hb1,hb2,hb3,h0⟩:=h0;obtain⟨g,c0,ty,kk,hc0,hg1,hg2,h0⟩:=h0;obtain⟨cur,g1,g2,g3⟩:=h0;have hgk:=h2 g kk hg1;have hbk:=h2 gb kb hb1;refine⟨gb,xb,tb,kb,hbk.1,by rw[hbk.2];exact hb2,(by first|exact RepI.mono hG yb _ hb3|exact hb3),?_⟩
    refine⟨g,c0,ty,kk,hc0,hgk.1,by rw[hgk.2];exact hg2,?_⟩
    rcases hs s' with⟨k1,k2⟩|⟨v,old,v',new,k1,k2,k3,_,_,k5,k6⟩
    ·refine⟨cur,by rw[k1];exact g1,g2,fun inv t e hp ha=>?_⟩
     obtain⟨cv,csv⟩:=cur;simp only at e;subst e;exact(g3 inv t rfl hp ha).tr (show OwnD G σ w s' t (val a w0 s')from h.slots s' cv _ g1) k2
    ·rw[k1]at g1;cases g1;refine⟨_,k2,by simp only at g2 ⊢;omega,fun inv t e hp ha=>?_⟩
     simp only at e;subst e;exact(k6 inv t rfl).pt (by simp only at g2;omega) hp ha (fun i0 t0 e=>show OwnD G σ w s' t0 (val a w0 s')from h.slots s' v (.own i0 t0) (by rw[k1,e])) k5 (fun i0 t0 e ha'=>g3 i0 t0 e hp ha')
   |bd s' ver' p=>
    obtain⟨cur,g1,g2,g3⟩:=h0;rcases hs s' with⟨k1,k2⟩|⟨v,old,v',new,k1,k2,k3,_,_,k5,k6⟩
    ·refine⟨cur,by rw[k1];exact g1,g2,fun inv t e ha=>?_⟩
     obtain⟨cv,csv⟩:=cur;simp only at e;subst e;exact(g3 inv t rfl ha).tr (show OwnD G σ w s' t (val a w0 s')from h.slots s' cv _ g1) k2
    ·rw[k1]at g1;cases g1;refine⟨_,k2,by simp only at g2 ⊢;omega,fun inv t e ha=>?_⟩
     simp only at e;subst e;exact(k6 inv t rfl).hd (by simp only at g2;omega) ha (fun i0 t0 e=>show OwnD G σ w s' t0 (val a w0 s')from h.slots s' v (.own i0 t0) (by rw[k1,e])) k5 (fun i0 t0 e ha'=>g3 i0 t0 e ha')
   |cl f fs cs=>
    refine RepCl.tr h0 fun s' cu g1=>?_
    rcases hs s' with⟨k1,k2⟩|⟨v,old,v',new,k1,k2,k3,_,_,k5,k6⟩
    ·exact⟨cu,by rw[k1];exact g1,Nat.le_refl _,fun _=>rfl⟩
    ·rw[k1]at g1;cases g1;exact⟨_,k2,by simp only;omega,fun _=>rfl⟩
   |al s' ver'=>
    obtain⟨cu,g1,g2,g3⟩:=h0;rcases hs s' with⟨k1,k2⟩|⟨v,old,v',new,k1,k2,k3,_,_,k5,k6⟩
    ·exact⟨cu,by rw[k1];exact g1,g2,g3⟩
    ·rw[k1]at g1;cases g1;exact⟨_,k2,by simp only at g2 ⊢;omega,fun e=>by exfalso;simp only at g2 e;omega⟩
   |_=>
    rw[RepSV.own rfl]at h0 ⊢;exact RepOwn.tr h0 hG fun b k hb=>h2 b k hb
  ·rw[h2]at hsv;cases hsv;rw[RepSV.own h4];exact h5
 ·intro s ver hh hsv;rcases hs s with⟨h1,h2⟩|⟨v,old,v',new,h1,h2,h3,h4,h5,_⟩
  ·rw[h1]at hsv;exact h.pars s ver hh hsv
  ·rw[h2]at hsv;cases hsv;exact absurd rfl (h5 hh)
theorem H8{Q:St→Prop}{k:M}:∀{rs:List (Option Nat)} {outs:List SV} {st:St},rs.length=outs.length→(somes rs).Nodup→(Hj rs outs k).wp P Q st→
 ∃st',k.wp P Q st'∧st'.length=st.length∧(∀s,s ∉ somes rs→st'[s]?=st[s]?)∧(∀(i:Nat) s sv,rs[i]?=some (some s)→outs[i]?=some sv→∃ver old,st[s]?=some (ver,old)∧st'[s]?=some (ver+1,sv.freshOf old (ver+1)))
 | [],[],st,_,_,h=>⟨st,h,rfl,fun _ _=>rfl,by simp⟩
 |none::rs,sv::outs,st,hl,hn,h=>by
  obtain⟨st',h1,h2,h3,h4⟩:=H8 (rs:=rs) (outs:=outs) (by simpa using hl) (by simpa[somes]using hn) h
  refine⟨st',h1,h2,fun s hs=>h3 s (by simpa[somes]using hs),?_⟩
  intro i s sv' a1 a2;cases i with
  |zero=>simp at a1
  |succ i=>exact h4 i s sv' (by simpa using a1) (by simpa using a2)
 |some s0::rs,sv::outs,st,hl,hn,h=>by
  simp only[Hj,M.wp]at h;have hn':s0 ∉ somes rs∧(somes rs).Nodup:=by simpa[somes]using hn
  cases hs:st[s0]? with
  |none=>simp[hs]at h
  |some cur=>
   simp only[hs]at h;obtain⟨st',h1,h2,h3,h4⟩:=H8 (rs:=rs) (outs:=outs) (by simpa using hl) hn'.2 h
   have hlt:s0<st.length:=(List.getElem?_eq_some_iff.1 hs).1;refine⟨st',h1,by simpa using h2,?_,?_⟩
   ·intro s hs';have:s≠s0∧s ∉ somes rs:=by simpa[somes]using hs'
    rw[h3 s this.2,List.getElem?_set_ne (Ne.symm this.1)]
   ·intro i s sv' a1 a2;cases i with
    |zero=>
     simp only[List.getElem?_cons_zero,Option.some.injEq]at a1 a2;subst a1;subst a2;exact⟨cur.1,cur.2,hs,by rw[h3 s0 hn'.1];simp[hlt]⟩
    |succ i=>
     obtain⟨ver,old,k1,k2⟩:=h4 i s sv' (by simpa using a1) (by simpa using a2)
     have hne:s≠s0:=by
      rintro rfl;exact hn'.1 (List.mem_filterMap.2 ⟨some s,List.mem_of_getElem? (by simpa using a1),rfl⟩)
     rw[List.getElem?_set_ne (Ne.symm hne)]at k1;exact⟨ver,old,k1,k2⟩
 | [],_::_,_,hl,_,_=>by simp at hl
 |_::_,[],_,hl,_,_=>by simp at hl
def Lab.inner(σ:Lab)(rs:List (Option Nat)):Lab:=fun b=>match σ b with
 |some (s,k)=>match rs.idxOf? (some s)with
  |some i=>some (i,k)
  |none=>none
 |none=>none
def Mem.inner(Fr:Mem)(σ:Lab)(w:World)(rs:List (Option Nat)):Mem:=fun b=>match σ b with
 |some (s,_)=>if some s∈rs then none else w.heap[b]?
 |none=>Fr b
def Lab.outer(σ σ':Lab)(rs:List (Option Nat)):Lab:=fun b=>match σ b with
 |some (s,k)=>if some s∈rs then(match σ' b with
  |some (i,k)=>match rs[i]? with
   |some (some s)=>some (s,k)
   |_=>none
  |none=>none)else some (s,k)
 |none=>match σ' b with
  |some (i,k)=>match rs[i]? with
   |some (some s)=>some (s,k)
   |_=>none
  |none=>none
theorem Le{rs:List (Option Nat)}{s i:Nat}(hn:(somes rs).Nodup)(h:rs[i]?=some (some s)):rs.idxOf? (some s)=some i:=by
 induction rs generalizing i with
 |nil=>simp at h
 |cons r rs ih=>
  cases i with
  |zero=>
   simp only[List.getElem?_cons_zero,Option.some.injEq]at h;subst h;simp[List.idxOf?_cons]
  |succ i=>
   have h':rs[i]?=some (some s):=by simpa using h
   have hmem:s∈somes rs:=List.mem_filterMap.2 ⟨some s,List.mem_of_getElem? h',rfl⟩;have hne:r≠some s:=by
    rintro rfl;have:s ∉ somes rs∧(somes rs).Nodup:=by simpa[somes]using hn
    exact this.1 hmem
   have hn':(somes rs).Nodup:=by
    cases r with
    |none=>simpa[somes]using hn
    |some r=>have:r ∉ somes rs∧(somes rs).Nodup:=by simpa[somes]using hn
             exact this.2
   rw[List.idxOf?_cons,if_neg (by simpa using hne),ih hn' h']
   rfl
theorem Abn{rs:List (Option Nat)}{s i:Nat}(h:rs.idxOf? (some s)=some i):rs[i]?=some (some s):=by
 induction rs generalizing i with
 |nil=>simp at h
 |cons r rs ih=>
  rw[List.idxOf?_cons]at h;split at h
  ·rename_i hr;simp only[Option.some.injEq]at h;subst h;simpa using hr
  ·cases hi:rs.idxOf? (some s)with
   |none=>simp[hi]at h
   |some j=>
    simp only[hi,Option.map_some,Option.some.injEq]at h;subst h;simpa using ih hi
theorem Dp{rs:List (Option Nat)}{s:Nat}:some s∈rs↔s∈somes rs:=by simp[somes]
end
end Go.Ab
