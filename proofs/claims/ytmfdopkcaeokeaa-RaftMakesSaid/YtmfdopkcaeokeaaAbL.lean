/- Lemmas -/
import Derived.Test.YtmfdopkcaeokeaaAbG
set_option linter.unusedVariables false
set_option linter.unusedSimpArgs false
namespace Go.Ab
open Go.Op
def OwnsO (w:World) (e:TypeId) (sz:Nat) (c:Value) (n:Nat) (xs:List Value):Prop:=
 xs.length=n*sz∧
 ((c= .slice none 0 0∧n=0)∨
  ∃g off cap cur,c= .slice (some ⟨g,off,none⟩) n cap∧Row w g e cur∧(e<1000000→off=0∧cur.size=cap*sz)∧n≤cap∧cap≤maxLen∧off+cap*sz≤cur.size∧(cur.toList.drop off).take (n*sz)=xs)
def Qv (d:Nat) (er:TypeId) (sz bytes:Nat) (x:Opd) (ys:List I):M:=C9 x fun v=>match v with
 | .vec e sz' l=>match Be l with
   |some l0=>.need (sz'=sz∧(l0.length+ys.length)*bytes≤140737488355328∧l0.length+ys.length≤maxLen∧(∀u∈ys,u.size=sz)∧(e<1000000→e=er)) fun _=>Av d (.own [] (.vec e sz ((l0++ys).map D.it)))
   |none=>.fail
 |_=>.fail
def T6 (d:Nat) (er:TypeId) (sz bytes:Nat) (str:Bool) (x y:Opd):M:=match str with
 |true=>Bk y fun u=>match u with
  | .str s=>.need (sz=1) fun _=>Qv d er sz bytes x (s.map He)
  |_=>.fail
 |false=>B9 y fun u=>match u with
  | .list ys=>Qv d er sz bytes x ys
  |_=>.fail
section
variable{P:Program}{N:Nat}{G:Mem}{σ:Lab}{Fr:Mem}{w0:Base}{w:World}{st:St}{a:Act}
theorem T2 (t tx ty er e:TypeId) (i:TypeInfo) (z:Value) (ht:P.underlying t=some (.slice er)) (hi:P.info? er=some i) (hz:i.zero=some z) (hzs:z.cells.size=i.size) (h0:0<i.size)
 (v:Value) (n:Nat) (xs:List Value) (hown:OwnsO w e i.size v n xs) (he:e<1000000→e=er) (x:Value) (m:Nat) (news:List Value) (hs:Src P i.size tx x m news w)
 (h63:n+m≤maxLen) (hbytes:(n+m)*i.bytes≤140737488355328):
 ∃v' w',(Builtin.append_ #[t,tx] ty #[v,x]).run P w= .ok v' w'∧OwnsO w' e i.size v' (n+m) (xs++news)∧w.grownBy w' v.ownBlock∧(v'.ownBlock=v.ownBlock∨v'.ownBlock=some w.heap.size):=by
 have hsmall:n+m≤9223372036854775807:=by simp only[maxLen]at h63;omega
 have hlen:(xs++news).length=(n+m)*i.size:=by rw[List.length_append,hown.1,hs.newsLen,Nat.add_mul]
 have grown:∀(base:Option Addr) (old:Nat),v= .slice base n old→old<n+m→(Builtin.firstCells i.size n (.slice base n old)).run P w.drew= .ok xs.toArray w.drew→
  ∃v' w',(Builtin.append_ #[t,tx] ty #[v,x]).run P w= .ok v' w'∧OwnsO w' e i.size v' (n+m) (xs++news)∧w.grownBy w' v.ownBlock∧(v'.ownBlock=v.ownBlock∨v'.ownBlock=some w.heap.size):=by
  intro base old hv ho hfc
  have hrun:=run_append_grow_src (P:=P) w t tx ty er i z ht hi hz base n old xs hfc x m news hs ho (by omega) (growslice_fits (by omega) hbytes)
  have hge:=grownCap_ge w (n+m) old er
  have hcm:grownCap w (n+m) old er≤maxLen:=grownCap_le_maxLen w (n+m) old er h63
  rw[←hv]at hrun
  have hszn:((xs++news).toArray++Builtin.zeroCells z.cells (grownCap w (n+m) old er - (n+m))).size=grownCap w (n+m) old er*i.size:=by
   simp only[Array.size_append,List.size_toArray,size_zeroCells,hzs,hlen, ←Nat.add_mul]
   congr 1
   omega
  refine⟨_,_,hrun,⟨hlen,.inr ⟨w.heap.size,0,_,_,rfl,⟨er,(0,0),heap_alloc_new w.drew _,.inl rfl,fun h=>⟨(he h).symm,rfl⟩⟩,fun _=>⟨rfl,hszn⟩,hge,hcm,by rw[Nat.zero_add,hszn];exact Nat.le_refl _,?_⟩⟩,⟨rfl,rfl,rfl,by simp,fun k hk _=>Ce w.drew _ k hk⟩,.inr rfl⟩
  ·simp only[Array.toList_append,List.drop_zero]
   rw[←hlen]
   exact List.take_left
 rcases hown.2 with⟨rfl,rfl⟩|⟨g,off,cap,cur,rfl,⟨ty',fz,hg,hfz,hty⟩,hoff,hnc,hcm,hcs,htake⟩
 ·have hx:xs=[]:=List.eq_nil_of_length_eq_zero (by simpa using hown.1)
  subst hx
  by_cases hm:m=0
  ·subst hm
   have hn:news=[]:=List.eq_nil_of_length_eq_zero (by simpa using hs.newsLen)
   subst hn
   refine⟨.slice none 0 0,w,?_,⟨by simp,.inl ⟨rfl,rfl⟩⟩,⟨rfl,rfl,rfl,Nat.le_refl _,fun _ _ _=>rfl⟩,.inl rfl⟩
   have h1:=hs.len w
   have h2:=hs.cells
   rcases hs.kind with⟨e',hk⟩|hk<;>simp[Builtin.append_,run_underlying ht,run_underlying hk,sizeOf,typeInfo,hi,h1,h2]
  ·exact grown none 0 rfl (by omega) (run_firstCells_none w.drew i.size 0 0 0)
 ·by_cases hroom:n+m≤cap
  ·have hfit:off+n*i.size+news.length≤cur.size:=by
    have:n*i.size+m*i.size≤cap*i.size:=by rw[←Nat.add_mul];exact Nat.mul_le_mul_right _ hroom
    rw[hs.newsLen];omega
   have hrun:=run_append_room_src (P:=P) w t tx ty er i ht hi g off n cap x m news hs hroom (fun j hj=>(Cr w g _ cur ty' fz hg (by omega) hfz).1) (fun j hj=>(Cr w g _ cur ty' fz hg (by omega) hfz).2)
   have hset:w.setCells g (off+n*i.size) news=w.setRow g (cur.toList.take (off+n*i.size)++news++cur.toList.drop (off+n*i.size+news.length)).toArray:=by
    have h1:=run_storeCells_cells (P:=P) g (off+n*i.size) news 0 w (fun j hj=>(Cr w g _ cur ty' fz hg (by omega) hfz).1) (fun j hj=>(Cr w g _ cur ty' fz hg (by omega) hfz).2) hs.one
    have h2:=B5 P g (off+n*i.size) ty' fz news 0 cur w hg hfz (by omega) hs.one
    rw[h1]at h2
    simpa using h2
   rw[hset]at hrun
   have hsz:(cur.toList.take (off+n*i.size)++news++cur.toList.drop (off+n*i.size+news.length)).toArray.size=cur.size:=by
    simp only[List.size_toArray,List.length_append,List.length_take,List.length_drop,Array.length_toList]
    omega
   refine⟨_,_,hrun,⟨hlen,.inr ⟨g,off,cap,_,rfl,⟨ty',fz,setRow_heap w g cur _ ty' fz hg,by rw[hsz];exact hfz,hty⟩,fun h=>⟨(hoff h).1,by rw[hsz];exact(hoff h).2⟩,hroom,hcm,by rw[hsz];exact hcs,?_⟩⟩,⟨rfl,rfl,rfl,by simp,fun k _ hk=>setRow_other w g k _ (fun e=>hk (by simp[Value.ownBlock,e]))⟩,.inl rfl⟩
   have ho:off≤cur.toList.length:=by simp;omega
   have htk:cur.toList.take (off+n*i.size)=cur.toList.take off++xs:=by
    rw[←htake,List.take_add]
   rw[htk]
   simp only[List.append_assoc]
   have hl2:(cur.toList.take off).length=off:=by rw[List.length_take];omega
   rw[List.drop_left' hl2, ←List.append_assoc, ←hlen]
   exact List.take_left
  ·refine grown (some ⟨g,off,none⟩) cap rfl (by omega) ?_
   have hl:xs.length=n*i.size:=hown.1
   refine run_firstCells_some w.drew i.size n ⟨g,off,none⟩ n cap xs hl ?_
   intro j u hj
   have h1:w.drew.cell? ((⟨g,off,none⟩:Addr).add j)=cur[off+j]?:=by
    rw[add_lit]
    exact cell_of_row w.drew g (off+j) cur ty' fz hg
   rw[h1]
   have:cur[off+j]?=cur.toList[off+j]?:=by simp
   rw[this]
   rw[←htake,List.getElem?_take]at hj
   split at hj
   ·rw[List.getElem?_drop]at hj;exact hj
   ·cases hj
theorem RepD.ownsO {e:TypeId} {sz:Nat} {l0:List I} {c:Value} {bs:List Nat} (h:RepD G w (.vec e sz (l0.map D.it)) [c] bs):
 ∃xs,OwnsO w e sz c l0.length xs∧RepIs G l0 xs∧(∀x∈l0,x.size=sz)∧((bs=[]∧c.ownBlock=none)∨∃g,bs=[g]∧c.ownBlock=some g):=by
 simp only[RepD]at h
 rcases h with⟨e1,e2,rfl⟩|⟨g,off,cap,cur,xs,bs',e1,q1,q0,q2,q3,q4,q5,q6,q7,rfl⟩
 ·injection e1 with e1
  have:l0=[]:=by simpa using e2
  subst this
  exact⟨[],⟨by simp,.inl ⟨e1,rfl⟩⟩,by simp[RepIs],by simp,.inl ⟨rfl,by rw[e1];rfl⟩⟩
 ·injection e1 with e1
  obtain⟨q6',rfl⟩:=RepDs.its.1 q6
  have hall:∀x∈l0,x.size=sz:=fun x hx=>q7 _ (List.mem_map.2 ⟨x,hx,rfl⟩)
  rw[List.length_map]at e1 q2 q5
  exact⟨xs,⟨by rw[RepIs.length _ _ q6',A0 hall],.inr ⟨g,off,cap,cur,e1,q1,q0,q2,q3,q4,q5⟩⟩,q6',hall,.inr ⟨g,rfl,by rw[e1];rfl⟩⟩
theorem OwnsO.freeD {e:TypeId} {sz:Nat} {l0:List I} {c:Value} {xs:List Value} (h:OwnsO w e sz c l0.length xs) (hr:RepIs G l0 xs) (hs:∀x∈l0,x.size=sz)
 (hb:∀b,c.ownBlock=some b→G b=none∧Fr b=none∧σ b=none):FreeD G σ Fr w (.vec e sz (l0.map D.it)) c:=by
 rcases h.2 with⟨rfl,h0⟩|⟨g,off,cap,cur,rfl,q1,q0,q2,q3,q4,q5⟩
 ·obtain rfl:=List.eq_nil_of_length_eq_zero h0
  exact⟨[],by simp[RepD,Value.cells],rfl,List.nodup_nil,by simp⟩
 ·refine⟨[g],?_,rfl,by simp,?_⟩
  ·simp only[RepD,Value.cells]
   refine .inr ⟨g,off,cap,cur,xs,[],by simp,q1,q0,by simpa using q2,q3,q4,by simpa using q5,RepDs.its.2 ⟨hr,rfl⟩,?_,rfl⟩
   intro x hx
   obtain⟨y,hy,rfl⟩:=List.mem_map.1 hx
   exact hs y hy
  ·intro b hb'
   obtain rfl:=List.mem_singleton.1 hb'
   obtain⟨k1,k2,k3⟩:=hb b rfl
   obtain⟨_,_,k,_⟩:=q1
   exact⟨k1,k2,k3,(Array.getElem?_eq_some_iff.1 k).1⟩
theorem Vp {o:Oper} {d:Nat} {t tx er:TypeId} {x y:Operand} {x' y':Opd} {sz bytes:Nat} {str:Bool} (hd:o.dst=some d)
 (ho:o.op= .call {callee:=.builtin .append,args:= #[x,y],argTypes:= #[t,tx]}) (hx:Ac N x x'=true) (hy:Ac N y y'=true) (ht:Kt P t tx er sz bytes str=true):
 Sound P N o (T6 d er sz bytes str x' y'):=by
 intro G0 σ0 Fr w0 st0 a w Q next E hN hr hw hn hdst
 subst hN
 unfold Kt at ht
 simp only[Bool.and_eq_true]at ht
 obtain⟨ht,htx⟩:=ht
 split at ht
 ·rename_i e' hu
  simp only[Bool.and_eq_true,beq_iff_eq]at ht
  obtain⟨rfl,ht⟩:=ht
  split at ht
  ·rename_i i hi
   simp only[Bool.and_eq_true,beq_iff_eq,bne_iff_ne,ne_eq]at ht
   obtain⟨⟨⟨rfl,rfl⟩,h0⟩,ht⟩:=ht
   split at ht
   ·rename_i z hz
    simp only[beq_iff_eq]at ht
    have exec:∀{v' w'},(Builtin.append_ #[t,tx] o.type #[a.eval x,a.eval y]).run P w= .ok v' w'→(execOp a.eval o).run P w= .ok (.value v') w':=by
     intro v' w' hrun
     simp[execOp,ho,resolve,invoke,builtin,hrun]
    have fin:∀{G:Mem} {σ:Lab} {st:St} {ys:List I},G0.le G→Rel G σ Fr w0 st a w→(∃news,Src P i.size tx (a.eval y) ys.length news w∧RepIs G ys news)→
     (Qv d e' i.size i.bytes x' ys).wp P Q st→o.wp P a w next E:=by
     intro G σ st ys hG hr1 ⟨news,hsrc,hrep⟩ h1
     obtain⟨v,bv,G2,σ2,st2,hG2,hr2,h2,hfv,_,_⟩:=B2 hr1 hx h1
     split at h2
     ·rename_i e sz' l
      split at h2
      ·rename_i l0 hl0
       obtain⟨⟨rfl,hby,hmax,hsz,he⟩,h2⟩:=h2
       obtain rfl:=Eo hl0
       obtain⟨v1,v2,v3,v4⟩:=hfv
       rw[A7 v2]at v1
       obtain⟨xs,k1,k2,k3,k4⟩:=RepD.ownsO v1
       obtain⟨v',w',hrun,q1,q2,q3⟩:=T2 (P:=P) t tx o.type e' e i z hu hi hz ht (by omega) (a.eval x) l0.length xs k1 he (a.eval y) ys.length news hsrc hmax hby
       have hblk:∀b,(a.eval x).ownBlock=some b→G2 b=none∧Fr b=none∧σ2 b=none:=by
        intro b hb
        rcases k4 with⟨_,h⟩|⟨g,rfl,h⟩
        ·rw[h]at hb;cases hb
        ·rw[h]at hb;cases hb
         obtain⟨p1,p2,p3,_⟩:=v4 b (by simp)
         exact⟨p1,p2,p3⟩
       have hr3:=hr2.turned q2 hblk
       have hFD:FreeD G2 σ2 Fr w' (.vec e i.size ((l0++ys).map D.it)) v':=by
        refine OwnsO.freeD (xs:=xs++news) (by rw[List.length_append];exact q1) (RepIs.append k2 (RepIs.mono hG2 _ _ hrep)) ?_ ?_
        ·intro z hz
         rcases List.mem_append.1 hz with hz|hz
         ·exact k3 z hz
         ·exact hsz z hz
        ·intro b hb
         rcases q3 with q3|q3
         ·rw[q3]at hb;exact hblk b hb
         ·rw[q3]at hb;cases hb;exact hr2.wok.fresh (Nat.le_refl _)
       obtain⟨σ',st',r1,r2⟩:=hr3.adopt (P:=P) (hdst d hd) hFD h2
       exact Am (exec hrun) (by rw[hd];exact hn G2 σ' st' _ w' (hG.trans hG2) r1 r2)
      ·exact h2.elim
     ·exact h2.elim
    cases str with
    |true=>
     have hstr:P.underlying tx=some .string:=by
      split at htx
      ·assumption
      ·simp at htx
      ·cases htx
     obtain⟨u,h1,hv⟩:=Az hr hy hw
     split at h1
     ·rename_i s
      obtain⟨hs1,h1⟩:=h1
      obtain⟨hc,hsl⟩:=RepV.str.1 hv
      have hsrc:=Src.ofString (P:=P) (w:=w) hstr ⟨⟨s⟩⟩
      rw[←hc,show(⟨⟨s⟩⟩:ByteArray).size=(s.map He).length by rw[List.length_map];rfl, ←hs1]at hsrc
      exact fin (Mem.le.refl G0) hr ⟨_,hsrc,Fp s⟩ h1
     ·exact h1.elim
    |false=>
     have hsl:∃e',P.underlying tx=some (.slice e'):=by
      split at htx
      ·cases htx
      ·exact⟨_,by assumption⟩
      ·cases htx
     obtain⟨e2,hsl⟩:=hsl
     obtain⟨u,G,σ1,st1,hG,hr1,h1,hv⟩:=Cb hr hy hw
     split at h1
     ·rename_i ys
      by_cases hys:∀u∈ys,u.size=i.size
      ·obtain⟨ad,cap,hcy,hcase⟩:=Ht (σ:=σ1) (Fr:=Fr) (u:=.it (.list ys)) (ys:=ys.map D.it) (sz:=i.size) (FreeB.item hv) hr1.wok rfl (by
        intro u hu
        obtain⟨y,hy,rfl⟩:=List.mem_map.1 hu
        exact hys y hy)
       rw[List.length_map]at hcy hcase
       rcases hcase with⟨rfl,hnil⟩|⟨A,news,bn,rfl,hl,hrep,_,_,hcells⟩
       ·have:ys=[]:=by simpa using hnil
        subst this
        exact fin hG hr1 ⟨[],by rw[hcy];exact Src.ofNil (w:=w) hsl cap,by simp[RepIs]⟩ h1
       ·have hrI:=(RepDs.its.1 hrep).1
        exact fin hG hr1 ⟨news,by rw[hcy];exact Src.ofSlice w hsl A ys.length cap news hl hcells (RepIs.one _ _ hrI),hrI⟩ h1
      ·exfalso
       obtain⟨v,bv,G2,σ2,st2,hG2,hr2,h2,hfv,_,_⟩:=B2 hr1 hx h1
       split at h2
       ·split at h2
        ·exact hys h2.1.2.2.2.1
        ·exact h2.elim
       ·exact h2.elim
     ·exact h1.elim
   ·cases ht
  ·cases ht
 ·cases ht
def Wz (d:Nat) (sz:Nat) (x lo:Opd):M:=Bk lo fun u=>match u with
 | .int _ k=>C9 x fun v=>match v with
   | .vec e sz' l=>match Be l with
     |some l0=>.need (sz'=sz∧0≤k∧k.toNat≤l0.length) fun _=>Av d (.own [] (.vec (if e<1000000 then e+1000000 else e) sz ((l0.drop k.toNat).map D.it)))
     |none=>.fail
   |_=>.fail
 |_=>.fail
theorem Yn {o:Oper} {d:Nat} {t:TypeId} {x lo:Operand} {x' lo':Opd} {sz:Nat} (hd:o.dst=some d) (ho:o.op= .slice t x (some lo) none none) (hx:Ac N x x'=true)
 (hlo:Ac N lo lo'=true) (ht:Bz P t sz=true):Sound P N o (Wz d sz x' lo'):=by
 intro G0 σ0 Fr w0 st0 a w Q next E hN hr hw hn hdst
 subst hN
 obtain⟨u,h1,hk⟩:=Az hr hlo hw
 split at h1
 ·rename_i kk k
  rw[RepV.int]at hk
  obtain⟨v,bv,G2,σ2,st2,hG2,hr2,h2,hfv,_,_⟩:=B2 hr hx h1
  split at h2
  ·rename_i e sz' l
   split at h2
   ·rename_i l0 hl0
    obtain⟨⟨rfl,hk0,hkl⟩,h2⟩:=h2
    obtain rfl:=Eo hl0
    obtain⟨v1,v2,v3,v4⟩:=hfv
    rw[A7 v2]at v1
    obtain⟨xs,k1,k2,k3,k4⟩:=RepD.ownsO v1
    obtain⟨ad,cap,hc,hlc⟩:∃ad cap,a.eval x= .slice ad l0.length cap∧l0.length≤cap:=by
     rcases k1.2 with⟨q1,q2⟩|⟨g,off,cap,cur,q1,_,_,q2,_⟩
     ·exact⟨none,0,by rw[q1,q2],by omega⟩
     ·exact⟨_,cap,q1,q2⟩
    have hb:=Bm (P:=P) (a:=a) (isSlice:=true) (len:=l0.length) (cap:=cap) (lo:=some lo) (hi:=none) (i:=k) (j:=(l0.length:Int)) w (.inr ⟨lo,kk,rfl,hk⟩) (.inl ⟨rfl,rfl⟩) hk0 (by omega) (by omega) hlc
    have hsl:∃e i0,P.underlying t=some (.slice e)∧P.info? e=some i0∧i0.size=sz':=by
     unfold Bz at ht
     split at ht
     ·rename_i e hu
      split at ht
      ·rename_i i0 hi0
       simp only[Bool.and_eq_true,beq_iff_eq]at ht
       exact⟨e,i0,hu,hi0,ht.1⟩
      ·cases ht
     ·cases ht
    obtain⟨e0,i0,hu,hi0,hsz⟩:=hsl
    have hrun:(execOp a.eval o).run P w= .ok (.value (.slice (if cap=k.toNat then ad else ad.map (·.add (k.toNat*sz'))) (l0.length - k.toNat) (cap - k.toNat))) w:=by
     simp only[Option.map_some,Option.map_none,if_true,Bool.true_eq_false,if_false,reduceIte]at hb
     simp[execOp,ho,Instr.sliceAt,Instr.slice,run_underlying hu,hc,hb,sizeOf,typeInfo,hi0,hsz]
    have hbig:¬((if e<1000000 then e+1000000 else e)<1000000):=by by_cases h:e<1000000<;>simp[h]<;>omega
    have hsp:∃d',xs=xs.take (k.toNat*sz')++d'∧RepIs G2 (l0.drop k.toNat) d'∧d'=xs.drop (k.toNat*sz'):=by
     have k2':=k2
     rw[←List.take_append_drop k.toNat l0]at k2'
     obtain⟨c,d',hcd,h5,h6⟩:=RepIs.split k2'
     have hcl:c.length=k.toNat*sz':=by rw[RepIs.length _ _ h5,A0 (sz:=sz') fun x hx=>k3 x (List.mem_of_mem_take hx),List.length_take,Nat.min_eq_left hkl]
     refine⟨d',?_,h6,?_⟩
     ·rw[hcd, ←hcl,List.take_left]
     ·rw[hcd, ←hcl,List.drop_left]
    obtain⟨d',_,hrd,hdd⟩:=hsp
    have hsz':∀x∈l0.drop k.toNat,x.size=sz':=fun x hx=>k3 x (List.mem_of_mem_drop hx)
    have hFD:FreeD G2 σ2 Fr w (.vec (if e<1000000 then e+1000000 else e) sz' ((l0.drop k.toNat).map D.it)) (.slice (if cap=k.toNat then ad else ad.map (·.add (k.toNat*sz'))) (l0.length - k.toNat) (cap - k.toNat)):=by
     refine OwnsO.freeD (xs:=d') ⟨by rw[hdd,List.length_drop,k1.1,List.length_drop,Nat.sub_mul],?_⟩ hrd hsz' ?_
     ·rcases k1.2 with⟨q1,q2⟩|⟨g,off,cp,cur,q1,⟨ty,fz,q2,q3,_⟩,q0,q4,q5,q6,q7⟩
      ·rw[hc]at q1
       injection q1 with e1 e2 e3
       subst e1
       subst e3
       left
       have h1:k.toNat=0:=by omega
       simp[h1,q2]
      ·rw[hc]at q1
       cases q1
       right
       have hkm:k.toNat*sz'≤cap*sz':=Nat.mul_le_mul_right _ (by omega)
       by_cases hck:cap=k.toNat
       ·refine⟨g,off,0,cur,?_,⟨ty,fz,q2,q3,fun h=>absurd h hbig⟩,fun h=>absurd h hbig,?_,by omega,by omega,?_⟩
        ·rw[if_pos hck,List.length_drop,hck,Nat.sub_self]
        ·rw[List.length_drop];omega
        ·have:l0.length - k.toNat=0:=by omega
         rw[hdd,List.length_drop,this,Nat.zero_mul,List.take_zero]
         symm
         rw[List.drop_eq_nil_iff,k1.1]
         exact Nat.mul_le_mul_right _ (by omega)
       ·refine⟨g,off+k.toNat*sz',cap - k.toNat,cur,?_,⟨ty,fz,q2,q3,fun h=>absurd h hbig⟩,fun h=>absurd h hbig,?_,by omega,?_,?_⟩
        ·rw[if_neg hck,List.length_drop]
         simp[add_lit]
        ·rw[List.length_drop];omega
        ·rw[Nat.sub_mul];omega
        ·rw[hdd, ←q7,List.length_drop,List.drop_take,List.drop_drop,Nat.sub_mul]
     ·intro b hb
      have hb':(a.eval x).ownBlock=some b:=by
       rw[hc]
       cases ad with
       |none=>split at hb<;>simp[Value.ownBlock]at hb
       |some A=>
        have hA:∀m,(A.add m).block=A.block:=by
         intro m
         unfold Addr.add
         split<;>rfl
        split at hb<;>simpa[Value.ownBlock,hA]using hb
      rcases k4 with⟨_,h⟩|⟨g,rfl,h⟩
      ·rw[h]at hb';cases hb'
      ·rw[h]at hb';cases hb'
       obtain⟨p1,p2,p3,_⟩:=v4 b (by simp)
       exact⟨p1,p2,p3⟩
    obtain⟨σ',st',r1,r2⟩:=hr2.adopt (P:=P) (hdst d hd) hFD h2
    exact Am hrun (by rw[hd];exact hn G2 σ' st' _ w hG2 r1 r2)
   ·exact h2.elim
  ·exact h2.elim
 ·exact h1.elim
end

open Go.Op
def Acr (_:Nat) (sv:SV):Nat × SV:=match sv with
 | .bs _ _ _ _ _=>(0,.bs 0 0 [] 0 0)
 |_=>(0,.no)
def Sv (x:Opd) (yes no:M):M:=match x with
 | .t n=>.getp n Acr fun _ sv=>match sv with
   | .bs _ _ _ _ _=>yes
   |_=>no
 |_=>no
def W0 (d:Option Nat) (sz:Nat) (x:Opd) (lo hi:Option Opd):M:=rdH x fun s cur inv t p=>match D.at p t with
 |some u=>match u with
  | .vec _ sz' l=>rdB lo 0 fun i=>rdB hi l.length fun j=>.need (sz'=sz∧0≤i∧i≤j∧j≤l.length∧d≠some s∧A5 cur inv p=true) fun _=>setD d (.bs s cur p i.toNat (j.toNat - i.toNat)) .done
  |_=>.fail
 |none=>.fail
def Ry (d:Option Nat) (sz:Nat) (x i:Opd):M:=Bk i fun n=>match n with
 | .int _ k=>match x with
   | .t m=>.get m fun _ sv=>match sv with
     | .bs s v p lo n=>.get s fun cur sv'=>match sv' with
       | .own _ t=>match D.at p t with
         |some u=>match u with
          | .vec _ sz' _=>.need (v=cur∧0≤k∧k.toNat<n∧sz'=sz∧d≠some s) fun _=>setD d (.pd s cur (p++[lo+k.toNat])) .done
          |_=>.fail
         |none=>.fail
       |_=>.fail
     |_=>.fail
   |_=>.fail
 |_=>.fail
def Q4 (d:Option Nat) (x:Opd):M:=match x with
 | .t m=>.get m fun _ sv=>match sv with
   | .bs s v p _ n=>.get s fun cur sv'=>match sv' with
     | .own _ t=>match D.at p t with
       |some u=>.need (v=cur∧u.isAgg=false) fun _=>setD d (.v (.int .i64 n)) .done
       |none=>.fail
     |_=>.fail
   |_=>.fail
 |_=>.fail
def Uf (d:Option Nat) (agg:Bool) (sz:Nat) (x:Opd):M:=rdD x fun s cur inv t p=>match D.at p t with
 |some u=>.need (agg=true∧u.isAgg=true∧u.size=sz∧d≠some s∧A5 cur inv p=true) fun _=>setD d (.bs s cur p 0 0) .done
 |none=>.fail
section
variable{P:Program}{N:Nat}{G:Mem}{σ:Lab}{Fr:Mem}{w0:Base}{w:World}{st:St}{a:Act}
theorem Vv {o:Oper} {t:TypeId} {x:Operand} {x':Opd} {agg:Bool} {sz:Nat} (ho:o.op= .load t x) (hx:Ac N x x'=true) (ht:tyOk P t agg sz=true):Sound P N o (Uf o.dst agg sz x'):=by
 intro G σ Fr w0 st a w Q next E hN hr hw hn hdst
 subst hN
 have run:∀{b off:Nat} {v:Value},a.eval x= .pointer (some ⟨b,off,none⟩)→(loadVar t ⟨b,off,none⟩).run P w= .ok v w→(execOp a.eval o).run P w= .ok (.value v) w:=by
  intro b off v hp hl
  simp[execOp,ho,hp,Instr.loadAt,Instr.sureAddr,hl]
 obtain⟨s,cur,inv,tr,p,h1,hs,hp0,hpt⟩:=Jg hr hx hw
 have hown:=hr.slots s cur _ hs
 split at h1
 ·rename_i u hat
  obtain⟨b,off,bl,ty,fz,pre,cs,post,ubs,e1,e2,e3,e4,e5,e6,e7⟩:=PtD.block hown hat hpt
  have hone:=RepD.one e5
  have hlen:=RepD.length e5
  obtain⟨⟨rfl,hag,hsz,hne,hal⟩,h1⟩:=h1
  obtain⟨v,hl,hvc,hva⟩:=J2 (P:=P) (cs:=cs) (agg:=true) (by rw[hlen,hsz];exact ht) (by intro e;cases e) e2 e3 e4 hone
  obtain⟨σ',st',r1,r2⟩:=hr.setD hdst (sv:=.bs s cur p 0 0) (c:=v) (fun d' hd ver _=>by
   refine⟨_,by rw[List.getElem?_set_ne (by rintro rfl;exact hne hd)];exact hs,Nat.le_refl _,fun _ inv' t' e=>?_⟩
   cases e
   rw[An (by rintro rfl;exact hne hd)]
   exact⟨hal,.inr ⟨u,_,hat,hag,hva,by rw[hvc];exact e7⟩⟩) h1
  exact Am (run e1 hl) (hn G σ' st' _ w (Mem.le.refl G) r1 r2)
 ·exact h1.elim
theorem R6 {o:Oper} {x:Opd} {yes no:M} (h1:Sound P N o yes) (h2:Sound P N o no):Sound P N o (Sv x yes no):=by
 intro G σ Fr w0 st a w Q next E hN hr hw hn hdst
 have:yes.wp P Q st∨no.wp P Q st:=by
  cases x with
  |c _=>exact .inr hw
  |nils _ _=>exact .inr hw
  |t n=>
   simp only[Sv,M.wp]at hw
   cases hs:st[n]? with
   |none=>simp[hs]at hw
   |some cur=>
    obtain⟨cv,csv⟩:=cur
    simp only[hs]at hw
    cases csv with
    |bs _ _ _ _ _=>exact .inl hw
    |_=>exact .inr hw
 rcases this with h|h
 ·exact h1 G σ Fr w0 st a w Q next E hN hr h hn hdst
 ·exact h2 G σ Fr w0 st a w Q next E hN hr h hn hdst
theorem Yo {o:Oper} {t:TypeId} {x:Operand} {lo hi:Option Operand} {x':Opd} {lo' hi':Option Opd} {sz:Nat} (ho:o.op= .slice t x lo hi none) (hx:Ac N x x'=true)
 (hlo:oOk N lo lo'=true) (hhi:oOk N hi hi'=true) (ht:Bz P t sz=true):Sound P N o (W0 o.dst sz x' lo' hi'):=by
 intro G σ Fr w0 st a w Q next E hN hr hw hn hdst
 subst hN
 obtain⟨s,cur,inv,tr,p,h1,hs,hhd⟩:=Lz hr hx hw
 have hown:=hr.slots s cur _ hs
 split at h1
 ·rename_i u hat
  split at h1
  ·rename_i e sz' l
   obtain⟨i,h2,hi1⟩:=Cg hr hlo h1
   obtain⟨j,h3,hj1⟩:=Cg hr hhi h2
   obtain⟨⟨rfl,h0,hij,hjl,hne,hal⟩,h3⟩:=h3
   obtain⟨hh,ubs,e5,e6,e7⟩:=HdD.read hown hat hhd
   simp only[RepD]at e5
   obtain⟨ad,cap,hc,hlc⟩:∃ad cap,a.eval x= .slice ad l.length cap∧l.length≤cap:=by
    rcases e5 with⟨q1,q2,_⟩|⟨g,off,cap,cu,xs,bs',q1,_,_,q2,q3,_⟩
    ·injection q1 with q1
     exact⟨none,0,by rw[q1,q2];rfl,by rw[q2];exact Nat.le_refl _⟩
    ·injection q1 with q1
     exact⟨_,cap,q1,q2⟩
   have hb:=Bm (P:=P) (a:=a) (isSlice:=true) (len:=l.length) (cap:=cap) (lo:=lo) (hi:=hi) (i:=i) (j:=j) w hi1 hj1 h0 hij hjl hlc
   have hsl:∃e i0,P.underlying t=some (.slice e)∧P.info? e=some i0∧i0.size=sz':=by
    unfold Bz at ht
    split at ht
    ·rename_i e hu
     split at ht
     ·rename_i i0 hi0
      simp only[Bool.and_eq_true,beq_iff_eq]at ht
      exact⟨e,i0,hu,hi0,ht.1⟩
     ·cases ht
    ·cases ht
   obtain⟨e0,i0,hu,hi0,hsz⟩:=hsl
   have hrun:(execOp a.eval o).run P w= .ok (.value (.slice (if cap=i.toNat then ad else ad.map (·.add (i.toNat*sz'))) (j.toNat - i.toNat) (cap - i.toNat))) w:=by
    simp[execOp,ho,Instr.sliceAt,Instr.slice,run_underlying hu,hc,hb,sizeOf,typeInfo,hi0,hsz]
   obtain⟨σ',st',r1,r2⟩:=hr.setD hdst (sv:=.bs s cur p i.toNat (j.toNat - i.toNat)) (c:=.slice (if cap=i.toNat then ad else ad.map (·.add (i.toNat*sz'))) (j.toNat - i.toNat) (cap - i.toNat)) (fun d' hd ver _=>by
    refine⟨_,by rw[List.getElem?_set_ne (by rintro rfl;exact hne hd)];exact hs,Nat.le_refl _,fun _ inv' t' e=>?_⟩
    cases e
    rw[An (by rintro rfl;exact hne hd)]
    exact⟨hal,.inl ⟨e,sz',l,a.eval x,ad,cap,hat,hhd,hc,hlc,by omega,rfl⟩⟩) h3
   exact Am hrun (hn G σ' st' _ w (Mem.le.refl G) r1 r2)
  ·exact h1.elim
 ·exact h1.elim
theorem Ux {o:Oper} {t:TypeId} {x i:Operand} {x' i':Opd} {sz:Nat} (ho:o.op= .indexAddr t x i) (hx:Ac N x x'=true) (hi:Ac N i i'=true) (ht:Bz P t sz=true):
 Sound P N o (Ry o.dst sz x' i'):=by
 intro G σ Fr w0 st a w Q next E hN hr hw hn hdst
 subst hN
 obtain⟨n0,h1,hnv⟩:=Az hr hi hw
 split at h1
 ·rename_i kk k
  rw[RepV.int]at hnv
  cases x' with
  |c _=>exact h1.elim
  |nils _ _=>exact h1.elim
  |t m=>
   obtain⟨rfl,hnlt⟩:=A1 hx
   simp only[M.wp]at h1
   cases hs0:st[m]? with
   |none=>simp[hs0]at h1
   |some cur0=>
    obtain⟨ver,sv⟩:=cur0
    simp only[hs0]at h1
    have hrep:=hr.slot hnlt hs0
    split at h1
    ·rename_i s v p lo n
     obtain⟨cur,g1,g2,g3⟩:=hrep
     simp only[M.wp,g1]at h1
     obtain⟨cv,csv⟩:=cur
     simp only at h1
     split at h1
     ·rename_i inv tr
      split at h1
      ·rename_i u hat
       split at h1
       ·rename_i e sz' l
        obtain⟨⟨rfl,h0,hlt,rfl,hne⟩,h1⟩:=h1
        obtain⟨_,hbs⟩:=g3 rfl inv tr rfl
        obtain⟨e1,sz1,l1,c0,ad,cap,q1,q2,q3,q4,q5,q6⟩:∃e1 sz1 l1 c0 ad cap,tr.at p=some (.vec e1 sz1 l1)∧HdD w tr (val a w0 s) p c0∧c0= .slice ad l1.length cap∧l1.length≤cap∧lo+n≤l1.length∧
         a.eval (.tmp m)= .slice (if cap=lo then ad else ad.map (·.add (lo*sz1))) n (cap - lo):=by
         rcases hbs with h|⟨u1,_,k1,k2,_⟩
         ·exact h
         ·rw[hat]at k1;cases k1;cases k2
        rw[hat]at q1
        cases q1
        have hown:=hr.slots s v _ g1
        obtain⟨hh,ubs,e5,e6,e7⟩:=HdD.read hown hat q2
        simp only[RepD]at e5
        rcases e5 with⟨_,rfl,_⟩|⟨g,off,cap',cu,xs,bs',p1,⟨ty,fz,p2,_⟩,_⟩
        ·simp only[List.length_nil]at q5;omega
        ·injection p1 with p1
         rw[q3]at p1
         cases p1
         have hcl:¬cap=lo:=by omega
         rw[if_neg hcl]at q6
         have hk:(D.vec e sz' l).kid (lo+k.toNat)=some (l[lo+k.toNat]'(by omega)):=by simp[D.kid,List.getElem?_eq_getElem (show lo+k.toNat<l.length by omega)]
         have hadd:Option.map (·.add (lo*sz')) (some (⟨g,off,none⟩:Addr))=some ⟨g,off+lo*sz',none⟩:=by simp[add_lit]
         rw[hadd]at q6
         refine L5 hr hdst g1 hn hne (c:=.pointer (some ⟨g,off+(lo+k.toNat)*sz',none⟩)) ⟨_,g,off+(lo+k.toNat)*sz',(cu.toList.drop (off+(lo+k.toNat)*sz')).take sz',by rw[Dg hat];exact hk,?_,rfl⟩ ?_ h1
         ·rw[Ck hat e7 hk,q3]
          simp only[Au,List.getElem?_eq_getElem (show lo+k.toNat<l.length by omega),p2]
         ·have:=Hx (P:=P) (t:=t) (sz:=sz') (b:=g) (off:=off+lo*sz') (len:=n) (cap:=cap - lo) (k:=kk) (n:=k) ht w h0 hlt
          simp[execOp,ho,q6,hnv,this,Nat.add_mul,Nat.add_assoc]
       ·exact h1.elim
      ·exact h1.elim
     ·exact h1.elim
    ·exact h1.elim
 ·exact h1.elim
theorem X9 {o:Oper} {t:TypeId} {x:Operand} {x':Opd} (ho:o.op= .call {callee:=.builtin .len,args:= #[x],argTypes:= #[t]}) (hx:Ac N x x'=true) (ht:Hh P t false=true):Sound P N o (Q4 o.dst x'):=by
 intro G σ Fr w0 st a w Q next E hN hr hw hn hdst
 subst hN
 cases x' with
 |c _=>exact hw.elim
 |nils _ _=>exact hw.elim
 |t m=>
  obtain⟨rfl,hnlt⟩:=A1 hx
  simp only[Q4,M.wp]at hw
  cases hs0:st[m]? with
  |none=>simp[hs0]at hw
  |some cur0=>
   obtain⟨ver,sv⟩:=cur0
   simp only[hs0]at hw
   have hrep:=hr.slot hnlt hs0
   split at hw
   ·rename_i s v p lo n
    obtain⟨cur,g1,g2,g3⟩:=hrep
    simp only[M.wp,g1]at hw
    obtain⟨cv,csv⟩:=cur
    simp only at hw
    split at hw
    ·rename_i inv tr
     split at hw
     rotate_left 1
     ·exact hw.elim
     rename_i u hat
     obtain⟨⟨rfl,hag⟩,hw⟩:=hw
     obtain⟨_,hbs⟩:=g3 rfl inv tr rfl
     obtain⟨sz1,ad,cap,q6⟩:∃sz1 ad cap,a.eval (.tmp m)= .slice (if cap=lo then ad else ad.map (·.add (lo*sz1))) n (cap - lo):=by
      rcases hbs with⟨e1,sz1,l1,c0,ad,cap,q1,q2,q3,q4,q5,q6⟩|⟨u1,_,k1,k2,_⟩
      ·exact⟨sz1,ad,cap,q6⟩
      ·rw[hat]at k1;cases k1;rw[hag]at k2;cases k2
     have hu:∃e,P.underlying t=some (.slice e):=by
      unfold Hh at ht
      split at ht
      ·cases ht
      ·rename_i e h;exact⟨e,h⟩
      ·cases ht
     obtain⟨e',hu⟩:=hu
     exact Ay hr hn hdst (RepV.int.2 rfl) hw (by simp[execOp,ho,resolve,invoke,builtin,Builtin.len_,run_underlying hu,q6,goInt])
    ·exact hw.elim
   ·exact hw.elim
end

open Go.Op
def Br (w:World) (b:Nat) (o:Obj):World:={w with heap:=w.heap.setIfInBounds b o}
def Dr (str:List UInt8) (pos:Nat):Nat × Nat:=Utf8.decode ⟨⟨str⟩⟩ pos
def Wx (d:Nat) (x:Opd):M:=Bk x fun u=>match u with
 | .str s=>Av d (.sit s 0)
 |_=>.fail
def Nt (d:Option Nat) (x:Opd):M:=match x with
 | .t n=>.get n fun ver sv=>match sv with
   | .sit s pos=>.ite (decide (pos<s.length))
    (.set n (ver+1) (.sit s (pos+(Dr s pos).2)) (.need (d≠some n) fun _=>setD d (.tup [.i (.bool true),.i (.int .i64 pos),.i (.int .i32 (Dr s pos).1)]) .done))
    (setD d (.tup [.i (.bool false)]) .done)
   |_=>.fail
 |_=>.fail
section
variable{P:Program}{N:Nat}{G:Mem}{σ:Lab}{Fr:Mem}{w0:Base}{w:World}{st:St}{a:Act}
theorem Yj {o:Oper} {d:Nat} {t:TypeId} {x:Operand} {x':Opd} (hd:o.dst=some d) (ho:o.op= .range t x) (hx:Ac N x x'=true) (ht:P.underlying t=some .string):Sound P N o (Wx d x'):=by
 intro G σ Fr w0 st a w Q next E hN hr hw hn hdst
 subst hN
 obtain⟨u,h1,hu⟩:=Az hr hx hw
 split at h1
 ·rename_i s
  obtain⟨hc,hl⟩:=RepV.str.1 hu
  obtain⟨σ',st',r1,r2⟩:=hr.newBlock (hdst d hd) (sv:=.sit s 0) (o:=.stringIter ⟨⟨s⟩⟩ 0) (c:=.pointer (some ⟨w.heap.size,0,none⟩)) rfl (by intro _ e;cases e)
   (fun σ1 _ hb=>⟨w.heap.size,rfl,hb,heap_alloc_new w _⟩) h1
  refine Am (w':=w.alloc (.stringIter ⟨⟨s⟩⟩ 0)) ?_ (by rw[hd];exact hn G σ' st' _ _ (Mem.le.refl G) r1 r2)
  simp[execOp,ho,Instr.range,run_underlying ht,hc]
 ·exact h1.elim
theorem V0 {o:Oper} {x:Operand} {x':Opd} (ho:o.op= .next x true) (hx:Ac N x x'=true):Sound P N o (Nt o.dst x'):=by
 intro G σ Fr w0 st a w Q next E hN hr hw hn hdst
 subst hN
 cases x' with
 |c _=>exact hw.elim
 |nils _ _=>exact hw.elim
 |t n=>
  obtain⟨rfl,hnlt⟩:=A1 hx
  simp only[Nt,M.wp]at hw
  cases hs:st[n]? with
  |none=>simp[hs]at hw
  |some cur=>
   obtain⟨ver,sv⟩:=cur
   simp only[hs]at hw
   have hrep:=hr.slot hnlt hs
   split at hw
   ·rename_i s pos
    obtain⟨b,hc,hσ,hb⟩:=hrep
    obtain⟨h1,h2⟩:=hw
    have hblt:b<w.heap.size:=(Array.getElem?_eq_some_iff.1 hb).1
    have hget:(getObj b).run P w= .ok (.stringIter ⟨⟨s⟩⟩ pos) w:=by simp[getObj,Sem.run,hb]
    have hsz:(⟨⟨s⟩⟩:ByteArray).size=s.length:=rfl
    by_cases hp:pos<s.length
    ·have h1:=h1 (decide_eq_true hp)
     obtain⟨hne,h1⟩:=h1
     let w1:=Br w b (.stringIter ⟨⟨s⟩⟩ (pos+(Dr s pos).2))
     have hset:(setObj b (.stringIter ⟨⟨s⟩⟩ (pos+(Dr s pos).2))).run P w= .ok () w1:=by simp[setObj,Sem.run,hb,w1,Br]
     have hself:w1.heap[b]?=some (.stringIter ⟨⟨s⟩⟩ (pos+(Dr s pos).2)):=by simp[w1,Br,hblt]
     have hoth:∀x,x≠b→w1.heap[x]?=w.heap[x]?:=by
      intro x hx
      simp[w1,Br,Array.getElem?_setIfInBounds,Ne.symm hx]
     obtain⟨k1,k2,k3⟩:=hr.wok.own b _ hσ
     have hok:WOk G σ Fr w0 w1:=by
      refine⟨?_,?_,hr.wok.inj,?_,hr.wok.os,hr.wok.tape,hr.wok.output,?_,hr.wok.apart,hr.wok.amb⟩
      ·intro b' o' h
       rw[hoth b' (by rintro rfl;rw[k1]at h;cases h)]
       exact hr.wok.fixed b' o' h
      ·intro b' lab h
       obtain⟨q1,q2,q3⟩:=hr.wok.own b' lab h
       exact⟨q1,q2,by simpa[w1,Br]using q3⟩
      ·intro b' o' h
       rw[hoth b' (by rintro rfl;rw[k2]at h;cases h)]
       exact hr.wok.frame b' o' h
      ·have:=hr.wok.size
       simpa[w1,Br]using this
     have hv:val a w0 n=a.eval (.tmp n):=A2 (by rw[hr.n];exact hnlt)
     have hr1:Rel G σ Fr w0 (st.set n (ver+1,.sit s (pos+(Dr s pos).2))) a w1:=by
      refine Rel.self hr hok (Mem.le.refl G) hs (Nat.lt_succ_self _) ?_ ?_
      ·intro s' hs' b' k hb'
       refine⟨hb',hoth b' ?_⟩
       rintro rfl
       rw[hσ]at hb'
       cases hb'
       exact hs' rfl
      ·exact⟨b,by rw[hv];exact hc,hσ,hself⟩
     obtain⟨σ',st',r1,r2⟩:=hr1.setD hdst (sv:=.tup [.i (.bool true),.i (.int .i64 pos),.i (.int .i32 (Dr s pos).1)]) (c:=.tuple #[.bool true,.int .i64 pos,.int .i32 (Dr s pos).1]) (fun d' hd ver _=>
      ⟨_,rfl,_,_,rfl,RepV.bool.2 rfl,_,_,rfl,RepV.int.2 rfl,_,_,rfl,RepV.int.2 rfl,rfl⟩) h1
     refine Am (w':=w1) ?_ (hn G σ' st' _ w1 (Mem.le.refl G) r1 r2)
     have hdec:Utf8.decode ⟨⟨s⟩⟩ pos=((Dr s pos).1,(Dr s pos).2):=rfl
     simp only[execOp,ho,hc,Instr.next,Sem.run_bind,hget,Result.andThen,hsz,if_pos hp,hdec,hset,Sem.run_pure]
     rfl
    ·have h2:=h2 (decide_eq_false hp)
     obtain⟨σ',st',r1,r2⟩:=hr.setD hdst (sv:=.tup [.i (.bool false)]) (c:=.tuple #[.bool false]) (fun d' hd ver _=>⟨_,rfl,_,_,rfl,RepV.bool.2 rfl,rfl⟩) h2
     refine Am (w':=w) ?_ (hn G σ' st' _ w (Mem.le.refl G) r1 r2)
     simp only[execOp,ho,hc,Instr.next,Sem.run_bind,hget,Result.andThen,hsz,if_neg hp,Sem.run_pure]
   ·exact hw.elim
def Wt (d:Nat) (x:Opd):M:=C9 x fun u=>Av d (.own [] u)
theorem Qh {o:Oper} {d:Nat} {x:Operand} {x':Opd} (hd:o.dst=some d) (ho:o.op= .move x∨o.op= .assign x) (hx:Ac N x x'=true):Sound P N o (Wt d x'):=by
 intro G0 σ0 Fr w0 st0 a w Q next E hN hr hw hn hdst
 subst hN
 obtain⟨u,G,σ,st,hG,hr1,h1,hf⟩:=Lo hr hx hw
 obtain⟨σ',st',r1,r2⟩:=hr1.adopt (P:=P) (hdst d hd) hf h1
 refine Am (w':=w) (v:=a.eval x) ?_ (by rw[hd];exact hn G σ' st' _ w hG r1 r2)
 rcases ho with ho|ho<;>simp[execOp,ho]
end

def getV:List Nat→(List (Nat × Nat)→M)→M
 | [],k=>k []
 |h::r,k=>.get h fun ver _=>getV r fun l=>k ((h,ver)::l)
def Z2 (d:Nat) (f:FuncId) (fs cs:List Nat):M:=getV fs fun l=>getV cs fun m=>setD (some d) (.cl f l m) .done
def G3 (N d:Nat):List Operand→List Nat→Bool
 | [],[]=>true
 | .tmp t::l,y::m=>t==y&&decide (y<N)&&decide (y≠d)&&G3 N d l m
 |_,_=>false
section
variable{P:Program}{N:Nat}{G:Mem}{σ:Lab}{Fr:Mem}{w0:Base}{w:World}{st:St}{a:Act}
theorem Nb {d:Nat} {Q:St→Prop} (hr:Rel G σ Fr w0 st a w):∀{xs:List Operand} {hs:List Nat} {k:List (Nat × Nat)→M},G3 w0.n d xs hs=true→(getV hs k).wp P Q st→
 ∃l,(k l).wp P Q st∧∀(st':St) (vv':Nat→Value),(∀x,x≠d→st'[x]?=st[x]?∧vv' x=val a w0 x)→RefsOk st' vv' l (xs.map a.eval)
 | [],[],k,_,hq=>⟨[],hq,fun _ _ _=>trivial⟩
 | .tmp t::xs,h::hs,k,ho,hq=>by
   simp only[G3,Bool.and_eq_true,beq_iff_eq,decide_eq_true_eq]at ho
   obtain⟨⟨⟨rfl,h1⟩,hne⟩,h2⟩:=ho
   simp only[getV,M.wp]at hq
   cases hs':st[t]? with
   |none=>simp[hs']at hq
   |some cur=>
    simp only[hs']at hq
    obtain⟨l,k1,k2⟩:=Nb hr h2 hq
    refine⟨_,k1,fun st' vv' hx=>⟨⟨cur,by rw[(hx t hne).1];exact hs',Nat.le_refl _,fun _=>?_⟩,k2 st' vv' hx⟩⟩
    rw[(hx t hne).2]
    exact(A2 (by rw[hr.n];exact h1)).symm
 | [],_::_,_,h,_=>by cases h
 |x::_,[],_,h,_=>by cases x<;>cases h
 | .const _::_,_::_,_,h,_=>by cases h
 | .global _::_,_::_,_,h,_=>by cases h
 | .func _::_,_::_,_,h,_=>by cases h
theorem Aap {o:Oper} {d:Nat} {f:FuncId} {first captured:Array Operand} {fs cs:List Nat} (hd:o.dst=some d) (ho:o.op= .makeFunc (.func f) first captured) (hf:G3 N d first.toList fs=true) (hc:G3 N d captured.toList cs=true):
 Sound P N o (Z2 d f fs cs):=by
 intro G σ Fr w0 st a w Q next E hN hr hw hn hdst
 subst hN
 obtain⟨l,h1,h2⟩:=Nb hr hf hw
 obtain⟨m,h3,h4⟩:=Nb hr hc h1
 refine Am (v:=.func (.func f) (first.map a.eval) (captured.map a.eval)) (w':=w) (by simp[execOp,ho,Instr.makeFunc]) ?_
 rw[hd]
 obtain⟨σ',st',r1,r2⟩:=hr.setD (sv:=.cl f l m) (c:=.func (.func f) (first.map a.eval) (captured.map a.eval)) (fun d' e=>hdst d' (by rw[hd,e])) (fun d' e ver _=>by
  cases e
  have agree:∀x,x≠d→(st.set d (ver,.cl f l m))[x]?=st[x]?∧val (a.put (some d) (.func (.func f) (first.map a.eval) (captured.map a.eval))) w0 x=val a w0 x:=fun x hx=>⟨List.getElem?_set_ne (Ne.symm hx),An hx⟩
  exact⟨first.toList.map a.eval,captured.toList.map a.eval,by congr<;>(apply Array.ext';simp),h2 _ _ agree,h4 _ _ agree⟩) h3
 exact hn G σ' st' _ _ (Mem.le.refl G) r1 r2
end
end Go.Ab
