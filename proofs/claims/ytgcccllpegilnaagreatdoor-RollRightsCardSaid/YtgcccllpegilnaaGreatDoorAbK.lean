/- Lemmas -/
import Derived.Test.YtgcccllpegilnaaGreatDoorAbE7
set_option linter.unusedVariables false
set_option linter.unusedSimpArgs false
namespace Go.Ab
open Go.Op
def A9a(_:D):Option SV:=some (.v .Nz)
def A5s(d:Option Nat)(x:Ar):M:=Ht x (Aof x A9a fun s v p _=>.Ba (d≠some s) fun _=>A9 d (.pd s v p) .done) (match x with
 | .t n=>.get n fun _ sv=>match sv with
   | .pt s k ver off r=>.get s fun cur _=>.Ba (d≠some s∧ver=cur) fun _=>A9 d (.pt s k ver off r) .done
   |_=>.fail
 |_=>.fail)
def A5u(d:Option Nat)(neg:Bool)(x:Ar):M:=Ht x (Aof x A9a fun _ _ _ _=>A9 d (.v (.bool neg)) .done) (match x with
 | .t n=>.get n fun _ sv=>match sv with
   | .pt s _ ver _ _=>.get s fun cur _=>.Ba (ver=cur) fun _=>A9 d (.v (.bool neg)) .done
   | .v y=>match y with
     | .Zm=>A9 d (.v (.bool (!neg))) .done
     |_=>.fail
   |_=>.fail
 |_=>.fail)
def Aqw(P:Program)(t:TypeId)(y:Operand):Bool:=(match P.underlying t with
 |some (.pointer _)=>true
 |_=>false)&&(match y with
 | .const (.pointer none)=>true
 |_=>false)
def A5k(d:Option Nat)(sz n:Nat)(z:I)(ps:List (Nat × Ar)):M:=Wb ps (List.replicate n z) fun l=>.Ba (∀x∈l,x.size=sz) fun _=>A9 d (.v (.arr sz l)) .done
def Axq(P:Program)(t:TypeId)(sz n:Nat)(z:I):Bool:=match P.underlying t,P.info? t with
 |some (.array n' e),some i=>n'==n&&z.size==sz&&(match i.zero with
  |some v=>match zIs (List.replicate n z) v.cells.toList with
   |some []=>true
   |_=>false
  |none=>false)&&(match P.info? e with
  |some j=>j.size==sz
  |none=>false)
 |_,_=>false
def A5h(d:Option Nat)(agg:Bool)(sz len:Nat)(x i:Ar):M:=Gx x fun u=>Gx i fun n=>match u,n with
 | .arr Bs l,.int _ n=>match l[n.toNat]? with
   |some y=>.Ba (0≤n∧n<(len:Int)∧Bs=sz∧y.isAgg=agg∧y.size=sz) fun _=>A9 d (.v y) .done
   |none=>.fail
 |_,_=>.fail
def Axn(P:Program)(t:TypeId)(agg:Bool)(sz len:Nat):Bool:=match P.underlying t with
 |some (.array n e)=>n==len&&Hd P e agg sz
 |_=>false
section
variable{P:Program}{N:Nat}{G:Mem}{σ:Lab}{Fr:Mem}{w0:Base}{w:World}{st:St}{a:Act}
theorem A8d{o:Oper}{x:Operand}{x':Ar}(ho:o.op= .nilCheck x)(hx:Ax N x x'=true):Sound P N o (A5s o.dst x'):=by
 refine Ey ?_ ?_
 ·intro G σ Fr w0 st a w Q next E hN hr hw hn Au
  subst hN;obtain⟨s,cur,inv,tr,p,u,r,v,h1,hs,hp0,Q8,Da,hf,hle⟩:=Zu hr hx hw;obtain⟨Aw,h1⟩:=h1;have Bo0:=Q8;obtain⟨_,b,off,cs,_,_,hc⟩:=Bo0;refine Zw hr Au hs hle hn Aw Q8 ?_ h1;simp[execOp,ho,hc]
 ·intro G σ Fr w0 st a w Q next E hN hr hw hn Au
  subst hN;cases x' with
  |c _=>exact hw.elim
  |Cd _ _=>exact hw.elim
  |t n=>
   obtain⟨rfl,Cm⟩:=Dm hx;simp only[M.wp]at hw;cases hs:st[n]? with
   |none=>simp[hs]at hw
   |some cur=>
    obtain⟨ver,sv⟩:=cur;simp only[hs]at hw;have Ay:=hr.slot Cm hs;split at hw
    ·rename_i s k v off r;obtain⟨cur,g1,g2,g3⟩:=Ay;simp only[M.wp,g1]at hw;obtain⟨⟨Aw,hv⟩,hw⟩:=hw;obtain⟨b,g4,g5⟩:=g3 hv;obtain⟨σ',Af,r1,r2⟩:=hr.A9 Au (sv:=.pt s k v off r) (c:=a.eval (.tmp n)) (fun d' hd ver _=>
      ⟨cur,by rw[List.getElem?_set_ne (by rintro rfl;exact Aw hd)];exact g1,g2,fun e=>⟨b,Lab.C0.2 ⟨fun e=>Aw (by rw[hd,e]),g4⟩,g5⟩⟩) hw
     refine Bv (v:=a.eval (.tmp n)) (w':=w) ?_ (hn G σ' Af _ w (Mem.le.refl G) r1 r2);simp[execOp,ho,g5]
    ·exact hw.elim
theorem Ax2{d:Nat}{t e:TypeId}(hu:P.underlying t=some (.pointer e))(x:Option Addr)(w:World):(Op.equalIn (d+1) t (.pointer x) (.pointer none)).run P w= .ok x.isNone w:=by
 cases x<;>simp[Op.equalIn,run_underlying hu]
theorem A6k{t e:TypeId}(hu:P.underlying t=some (.pointer e))(x:Option Addr)(w:World):(Op.equal t (.pointer x) (.pointer none)).run P w= .ok x.isNone w:=Ax2 (d:=9999) hu x w
theorem Aq7{o:Oper}{neg:Bool}{t u:TypeId}{x y:Operand}{x':Ar}(ho:o.op= .binOp (if neg then .neq else .eql) t x y u)(hx:Ax N x x'=true)(hy:Aqw P t y=true):Sound P N o (A5u o.dst neg x'):=by
 unfold Aqw at hy;simp only[Bool.and_eq_true]at hy;obtain⟨hu,hy⟩:=hy;split at hu
 ·rename_i e hu';split at hy
  ·have run:∀{a:Act} {w:World} {ad:Option Addr},a.eval x= .pointer ad→(execOp a.eval o).run P w= .ok (.value (.bool (if neg then !ad.isNone else ad.isNone))) w:=by
    intro a w ad he;have hq:=A6k hu' ad w;have H2:a.eval (.const (.pointer none))= .pointer none:=rfl;cases neg<;>simp[execOp,ho,he,H2,eqGuard,binOp,hq]
   refine Ey ?_ ?_
   ·intro G σ Fr w0 st a w Q next E hN hr hw hn Au
    subst hN;obtain⟨s,cur,inv,tr,p,u,r,v,h1,hs,hp0,Q8,Da,hf,hle⟩:=Zu hr hx hw;obtain⟨_,b,off,cs,_,_,hc⟩:=Q8;refine C1 hr hn Au (Aq.bool.2 rfl) h1 ?_;have:=run (w:=w) hc;cases neg<;>simpa using this
   ·intro G σ Fr w0 st a w Q next E hN hr hw hn Au
    subst hN;cases x' with
    |c _=>exact hw.elim
    |Cd _ _=>exact hw.elim
    |t n=>
     obtain⟨rfl,Cm⟩:=Dm hx;simp only[M.wp]at hw;cases hs:st[n]? with
     |none=>simp[hs]at hw
     |some cur=>
      obtain⟨ver,sv⟩:=cur;simp only[hs]at hw;have Ay:=hr.slot Cm hs;split at hw
      ·rename_i s k v off r;obtain⟨cur,g1,g2,g3⟩:=Ay;simp only[M.wp,g1]at hw;obtain⟨hv,hw⟩:=hw;obtain⟨b,g4,g5⟩:=g3 hv;refine C1 hr hn Au (Aq.bool.2 rfl) hw ?_;have:=run (w:=w) g5;cases neg<;>simpa using this
      ·split at hw
       ·have hc:a.eval (.tmp n)= .pointer none:=by
         have h:Aq G .Zm (a.eval (.tmp n)):=Ay;unfold Aq at h;rw[if_neg (by simp[I.isAgg])]at h
         simpa[A1]using h
        refine C1 hr hn Au (Aq.bool.2 rfl) hw ?_;have:=run (w:=w) hc;cases neg<;>simpa using this
       ·exact hw.elim
      ·exact hw.elim
  ·cases hy
 ·cases hu
theorem A72{o:Oper}{t:TypeId}{ps:Array (Nat × Operand)}{sz n:Nat}{z:I}{Kg:List (Nat × Ar)}(ho:o.op= .build t ps)(hp:Gp N ps.toList Kg=true)(ht:Axq P t sz n z=true):
 Sound P N o (A5k o.dst sz n z Kg):=by
 intro G σ Fr w0 st a w Q next E hN hr hw hn Au
 subst hN;unfold Axq at ht;split at ht
 ·rename_i n' e i hu hi;simp only[Bool.and_eq_true,beq_iff_eq]at ht;obtain⟨⟨⟨rfl,hzs⟩,hz⟩,Ss⟩:=ht;cases V3:i.zero with
  |none=>simp[V3]at hz
  |some v=>
   simp only[V3]at hz;have Gw:∃c,v.cells.toList=c++[]∧A0 G (List.replicate n' z) c:=by
    split at hz
    ·rename_i h;exact Z4 G _ _ _ h
    ·cases hz
   obtain⟨c,hc,Gw⟩:=Gw;rw[List.append_nil]at hc;subst hc;have Asb:(sizeOf e).run P w= .ok sz w:=by
    cases Vz:P.info? e with
    |none=>simp[Vz]at Ss
    |some j=>
     simp only[Vz,beq_iff_eq]at Ss;simp[sizeOf,typeInfo,Vz,Ss]
   have Ps:∀(j:Nat) (zz:I),(List.replicate n' z)[j]?=some zz→(fun j:Nat=>some (j*sz,sz)) j=some (Ck ((List.replicate n' z).take j),zz.size):=by
    intro j zz Sv;have hj:j<n':=by have:=(List.getElem?_eq_some_iff.1 Sv).1;simpa using this
    have Azg:zz=z:=by rw[List.getElem?_replicate,if_pos hj]at Sv;cases Sv;rfl
    subst Azg;rw[List.take_replicate,Dc (sz:=sz) (by intro x hx;rw[List.eq_of_mem_replicate hx,hzs]),List.length_replicate,Nat.min_eq_left (Nat.le_of_lt hj),hzs]
   obtain⟨l,cells,G',σ',Af,hG,Ci,h2,h3,h4⟩:=Xe (place:=fun j=>some (j*sz,sz)) hr hp hw Gw Ps
   obtain⟨Bk,h2⟩:=h2;have hv:Aq G' (.arr sz l) (.agg cells):=by
    unfold Aq;rw[if_pos (show(I.arr sz l).isAgg=true from rfl)];exact⟨cells,rfl,h3,Bk⟩
   refine C1 Ci (fun Q7 H4 Gt a' w' Ayj=>hn Q7 H4 Gt a' w' (hG.trans Ayj)) Au hv h2 ?_
   have Tk:(ps.map fun(p:Nat × Operand)=>(p.1,a.eval p.2)).toList=ps.toList.map fun p=>(p.1,a.eval p.2):=by simp
   have hzero:(zeroValue t).run P w= .ok v w:=by simp[zeroValue,typeInfo,hi,V3]
   simp only[execOp,ho,Instr.build,Sem.run_bind,hzero,Result.andThen,run_underlying hu,Asb,Tk,h4,Sem.run_pure]
 ·cases ht
theorem A7y{o:Oper}{t:TypeId}{x i:Operand}{x' i':Ar}{agg:Bool}{sz len:Nat}(ho:o.op= .index t x i)(hx:Ax N x x'=true)(hi:Ax N i i'=true)(ht:Axn P t agg sz len=true):
 Sound P N o (A5h o.dst agg sz len x' i'):=by
 intro G σ Fr w0 st a w Q next E hN hr hw hn Au
 subst hN;obtain⟨u,h1,hu⟩:=De hr hx hw;clear hw;obtain⟨v,hw,hv⟩:=De hr hi h1;clear h1;split at hw
 ·rename_i Bs l k n;split at hw
  ·rename_i y hy;obtain⟨⟨h0,Bb,rfl,rfl,hys⟩,hw⟩:=hw;unfold Aq at hu;rw[if_pos (show(I.arr Bs l).isAgg=true from rfl)]at hu;obtain⟨arr,hc,hu,G8⟩:=hu;rw[Aq.int]at hv;obtain⟨c1,c,c2,e1,e2,e3,_⟩:=A0.nth n.toNat hu hy;have hl:=A1.length _ _ e3;unfold Axn at ht;split at ht
   ·rename_i n' e hus;simp only[Bool.and_eq_true,beq_iff_eq]at ht;obtain⟨rfl,ht⟩:=ht;obtain⟨g1,g2⟩:=P0 ht w;have Pq:Ck (l.take n.toNat)=n.toNat*Bs:=by
     have Ly:n.toNat<l.length:=(List.getElem?_eq_some_iff.1 hy).1;rw[Dc (sz:=Bs) (fun x hx=>G8 x (List.mem_of_mem_take hx)),List.length_take,Nat.min_eq_left (Nat.le_of_lt Ly)]
    rw[Pq]at e2;have Uy:∃v,(part e arr (n.toNat*Bs)).run P w= .ok v w∧Aq G y v:=by
     cases Te:y.isAgg with
     |true=>
      rw[Te]at g1;refine⟨.agg (arr.extract (n.toNat*Bs) (n.toNat*Bs+Bs)),by simp[part,g1,g2],?_⟩
      unfold Aq;rw[if_pos Te];refine⟨_,rfl,?_⟩;have:(arr.extract (n.toNat*Bs) (n.toNat*Bs+Bs)).toList=c:=by
       rw[hys]at hl;rw[Array.toList_extract,e1,List.extract_eq_take_drop, ←e2, ←hl,Nat.add_sub_cancel_left,List.append_assoc,List.drop_left,List.take_left]
      rw[this];exact e3
     |false=>
      rw[Te]at g1;have Sd:y.size=1:=by cases y<;>simp_all [I.isAgg,I.size]
      rw[Sd]at hl
      match c,hl with
      | [v],_=>
        have hv:arr[n.toNat*Bs]?=some v:=by
         have:arr[n.toNat*Bs]?=arr.toList[n.toNat*Bs]?:=by simp
         rw[this,e1, ←e2];simp
        refine⟨v,by simp[part,g1,hv],?_⟩
        unfold Aq;rw[if_neg (by simp[Te])]
        exact e3
    obtain⟨v',B0,L0⟩:=Uy;refine C1 hr hn Au L0 hw ?_;simp[execOp,ho,hc,hv,Instr.index,asIntOf,run_underlying hus,h0,Bb,g2,B0]
   ·cases ht
  ·exact hw.elim
 ·exact hw.elim
end

open Go.Op
def Aa2(w:World)(e:TypeId)(sz:Nat)(c:Value)(n:Nat)(xs:List Value):Prop:=
 xs.length=n*sz∧
 ((c= .slice none 0 0∧n=0)∨
  ∃g off cap cur,c= .slice (some ⟨g,off,none⟩) n cap∧Row w g e cur∧(e<1000000→off=0∧cur.size=cap*sz)∧n≤cap∧cap≤maxLen∧off+cap*sz≤cur.size∧(cur.toList.drop off).take (n*sz)=xs)
def Ar1(d:Nat)(er:TypeId)(sz bytes:Nat)(x:Ar)(ys:List I):M:=Q3 x fun v=>match v with
 | .vec e Bs l=>match Cn l with
   |some l0=>.Ba (Bs=sz∧(l0.length+ys.length)*bytes≤140737488355328∧l0.length+ys.length≤maxLen∧(∀u∈ys,u.size=sz)∧(e<1000000→e=er)) fun _=>C2 d (.own [] (.vec e sz ((l0++ys).map D.it)))
   |none=>.fail
 |_=>.fail
def A0u(d:Nat)(er:TypeId)(sz bytes:Nat)(str:Bool)(x y:Ar):M:=match str with
 |true=>Gx y fun u=>match u with
  | .str s=>.Ba (sz=1) fun _=>Ar1 d er sz bytes x (s.map Cr)
  |_=>.fail
 |false=>Kc y fun u=>match u with
  | .list ys=>Ar1 d er sz bytes x ys
  |_=>.fail
section
variable{P:Program}{N:Nat}{G:Mem}{σ:Lab}{Fr:Mem}{w0:Base}{w:World}{st:St}{a:Act}
theorem A0q(t tx ty er e:TypeId)(i:TypeInfo)(z:Value)(ht:P.underlying t=some (.slice er))(hi:P.info? er=some i)(hz:i.zero=some z)(hzs:z.cells.size=i.size)(h0:0<i.size)
 (v:Value) (n:Nat) (xs:List Value) (Cy:Aa2 w e i.size v n xs) (he:e<1000000→e=er) (x:Value) (m:Nat) (news:List Value) (hs:Src P i.size tx x m news w)
 (h63:n+m≤maxLen) (Ayq:(n+m)*i.bytes≤140737488355328):
 ∃v' w',(Builtin.append_ #[t,tx] ty #[v,x]).run P w= .ok v' w'∧Aa2 w' e i.size v' (n+m) (xs++news)∧w.grownBy w' v.ownBlock∧(v'.ownBlock=v.ownBlock∨v'.ownBlock=some w.heap.size):=by
 have Bji:n+m≤9223372036854775807:=by simp only[maxLen]at h63;omega
 have hlen:(xs++news).length=(n+m)*i.size:=by rw[List.length_append,Cy.1,hs.newsLen,Nat.add_mul]
 have grown:∀(base:Option Addr) (old:Nat),v= .slice base n old→old<n+m→(Builtin.firstCells i.size n (.slice base n old)).run P w.drew= .ok xs.toArray w.drew→
  ∃v' w',(Builtin.append_ #[t,tx] ty #[v,x]).run P w= .ok v' w'∧Aa2 w' e i.size v' (n+m) (xs++news)∧w.grownBy w' v.ownBlock∧(v'.ownBlock=v.ownBlock∨v'.ownBlock=some w.heap.size):=by
  intro base old hv ho hfc;have B0:=run_append_grow_src (P:=P) w t tx ty er i z ht hi hz base n old xs hfc x m news hs ho (by omega) (growslice_fits (by omega) Ayq)
  have Uc:=grownCap_ge w (n+m) old er;have Np:grownCap w (n+m) old er≤maxLen:=grownCap_le_maxLen w (n+m) old er h63;rw[←hv]at B0;have Bjj:((xs++news).toArray++Builtin.zeroCells z.cells (grownCap w (n+m) old er - (n+m))).size=grownCap w (n+m) old er*i.size:=by
   simp only[Array.size_append,List.size_toArray,size_zeroCells,hzs,hlen, ←Nat.add_mul]
   congr 1
   omega
  refine⟨_,_,B0,⟨hlen,.inr ⟨w.heap.size,0,_,_,rfl,⟨er,(0,0),heap_alloc_new w.drew _,.inl rfl,fun h=>⟨(he h).symm,rfl⟩⟩,fun _=>⟨rfl,Bjj⟩,Uc,Np,by rw[Nat.zero_add,Bjj];exact Nat.le_refl _,?_⟩⟩,⟨rfl,rfl,rfl,by simp,fun k hk _=>Pk w.drew _ k hk⟩,.inr rfl⟩
  ·simp only[Array.toList_append,List.drop_zero];rw[←hlen];exact List.take_left
 rcases Cy.2 with⟨rfl,rfl⟩|⟨g,off,cap,cur,rfl,⟨Ny,fz,hg,Ke,hty⟩,Pq,hnc,Np,Gg,Tp⟩
 ·have hx:xs=[]:=List.eq_nil_of_length_eq_zero (by simpa using Cy.1)
  subst hx;by_cases hm:m=0
  ·subst hm;have hn:news=[]:=List.eq_nil_of_length_eq_zero (by simpa using hs.newsLen)
   subst hn;refine⟨.slice none 0 0,w,?_,⟨by simp,.inl ⟨rfl,rfl⟩⟩,⟨rfl,rfl,rfl,Nat.le_refl _,fun _ _ _=>rfl⟩,.inl rfl⟩
   have h1:=hs.len w;have h2:=hs.cells;rcases hs.kind with⟨e',hk⟩|hk<;>simp[Builtin.append_,run_underlying ht,run_underlying hk,sizeOf,typeInfo,hi,h1,h2]
  ·exact grown none 0 rfl (by omega) (run_firstCells_none w.drew i.size 0 0 0)
 ·by_cases Qs:n+m≤cap
  ·have Acr:off+n*i.size+news.length≤cur.size:=by
    have:n*i.size+m*i.size≤cap*i.size:=by rw[←Nat.add_mul];exact Nat.mul_le_mul_right _ Qs
    rw[hs.newsLen];omega
   have B0:=run_append_room_src (P:=P) w t tx ty er i ht hi g off n cap x m news hs Qs (fun j hj=>(Mf w g _ cur Ny fz hg (by omega) Ke).1) (fun j hj=>(Mf w g _ cur Ny fz hg (by omega) Ke).2)
   have Cs:w.setCells g (off+n*i.size) news=w.setRow g (cur.toList.take (off+n*i.size)++news++cur.toList.drop (off+n*i.size+news.length)).toArray:=by
    have h1:=run_storeCells_cells (P:=P) g (off+n*i.size) news 0 w (fun j hj=>(Mf w g _ cur Ny fz hg (by omega) Ke).1) (fun j hj=>(Mf w g _ cur Ny fz hg (by omega) Ke).2) hs.one
    have h2:=Ji P g (off+n*i.size) Ny fz news 0 cur w hg Ke (by omega) hs.one
    rw[h1]at h2;simpa using h2
   rw[Cs]at B0;have Bk:(cur.toList.take (off+n*i.size)++news++cur.toList.drop (off+n*i.size+news.length)).toArray.size=cur.size:=by
    simp only[List.size_toArray,List.length_append,List.length_take,List.length_drop,Array.length_toList];omega
   refine⟨_,_,B0,⟨hlen,.inr ⟨g,off,cap,_,rfl,⟨Ny,fz,setRow_heap w g cur _ Ny fz hg,by rw[Bk];exact Ke,hty⟩,fun h=>⟨(Pq h).1,by rw[Bk];exact(Pq h).2⟩,Qs,Np,by rw[Bk];exact Gg,?_⟩⟩,⟨rfl,rfl,rfl,by simp,fun k _ hk=>setRow_other w g k _ (fun e=>hk (by simp[Value.ownBlock,e]))⟩,.inl rfl⟩
   have ho:off≤cur.toList.length:=by simp;omega
   have htk:cur.toList.take (off+n*i.size)=cur.toList.take off++xs:=by
    rw[←Tp,List.take_add]
   rw[htk];simp only[List.append_assoc];have J5:(cur.toList.take off).length=off:=by rw[List.length_take];omega
   rw[List.drop_left' J5, ←List.append_assoc, ←hlen];exact List.take_left
  ·refine grown (some ⟨g,off,none⟩) cap rfl (by omega) ?_
   have hl:xs.length=n*i.size:=Cy.1;refine run_firstCells_some w.drew i.size n ⟨g,off,none⟩ n cap xs hl ?_;intro j u hj;have h1:w.drew.cell? ((⟨g,off,none⟩:Addr).add j)=cur[off+j]?:=by
    rw[add_lit];exact cell_of_row w.drew g (off+j) cur Ny fz hg
   rw[h1];have:cur[off+j]?=cur.toList[off+j]?:=by simp
   rw[this];rw[←Tp,List.getElem?_take]at hj;split at hj
   ·rw[List.getElem?_drop]at hj;exact hj
   ·cases hj
theorem A3.A7f{e:TypeId}{sz:Nat}{l0:List I}{c:Value}{bs:List Nat}(h:A3 G w (.vec e sz (l0.map D.it)) [c] bs):
 ∃xs,Aa2 w e sz c l0.length xs∧A0 G l0 xs∧(∀x∈l0,x.size=sz)∧((bs=[]∧c.ownBlock=none)∨∃g,bs=[g]∧c.ownBlock=some g):=by
 simp only[A3]at h;rcases h with⟨e1,e2,rfl⟩|⟨g,off,cap,cur,xs,Cv,e1,q1,q0,q2,q3,q4,q5,q6,q7,rfl⟩
 ·injection e1 with e1
  have:l0=[]:=by simpa using e2
  subst this;exact⟨[],⟨by simp,.inl ⟨e1,rfl⟩⟩,by simp[A0],by simp,.inl ⟨rfl,by rw[e1];rfl⟩⟩
 ·injection e1 with e1
  obtain⟨q6',rfl⟩:=Bi.its.1 q6;have G8:∀x∈l0,x.size=sz:=fun x hx=>q7 _ (List.mem_map.2 ⟨x,hx,rfl⟩)
  rw[List.length_map]at e1 q2 q5;exact⟨xs,⟨by rw[A0.length _ _ q6',Dc G8],.inr ⟨g,off,cap,cur,e1,q1,q0,q2,q3,q4,q5⟩⟩,q6',G8,.inr ⟨g,rfl,by rw[e1];rfl⟩⟩
theorem Aa2.Awt{e:TypeId}{sz:Nat}{l0:List I}{c:Value}{xs:List Value}(h:Aa2 w e sz c l0.length xs)(hr:A0 G l0 xs)(hs:∀x∈l0,x.size=sz)
 (hb:∀b,c.ownBlock=some b→G b=none∧Fr b=none∧σ b=none):R2 G σ Fr w (.vec e sz (l0.map D.it)) c:=by
 rcases h.2 with⟨rfl,h0⟩|⟨g,off,cap,cur,rfl,q1,q0,q2,q3,q4,q5⟩
 ·obtain rfl:=List.eq_nil_of_length_eq_zero h0;exact⟨[],by simp[A3,Value.cells],rfl,List.nodup_nil,by simp⟩
 ·refine⟨[g],?_,rfl,by simp,?_⟩
  ·simp only[A3,Value.cells];refine .inr ⟨g,off,cap,cur,xs,[],by simp,q1,q0,by simpa using q2,q3,q4,by simpa using q5,Bi.its.2 ⟨hr,rfl⟩,?_,rfl⟩
   intro x hx;obtain⟨y,hy,rfl⟩:=List.mem_map.1 hx;exact hs y hy
  ·intro b Br;obtain rfl:=List.mem_singleton.1 Br;obtain⟨k1,k2,k3⟩:=hb b rfl;obtain⟨_,_,k,_⟩:=q1;exact⟨k1,k2,k3,(Array.getElem?_eq_some_iff.1 k).1⟩
theorem A3g{o:Oper}{d:Nat}{t tx er:TypeId}{x y:Operand}{x' y':Ar}{sz bytes:Nat}{str:Bool}(hd:o.dst=some d)
 (ho:o.op= .call {callee:=.builtin .append,args:= #[x,y],argTypes:= #[t,tx]}) (hx:Ax N x x'=true) (hy:Ax N y y'=true) (ht:Aiy P t tx er sz bytes str=true):
 Sound P N o (A0u d er sz bytes str x' y'):=by
 intro G0 σ0 Fr w0 st0 a w Q next E hN hr hw hn Au
 subst hN;unfold Aiy at ht;simp only[Bool.and_eq_true]at ht;obtain⟨ht,htx⟩:=ht;split at ht
 ·rename_i e' hu;simp only[Bool.and_eq_true,beq_iff_eq]at ht;obtain⟨rfl,ht⟩:=ht;split at ht
  ·rename_i i hi;simp only[Bool.and_eq_true,beq_iff_eq,bne_iff_ne,ne_eq]at ht;obtain⟨⟨⟨rfl,rfl⟩,h0⟩,ht⟩:=ht;split at ht
   ·rename_i z hz;simp only[beq_iff_eq]at ht;have exec:∀{v' w'},(Builtin.append_ #[t,tx] o.type #[a.eval x,a.eval y]).run P w= .ok v' w'→(execOp a.eval o).run P w= .ok (.value v') w':=by
     intro v' w' B0;simp[execOp,ho,resolve,invoke,builtin,B0]
    have fin:∀{G:Mem} {σ:Lab} {st:St} {ys:List I},G0.le G→Rel G σ Fr w0 st a w→(∃news,Src P i.size tx (a.eval y) ys.length news w∧A0 G ys news)→
     (Ar1 d e' i.size i.bytes x' ys).wp P Q st→o.wp P a w next E:=by
     intro G σ st ys hG E2 ⟨news,Pv,Ay⟩ h1;obtain⟨v,bv,G2,σ2,st2,Td,F2,h2,hfv,_,_⟩:=Kb E2 hx h1;split at h2
     ·rename_i e Bs l;split at h2
      ·rename_i l0 hl0;obtain⟨⟨rfl,Vy,Gb,Bk,he⟩,h2⟩:=h2;obtain rfl:=Ui hl0;obtain⟨v1,v2,v3,v4⟩:=hfv;rw[Fp v2]at v1;obtain⟨xs,k1,k2,k3,k4⟩:=A3.A7f v1;obtain⟨v',w',B0,q1,q2,q3⟩:=A0q (P:=P) t tx o.type e' e i z hu hi hz ht (by omega) (a.eval x) l0.length xs k1 he (a.eval y) ys.length news Pv Gb Vy
       have hblk:∀b,(a.eval x).ownBlock=some b→G2 b=none∧Fr b=none∧σ2 b=none:=by
        intro b hb;rcases k4 with⟨_,h⟩|⟨g,rfl,h⟩
        ·rw[h]at hb;cases hb
        ·rw[h]at hb;cases hb;obtain⟨p1,p2,p3,_⟩:=v4 b (by simp)
         exact⟨p1,p2,p3⟩
       have hr3:=F2.Bcs q2 hblk;have hFD:R2 G2 σ2 Fr w' (.vec e i.size ((l0++ys).map D.it)) v':=by
        refine Aa2.Awt (xs:=xs++news) (by rw[List.length_append];exact q1) (A0.append k2 (A0.mono Td _ _ Ay)) ?_ ?_
        ·intro z hz;rcases List.mem_append.1 hz with hz|hz
         ·exact k3 z hz
         ·exact Bk z hz
        ·intro b hb;rcases q3 with q3|q3
         ·rw[q3]at hb;exact hblk b hb
         ·rw[q3]at hb;cases hb;exact F2.Bm.fresh (Nat.le_refl _)
       obtain⟨σ',Af,r1,r2⟩:=hr3.Fv (P:=P) (Au d hd) hFD h2;exact Bv (exec B0) (by rw[hd];exact hn G2 σ' Af _ w' (hG.trans Td) r1 r2)
      ·exact h2.elim
     ·exact h2.elim
    cases str with
    |true=>
     have Bd5:P.underlying tx=some .string:=by
      split at htx
      ·assumption
      ·simp at htx
      ·cases htx
     obtain⟨u,h1,hv⟩:=De hr hy hw;split at h1
     ·rename_i s;obtain⟨Tm,h1⟩:=h1;obtain⟨hc,Ei⟩:=Aq.str.1 hv;have Pv:=Src.ofString (P:=P) (w:=w) Bd5 ⟨⟨s⟩⟩;rw[←hc,show(⟨⟨s⟩⟩:ByteArray).size=(s.map Cr).length by rw[List.length_map];rfl, ←Tm]at Pv
      exact fin (Mem.le.refl G0) hr ⟨_,Pv,Xc s⟩ h1
     ·exact h1.elim
    |false=>
     have Ei:∃e',P.underlying tx=some (.slice e'):=by
      split at htx
      ·cases htx
      ·exact⟨_,by assumption⟩
      ·cases htx
     obtain⟨e2,Ei⟩:=Ei;obtain⟨u,G,σ1,st1,hG,E2,h1,hv⟩:=Km hr hy hw;split at h1
     ·rename_i ys;by_cases hys:∀u∈ys,u.size=i.size
      ·obtain⟨ad,cap,hcy,Th⟩:=Acn (σ:=σ1) (Fr:=Fr) (u:=.it (.list ys)) (ys:=ys.map D.it) (sz:=i.size) (Ni.item hv) E2.Bm rfl (by
        intro u hu;obtain⟨y,hy,rfl⟩:=List.mem_map.1 hu;exact hys y hy)
       rw[List.length_map]at hcy Th;rcases Th with⟨rfl,Kv⟩|⟨A,news,bn,rfl,hl,Ay,_,_,Ti⟩
       ·have:ys=[]:=by simpa using Kv
        subst this;exact fin hG E2 ⟨[],by rw[hcy];exact Src.ofNil (w:=w) Ei cap,by simp[A0]⟩ h1
       ·have hrI:=(Bi.its.1 Ay).1;exact fin hG E2 ⟨news,by rw[hcy];exact Src.ofSlice w Ei A ys.length cap news hl Ti (A0.one _ _ hrI),hrI⟩ h1
      ·exfalso;obtain⟨v,bv,G2,σ2,st2,Td,F2,h2,hfv,_,_⟩:=Kb E2 hx h1;split at h2
       ·split at h2
        ·exact hys h2.1.2.2.2.1
        ·exact h2.elim
       ·exact h2.elim
     ·exact h1.elim
   ·cases ht
  ·cases ht
 ·cases ht
def A5x(d:Nat)(sz:Nat)(x lo:Ar):M:=Gx lo fun u=>match u with
 | .int _ k=>Q3 x fun v=>match v with
   | .vec e Bs l=>match Cn l with
     |some l0=>.Ba (Bs=sz∧0≤k∧k.toNat≤l0.length) fun _=>C2 d (.own [] (.vec (if e<1000000 then e+1000000 else e) sz ((l0.drop k.toNat).map D.it)))
     |none=>.fail
   |_=>.fail
 |_=>.fail
theorem A8j{o:Oper}{d:Nat}{t:TypeId}{x lo:Operand}{x' Ra:Ar}{sz:Nat}(hd:o.dst=some d)(ho:o.op= .slice t x (some lo) none none)(hx:Ax N x x'=true)
 (hlo:Ax N lo Ra=true) (ht:Hv P t sz=true):Sound P N o (A5x d sz x' Ra):=by
 intro G0 σ0 Fr w0 st0 a w Q next E hN hr hw hn Au
 subst hN;obtain⟨u,h1,hk⟩:=De hr hlo hw;split at h1
 ·rename_i kk k;rw[Aq.int]at hk;obtain⟨v,bv,G2,σ2,st2,Td,F2,h2,hfv,_,_⟩:=Kb hr hx h1;split at h2
  ·rename_i e Bs l;split at h2
   ·rename_i l0 hl0;obtain⟨⟨rfl,hk0,Nq⟩,h2⟩:=h2;obtain rfl:=Ui hl0;obtain⟨v1,v2,v3,v4⟩:=hfv;rw[Fp v2]at v1;obtain⟨xs,k1,k2,k3,k4⟩:=A3.A7f v1;obtain⟨ad,cap,hc,K9⟩:∃ad cap,a.eval x= .slice ad l0.length cap∧l0.length≤cap:=by
     rcases k1.2 with⟨q1,q2⟩|⟨g,off,cap,cur,q1,_,_,q2,_⟩
     ·exact⟨none,0,by rw[q1,q2],by omega⟩
     ·exact⟨_,cap,q1,q2⟩
    have hb:=F7 (P:=P) (a:=a) (isSlice:=true) (len:=l0.length) (cap:=cap) (lo:=some lo) (hi:=none) (i:=k) (j:=(l0.length:Int)) w (.inr ⟨lo,kk,rfl,hk⟩) (.inl ⟨rfl,rfl⟩) hk0 (by omega) (by omega) K9
    have Ei:∃e i0,P.underlying t=some (.slice e)∧P.info? e=some i0∧i0.size=Bs:=by
     unfold Hv at ht;split at ht
     ·rename_i e hu;split at ht
      ·rename_i i0 Mv;simp only[Bool.and_eq_true,beq_iff_eq]at ht;exact⟨e,i0,hu,Mv,ht.1⟩
      ·cases ht
     ·cases ht
    obtain⟨e0,i0,hu,Mv,Bk⟩:=Ei;have B0:(execOp a.eval o).run P w= .ok (.value (.slice (if cap=k.toNat then ad else ad.map (·.add (k.toNat*Bs))) (l0.length - k.toNat) (cap - k.toNat))) w:=by
     simp only[Option.map_some,Option.map_none,if_true,Bool.true_eq_false,if_false,reduceIte]at hb;simp[execOp,ho,Instr.sliceAt,Instr.slice,run_underlying hu,hc,hb,sizeOf,typeInfo,Mv,Bk]
    have Mj:¬((if e<1000000 then e+1000000 else e)<1000000):=by by_cases h:e<1000000<;>simp[h]<;>omega
    have Mx:∃d',xs=xs.take (k.toNat*Bs)++d'∧A0 G2 (l0.drop k.toNat) d'∧d'=xs.drop (k.toNat*Bs):=by
     have k2':=k2;rw[←List.take_append_drop k.toNat l0]at k2';obtain⟨c,d',hcd,h5,h6⟩:=A0.split k2';have C4:c.length=k.toNat*Bs:=by rw[A0.length _ _ h5,Dc (sz:=Bs) fun x hx=>k3 x (List.mem_of_mem_take hx),List.length_take,Nat.min_eq_left Nq]
     refine⟨d',?_,h6,?_⟩
     ·rw[hcd, ←C4,List.take_left]
     ·rw[hcd, ←C4,List.drop_left]
    obtain⟨d',_,hrd,Ub⟩:=Mx;have An1:∀x∈l0.drop k.toNat,x.size=Bs:=fun x hx=>k3 x (List.mem_of_mem_drop hx)
    have hFD:R2 G2 σ2 Fr w (.vec (if e<1000000 then e+1000000 else e) Bs ((l0.drop k.toNat).map D.it)) (.slice (if cap=k.toNat then ad else ad.map (·.add (k.toNat*Bs))) (l0.length - k.toNat) (cap - k.toNat)):=by
     refine Aa2.Awt (xs:=d') ⟨by rw[Ub,List.length_drop,k1.1,List.length_drop,Nat.sub_mul],?_⟩ hrd An1 ?_
     ·rcases k1.2 with⟨q1,q2⟩|⟨g,off,cp,cur,q1,⟨ty,fz,q2,q3,_⟩,q0,q4,q5,q6,q7⟩
      ·rw[hc]at q1;injection q1 with e1 e2 e3
       subst e1;subst e3;left;have h1:k.toNat=0:=by omega
       simp[h1,q2]
      ·rw[hc]at q1;cases q1;right;have hkm:k.toNat*Bs≤cap*Bs:=Nat.mul_le_mul_right _ (by omega)
       by_cases hck:cap=k.toNat
       ·refine⟨g,off,0,cur,?_,⟨ty,fz,q2,q3,fun h=>absurd h Mj⟩,fun h=>absurd h Mj,?_,by omega,by omega,?_⟩
        ·rw[if_pos hck,List.length_drop,hck,Nat.sub_self]
        ·rw[List.length_drop];omega
        ·have:l0.length - k.toNat=0:=by omega
         rw[Ub,List.length_drop,this,Nat.zero_mul,List.take_zero];symm;rw[List.drop_eq_nil_iff,k1.1];exact Nat.mul_le_mul_right _ (by omega)
       ·refine⟨g,off+k.toNat*Bs,cap - k.toNat,cur,?_,⟨ty,fz,q2,q3,fun h=>absurd h Mj⟩,fun h=>absurd h Mj,?_,by omega,?_,?_⟩
        ·rw[if_neg hck,List.length_drop];simp[add_lit]
        ·rw[List.length_drop];omega
        ·rw[Nat.sub_mul];omega
        ·rw[Ub, ←q7,List.length_drop,List.drop_take,List.drop_drop,Nat.sub_mul]
     ·intro b hb;have Br:(a.eval x).ownBlock=some b:=by
       rw[hc];cases ad with
       |none=>split at hb<;>simp[Value.ownBlock]at hb
       |some A=>
        have hA:∀m,(A.add m).block=A.block:=by
         intro m;unfold Addr.add;split<;>rfl
        split at hb<;>simpa[Value.ownBlock,hA]using hb
      rcases k4 with⟨_,h⟩|⟨g,rfl,h⟩
      ·rw[h]at Br;cases Br
      ·rw[h]at Br;cases Br;obtain⟨p1,p2,p3,_⟩:=v4 b (by simp)
       exact⟨p1,p2,p3⟩
    obtain⟨σ',Af,r1,r2⟩:=F2.Fv (P:=P) (Au d hd) hFD h2;exact Bv B0 (by rw[hd];exact hn G2 σ' Af _ w Td r1 r2)
   ·exact h2.elim
  ·exact h2.elim
 ·exact h1.elim
end

open Go.Op
def Bk3(_:Nat)(sv:SV):Nat × SV:=match sv with
 | .bs _ _ _ _ _=>(0,.bs 0 0 [] 0 0)
 |_=>(0,.no)
def Awx(x:Ar)(yes no:M):M:=match x with
 | .t n=>.Ks n Bk3 fun _ sv=>match sv with
   | .bs _ _ _ _ _=>yes
   |_=>no
 |_=>no
def A5y(d:Option Nat)(sz:Nat)(x:Ar)(lo hi:Option Ar):M:=rdH x fun s cur inv t p=>match D.at p t with
 |some u=>match u with
  | .vec _ Bs l=>rdB lo 0 fun i=>rdB hi l.length fun j=>.Ba (Bs=sz∧0≤i∧i≤j∧j≤l.length∧d≠some s∧alive cur inv (p.length+1)=true) fun _=>A9 d (.bs s cur p i.toNat (j.toNat - i.toNat)) .done
  |_=>.fail
 |none=>.fail
def Au1(d:Option Nat)(sz:Nat)(x i:Ar):M:=Gx i fun n=>match n with
 | .int _ k=>match x with
   | .t m=>.get m fun _ sv=>match sv with
     | .bs s v p lo n=>.get s fun cur C9=>match C9 with
       | .own _ t=>match D.at p t with
         |some u=>match u with
          | .vec _ Bs _=>.Ba (v=cur∧0≤k∧k.toNat<n∧Bs=sz∧d≠some s) fun _=>A9 d (.pd s cur (p++[lo+k.toNat])) .done
          |_=>.fail
         |none=>.fail
       |_=>.fail
     |_=>.fail
   |_=>.fail
 |_=>.fail
def As9(d:Option Nat)(x:Ar):M:=match x with
 | .t m=>.get m fun _ sv=>match sv with
   | .bs s v p _ n=>.get s fun cur C9=>match C9 with
     | .own _ t=>match D.at p t with
       |some u=>.Ba (v=cur∧u.isAgg=false) fun _=>A9 d (.v (.int .i64 n)) .done
       |none=>.fail
     |_=>.fail
   |_=>.fail
 |_=>.fail
def A02(d:Option Nat)(agg:Bool)(sz:Nat)(x:Ar):M:=rdD x fun s cur inv t p=>match D.at p t with
 |some u=>.Ba (agg=true∧u.isAgg=true∧u.size=sz∧d≠some s∧alive cur inv (p.length+1)=true) fun _=>A9 d (.bs s cur p 0 0) .done
 |none=>.fail
section
variable{P:Program}{N:Nat}{G:Mem}{σ:Lab}{Fr:Mem}{w0:Base}{w:World}{st:St}{a:Act}
theorem A3n{o:Oper}{t:TypeId}{x:Operand}{x':Ar}{agg:Bool}{sz:Nat}(ho:o.op= .load t x)(hx:Ax N x x'=true)(ht:Hd P t agg sz=true):Sound P N o (A02 o.dst agg sz x'):=by
 intro G σ Fr w0 st a w Q next E hN hr hw hn Au
 subst hN;have run:∀{b off:Nat} {v:Value},a.eval x= .pointer (some ⟨b,off,none⟩)→(loadVar t ⟨b,off,none⟩).run P w= .ok v w→(execOp a.eval o).run P w= .ok (.value v) w:=by
  intro b off v hp hl;simp[execOp,ho,hp,Instr.loadAt,Instr.sureAddr,hl]
 obtain⟨s,cur,inv,tr,p,h1,hs,hp0,Q8⟩:=Afr hr hx hw;have Cy:=hr.Bj s cur _ hs;split at h1
 ·rename_i u Da;obtain⟨b,off,bl,ty,fz,pre,cs,post,D7,e1,e2,e3,e4,e5,e6,e7⟩:=Pc.block Cy Da Q8;have Sd:=A3.one e5;have hlen:=A3.length e5;obtain⟨⟨rfl,Fg,Bk,Aw,hal⟩,h1⟩:=h1;obtain⟨v,hl,hvc,Kw⟩:=Agz (P:=P) (cs:=cs) (agg:=true) (by rw[hlen,Bk];exact ht) (by intro e;cases e) e2 e3 e4 Sd
  obtain⟨σ',Af,r1,r2⟩:=hr.A9 Au (sv:=.bs s cur p 0 0) (c:=v) (fun d' hd ver _=>by
   refine⟨_,by rw[List.getElem?_set_ne (by rintro rfl;exact Aw hd)];exact hs,Nat.le_refl _,fun _ J2 t' e=>?_⟩
   cases e;rw[Cb (by rintro rfl;exact Aw hd)]
   exact⟨hal,.inr ⟨u,_,Da,Fg,Kw,by rw[hvc];exact e7⟩⟩) h1
  exact Bv (run e1 hl) (hn G σ' Af _ w (Mem.le.refl G) r1 r2)
 ·exact h1.elim
theorem Au6{o:Oper}{x:Ar}{yes no:M}(h1:Sound P N o yes)(h2:Sound P N o no):Sound P N o (Awx x yes no):=by
 intro G σ Fr w0 st a w Q next E hN hr hw hn Au
 have:yes.wp P Q st∨no.wp P Q st:=by
  cases x with
  |c _=>exact .inr hw
  |Cd _ _=>exact .inr hw
  |t n=>
   simp only[Awx,M.wp]at hw;cases hs:st[n]? with
   |none=>simp[hs]at hw
   |some cur=>
    obtain⟨cv,Eh⟩:=cur;simp only[hs]at hw;cases Eh with
    |bs _ _ _ _ _=>exact .inl hw
    |_=>exact .inr hw
 rcases this with h|h
 ·exact h1 G σ Fr w0 st a w Q next E hN hr h hn Au
 ·exact h2 G σ Fr w0 st a w Q next E hN hr h hn Au
theorem A8k{o:Oper}{t:TypeId}{x:Operand}{lo hi:Option Operand}{x':Ar}{Ra Fh:Option Ar}{sz:Nat}(ho:o.op= .slice t x lo hi none)(hx:Ax N x x'=true)
 (hlo:oOk N lo Ra=true) (hhi:oOk N hi Fh=true) (ht:Hv P t sz=true):Sound P N o (A5y o.dst sz x' Ra Fh):=by
 intro G σ Fr w0 st a w Q next E hN hr hw hn Au
 subst hN;obtain⟨s,cur,inv,tr,p,h1,hs,hhd⟩:=Bhh hr hx hw;have Cy:=hr.Bj s cur _ hs;split at h1
 ·rename_i u Da;split at h1
  ·rename_i e Bs l;obtain⟨i,h2,hi1⟩:=K6 hr hlo h1;obtain⟨j,h3,Y3⟩:=K6 hr hhi h2;obtain⟨⟨rfl,h0,Gv,hjl,Aw,hal⟩,h3⟩:=h3;obtain⟨hh,D7,e5,e6,e7⟩:=N9.read Cy Da hhd;simp only[A3]at e5;obtain⟨ad,cap,hc,K9⟩:∃ad cap,a.eval x= .slice ad l.length cap∧l.length≤cap:=by
    rcases e5 with⟨q1,q2,_⟩|⟨g,off,cap,cu,xs,Cv,q1,_,_,q2,q3,_⟩
    ·injection q1 with q1
     exact⟨none,0,by rw[q1,q2];rfl,by rw[q2];exact Nat.le_refl _⟩
    ·injection q1 with q1
     exact⟨_,cap,q1,q2⟩
   have hb:=F7 (P:=P) (a:=a) (isSlice:=true) (len:=l.length) (cap:=cap) (lo:=lo) (hi:=hi) (i:=i) (j:=j) w hi1 Y3 h0 Gv hjl K9;have Ei:∃e i0,P.underlying t=some (.slice e)∧P.info? e=some i0∧i0.size=Bs:=by
    unfold Hv at ht;split at ht
    ·rename_i e hu;split at ht
     ·rename_i i0 Mv;simp only[Bool.and_eq_true,beq_iff_eq]at ht;exact⟨e,i0,hu,Mv,ht.1⟩
     ·cases ht
    ·cases ht
   obtain⟨e0,i0,hu,Mv,Bk⟩:=Ei;have B0:(execOp a.eval o).run P w= .ok (.value (.slice (if cap=i.toNat then ad else ad.map (·.add (i.toNat*Bs))) (j.toNat - i.toNat) (cap - i.toNat))) w:=by
    simp[execOp,ho,Instr.sliceAt,Instr.slice,run_underlying hu,hc,hb,sizeOf,typeInfo,Mv,Bk]
   obtain⟨σ',Af,r1,r2⟩:=hr.A9 Au (sv:=.bs s cur p i.toNat (j.toNat - i.toNat)) (c:=.slice (if cap=i.toNat then ad else ad.map (·.add (i.toNat*Bs))) (j.toNat - i.toNat) (cap - i.toNat)) (fun d' hd ver _=>by
    refine⟨_,by rw[List.getElem?_set_ne (by rintro rfl;exact Aw hd)];exact hs,Nat.le_refl _,fun _ J2 t' e=>?_⟩
    cases e;rw[Cb (by rintro rfl;exact Aw hd)]
    exact⟨hal,.inl ⟨e,Bs,l,a.eval x,ad,cap,Da,hhd,hc,K9,by omega,rfl⟩⟩) h3
   exact Bv B0 (hn G σ' Af _ w (Mem.le.refl G) r1 r2)
  ·exact h1.elim
 ·exact h1.elim
theorem A1k{o:Oper}{t:TypeId}{x i:Operand}{x' i':Ar}{sz:Nat}(ho:o.op= .indexAddr t x i)(hx:Ax N x x'=true)(hi:Ax N i i'=true)(ht:Hv P t sz=true):
 Sound P N o (Au1 o.dst sz x' i'):=by
 intro G σ Fr w0 st a w Q next E hN hr hw hn Au
 subst hN;obtain⟨n0,h1,Y6⟩:=De hr hi hw;split at h1
 ·rename_i kk k;rw[Aq.int]at Y6;cases x' with
  |c _=>exact h1.elim
  |Cd _ _=>exact h1.elim
  |t m=>
   obtain⟨rfl,Cm⟩:=Dm hx;simp only[M.wp]at h1;cases hs0:st[m]? with
   |none=>simp[hs0]at h1
   |some Af8=>
    obtain⟨ver,sv⟩:=Af8;simp only[hs0]at h1;have Ay:=hr.slot Cm hs0;split at h1
    ·rename_i s v p lo n;obtain⟨cur,g1,g2,g3⟩:=Ay;simp only[M.wp,g1]at h1;obtain⟨cv,Eh⟩:=cur;simp only at h1;split at h1
     ·rename_i inv tr;split at h1
      ·rename_i u Da;split at h1
       ·rename_i e Bs l;obtain⟨⟨rfl,h0,Bb,rfl,Aw⟩,h1⟩:=h1;obtain⟨_,hbs⟩:=g3 rfl inv tr rfl;obtain⟨e1,sz1,l1,c0,ad,cap,q1,q2,q3,q4,q5,q6⟩:∃e1 sz1 l1 c0 ad cap,tr.at p=some (.vec e1 sz1 l1)∧N9 w tr (val a w0 s) p c0∧c0= .slice ad l1.length cap∧l1.length≤cap∧lo+n≤l1.length∧
         a.eval (.tmp m)= .slice (if cap=lo then ad else ad.map (·.add (lo*sz1))) n (cap - lo):=by
         rcases hbs with h|⟨u1,_,k1,k2,_⟩
         ·exact h
         ·rw[Da]at k1;cases k1;cases k2
        rw[Da]at q1;cases q1;have Cy:=hr.Bj s v _ g1;obtain⟨hh,D7,e5,e6,e7⟩:=N9.read Cy Da q2;simp only[A3]at e5;rcases e5 with⟨_,rfl,_⟩|⟨g,off,Ta,cu,xs,Cv,p1,⟨ty,fz,p2,_⟩,_⟩
        ·simp only[List.length_nil]at q5;omega
        ·injection p1 with p1
         rw[q3]at p1;cases p1;have C4:¬cap=lo:=by omega
         rw[if_neg C4]at q6;have hk:(D.vec e Bs l).Dj (lo+k.toNat)=some (l[lo+k.toNat]'(by omega)):=by simp[D.Dj,List.getElem?_eq_getElem (show lo+k.toNat<l.length by omega)]
         have Wm:Option.map (·.add (lo*Bs)) (some (⟨g,off,none⟩:Addr))=some ⟨g,off+lo*Bs,none⟩:=by simp[add_lit]
         rw[Wm]at q6;refine Amc hr Au g1 hn Aw (c:=.pointer (some ⟨g,off+(lo+k.toNat)*Bs,none⟩)) ⟨_,g,off+(lo+k.toNat)*Bs,(cu.toList.drop (off+(lo+k.toNat)*Bs)).take Bs,by rw[Uk Da];exact hk,?_,rfl⟩ ?_ h1
         ·rw[Qb Da e7 hk,q3];simp only[B9,List.getElem?_eq_getElem (show lo+k.toNat<l.length by omega),p2]
         ·have:=Acw (P:=P) (t:=t) (sz:=Bs) (b:=g) (off:=off+lo*Bs) (len:=n) (cap:=cap - lo) (k:=kk) (n:=k) ht w h0 Bb;simp[execOp,ho,q6,Y6,this,Nat.add_mul,Nat.add_assoc]
       ·exact h1.elim
      ·exact h1.elim
     ·exact h1.elim
    ·exact h1.elim
 ·exact h1.elim
theorem A79{o:Oper}{t:TypeId}{x:Operand}{x':Ar}(ho:o.op= .call {callee:=.builtin .len,args:= #[x],argTypes:= #[t]})(hx:Ax N x x'=true)(ht:Abu P t false=true):Sound P N o (As9 o.dst x'):=by
 intro G σ Fr w0 st a w Q next E hN hr hw hn Au
 subst hN;cases x' with
 |c _=>exact hw.elim
 |Cd _ _=>exact hw.elim
 |t m=>
  obtain⟨rfl,Cm⟩:=Dm hx;simp only[As9,M.wp]at hw;cases hs0:st[m]? with
  |none=>simp[hs0]at hw
  |some Af8=>
   obtain⟨ver,sv⟩:=Af8;simp only[hs0]at hw;have Ay:=hr.slot Cm hs0;split at hw
   ·rename_i s v p lo n;obtain⟨cur,g1,g2,g3⟩:=Ay;simp only[M.wp,g1]at hw;obtain⟨cv,Eh⟩:=cur;simp only at hw;split at hw
    ·rename_i inv tr;split at hw;rotate_left 1
     ·exact hw.elim
     rename_i u Da;obtain⟨⟨rfl,Fg⟩,hw⟩:=hw;obtain⟨_,hbs⟩:=g3 rfl inv tr rfl;obtain⟨sz1,ad,cap,q6⟩:∃sz1 ad cap,a.eval (.tmp m)= .slice (if cap=lo then ad else ad.map (·.add (lo*sz1))) n (cap - lo):=by
      rcases hbs with⟨e1,sz1,l1,c0,ad,cap,q1,q2,q3,q4,q5,q6⟩|⟨u1,_,k1,k2,_⟩
      ·exact⟨sz1,ad,cap,q6⟩
      ·rw[Da]at k1;cases k1;rw[Fg]at k2;cases k2
     have hu:∃e,P.underlying t=some (.slice e):=by
      unfold Abu at ht;split at ht
      ·cases ht
      ·rename_i e h;exact⟨e,h⟩
      ·cases ht
     obtain⟨e',hu⟩:=hu;exact C1 hr hn Au (Aq.int.2 rfl) hw (by simp[execOp,ho,resolve,invoke,builtin,Builtin.len_,run_underlying hu,q6,goInt])
    ·exact hw.elim
   ·exact hw.elim
end

open Go.Op
def Afc(w:World)(b:Nat)(o:Obj):World:={w with heap:=w.heap.setIfInBounds b o}
def Gq(str:List UInt8)(pos:Nat):Nat × Nat:=Utf8.decode ⟨⟨str⟩⟩ pos
def A5v(d:Nat)(x:Ar):M:=Gx x fun u=>match u with
 | .str s=>C2 d (.W8 s 0)
 |_=>.fail
def Aoh(d:Option Nat)(x:Ar):M:=match x with
 | .t n=>.get n fun ver sv=>match sv with
   | .W8 s pos=>.ite (decide (pos<s.length))
    (.set n (ver+1) (.W8 s (pos+(Gq s pos).2)) (.Ba (d≠some n) fun _=>A9 d (.Dv [.i (.bool true),.i (.int .i64 pos),.i (.int .i32 (Gq s pos).1)]) .done))
    (A9 d (.Dv [.i (.bool false)]) .done)
   |_=>.fail
 |_=>.fail
section
variable{P:Program}{N:Nat}{G:Mem}{σ:Lab}{Fr:Mem}{w0:Base}{w:World}{st:St}{a:Act}
theorem A8g{o:Oper}{d:Nat}{t:TypeId}{x:Operand}{x':Ar}(hd:o.dst=some d)(ho:o.op= .range t x)(hx:Ax N x x'=true)(ht:P.underlying t=some .string):Sound P N o (A5v d x'):=by
 intro G σ Fr w0 st a w Q next E hN hr hw hn Au
 subst hN;obtain⟨u,h1,hu⟩:=De hr hx hw;split at h1
 ·rename_i s;obtain⟨hc,hl⟩:=Aq.str.1 hu;obtain⟨σ',Af,r1,r2⟩:=hr.U3 (Au d hd) (sv:=.W8 s 0) (o:=.stringIter ⟨⟨s⟩⟩ 0) (c:=.pointer (some ⟨w.heap.size,0,none⟩)) rfl (by intro _ e;cases e)
   (fun σ1 _ hb=>⟨w.heap.size,rfl,hb,heap_alloc_new w _⟩) h1
  refine Bv (w':=w.alloc (.stringIter ⟨⟨s⟩⟩ 0)) ?_ (by rw[hd];exact hn G σ' Af _ _ (Mem.le.refl G) r1 r2)
  simp[execOp,ho,Instr.range,run_underlying ht,hc]
 ·exact h1.elim
theorem A3r{o:Oper}{x:Operand}{x':Ar}(ho:o.op= .next x true)(hx:Ax N x x'=true):Sound P N o (Aoh o.dst x'):=by
 intro G σ Fr w0 st a w Q next E hN hr hw hn Au
 subst hN;cases x' with
 |c _=>exact hw.elim
 |Cd _ _=>exact hw.elim
 |t n=>
  obtain⟨rfl,Cm⟩:=Dm hx;simp only[Aoh,M.wp]at hw;cases hs:st[n]? with
  |none=>simp[hs]at hw
  |some cur=>
   obtain⟨ver,sv⟩:=cur;simp only[hs]at hw;have Ay:=hr.slot Cm hs;split at hw
   ·rename_i s pos;obtain⟨b,hc,hσ,hb⟩:=Ay;obtain⟨h1,h2⟩:=hw;have Bob:b<w.heap.size:=(Array.getElem?_eq_some_iff.1 hb).1;have Y1:(getObj b).run P w= .ok (.stringIter ⟨⟨s⟩⟩ pos) w:=by simp[getObj,Sem.run,hb]
    have Bk:(⟨⟨s⟩⟩:ByteArray).size=s.length:=rfl;by_cases hp:pos<s.length
    ·have h1:=h1 (decide_eq_true hp);obtain⟨Aw,h1⟩:=h1
     let w1:=Afc w b (.stringIter ⟨⟨s⟩⟩ (pos+(Gq s pos).2))
     have Cs:(setObj b (.stringIter ⟨⟨s⟩⟩ (pos+(Gq s pos).2))).run P w= .ok () w1:=by simp[setObj,Sem.run,hb,w1,Afc]
     have Bkz:w1.heap[b]?=some (.stringIter ⟨⟨s⟩⟩ (pos+(Gq s pos).2)):=by simp[w1,Afc,Bob]
     have Pr:∀x,x≠b→w1.heap[x]?=w.heap[x]?:=by
      intro x hx;simp[w1,Afc,Array.getElem?_setIfInBounds,Ne.symm hx]
     obtain⟨k1,k2,k3⟩:=hr.Bm.own b _ hσ;have Bu:Dt G σ Fr w0 w1:=by
      refine⟨?_,?_,hr.Bm.inj,?_,hr.Bm.os,hr.Bm.tape,hr.Bm.output,?_,hr.Bm.apart,hr.Bm.Jd⟩
      ·intro b' o' h;rw[Pr b' (by rintro rfl;rw[k1]at h;cases h)]
       exact hr.Bm.fixed b' o' h
      ·intro b' Bg h;obtain⟨q1,q2,q3⟩:=hr.Bm.own b' Bg h;exact⟨q1,q2,by simpa[w1,Afc]using q3⟩
      ·intro b' o' h;rw[Pr b' (by rintro rfl;rw[k2]at h;cases h)]
       exact hr.Bm.frame b' o' h
      ·have:=hr.Bm.size;simpa[w1,Afc]using this
     have hv:val a w0 n=a.eval (.tmp n):=Ez (by rw[hr.n];exact Cm)
     have E2:Rel G σ Fr w0 (st.set n (ver+1,.W8 s (pos+(Gq s pos).2))) a w1:=by
      refine Rel.self hr Bu (Mem.le.refl G) hs (Nat.lt_succ_self _) ?_ ?_
      ·intro s' D0 b' k Br;refine⟨Br,Pr b' ?_⟩;rintro rfl;rw[hσ]at Br;cases Br;exact D0 rfl
      ·exact⟨b,by rw[hv];exact hc,hσ,Bkz⟩
     obtain⟨σ',Af,r1,r2⟩:=E2.A9 Au (sv:=.Dv [.i (.bool true),.i (.int .i64 pos),.i (.int .i32 (Gq s pos).1)]) (c:=.tuple #[.bool true,.int .i64 pos,.int .i32 (Gq s pos).1]) (fun d' hd ver _=>
      ⟨_,rfl,_,_,rfl,Aq.bool.2 rfl,_,_,rfl,Aq.int.2 rfl,_,_,rfl,Aq.int.2 rfl,rfl⟩) h1
     refine Bv (w':=w1) ?_ (hn G σ' Af _ w1 (Mem.le.refl G) r1 r2);have Boj:Utf8.decode ⟨⟨s⟩⟩ pos=((Gq s pos).1,(Gq s pos).2):=rfl;simp only[execOp,ho,hc,Instr.next,Sem.run_bind,Y1,Result.andThen,Bk,if_pos hp,Boj,Cs,Sem.run_pure];rfl
    ·have h2:=h2 (decide_eq_false hp);obtain⟨σ',Af,r1,r2⟩:=hr.A9 Au (sv:=.Dv [.i (.bool false)]) (c:=.tuple #[.bool false]) (fun d' hd ver _=>⟨_,rfl,_,_,rfl,Aq.bool.2 rfl,rfl⟩) h2
     refine Bv (w':=w) ?_ (hn G σ' Af _ w (Mem.le.refl G) r1 r2);simp only[execOp,ho,hc,Instr.next,Sem.run_bind,Y1,Result.andThen,Bk,if_neg hp,Sem.run_pure]
   ·exact hw.elim
def A5r(d:Nat)(x:Ar):M:=Q3 x fun u=>C2 d (.own [] u)
theorem Aq5{o:Oper}{d:Nat}{x:Operand}{x':Ar}(hd:o.dst=some d)(ho:o.op= .move x∨o.op= .assign x)(hx:Ax N x x'=true):Sound P N o (A5r d x'):=by
 intro G0 σ0 Fr w0 st0 a w Q next E hN hr hw hn Au
 subst hN;obtain⟨u,G,σ,st,hG,E2,h1,hf⟩:=Akn hr hx hw;obtain⟨σ',Af,r1,r2⟩:=E2.Fv (P:=P) (Au d hd) hf h1;refine Bv (w':=w) (v:=a.eval x) ?_ (by rw[hd];exact hn G σ' Af _ w hG r1 r2)
 rcases ho with ho|ho<;>simp[execOp,ho]
end
end Go.Ab
