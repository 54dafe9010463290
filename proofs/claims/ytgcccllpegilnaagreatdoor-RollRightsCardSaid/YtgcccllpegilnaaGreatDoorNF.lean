/- Lemmas -/
import Derived.Shelf.SlGeneric
import Derived.Shelf.Spec.SlicesInsert
import Derived.Lib.AppendZerosOnto
import Derived.Shelf.Slices.Delete
import Derived.Test.YtgcccllpegilnaaGreatDoorAb19b
set_option linter.unusedVariables false
set_option linter.unusedSimpArgs false
namespace Go.Ab
open Go.Shelf Go.RowKit Go.Lib Go.Proofs
variable{P:Program}{ρ:Ren}
structure Aiw(P:Program)(ρ:Ren)(i0:TypeInfo)(zv:Value):Prop where
 mixed:P.follows .mixedOrders=true
 f22:Bears P (ρ.f 22) (Body2.n22 ρ)
 f29:∀(a:Array Value) (w:World) (v:Value),(Extern.SlicesOverlaps.overlaps #[(ρ.t 24),(ρ.t 24)] #[(ρ.t 4)] a).run P w= .ok v w→(callFunc (ρ.f 29) a).run P w= .ok (.value v) w
 t0:P.underlying (ρ.t 0)=some (TypeDesc.tuple #[])
 a0:∀w,(isAgg (ρ.t 0)).run P w= .ok false w
 z0:∀w,(Go.sizeOf (ρ.t 0)).run P w= .ok 1 w
 v0:∀w,(zeroValue (ρ.t 0)).run P w= .ok (Value.tuple #[]) w
 t3:P.underlying (ρ.t 3)=some (TypeDesc.int IntKind.i64)
 a3:∀w,(isAgg (ρ.t 3)).run P w= .ok false w
 z3:∀w,(Go.sizeOf (ρ.t 3)).run P w= .ok 1 w
 v3:∀w,(zeroValue (ρ.t 3)).run P w= .ok (Value.int IntKind.i64 0) w
 t4:P.underlying (ρ.t 4)=some (TypeDesc.bool)
 a4:∀w,(isAgg (ρ.t 4)).run P w= .ok false w
 z4:∀w,(Go.sizeOf (ρ.t 4)).run P w= .ok 1 w
 v4:∀w,(zeroValue (ρ.t 4)).run P w= .ok (Value.bool false) w
 t24:P.underlying (ρ.t 24)=some (TypeDesc.slice (ρ.t 9))
 a24:∀w,(isAgg (ρ.t 24)).run P w= .ok false w
 z24:∀w,(Go.sizeOf (ρ.t 24)).run P w= .ok 1 w
 v24:∀w,(zeroValue (ρ.t 24)).run P w= .ok (Value.slice none 0 0) w
 z9:∀w,(Go.sizeOf (ρ.t 9)).run P w= .ok i0.size w
 i9:P.info? (ρ.t 9)=some i0
 iz:i0.zero=some zv
 W6:zv.cells.size=i0.size
 Ts:0<i0.size
 ib:i0.bytes≤100000
theorem Xy(w:World)(dT sT ty elem:TypeId)(b o Bc9 Bn2:Nat)(a:Addr)(Bew Bpj:Nat)(cs:List Value)(i:TypeInfo)
 (hu:P.underlying dT=some (.slice elem)) (hs:P.info? elem=some i) (hn:cs.length=Nat.min Bew Bc9*i.size)
 (Pv:∀j v,cs[j]?=some v→w.cell? (a.add j)=some v) (hc:∀j,j<cs.length→(w.cell? ⟨b,o+j,none⟩).isSome=true) (hf:∀j,j<cs.length→w.frozen? ⟨b,o+j,none⟩=false) (h1:∀v∈cs,v.oneCell'=true):
 (Builtin.copy_ #[dT,sT] ty #[.slice (some ⟨b,o,none⟩) Bc9 Bn2,.slice (some a) Bew Bpj]).run P w= .ok (goInt (Nat.min Bew Bc9)) (w.setCells b o cs):=by
 have hl:=run_loadCells_list (P:=P) w a cs Pv;have Fi:=run_storeCells_cells (P:=P) b o cs 0 w (by simpa using hc) (by simpa using hf) h1
 simp[Builtin.copy_,run_underlying hu,Builtin.lenOf,Builtin.firstCells,sizeOf,typeInfo,hs, ←hn,hl,Fi]
set_option maxHeartbeats 4000000 in
set_option maxRecDepth 100000 in
theorem Baw{i0:TypeInfo}{zv:Value}(L:Aiw P ρ i0 zv)(b n c i vb vc:Nat)(cs vs:List Value)(w:World)(hi:i<n)(Qs:n+1≤c)(Bof:c≤9223372036854775807)(hvb:vb≠b)
 (C4:cs.length=n*i0.size) (hvl:vs.length=1*i0.size)
 (Gg:∀j v,cs[j]?=some v→w.cell? ⟨b,j,none⟩=some v) (Mx:∀j,j<(n+1)*i0.size→(w.cell? ⟨b,j,none⟩).isSome=true) (Ke:∀j,j<(n+1)*i0.size→w.frozen? ⟨b,j,none⟩=false)
 (Tq:∀j v,vs[j]?=some v→w.cell? ⟨vb,j,none⟩=some v) (h1c:∀v∈cs,v.oneCell'=true) (h1v:∀v∈vs,v.oneCell'=true)
 (tA tB:TypeId) (kA kB:Nat) (hsa:w.shape? vb=some (tA,kA)) (hsb:w.shape? b=some (tB,kB)) (hkB:kB≠0) (hfa:w.frozen? ⟨vb,0,none⟩=false) (hfe:w.frozen? ⟨vb,kA,none⟩=false):
 Calls P (ρ.f 22) #[.slice (some ⟨b,0,none⟩) n c,.int .i64 i,.slice (some ⟨vb,0,none⟩) 1 vc] w fun e w'=>
  e= .returned (.slice (some ⟨b,0,none⟩) (n+1) c)∧w'=(w.drew.setCells b (i*i0.size+i0.size) (cs.drop (i*i0.size))).setCells b (i*i0.size) vs:=by
 have t0:=L.t0;have a0:=L.a0;have z0:=L.z0;have v0:=L.v0;have t3:=L.t3;have a3:=L.a3;have z3:=L.z3;have v3:=L.v3;have t4:=L.t4;have a4:=L.a4;have z4:=L.z4;have v4:=L.v4;have z9:=L.z9;have t24:=L.t24;have a24:=L.a24;have z24:=L.z24;have v24:=L.v24;have u0:=run_underlying L.t0;have u3:=run_underlying L.t3;have u4:=run_underlying L.t4;have u24:=run_underlying L.t24;have hz2:¬((i:Int)=(n:Int)):=by omega
 have hov:∀o lb cb,(callFunc (ρ.f 29) #[.slice (some ⟨vb,0,none⟩) 1 vc,.slice (some ⟨b,o,none⟩) lb cb]).run P w= .ok (.value (.bool false)) w:=fun o lb cb=>by
  exact L.f29 _ w _ (Lib.run_overlaps_apart w (ρ.t 24) (ρ.t 4) (ρ.t 9) L.t24 i0.size L.z9 ⟨vb,0,none⟩ ⟨b,o,none⟩ 1 vc lb cb hvb tA tB kA kB hsa hsb hkB hfa hfe)
 have hnk:(n+1)*i0.size=n*i0.size+i0.size:=Nat.succ_mul ..;have hik:(i+1)*i0.size=i*i0.size+i0.size:=Nat.succ_mul ..;have A6x:i*i0.size+i0.size≤n*i0.size:=by rw[←hik];exact Nat.mul_le_mul_right _ hi
 have Rw:(cs.drop (i*i0.size)).length=(n - i)*i0.size:=by rw[List.length_drop,C4,Nat.sub_mul]
 have hni:(n - i)*i0.size=n*i0.size - i*i0.size:=Nat.sub_mul ..;have mixed:=L.mixed;have hw1:IntKind.i64.wrap ((i:Int)+(1:Int))=(i:Int)+(1:Int):=by rw[IntKind.wrap_i64];omega
 have Jf:(0:Int)≤(i:Int)+(1:Int):=by omega
 have hin:i≤n:=by omega
 have htn:((i:Int)+(1:Int)).toNat=i+1:=by omega
 have Kd:¬(c=i+1):=by omega
 have Pj:(i:Int)≤(n:Int)+(1:Int):=by omega
 have hb4:¬(c=i):=by omega
 have Bip:∀ty dc sc,(Builtin.copy_ #[(ρ.t 24),(ρ.t 24)] ty #[.slice (some ⟨b,i*i0.size+i0.size,none⟩) (n - i) dc,.slice (some ⟨b,i*i0.size,none⟩) (n+1 - i) sc]).run P w.drew= .ok (goInt (Nat.min (n+1 - i) (n - i))) (w.drew.setCells b (i*i0.size+i0.size) (cs.drop (i*i0.size))):=fun ty dc sc=>
  Xy w.drew _ _ ty (ρ.t 9) b (i*i0.size+i0.size) (n - i) dc ⟨b,i*i0.size,none⟩ (n+1 - i) sc (cs.drop (i*i0.size)) i0 L.t24 L.i9 (by rw[Rw];congr 1;simp only[Nat.min_def];split<;>omega)
   (fun j v hj=>by rw[Addr.add_lit];exact Gg _ v (by rwa [List.getElem?_drop]at hj))
   (fun j hj=>Mx _ (by omega)) (fun j hj=>Ke _ (by omega)) (fun v hv=>h1c v (List.mem_of_mem_drop hv))
 obtain⟨W1,T9⟩:∃W1,W1=w.drew.setCells b (i*i0.size+i0.size) (cs.drop (i*i0.size)):=⟨_,rfl⟩;have Bo4:∀k,k<(n+1)*i0.size→(W1.cell? ⟨b,k,none⟩).isSome=true:=fun k hk=>by
  rw[T9];exact isSome_setCells b _ _ _ (fun j hj=>by rw[Rw]at hj;exact Mx _ (by omega)) _ (Mx k hk)
 have Boh:∀(W:World),(∀x,W.cell? x=W1.cell? x)→(∀x,W.frozen? x=W1.frozen? x)→∀ty dc,(Builtin.copy_ #[(ρ.t 24),(ρ.t 24)] ty #[.slice (some ⟨b,i*i0.size,none⟩) (n+1 - i) dc,.slice (some ⟨vb,0,none⟩) 1 vc]).run P W= .ok (goInt (Nat.min 1 (n+1 - i))) (W.setCells b (i*i0.size) vs):=fun W hWc hWf ty dc=>
  Xy W _ _ ty (ρ.t 9) b (i*i0.size) (n+1 - i) dc ⟨vb,0,none⟩ 1 vc vs i0 L.t24 L.i9 (by rw[hvl];congr 1;simp only[Nat.min_def];split<;>omega)
   (fun j v hj=>by
     rw[Addr.add_lit,hWc,T9,World.cell?_setCells_out b _ _ _ _ (fun h _=>absurd h hvb),Nat.zero_add]
     exact Tq j v hj)
   (fun j hj=>by rw[hWc];exact Bo4 _ (by omega)) (fun j hj=>by rw[hWf,T9,World.frozen?_setCells];exact Ke _ (by omega)) h1v
 rw[←T9]at Bip;obtain⟨_,_,FG⟩:=L.f22
 go_enter FG,Body2.n22_ntmps ρ
 go_wp2_with (simp only[hov])
 go_region_law_o (refine step_copy_runI rfl _ _ (ρ.t 24) (ρ.t 24) rfl _ _ (by simp[Act.eval,Act.put]) (by simp[Act.eval,Act.put]) (Bip _ _ _) ?_)
 go_wp2_with (at_builtin;refine wpList_copy_runI _ rfl _ _ (ρ.t 24) (ρ.t 24) rfl _ _ rfl rfl (Boh _ (fun _=>rfl) (fun _=>rfl) _ _) ?_)
 go_ret
 first|exact⟨rfl,rfl⟩|exact⟨rfl,by rw[T9]⟩
set_option maxHeartbeats 4000000 in
set_option maxRecDepth 100000 in
theorem A47{i0:TypeInfo}{zv:Value}(L:Aiw P ρ i0 zv)(base:Option Addr)(n c vb vc:Nat)(w:World)(Kv:base=none→n=0∧c=0)(hnc:n≤c){v':Value}{w':World}
 (B0:∀ty,(Builtin.append_ #[(ρ.t 24),(ρ.t 24)] ty #[.slice base n c,.slice (some ⟨vb,0,none⟩) 1 vc]).run P w= .ok v' w'):
 Calls P (ρ.f 22) #[.slice base n c,.int .i64 n,.slice (some ⟨vb,0,none⟩) 1 vc] w fun e w1=>e= .returned v'∧w1=w':=by
 have t0:=L.t0;have a0:=L.a0;have z0:=L.z0;have v0:=L.v0;have t3:=L.t3;have a3:=L.a3;have z3:=L.z3;have v3:=L.v3;have t4:=L.t4;have a4:=L.a4;have z4:=L.z4;have v4:=L.v4;have z9:=L.z9;have t24:=L.t24;have a24:=L.a24;have z24:=L.z24;have v24:=L.v24;have u0:=run_underlying L.t0;have u3:=run_underlying L.t3;have u4:=run_underlying L.t4;have u24:=run_underlying L.t24;have mixed:=L.mixed;obtain⟨_,_,FG⟩:=L.f22
 go_enter FG,Body2.n22_ntmps ρ
 cases base with
 |none=>
  obtain⟨rfl,rfl⟩:=Kv rfl
  go_wp2_with (at_builtin;refine Lib.wpList_append_run _ rfl _ _ _ _ rfl _ _ rfl rfl _ _ (B0 _) ?_)
  go_ret
  exact⟨rfl,rfl⟩
 |some a=>
  obtain⟨ab,ao,asp⟩:=a
  go_wp2_with (at_builtin;refine Lib.wpList_append_run _ rfl _ _ _ _ rfl _ _ rfl rfl _ _ (B0 _) ?_)
  all_goals(go_ret;exact⟨rfl,rfl⟩)
set_option maxHeartbeats 4000000 in
set_option maxRecDepth 100000 in
theorem Beb{i0:TypeInfo}{zv:Value}(L:Aiw P ρ i0 zv)(b n c i vb vc:Nat)(cs vs:List Value)(w:World)(hi:i<n)(hnc:n≤c)(Qs:c<n+1)(Mj:(n+1)*i0.bytes≤140737488355328)(hn:n≤1000000000)
 (C4:cs.length=n*i0.size) (hvl:vs.length=1*i0.size)
 (Gg:∀j v,cs[j]?=some v→w.cell? ⟨b,j,none⟩=some v)
 (Tq:∀j v,vs[j]?=some v→w.cell? ⟨vb,j,none⟩=some v) (h1c:∀v∈cs,v.oneCell'=true) (h1v:∀v∈vs,v.oneCell'=true):
 Calls P (ρ.f 22) #[.slice (some ⟨b,0,none⟩) n c,.int .i64 i,.slice (some ⟨vb,0,none⟩) 1 vc] w fun e w'=>
  e= .returned (.slice (some ⟨w.heap.size,0,none⟩) (n+1) (grownCap w (n+1) c (ρ.t 9)))∧
  w'=(((w.alloc (.cells ((cs.take (i*i0.size)).toArray++Builtin.zeroCells zv.cells (n+1 - i)++Builtin.zeroCells zv.cells (grownCap w (n+1) c (ρ.t 9) - (n+1))) (ρ.t 9))).drew.setCells w.heap.size (i*i0.size) vs).drew).setCells w.heap.size (i*i0.size+i0.size) (cs.drop (i*i0.size)):=by
 have t0:=L.t0;have a0:=L.a0;have z0:=L.z0;have v0:=L.v0;have t3:=L.t3;have a3:=L.a3;have z3:=L.z3;have v3:=L.v3;have t4:=L.t4;have a4:=L.a4;have z4:=L.z4;have v4:=L.v4;have z9:=L.z9;have t24:=L.t24;have a24:=L.a24;have z24:=L.z24;have v24:=L.v24;have u0:=run_underlying L.t0;have u3:=run_underlying L.t3;have u4:=run_underlying L.t4;have u24:=run_underlying L.t24;have mixed:=L.mixed;have Bd2:=L.Ts;have hz2:¬((i:Int)=(n:Int)):=by omega
 have hz3:(c:Int)<(n:Int)+(1:Int):=by omega
 have hnk:(n+1)*i0.size=n*i0.size+i0.size:=Nat.succ_mul ..;have Bos:(i+1)*i0.size=i*i0.size+i0.size:=Nat.succ_mul ..;have A6x:i*i0.size+i0.size≤n*i0.size:=by rw[←Bos];exact Nat.mul_le_mul_right _ hi
 have Rw:(cs.drop (i*i0.size)).length=(n - i)*i0.size:=by rw[List.length_drop,C4,Nat.sub_mul]
 have hni:(n - i)*i0.size=n*i0.size - i*i0.size:=Nat.sub_mul ..;have Bs1:(n+1 - i)*i0.size=n*i0.size+i0.size - i*i0.size:=by rw[Nat.sub_mul,hnk]
 have hbw:b<w.heap.size:=block_lt_of_cell (Gg 0 _ (List.getElem?_eq_getElem (by omega)))
 have hvw:vb<w.heap.size:=block_lt_of_cell (Tq 0 _ (List.getElem?_eq_getElem (by omega)))
 have hkk:(n:Int)+(1:Int) - (i:Int)=((n+1 - i:Nat):Int):=by omega
 have hik:i+(n+1 - i)=n+1:=by omega
 have hold:(Builtin.firstCells i0.size i (.slice (some ⟨b,0,none⟩) i c)).run P w.drew= .ok (cs.take (i*i0.size)).toArray w.drew:=
  run_firstCells_some w.drew i0.size i ⟨b,0,none⟩ i c (cs.take (i*i0.size)) (by rw[List.length_take];omega) (fun j v hj=>by
   rw[Addr.add_lit,Nat.zero_add];rw[List.getElem?_take]at hj;split at hj
   ·exact Gg j v hj
   ·cases hj)
 have hrz:∀ty,(Builtin.append_ #[(ρ.t 24),(ρ.t 3)] ty #[.slice (some ⟨b,0,none⟩) i c,.int .i64 ((n:Int)+(1:Int) - (i:Int))]).run P w=
  .ok (.slice (some ⟨w.heap.size,0,none⟩) (n+1) (grownCap w (n+1) c (ρ.t 9))) (w.drew.alloc (.cells ((cs.take (i*i0.size)).toArray++Builtin.zeroCells zv.cells (n+1 - i)++Builtin.zeroCells zv.cells (grownCap w (n+1) c (ρ.t 9) - (n+1))) (ρ.t 9))):=fun ty=>by
  have h:=Lib.run_append_grow_zeros w (ρ.t 24) (ρ.t 3) ty (ρ.t 9) i0 _ .i64 .i64 L.t24 L.t3 L.i9 L.iz (some ⟨b,0,none⟩) i c (cs.take (i*i0.size)) hold (n+1 - i) (by omega) (by omega) (by omega) (by omega) (by
   have:(n+1 - i)*i0.bytes≤(n+1)*i0.bytes:=Nat.mul_le_mul_right _ (by omega)
   omega) (by rw[hik];exact growslice_fits Qs Mj)
  rw[hik]at h;rw[hkk];exact h
 obtain⟨G,hG⟩:∃G,G=grownCap w (n+1) c (ρ.t 9):=⟨_,rfl⟩;obtain⟨ROW,Bdp⟩:∃ROW:Array Value,ROW=(cs.take (i*i0.size)).toArray++Builtin.zeroCells zv.cells (n+1 - i)++Builtin.zeroCells zv.cells (G - (n+1)):=⟨_,rfl⟩;rw[←hG]at hrz ⊢;rw[←Bdp]at hrz ⊢;have hRl:(n+1)*i0.size≤ROW.size:=by
  rw[Bdp];have e1:(Builtin.zeroCells zv.cells (n+1 - i)).size=(n+1 - i)*i0.size:=by rw[←L.W6];simp[Builtin.zeroCells]
  simp only[Array.size_append,e1,List.size_toArray,List.length_take];omega
 obtain⟨W1,T9⟩:∃W1,W1=w.drew.alloc (.cells ROW (ρ.t 9)):=⟨_,rfl⟩;rw[←T9]at hrz;have hN:∀j,j<(n+1)*i0.size→(W1.cell? ⟨w.heap.size,j,none⟩).isSome=true:=fun j hj=>by
  rw[T9,World.cell?_alloc_at (w:=w.drew) ROW _ w.heap.size j rfl,Array.getElem?_eq_getElem (by omega)];rfl
 have hNf:∀j,W1.frozen? ⟨w.heap.size,j,none⟩=false:=fun j=>by rw[T9];exact World.frozen?_alloc_at (w:=w.drew) ROW _ w.heap.size j rfl
 have hOb:∀j v,w.cell? ⟨b,j,none⟩=some v→W1.cell? ⟨b,j,none⟩=some v:=fun j v h=>by rw[T9,World.cell?_alloc_past (w:=w.drew) _ b j hbw];exact h
 have hOv:∀j v,w.cell? ⟨vb,j,none⟩=some v→W1.cell? ⟨vb,j,none⟩=some v:=fun j v h=>by rw[T9,World.cell?_alloc_past (w:=w.drew) _ vb j hvw];exact h
 have Boi:∀(W:World),(∀x,W.cell? x=W1.cell? x)→(∀x,W.frozen? x=W1.frozen? x)→∀ty dc,(Builtin.copy_ #[(ρ.t 24),(ρ.t 24)] ty #[.slice (some ⟨w.heap.size,i*i0.size,none⟩) (n+1 - i) dc,.slice (some ⟨vb,0,none⟩) 1 vc]).run P W= .ok (goInt (Nat.min 1 (n+1 - i))) (W.setCells w.heap.size (i*i0.size) vs):=fun W hWc hWf ty dc=>
  Xy W _ _ ty (ρ.t 9) w.heap.size (i*i0.size) (n+1 - i) dc ⟨vb,0,none⟩ 1 vc vs i0 L.t24 L.i9 (by rw[hvl];congr 1;simp only[Nat.min_def];split<;>omega)
   (fun j v hj=>by rw[Addr.add_lit,hWc,Nat.zero_add];exact hOv _ v (Tq j v hj))
   (fun j hj=>by rw[hWc];exact hN _ (by omega)) (fun j hj=>by rw[hWf];exact hNf _) h1v
 have hGn:n+1≤G:=by rw[hG];exact grownCap_ge w _ _ _
 have Bsq:G≤9223372036854775807:=by
  have:=grownCap_le_maxLen w (n+1) c (ρ.t 9) (by unfold maxLen;omega)
  rw[←hG]at this;unfold maxLen at this;omega
 have hGi:¬(G=i):=by omega
 have Bsr:¬(G=i+1):=by omega
 have hci:¬(c=i):=by omega
 have hbN:b≠w.heap.size:=by omega
 have Biq:∀(W:World),(∀x,W.cell? x=(W1.setCells w.heap.size (i*i0.size) vs).cell? x)→(∀x,W.frozen? x=(W1.setCells w.heap.size (i*i0.size) vs).frozen? x)→∀ty dc sc,(Builtin.copy_ #[(ρ.t 24),(ρ.t 24)] ty #[.slice (some ⟨w.heap.size,i*i0.size+i0.size,none⟩) (n - i) dc,.slice (some ⟨b,i*i0.size,none⟩) (n - i) sc]).run P W= .ok (goInt (Nat.min (n - i) (n - i))) (W.setCells w.heap.size (i*i0.size+i0.size) (cs.drop (i*i0.size))):=fun W hWc hWf ty dc sc=>
  Xy W _ _ ty (ρ.t 9) w.heap.size (i*i0.size+i0.size) (n - i) dc ⟨b,i*i0.size,none⟩ (n - i) sc (cs.drop (i*i0.size)) i0 L.t24 L.i9 (by rw[Rw];congr 1;simp only[Nat.min_def];split<;>omega)
   (fun j v hj=>by
     rw[Addr.add_lit,hWc,World.cell?_setCells_out _ _ _ _ _ (fun h _=>absurd h hbN)]
     exact hOb _ v (Gg _ v (by rwa [List.getElem?_drop]at hj)))
   (fun j hj=>by rw[hWc];rw[Rw]at hj;exact isSome_setCells _ _ _ _ (fun t ht=>hN _ (by omega)) _ (hN _ (by omega)))
   (fun j hj=>by rw[hWf,World.frozen?_setCells];exact hNf _) (fun v hv=>h1c v (List.mem_of_mem_drop hv))
 subst T9;have hE1:∀x,((w.alloc (.cells ROW (ρ.t 9))).drew).cell? x=(w.drew.alloc (.cells ROW (ρ.t 9))).cell? x:=fun x=>rfl
 have hE2:∀x,((w.alloc (.cells ROW (ρ.t 9))).drew).frozen? x=(w.drew.alloc (.cells ROW (ρ.t 9))).frozen? x:=fun x=>rfl
 have hF1:∀x,(((w.alloc (.cells ROW (ρ.t 9))).drew.setCells w.heap.size (i*i0.size) vs).drew).cell? x=((w.drew.alloc (.cells ROW (ρ.t 9))).setCells w.heap.size (i*i0.size) vs).cell? x:=fun x=>rfl
 have hF2:∀x,(((w.alloc (.cells ROW (ρ.t 9))).drew.setCells w.heap.size (i*i0.size) vs).drew).frozen? x=((w.drew.alloc (.cells ROW (ρ.t 9))).setCells w.heap.size (i*i0.size) vs).frozen? x:=fun x=>rfl
 have hw1:IntKind.i64.wrap ((i:Int)+(1:Int))=(i:Int)+(1:Int):=by rw[IntKind.wrap_i64];omega
 have Jf:(0:Int)≤(i:Int)+(1:Int):=by omega
 have hin:i≤n:=by omega
 have htn:((i:Int)+(1:Int)).toNat=i+1:=by omega
 have Pj:(i:Int)≤(n:Int):=by omega
 clear hkk hik hold Bdp hG hRl;obtain⟨_,_,FG⟩:=L.f22
 go_enter FG,Body2.n22_ntmps ρ
 go_wp2_with (first
  |(at_builtin;refine Lib.wpList_append_run _ rfl _ _ _ _ rfl _ _ rfl rfl _ _ (hrz _) ?_)
  |(at_builtin;refine wpList_copy_runI _ rfl _ _ (ρ.t 24) (ρ.t 24) rfl _ _ rfl rfl (Boi _ hE1 hE2 _ _) ?_)
  |(at_builtin;refine wpList_copy_runI _ rfl _ _ (ρ.t 24) (ρ.t 24) rfl _ _ rfl rfl (Biq _ (fun _=>rfl) (fun _=>rfl) _ _ _) ?_))
 go_region_law_o (refine step_copy_runI rfl _ _ (ρ.t 24) (ρ.t 24) rfl (.slice (some ⟨w.heap.size,i*i0.size+i0.size,none⟩) (n - i) (G - (i+1))) (.slice (some ⟨b,i*i0.size,none⟩) (n - i) (c - i)) (by simp[Act.eval,Act.put]) (by simp[Act.eval,Act.put]) (Biq _ hF1 hF2 (ρ.t 3) (G - (i+1)) (c - i)) ?_)
 go_wp2
 go_ret
 exact⟨rfl,rfl⟩

open Go.Shelf Go.RowKit Go.Lib Go.Proofs
variable{P:Program}{ρ:Ren}
structure Axh(P:Program)(ρ:Ren)(i0:TypeInfo)(zv:Value):Prop where
 mixed:P.follows .mixedOrders=true
 f24:Bears P (ρ.f 24) (Body2.n24 ρ)
 t0:P.underlying (ρ.t 0)=some (TypeDesc.tuple #[])
 a0:∀w,(isAgg (ρ.t 0)).run P w= .ok false w
 z0:∀w,(Go.sizeOf (ρ.t 0)).run P w= .ok 1 w
 v0:∀w,(zeroValue (ρ.t 0)).run P w= .ok (Value.tuple #[]) w
 t3:P.underlying (ρ.t 3)=some (TypeDesc.int IntKind.i64)
 a3:∀w,(isAgg (ρ.t 3)).run P w= .ok false w
 z3:∀w,(Go.sizeOf (ρ.t 3)).run P w= .ok 1 w
 v3:∀w,(zeroValue (ρ.t 3)).run P w= .ok (Value.int IntKind.i64 0) w
 t4:P.underlying (ρ.t 4)=some (TypeDesc.bool)
 a4:∀w,(isAgg (ρ.t 4)).run P w= .ok false w
 z4:∀w,(Go.sizeOf (ρ.t 4)).run P w= .ok 1 w
 v4:∀w,(zeroValue (ρ.t 4)).run P w= .ok (Value.bool false) w
 t24:P.underlying (ρ.t 24)=some (TypeDesc.slice (ρ.t 9))
 a24:∀w,(isAgg (ρ.t 24)).run P w= .ok false w
 z24:∀w,(Go.sizeOf (ρ.t 24)).run P w= .ok 1 w
 v24:∀w,(zeroValue (ρ.t 24)).run P w= .ok (Value.slice none 0 0) w
 z9:∀w,(Go.sizeOf (ρ.t 9)).run P w= .ok i0.size w
 v9:∀w,(zeroValue (ρ.t 9)).run P w= .ok zv w
 i9:P.info? (ρ.t 9)=some i0
 iz:i0.zero=some zv
 W6:zv.cells.size=i0.size
 iz1:∀v∈zv.cells.toList,v.oneCell'=true
 Ts:0<i0.size
theorem Awn(z:Array Value):Builtin.zeroCells z 1=z:=by
 apply Array.ext
 ·simp[Builtin.zeroCells]
 ·intro j h1 h2;simp only[Builtin.zeroCells,Array.getElem_map,Array.getElem_range,Nat.mod_eq_of_lt h2];exact getElem!_pos z j h2
theorem Awd(w:World)(t e ty:TypeId)(z:Value)(ht:P.underlying t=some (.slice e))(hv:∀w,(zeroValue e).run P w= .ok z w)(b o c:Nat)
 (hc:∀j,j<z.cells.size→(w.cell? ⟨b,o+j,none⟩).isSome=true) (hf:∀j,j<z.cells.size→w.frozen? ⟨b,o+j,none⟩=false) (h1:∀v∈z.cells.toList,v.oneCell'=true):
 (Builtin.clear_ #[t] ty #[.slice (some ⟨b,o,none⟩) 1 c]).run P w= .ok (.tuple #[]) (w.setCells b o z.cells.toList):=by
 have Fi:=run_storeCells_cells (P:=P) b o z.cells.toList 0 w (by simpa using hc) (by simpa using hf) h1
 simp only[Nat.add_zero]at Fi;simp[Builtin.clear_,run_underlying ht,hv,Awn,Fi]
set_option maxHeartbeats 4000000 in
set_option maxRecDepth 100000 in
theorem Bgs{i0:TypeInfo}{zv:Value}(L:Axh P ρ i0 zv)(b n c i:Nat)(cs:List Value)(w:World)(hi:i<n)(hnc:n≤c)(Bof:c≤9223372036854775807)
 (C4:cs.length=n*i0.size)
 (Gg:∀j v,cs[j]?=some v→w.cell? ⟨b,j,none⟩=some v) (Ke:∀j,j<n*i0.size→w.frozen? ⟨b,j,none⟩=false)
 (h1c:∀v∈cs,v.oneCell'=true):
 Calls P (ρ.f 24) #[.slice (some ⟨b,0,none⟩) n c,.int .i64 i,.int .i64 ((i+1:Nat):Int)] w fun e w'=>
  e= .returned (.slice (some ⟨b,0,none⟩) (n - 1) c)∧w'=(w.drew.setCells b (i*i0.size) (cs.drop (i*i0.size+i0.size))).setCells b (n*i0.size - i0.size) zv.cells.toList:=by
 have t0:=L.t0;have a0:=L.a0;have z0:=L.z0;have v0:=L.v0;have t3:=L.t3;have a3:=L.a3;have z3:=L.z3;have v3:=L.v3;have t4:=L.t4;have a4:=L.a4;have z4:=L.z4;have v4:=L.v4;have z9:=L.z9;have t24:=L.t24;have a24:=L.a24;have z24:=L.z24;have v24:=L.v24;have u0:=run_underlying L.t0;have u3:=run_underlying L.t3;have u4:=run_underlying L.t4;have u24:=run_underlying L.t24;have mixed:=L.mixed;have Bd2:=L.Ts;have hik:(i+1)*i0.size=i*i0.size+i0.size:=Nat.succ_mul ..;have A6x:i*i0.size+i0.size≤n*i0.size:=by rw[←hik];exact Nat.mul_le_mul_right _ hi
 have A61:∀j,j<n*i0.size→(w.cell? ⟨b,j,none⟩).isSome=true:=fun j hj=>by
  rw[Gg j _ (List.getElem?_eq_getElem (by omega))];rfl
 obtain⟨news,Apz⟩:∃news,news=cs.drop (i*i0.size+i0.size):=⟨_,rfl⟩;have Ly:news.length=(n - (i+1))*i0.size:=by rw[Apz,List.length_drop,C4,Nat.sub_mul,hik]
 have hni:(n - (i+1))*i0.size=n*i0.size - (i*i0.size+i0.size):=by rw[Nat.sub_mul,hik]
 obtain⟨A,hA,Pv⟩:∃A:Addr,(if c=i+1 then some (⟨b,0,none⟩:Addr)else some ⟨b,i*i0.size+i0.size,none⟩)=some A∧∀t u,news[t]?=some u→w.drew.cell? (A.add t)=some u:=by
  by_cases h:c=i+1
  ·refine⟨⟨b,0,none⟩,by simp[h],fun t u hu=>?_⟩
   have h0:news.length=0:=by rw[Ly,show n - (i+1)=0 by omega];simp
   rw[List.length_eq_zero_iff.1 h0]at hu;simp at hu
  ·refine⟨⟨b,i*i0.size+i0.size,none⟩,by simp[h],fun t u hu=>?_⟩
   rw[Apz,List.getElem?_drop]at hu;rw[Addr.add_lit];exact Gg _ u hu
 have h1n:∀u∈news,u.oneCell'=true:=fun u hu=>h1c u (List.mem_of_mem_drop (by rw[←Apz];exact hu))
 have Mx:∀t,t<news.length→(w.drew.cell? ⟨b,0+i*i0.size+t,none⟩).isSome=true∧w.drew.frozen? ⟨b,0+i*i0.size+t,none⟩=false:=by
  intro t ht;rw[Nat.zero_add];rw[Ly]at ht;exact⟨A61 _ (by omega),Ke _ (by omega)⟩
 obtain⟨W1,T9⟩:∃W1,W1=w.drew.setCells b (i*i0.size) news:=⟨_,rfl⟩;have hpn:(n - 1)*i0.size=n*i0.size - i0.size:=by rw[Nat.sub_mul,Nat.one_mul]
 have Bss:∀ty cc,(Builtin.clear_ #[ρ.t 24] ty #[.slice (some ⟨b,n*i0.size - i0.size,none⟩) 1 cc]).run P W1= .ok (.tuple #[]) (W1.setCells b (n*i0.size - i0.size) zv.cells.toList):=fun ty cc=>by
  refine Awd W1 _ _ ty zv t24 L.v9 b _ cc (fun t ht=>?_) (fun t ht=>?_) L.iz1
  ·rw[L.W6]at ht;rw[T9];exact isSome_setCells b _ _ _ (fun j hj=>by rw[Ly]at hj;exact A61 _ (by omega)) _ (A61 _ (by omega))
  ·rw[L.W6]at ht;rw[T9,World.frozen?_setCells];exact Ke _ (by omega)
 rw[←Apz, ←T9];have Bn6:w.drew.setCells b (0+i*i0.size) news=W1:=by rw[T9,Nat.zero_add]
 have hic:i≤c:=by omega
 have hjc:i+1≤c:=by omega
 have hjn:i+1≤n:=by omega
 have Bsv:i+(n - (i+1))=n - 1:=by omega
 have heq:¬((i:Int)=(i:Int)+1):=by omega
 have Jf:(0:Int)≤(i:Int)+1:=by omega
 have Kd:(i:Int)+1≤(n:Int):=by omega
 have htn:((i:Int)+1).toNat=i+1:=by omega
 have hcn:¬(c=n - 1):=by omega
 have hn1:n - (n - 1)=1:=by omega
 have Bsz:n - 1≤n:=by omega
 have Bi8:n - 1≤c:=by omega
 clear T9 Apz Gg;obtain⟨_,_,FG⟩:=L.f24
 go_enter FG,Body2.n24_ntmps ρ
 go_wp2_with fail
 go_region_law_o (refine step_append_room rfl (.tmp 22) (.tmp 25) (ρ.t 24) rfl (ρ.t 9) i0 i0.size t24 L.i9 rfl b 0 i c (by simp[Act.eval,Act.put]) A (n - (i+1)) (c - (i+1)) news (by simp[Act.eval,Act.put]) Ly Pv h1n (by omega) Mx ?_;rw[Bn6])
 go_goals
 go_wp2
 all_goals(go_ret;exact⟨rfl,rfl⟩)

open Go.Shelf Go.RowKit Go.Lib Go.Proofs
theorem Bi.split{G:Mem}{w:World}:∀{l m:List D} {cs:List Value} {bs:List Nat},Bi G w (l++m) cs bs→∃c c' b b',cs=c++c'∧bs=b++b'∧Bi G w l c b∧Bi G w m c' b'
 | [],m,cs,bs,h=>⟨[],cs,[],bs,rfl,rfl,by simp[Bi],h⟩
 |d::l,m,cs,bs,h=>by
  simp only[List.cons_append,Bi]at h;obtain⟨c,c',b,b',rfl,rfl,h1,h2⟩:=h;obtain⟨p,p',q,q',rfl,rfl,h3,h4⟩:=Bi.split h2;refine⟨c++p,p',b++q,q',by simp,by simp,?_,h4⟩
  simp only[Bi];exact⟨c,p,b,q,rfl,rfl,h1,h3⟩
theorem grownBy_refl(w:World)(r:Option Nat):w.grownBy w r:=⟨rfl,rfl,rfl,Nat.le_refl _,fun _ _ _=>rfl⟩
theorem Hf{w w' w'':World}{r:Option Nat}(h:w.grownBy w' r)(h':w'.grownBy w'' r):w.grownBy w'' r:=
 ⟨h'.os.trans h.os,h'.tape.trans h.tape,h'.output.trans h.output,Nat.le_trans h.size h'.size,fun k hk hr=>(h'.block k (Nat.lt_of_lt_of_le hk h.size) hr).trans (h.block k hk hr)⟩
theorem Ky(g:Nat)(t:TypeId)(fz:Nat × Nat):∀(vs A X B:List Value) (o:Nat) (cur:Array Value) (w:World),w.heap[g]?=some (.cells cur t fz)→cur.toList=A++X++B→A.length=o→X.length=vs.length→
 (w.setCells g o vs).heap[g]?=some (.cells (A++vs++B).toArray t fz)∧w.grownBy (w.setCells g o vs) (some g)
 | [],A,X,B,o,cur,w,hg,hc,_,hx=>by
   obtain rfl:X=[]:=by simpa using hx
   refine⟨?_,grownBy_refl w _⟩;rw[World.setCells,hg, ←hc]
 |v::r,A,X,B,o,cur,w,hg,hc,ho,hx=>by
  obtain⟨x,X',rfl⟩:∃x X',X=x::X':=by
   cases X with
   |nil=>simp at hx
   |cons x X'=>exact⟨x,X',rfl⟩
  have h1:(cur.setIfInBounds o v).toList=(A++[v])++X'++B:=by
   rw[Array.toList_setIfInBounds,hc, ←ho];simp
  have hs:=setCell_eq_setRow w g o cur t fz v hg;have ih:=Ky g t fz r (A++[v]) X' B (o+1) (cur.setIfInBounds o v) (w.setCell ⟨g,o,none⟩ v) (by rw[hs];exact setRow_heap w g cur _ t fz hg) h1 (by simp[ho]) (by simpa using hx)
  rw[World.setCells];refine⟨by simpa using ih.1,Hf ?_ ih.2⟩
  rw[hs];exact⟨rfl,rfl,rfl,by simp[World.setRow],fun k _ hk=>setRow_other w g k _ (fun e=>hk (by rw[e]))⟩
theorem Aru(z:Array Value)(n:Nat):(Builtin.zeroCells z n).size=n*z.size:=by simp[Builtin.zeroCells]
section
variable{P:Program}
theorem Q5{G:Mem}{σ:Lab}{Fr:Mem}{w w':World}{B6:Array Value}{m:Nat}(Bu:Dt G σ Fr ⟨w,0, #[]⟩ w){g cap:Nat}{e:TypeId}{row:Array Value}{k:Nat}{l:List D}{xs:List Value}{bs:List Nat}
 (hg:w'.heap[g]?=some (.cells row e (0,0))) (hrs:row.size=cap*k) (K9:l.length≤cap) (Np:cap≤maxLen) (hx:row.toList.take (l.length*k)=xs) (hd:Bi G w l xs bs) (hs:∀x∈l,x.size=k)
 (hn:bs.Nodup) (hgb:g ∉ bs) (hf:∀b∈bs,G b=none∧Fr b=none∧b<w.heap.size) (hgf:G g=none∧Fr g=none) {q:Nat} (hqf:G q=none∧Fr q=none) (hq:q ∉ bs) (Gm:w.grownBy w' (some q)) (hm:m=B6.size):
 ∃(r:SV) (outs:List SV) (c:Value) (G':Mem) (σ':Lab),Ending.returned (Value.slice (some ⟨g,0,none⟩) l.length cap)= .returned c∧Is (.own [] (.vec e k l)) (List.replicate m .no) r outs∧G.le G'∧Dt G' σ' Fr ⟨w,0, #[]⟩ w'∧
  r.root=none∧B4 G' σ' w' m r c∧outs.length=m∧∀i sv,outs[i]?=some sv→sv.root=none∧B4 G' σ' w' i sv (B6.getD i undef):=by
 have hgl:g<w'.heap.size:=(Array.getElem?_eq_some_iff.1 hg).1
 let σ':Lab:=fun b=>if b∈g::bs then some (m,(g::bs).idxOf b)else none
 have inv:∀{b Bg},σ' b=some Bg→b∈g::bs∧Bg=(m,(g::bs).idxOf b):=by
  intro b Bg h;simp only[σ']at h;split at h
  ·rename_i h1;cases h;exact⟨h1,rfl⟩
  ·cases h
 have keep:∀(M:Mem),M q=none→(∀b o,M b=some o→w.heap[b]?=some o)→∀b o,M b=some o→w'.heap[b]?=some o:=by
  intro M hMg hM b o hb;have h1:=hM b o hb;rw[Gm.block b (Array.getElem?_eq_some_iff.1 h1).1 (fun e=>by cases e;rw[hMg]at hb;cases hb)]
  exact h1
 refine⟨_,_,_,G,σ',rfl,⟨rfl,rfl⟩,Mem.le.refl G,⟨keep G hqf.1 Bu.fixed,?_,?_,keep Fr hqf.2 Bu.frame,Gm.os,Gm.tape,Gm.output,Gm.size,Bu.apart,Bu.Jd⟩,rfl,?_,by simp,?_⟩
 ·intro b Bg h;rcases List.mem_cons.1 (inv h).1 with rfl|hb
  ·exact⟨hgf.1,hgf.2,hgl⟩
  ·obtain⟨h1,h2,h3⟩:=hf b hb;exact⟨h1,h2,Nat.lt_of_lt_of_le h3 Gm.size⟩
 ·intro b b' Bg h h';obtain⟨h1,rfl⟩:=inv h;obtain⟨h2,h3⟩:=inv h';exact Auc h1 h2 (by simpa using h3)
 ·refine⟨g::bs,?_,rfl,List.nodup_cons.2 ⟨hgb,hn⟩,fun b hb=>⟨(g::bs).idxOf b,by simp only[σ',hb,if_true]⟩⟩
  simp only[A3,Value.cells];refine .inr ⟨g,0,cap,row,xs,bs,rfl,Row.of hg,fun _=>⟨rfl,hrs⟩,K9,Np,by rw[hrs,Nat.zero_add];exact Nat.le_refl _,by simpa using hx,hd.tr (Mem.le.refl G) fun b hb=>?_,hs,rfl⟩
  exact Gm.block b (hf b hb).2.2 (fun e=>by cases e;exact hq hb)
 ·intro i sv hi;obtain rfl:sv= .no:=(List.mem_replicate.1 (List.mem_of_getElem? hi)).2;exact⟨rfl,trivial⟩
theorem Dd.row{G:Mem}{σ:Lab}{w:World}{s:Nat}{e:TypeId}{k:Nat}{l:List D}{c:Value}(h:Dd G σ w s (.vec e k l) c)(he:e<1000000):(c= .slice none 0 0∧l=[])∨
 ∃g cap cur xs bs,c= .slice (some ⟨g,0,none⟩) l.length cap∧w.heap[g]?=some (.cells cur e (0,0))∧cur.size=cap*k∧l.length≤cap∧cap≤maxLen∧cur.toList.take (l.length*k)=xs∧Bi G w l xs bs∧(∀x∈l,x.size=k)∧
  bs.Nodup∧g ∉ bs∧∀b,b=g∨b∈bs→∃j,σ b=some (s,j):=by
 obtain⟨bs,h1,h2,h3,h4⟩:=h;rw[Fp h2]at h1;simp only[A3]at h1;rcases h1 with⟨h1,rfl,_⟩|⟨g,off,cap,cur,xs,Cv,h1,r1,r2,r3,r4,r5,r6,r7,r8,rfl⟩
 ·injection h1 with h1
  exact .inl ⟨h1,rfl⟩
 ·injection h1 with h1
  obtain⟨rfl,r2'⟩:=r2 he;have hn:=List.nodup_cons.1 h3;exact .inr ⟨g,cap,cur,xs,Cv,h1,r1.to he,r2',r3,r4,by simpa using r6,r7,r8,hn.2,hn.1,fun b hb=>h4 b (by simpa using hb)⟩
theorem Yo{w:World}{g:Nat}{cur:Array Value}{e:TypeId}(hg:w.heap[g]?=some (.cells cur e (0,0))){n:Nat}(j:Nat)(v:Value)(h:(cur.toList.take n)[j]?=some v):w.cell? ⟨g,j,none⟩=some v:=by
 rw[List.getElem?_take]at h;split at h
 ·have:=cell_of_row w g j cur _ _ hg;rw[this];simpa using h
 ·cases h
theorem Aqe{ρ:Ren}{i0:TypeInfo}{zv:Value}(L:Aiw P ρ i0 zv)(he:ρ.t 9<1000000)(l:List D)(x:D)(i:Nat)(hi:i≤l.length)(hl:l.length≤100000):
 Fn P (ρ.f 22) [.own [] (.vec (ρ.t 9) i0.size l),.v (.int .i64 i),.own [] (.vec (ρ.t 9) i0.size [x])] (Is (.own [] (.vec (ρ.t 9) i0.size (l.take i++x::l.drop i))) [.no,.no,.no]):=by
 intro G σ Fr w B6 Bu hlen E6;have W0:=(E6 0 _ rfl).2;have Lm:Aq G (.int .i64 i) (B6.getD 1 undef):=(E6 1 _ rfl).2;have hc2:=(E6 2 _ rfl).2;rw[Aq.int]at Lm;have Rv:B6= #[B6.getD 0 undef,.int .i64 i,B6.getD 2 undef]:=by
  rw[←Lm];apply Array.ext
  ·simpa using hlen
  ·intro j h1 h2;have:j=0∨j=1∨j=2:=by simp at h2;omega
   rcases this with rfl|rfl|rfl<;>simp[Array.getD,h1]
 have Bk:B6.size=3:=hlen;generalize B6.getD 0 undef=c0 at W0 Rv;generalize B6.getD 2 undef=c2 at hc2 Rv;have Bd2:=L.Ts;rcases Dd.row hc2 he with⟨_,h⟩|⟨vb,vc,Bpm,vs,vbs,rfl,v1,v2,v3,v4,v5,v6,v7,v8,v9,v10⟩
 ·cases h
 have hk:x.size=i0.size:=v7 x (by simp)
 have hvl:vs.length=1*i0.size:=by rw[Bi.length v6];simp[Ca,hk]
 have Tq:∀j v,vs[j]?=some v→w.cell? ⟨vb,j,none⟩=some v:=fun j v h=>Yo v1 j v (by rw[←v5]at h;exact h)
 have hv1:=Bi.one v6;have Aw4:∀b,b=vb∨b∈vbs→G b=none∧Fr b=none∧b<w.heap.size:=fun b hb=>by
  obtain⟨j,hj⟩:=v10 b hb;exact Bu.own b _ hj
 have Bdt:∀n,n≤100001→n*i0.bytes≤140737488355328:=fun n hn=>by
  have:n*i0.bytes≤100001*100000:=Nat.mul_le_mul hn L.ib;omega
 rcases Dd.row W0 he with⟨rfl,rfl⟩|⟨g,cap,cur,xs,bs,rfl,r1,r2,r3,r4,r5,r6,r7,r8,r9,r10⟩
 · 
  obtain rfl:i=0:=by simpa using hi
  obtain⟨v',w',B0,q1,q2,_,q3⟩:=run_append_own_at (P:=P) w 0 (ρ.t 24) (ρ.t 3) (ρ.t 9) i0 zv i0.size i0.bytes L.t24 L.i9 L.iz rfl rfl L.W6 L.Ts (.slice none 0 0) 0 [] (Ew.to (Ew.nil w _ _) he) ⟨vb,0,none⟩ 1 vc vs hvl
   (fun j u hj=>by rw[Addr.add_lit,Nat.zero_add];exact Tq j u hj) hv1 (by simp[maxLen]) (Bdt _ (by omega)) (Nat.zero_le _)
  have Awv:∀ty,(Builtin.append_ #[ρ.t 24,ρ.t 24] ty #[.slice none 0 0,.slice (some ⟨vb,0,none⟩) 1 vc]).run P w= .ok v' w':=fun ty=>B0
  rw[Rv];refine(A47 L none 0 0 vb vc w (fun _=>⟨rfl,rfl⟩) (Nat.le_refl _) Awv).mono ?_
  rintro e w1 ⟨rfl,rfl⟩;rcases q1.2 with⟨_,h⟩|⟨g',Ta,Ed,rfl,_,k1,k2,k3,k4,k5⟩
  ·cases h
  rcases q3 with h|h
  ·simp[Value.ownBlock]at h
  simp only[Value.ownBlock,Option.some.injEq]at h;subst h;obtain⟨f1,f2,f3⟩:=Bu.fresh (Nat.le_refl _);rw[←Rv];refine Q5 (l:=[x]) (bs:=vbs) Bu k1 k4 k2 k3 (by simpa using k5) (by simpa using v6) v7 v8 (fun hb=>?_) (fun b hb=>Aw4 b (.inr hb)) ⟨f1,f2⟩ (q:=w.heap.size) ⟨f1,f2⟩ (fun hb=>?_) ?_ Bk.symm
  ·have:=(Aw4 _ (.inr hb)).2.2;omega
  ·have:=(Aw4 _ (.inr hb)).2.2;omega
  ·exact⟨q2.os,q2.tape,q2.output,q2.size,fun k hk _=>q2.block k hk (by simp[Value.ownBlock])⟩
 have Fw:∀b,b=g∨b∈bs→G b=none∧Fr b=none∧b<w.heap.size:=fun b hb=>by
  obtain⟨j,hj⟩:=r10 b hb;exact Bu.own b _ hj
 have Agj:∀b,b=g∨b∈bs→¬(b=vb∨b∈vbs):=fun b hb Br=>by
  obtain⟨j,hj⟩:=r10 b hb;obtain⟨j',Kt⟩:=v10 b Br;rw[hj]at Kt;cases Kt
 have C4:xs.length=l.length*i0.size:=by rw[Bi.length r6,H7 r7]
 have hx1:=Bi.one r6;have Gg:∀j v,xs[j]?=some v→w.cell? ⟨g,j,none⟩=some v:=fun j v h=>Yo r1 j v (by rw[←r5]at h;exact h)
 have hgv:vb≠g:=fun e=>Agj g (.inl rfl) (.inl e.symm)
 obtain⟨cA,cB,bA,bB,Bjo,A6q,dA,dB⟩:=Bi.split (l:=l.take i) (m:=l.drop i) (by rw[List.take_append_drop];exact r6)
 have hA:cA.length=i*i0.size:=by rw[Bi.length dA,H7 fun y hy=>r7 y (List.mem_of_mem_take hy),List.length_take,Nat.min_eq_left hi]
 have hB:cB=xs.drop (i*i0.size):=by rw[Bjo, ←hA];simp
 have hAt:cA=xs.take (i*i0.size):=by rw[Bjo, ←hA];simp
 have Ar6:Bi G w (l.take i++x::l.drop i) (cA++vs++cB) (bA++vbs++bB):=by
  have:=(dA.append v6).append dB;simpa using this
 have Ajo:∀y∈l.take i++x::l.drop i,y.size=i0.size:=by
  intro y hy;rcases List.mem_append.1 hy with hy|hy
  ·exact r7 y (List.mem_of_mem_take hy)
  ·rcases List.mem_cons.1 hy with rfl|hy
   ·exact hk
   ·exact r7 y (List.mem_of_mem_drop hy)
 have Sb:∀b,b∈bA++vbs++bB→b∈bs∨b∈vbs:=by
  intro b hb;simp only[List.mem_append]at hb;rw[A6q];simp only[List.mem_append];rcases hb with(hb|hb)|hb
  ·exact .inl (.inl hb)
  ·exact .inr hb
  ·exact .inl (.inr hb)
 have Ku:(bA++vbs++bB).Nodup:=by
  rw[A6q,List.nodup_append]at r8;obtain⟨n1,n2,n3⟩:=r8;have c1:∀b∈bA,b ∉ vbs:=fun b hb Br=>Agj b (.inr (by rw[A6q];simp[hb])) (.inr Br)
  have c2:∀b∈bB,b ∉ vbs:=fun b hb Br=>Agj b (.inr (by rw[A6q];simp[hb])) (.inr Br)
  rw[List.nodup_append,List.nodup_append];refine⟨⟨n1,v8,fun a ha b hb e=>c1 a ha (e ▸ hb)⟩,n2,fun a ha b hb e=>?_⟩
  rcases List.mem_append.1 ha with ha|ha
  ·exact n3 a ha b hb e
  ·exact c2 b hb (e ▸ ha)
 have hff:∀b∈bA++vbs++bB,G b=none∧Fr b=none∧b<w.heap.size:=fun b hb=>by
  rcases Sb b hb with h|h
  ·exact Fw b (.inr h)
  ·exact Aw4 b (.inr h)
 have Kz:g ∉ bA++vbs++bB:=fun hb=>by
  rcases Sb g hb with h|h
  ·exact r9 h
  ·exact Agj g (.inl rfl) (.inr h)
 have hgG:G g=none∧Fr g=none:=⟨(Fw _ (.inl rfl)).1,(Fw _ (.inl rfl)).2.1⟩;have Pm:w.heap.size ∉ bA++vbs++bB:=fun hb=>Nat.lt_irrefl _ (hff _ hb).2.2
 have Abi:(l.take i++x::l.drop i).length=l.length+1:=by simp;omega
 have h63:maxLen=9223372036854775807:=rfl;have hnk:(l.length+1)*i0.size=l.length*i0.size+i0.size:=Nat.succ_mul ..;have A6x:i*i0.size≤l.length*i0.size:=Nat.mul_le_mul_right _ hi;by_cases hin:i=l.length
 · 
  obtain⟨v',w',B0,q1,q2,_,q3⟩:=run_append_own_at (P:=P) w 0 (ρ.t 24) (ρ.t 3) (ρ.t 9) i0 zv i0.size i0.bytes L.t24 L.i9 L.iz rfl rfl L.W6 L.Ts (.slice (some ⟨g,0,none⟩) l.length cap) l.length xs
   ⟨C4,.inr ⟨g,cap,cur,rfl,Nat.zero_le _,r1,r3,r4,r2,r5⟩⟩ ⟨vb,0,none⟩ 1 vc vs hvl
   (fun j u hj=>by rw[Addr.add_lit,Nat.zero_add];exact Tq j u hj) hv1 (by simp[maxLen];omega) (Bdt _ (by omega)) (Nat.zero_le _)
  subst hin;rw[Rv];refine(A47 L (some ⟨g,0,none⟩) l.length cap vb vc w (fun h=>by cases h) r3 (fun ty=>B0)).mono ?_
  rintro e w1 ⟨rfl,rfl⟩;rw[←Rv];rcases q1.2 with⟨_,h⟩|⟨g',Ta,Ed,rfl,_,k1,k2,k3,k4,k5⟩
  ·omega
  have hB0:cB=[]:=by rw[hB, ←C4];simp
  have hAx:cA=xs:=by rw[hAt, ←C4];simp
  rw[←Abi]at k2 k5 ⊢;rcases q3 with h|h
  ·simp only[Value.ownBlock,Option.some.injEq]at h;subst h;refine Q5 Bu k1 k4 k2 k3 (by rw[k5,hB0,hAx,List.append_nil]) Ar6 Ajo Ku Kz hff hgG hgG Kz ?_ Bk.symm
   simpa[Value.ownBlock]using q2
  ·simp only[Value.ownBlock,Option.some.injEq]at h;subst h;obtain⟨f1,f2,f3⟩:=Bu.fresh (Nat.le_refl _);refine Q5 Bu k1 k4 k2 k3 (by rw[k5,hB0,hAx,List.append_nil]) Ar6 Ajo Ku Pm hff ⟨f1,f2⟩ hgG Kz ?_ Bk.symm
   simpa[Value.ownBlock]using q2
 have Bb:i<l.length:=by omega
 have Bou:i*i0.size+i0.size≤l.length*i0.size:=by rw[←Nat.succ_mul];exact Nat.mul_le_mul_right _ Bb
 have hBl:cB.length=l.length*i0.size - i*i0.size:=by rw[hB,List.length_drop,C4]
 have Acr:∀T:List Value,((cA++vs++cB)++T).take ((l.length+1)*i0.size)=cA++vs++cB:=fun T=>by
  rw[List.take_append_of_le_length (by simp;omega),List.take_of_length_le (by simp;omega)]
 by_cases Qs:l.length+1≤cap
 · 
  have Lh:cur.toList.length=cap*i0.size:=by simpa using r2
  have Bkn:(l.length+1)*i0.size≤cap*i0.size:=Nat.mul_le_mul_right _ Qs;have R5:∀j,j<(l.length+1)*i0.size→(w.cell? ⟨g,j,none⟩).isSome=true:=fun j hj=>by
   rw[cell_of_row w g j cur _ _ r1,Array.getElem?_eq_getElem (by omega)];rfl
  have Ke:∀(b j:Nat) (row:Array Value) (t:TypeId),w.heap[b]?=some (.cells row t (0,0))→w.frozen? ⟨b,j,none⟩=false:=fun b j row t h=>by simp[World.frozen?,h]
  have W5:∀(b:Nat) (row:Array Value) (t:TypeId),w.heap[b]?=some (.cells row t (0,0))→w.shape? b=some (t,row.size):=fun b row t h=>by simp[World.shape?,h]
  rw[Rv];refine(Baw L g l.length cap i vb vc xs vs w Bb Qs (by omega) hgv C4 hvl Gg R5 (fun j _=>Ke g j cur _ r1) Tq hx1 hv1 _ _ Bpm.size cur.size (W5 _ _ _ v1) (W5 _ _ _ r1) (by omega) (Ke _ _ _ _ v1) (Ke _ _ _ _ v1)).mono ?_
  rintro e w1 ⟨rfl,rfl⟩;rw[←Rv];have s1:=Ky g (ρ.t 9) (0,0) (xs.drop (i*i0.size)) (cur.toList.take (i*i0.size+i0.size)) ((cur.toList.drop (i*i0.size+i0.size)).take (xs.drop (i*i0.size)).length) ((cur.toList.drop (i*i0.size+i0.size)).drop (xs.drop (i*i0.size)).length)
   (i*i0.size+i0.size) cur w.drew r1 (by rw[List.append_assoc,List.take_append_drop,List.take_append_drop]) (by rw[List.length_take];omega) (by rw[List.length_take,List.length_drop,List.length_drop];omega)
  have hT:=s1.1;rw[show cur.toList.take (i*i0.size+i0.size)=cA++(cur.toList.drop (i*i0.size)).take i0.size from by
   rw[List.take_add,hAt, ←r5,List.take_take,Nat.min_eq_left A6x]]at hT
  have s2:=Ky g (ρ.t 9) (0,0) vs cA ((cur.toList.drop (i*i0.size)).take i0.size) (xs.drop (i*i0.size)++(cur.toList.drop (i*i0.size+i0.size)).drop (xs.drop (i*i0.size)).length) (i*i0.size) _ _ hT
   (by simp) hA (by rw[List.length_take,List.length_drop];omega)
  rw[←Abi];have Gm:w.grownBy ((w.drew.setCells g (i*i0.size+i0.size) (xs.drop (i*i0.size))).setCells g (i*i0.size) vs) (some g):=
   Hf (w':=w.drew) ⟨rfl,rfl,rfl,Nat.le_refl _,fun _ _ _=>rfl⟩ (Hf s1.2 s2.2)
  refine Q5 Bu s2.1 ?_ (by omega) r4 ?_ Ar6 Ajo Ku Kz hff hgG hgG Kz Gm Bk.symm
  ·have:(cur.toList.drop (i*i0.size+i0.size)).length=cap*i0.size - (i*i0.size+i0.size):=by rw[List.length_drop,Lh]
   simp only[List.size_toArray,List.length_append,hA,hvl,List.length_drop,C4,Lh];omega
  ·rw[Abi, ←hB, ←List.append_assoc];exact Acr _
 · 
  rw[Rv];refine(Beb L g l.length cap i vb vc xs vs w Bb r3 (by omega) (Bdt _ (by omega)) (by omega) C4 hvl Gg Tq hx1 hv1).mono ?_
  rintro e w1 ⟨rfl,rfl⟩;rw[←Rv];obtain⟨gc,hgc⟩:∃gc,gc=grownCap w (l.length+1) cap (ρ.t 9):=⟨_,rfl⟩;have Uc:l.length+1≤gc:=by rw[hgc];exact grownCap_ge w _ _ _
  have hle:gc≤maxLen:=by rw[hgc];exact grownCap_le_maxLen w _ _ _ (by rw[h63];omega)
  rw[←hgc];obtain⟨f1,f2,f3⟩:=Bu.fresh (Nat.le_refl _);obtain⟨Z,hZ⟩:∃Z,Z=(Builtin.zeroCells zv.cells (l.length+1 - i)++Builtin.zeroCells zv.cells (gc - (l.length+1))).toList:=⟨_,rfl⟩;have Bsu:(l.length+1)*i0.size≤gc*i0.size:=Nat.mul_le_mul_right _ Uc;have hZl:Z.length=gc*i0.size - i*i0.size:=by
   rw[hZ];simp only[Array.toList_append,List.length_append,Array.length_toList,Aru,L.W6,Nat.sub_mul];omega
  have Gj:((xs.take (i*i0.size)).toArray++Builtin.zeroCells zv.cells (l.length+1 - i)++Builtin.zeroCells zv.cells (gc - (l.length+1))).toList=cA++Z:=by
   rw[hZ,hAt];simp
  obtain⟨row,hrw⟩:∃row,row=(xs.take (i*i0.size)).toArray++Builtin.zeroCells zv.cells (l.length+1 - i)++Builtin.zeroCells zv.cells (gc - (l.length+1)):=⟨_,rfl⟩;rw[←hrw]at Gj ⊢;have h0:(w.alloc (.cells row (ρ.t 9))).drew.heap[w.heap.size]?=some (.cells row (ρ.t 9) (0,0)):=by
   show(w.heap.push _)[w.heap.size]?=_;rw[Array.getElem?_push,if_pos rfl]
  have Boq:w.grownBy (w.alloc (.cells row (ρ.t 9))).drew (some w.heap.size):=by
   refine⟨rfl,rfl,rfl,by show _≤(w.heap.push _).size;simp,fun k hk _=>?_⟩
   show(w.heap.push _)[k]?=_;rw[Array.getElem?_push,if_neg (by omega)]
  have s1:=Ky w.heap.size (ρ.t 9) (0,0) vs cA (Z.take i0.size) (Z.drop i0.size) (i*i0.size) row _ h0 (by rw[Gj,List.append_assoc,List.take_append_drop]) hA (by rw[List.length_take];omega)
  have s2:=Ky w.heap.size (ρ.t 9) (0,0) (xs.drop (i*i0.size)) (cA++vs) ((Z.drop i0.size).take (xs.drop (i*i0.size)).length) ((Z.drop i0.size).drop (xs.drop (i*i0.size)).length) (i*i0.size+i0.size) _ _ (show(World.drew _).heap[w.heap.size]?=_ from s1.1)
   (by show cA++vs++Z.drop i0.size=_;rw[List.append_assoc (cA++vs),List.take_append_drop]) (by simp[hA,hvl]) (by rw[List.length_take,List.length_drop,List.length_drop];omega)
  rw[←Abi];refine Q5 Bu s2.1 ?_ (by omega) hle ?_ Ar6 Ajo Ku Pm hff ⟨f1,f2⟩ ⟨f1,f2⟩ Pm (Hf Boq (Hf s1.2 (Hf (w':=World.drew _) ⟨rfl,rfl,rfl,Nat.le_refl _,fun _ _ _=>rfl⟩ s2.2))) Bk.symm
  ·simp only[List.size_toArray,List.length_append,hA,hvl,List.length_drop,C4,hZl];omega
  ·rw[Abi, ←hB];exact Acr _
theorem Axz{ρ:Ren}{i0:TypeInfo}{zv:Value}(L:Axh P ρ i0 zv)(he:ρ.t 9<1000000)(l:List D)(i:Nat)(hi:i<l.length)(hl:l.length≤100000):
 Fn P (ρ.f 24) [.own [] (.vec (ρ.t 9) i0.size l),.v (.int .i64 i),.v (.int .i64 ((i+1:Nat):Int))] (Is (.own [] (.vec (ρ.t 9) i0.size (l.take i++l.drop (i+1)))) [.no,.no,.no]):=by
 intro G σ Fr w B6 Bu hlen E6;have W0:=(E6 0 _ rfl).2;have Lm:Aq G (.int .i64 i) (B6.getD 1 undef):=(E6 1 _ rfl).2;have hc2:Aq G (.int .i64 ((i+1:Nat):Int)) (B6.getD 2 undef):=(E6 2 _ rfl).2;rw[Aq.int]at Lm hc2;have Rv:B6= #[B6.getD 0 undef,.int .i64 i,.int .i64 ((i+1:Nat):Int)]:=by
  rw[←Lm, ←hc2];apply Array.ext
  ·simpa using hlen
  ·intro j h1 h2;have:j=0∨j=1∨j=2:=by simp at h2;omega
   rcases this with rfl|rfl|rfl<;>simp[Array.getD,h1]
 have Bk:B6.size=3:=hlen;generalize B6.getD 0 undef=c0 at W0 Rv;have Bd2:=L.Ts;rcases Dd.row W0 he with⟨_,h⟩|⟨g,cap,cur,xs,bs,rfl,r1,r2,r3,r4,r5,r6,r7,r8,r9,r10⟩
 ·rw[h]at hi;simp at hi
 have Fw:∀b,b=g∨b∈bs→G b=none∧Fr b=none∧b<w.heap.size:=fun b hb=>by
  obtain⟨j,hj⟩:=r10 b hb;exact Bu.own b _ hj
 have C4:xs.length=l.length*i0.size:=by rw[Bi.length r6,H7 r7]
 have hx1:=Bi.one r6;have Gg:∀j v,xs[j]?=some v→w.cell? ⟨g,j,none⟩=some v:=fun j v h=>Yo r1 j v (by rw[←r5]at h;exact h)
 obtain⟨cA,c1,bA,b1,hx,hb,dA,d1⟩:=Bi.split (l:=l.take i) (m:=l.drop i) (by rw[List.take_append_drop];exact r6)
 obtain⟨cM,cB,bM,bB,hx2,Kd,dM,dB⟩:=Bi.split (l:=[l[i]]) (m:=l.drop (i+1)) (by rw[List.singleton_append, ←List.drop_eq_getElem_cons hi];exact d1)
 have hA:cA.length=i*i0.size:=by rw[Bi.length dA,H7 fun y hy=>r7 y (List.mem_of_mem_take hy),List.length_take,Nat.min_eq_left (Nat.le_of_lt hi)]
 have hM:cM.length=i0.size:=by rw[Bi.length dM];simp[Ca,r7 l[i] (List.getElem_mem hi)]
 have hAt:cA=xs.take (i*i0.size):=by rw[hx, ←hA];simp
 have hB:cB=xs.drop (i*i0.size+i0.size):=by rw[hx,hx2, ←hA, ←hM, ←List.append_assoc, ←List.length_append];simp
 have hni:(l.length - 1)*i0.size=l.length*i0.size - i0.size:=by rw[Nat.sub_mul,Nat.one_mul]
 have Bou:i*i0.size+i0.size≤l.length*i0.size:=by rw[←Nat.succ_mul];exact Nat.mul_le_mul_right _ hi
 have hBl:cB.length=l.length*i0.size - (i*i0.size+i0.size):=by rw[hB,List.length_drop,C4]
 have Ar6:=dA.append dB;have Ajo:∀y∈l.take i++l.drop (i+1),y.size=i0.size:=by
  intro y hy;rcases List.mem_append.1 hy with hy|hy
  ·exact r7 y (List.mem_of_mem_take hy)
  ·exact r7 y (List.mem_of_mem_drop hy)
 have Sb:∀b,b∈bA++bB→b∈bs:=by
  intro b h;rw[hb,Kd];rcases List.mem_append.1 h with h|h<;>simp[h]
 have Ku:(bA++bB).Nodup:=by
  rw[hb,Kd,List.nodup_append]at r8;obtain⟨n1,n2,n3⟩:=r8;rw[List.nodup_append];exact⟨n1,(List.nodup_append.1 n2).2.1,fun a ha b hb e=>n3 a ha b (by simp[hb]) e⟩
 have hff:∀b∈bA++bB,G b=none∧Fr b=none∧b<w.heap.size:=fun b h=>Fw b (.inr (Sb b h))
 have Kz:g ∉ bA++bB:=fun h=>r9 (Sb g h)
 have hgG:G g=none∧Fr g=none:=⟨(Fw _ (.inl rfl)).1,(Fw _ (.inl rfl)).2.1⟩;have Abi:(l.take i++l.drop (i+1)).length=l.length - 1:=by simp;omega
 have h63:maxLen=9223372036854775807:=rfl;have Lh:cur.toList.length=cap*i0.size:=by simpa using r2
 have Bkn:l.length*i0.size≤cap*i0.size:=Nat.mul_le_mul_right _ r3;have Ke:∀j,w.frozen? ⟨g,j,none⟩=false:=fun j=>by simp[World.frozen?,r1]
 rw[Rv];refine(Bgs L g l.length cap i xs w hi r3 (by omega) C4 Gg (fun j _=>Ke j) hx1).mono ?_
 rintro e w1 ⟨rfl,rfl⟩;rw[←Rv];have s1:=Ky g (ρ.t 9) (0,0) (xs.drop (i*i0.size+i0.size)) cA ((cur.toList.drop (i*i0.size)).take (xs.drop (i*i0.size+i0.size)).length) ((cur.toList.drop (i*i0.size)).drop (xs.drop (i*i0.size+i0.size)).length)
  (i*i0.size) cur w.drew r1 (by rw[List.append_assoc,List.take_append_drop,hAt, ←r5,List.take_take,Nat.min_eq_left (by omega),List.take_append_drop]) hA (by rw[List.length_take,List.length_drop,List.length_drop];omega)
 have hzl:zv.cells.toList.length=i0.size:=by rw[←L.W6];simp
 have hTl:((cur.toList.drop (i*i0.size)).drop (xs.drop (i*i0.size+i0.size)).length).length=cap*i0.size - (l.length*i0.size - i0.size):=by
  rw[List.length_drop,List.length_drop,List.length_drop,Lh,C4];omega
 obtain⟨T,hT⟩:∃T,T=(cur.toList.drop (i*i0.size)).drop (xs.drop (i*i0.size+i0.size)).length:=⟨_,rfl⟩;rw[←hT]at s1 hTl;have s2:=Ky g (ρ.t 9) (0,0) zv.cells.toList (cA++xs.drop (i*i0.size+i0.size)) (T.take i0.size) (T.drop i0.size) (l.length*i0.size - i0.size) _ _ s1.1
  (by show cA++xs.drop (i*i0.size+i0.size)++T=_;rw[List.append_assoc (cA++_),List.take_append_drop]) (by rw[List.length_append,hA,List.length_drop,C4];omega) (by rw[List.length_take,hzl];omega)
 have Gm:w.grownBy ((w.drew.setCells g (i*i0.size) (xs.drop (i*i0.size+i0.size))).setCells g (l.length*i0.size - i0.size) zv.cells.toList) (some g):=
  Hf (w':=w.drew) ⟨rfl,rfl,rfl,Nat.le_refl _,fun _ _ _=>rfl⟩ (Hf s1.2 s2.2)
 rw[←Abi];refine Q5 Bu s2.1 ?_ (by omega) r4 ?_ Ar6 Ajo Ku Kz hff hgG hgG Kz Gm Bk.symm
 ·simp only[List.size_toArray,List.length_append,hA,List.length_drop,C4,Array.length_toList,L.W6,hTl];omega
 ·rw[Abi, ←hB,hni];show List.take _ (cA++cB++zv.cells.toList++List.drop i0.size T)=_;rw[List.append_assoc,List.take_append_of_le_length (by rw[List.length_append,hA,hBl];omega),List.take_of_length_le (by rw[List.length_append,hA,hBl];omega)]
end
end Go.Ab
