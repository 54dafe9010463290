/- Lemmas -/
import Derived.Shelf.SlGeneric
import Derived.Shelf.Spec.SlicesInsert
import Derived.Lib.AppendZerosOnto
import Derived.Test.YtkpojedpcabojaaGreatDoorW7
import Derived.Shelf.SlIter.Nil
import Derived.Shelf.SortM.Plain
import Derived.Shelf.SortM.SortNone
set_option linter.unusedVariables false
set_option linter.unusedSimpArgs false
namespace Go.Ab
open Go.Shelf Go.RowKit Go.Lib Go.Proofs
variable{P:Program}{ρ:Ren}
structure A0u(P:Program)(ρ:Ren)(i0:TypeInfo)(zv:Value):Prop where
 mixed:P.follows .mixedOrders=true
 f22:Bears P (ρ.f 22) (Body2.n22 ρ)
 f29:∀(a:Array Value) (w:World) (v:Value),(Extern.SlicesOverlaps.overlaps #[(ρ.t 24),(ρ.t 24)] #[(ρ.t 4)] a).run P w= .ok v w→(callFunc (ρ.f 29) a).run P w= .ok (.value v) w
 t0:P.underlying (ρ.t 0)=some (TypeDesc.tuple #[])
 a0:∀w,(isAgg (ρ.t 0)).run P w= .ok false w
 z0:∀w,(Go.sizeOf (ρ.t 0)).run P w= .ok 1 w
 v0:∀w,(zeroValue (ρ.t 0)).run P w= .ok (Value.tuple #[]) w
 t3:P.underlying (ρ.t 3)=some (TypeDesc.int IntKind.i64)
 a3:∀w,(isAgg (ρ.t 3)).run P w= .ok false w
 z3:∀w,(Go.sizeOf (ρ.t 3)).run P w= .ok 1 w
 v3:∀w,(zeroValue (ρ.t 3)).run P w= .ok (Value.int IntKind.i64 0) w
 t4:P.underlying (ρ.t 4)=some (TypeDesc.bool)
 a4:∀w,(isAgg (ρ.t 4)).run P w= .ok false w
 z4:∀w,(Go.sizeOf (ρ.t 4)).run P w= .ok 1 w
 v4:∀w,(zeroValue (ρ.t 4)).run P w= .ok (Value.bool false) w
 t24:P.underlying (ρ.t 24)=some (TypeDesc.slice (ρ.t 9))
 a24:∀w,(isAgg (ρ.t 24)).run P w= .ok false w
 z24:∀w,(Go.sizeOf (ρ.t 24)).run P w= .ok 1 w
 v24:∀w,(zeroValue (ρ.t 24)).run P w= .ok (Value.slice none 0 0) w
 z9:∀w,(Go.sizeOf (ρ.t 9)).run P w= .ok i0.size w
 i9:P.info? (ρ.t 9)=some i0
 iz:i0.zero=some zv
 izs:zv.cells.size=i0.size
 A25:0<i0.size
 ib:i0.bytes≤100000
theorem Abb(w:World)(dT sT ty elem:TypeId)(b o Bhs Bv1:Nat)(a:Addr)(Bj7 Bx2:Nat)(cs:List Value)(i:TypeInfo)
 (hu:P.underlying dT=some (.slice elem)) (hs:P.info? elem=some i) (hn:cs.length=Nat.min Bj7 Bhs*i.size)
 (Bi5:∀j v,cs[j]?=some v→w.cell? (a.add j)=some v) (hc:∀j,j<cs.length→(w.cell? ⟨b,o+j,none⟩).isSome=true) (hf:∀j,j<cs.length→w.frozen? ⟨b,o+j,none⟩=false) (h1:∀v∈cs,v.oneCell'=true):
 (Builtin.copy_ #[dT,sT] ty #[.slice (some ⟨b,o,none⟩) Bhs Bv1,.slice (some a) Bj7 Bx2]).run P w= .ok (goInt (Nat.min Bj7 Bhs)) (w.setCells b o cs):=by
 have hl:=run_loadCells_list (P:=P) w a cs Bi5;have Ga:=run_storeCells_cells (P:=P) b o cs 0 w (by simpa using hc) (by simpa using hf) h1
 simp[Builtin.copy_,run_underlying hu,Builtin.lenOf,Builtin.firstCells,sizeOf,typeInfo,hs, ←hn,hl,Ga]
set_option maxHeartbeats 4000000 in
set_option maxRecDepth 100000 in
theorem Bfh{i0:TypeInfo}{zv:Value}(L:A0u P ρ i0 zv)(b n c i vb vc:Nat)(cs vs:List Value)(w:World)(hi:i<n)(Atu:n+1≤c)(B15:c≤9223372036854775807)(hvb:vb≠b)
 (Eh:cs.length=n*i0.size) (Qy:vs.length=1*i0.size)
 (Kr:∀j v,cs[j]?=some v→w.cell? ⟨b,j,none⟩=some v) (Mx:∀j,j<(n+1)*i0.size→(w.cell? ⟨b,j,none⟩).isSome=true) (hfz:∀j,j<(n+1)*i0.size→w.frozen? ⟨b,j,none⟩=false)
 (Ko:∀j v,vs[j]?=some v→w.cell? ⟨vb,j,none⟩=some v) (h1c:∀v∈cs,v.oneCell'=true) (h1v:∀v∈vs,v.oneCell'=true)
 (tA tB:TypeId) (kA kB:Nat) (hsa:w.shape? vb=some (tA,kA)) (hsb:w.shape? b=some (tB,kB)) (hkB:kB≠0) (hfa:w.frozen? ⟨vb,0,none⟩=false) (hfe:w.frozen? ⟨vb,kA,none⟩=false):
 Calls P (ρ.f 22) #[.slice (some ⟨b,0,none⟩) n c,.int .i64 i,.slice (some ⟨vb,0,none⟩) 1 vc] w fun e w'=>
  e= .returned (.slice (some ⟨b,0,none⟩) (n+1) c)∧w'=(w.drew.setCells b (i*i0.size+i0.size) (cs.drop (i*i0.size))).setCells b (i*i0.size) vs:=by
 have t0:=L.t0;have a0:=L.a0;have z0:=L.z0;have v0:=L.v0;have t3:=L.t3;have a3:=L.a3;have z3:=L.z3;have v3:=L.v3;have t4:=L.t4;have a4:=L.a4;have z4:=L.z4;have v4:=L.v4;have z9:=L.z9;have t24:=L.t24;have a24:=L.a24;have z24:=L.z24;have v24:=L.v24;have u0:=run_underlying L.t0;have u3:=run_underlying L.t3;have u4:=run_underlying L.t4;have u24:=run_underlying L.t24;have hz2:¬((i:Int)=(n:Int)):=by omega
 have hov:∀o lb cb,(callFunc (ρ.f 29) #[.slice (some ⟨vb,0,none⟩) 1 vc,.slice (some ⟨b,o,none⟩) lb cb]).run P w= .ok (.value (.bool false)) w:=fun o lb cb=>by
  exact L.f29 _ w _ (Lib.run_overlaps_apart w (ρ.t 24) (ρ.t 4) (ρ.t 9) L.t24 i0.size L.z9 ⟨vb,0,none⟩ ⟨b,o,none⟩ 1 vc lb cb hvb tA tB kA kB hsa hsb hkB hfa hfe)
 have hnk:(n+1)*i0.size=n*i0.size+i0.size:=Nat.succ_mul ..;have hik:(i+1)*i0.size=i*i0.size+i0.size:=Nat.succ_mul ..;have Bim:i*i0.size+i0.size≤n*i0.size:=by rw[←hik];exact Nat.mul_le_mul_right _ hi
 have hdl:(cs.drop (i*i0.size)).length=(n - i)*i0.size:=by rw[List.length_drop,Eh,Nat.sub_mul]
 have hni:(n - i)*i0.size=n*i0.size - i*i0.size:=Nat.sub_mul ..;have mixed:=L.mixed;have hw1:IntKind.i64.wrap ((i:Int)+(1:Int))=(i:Int)+(1:Int):=by rw[IntKind.wrap_i64];omega
 have Jx:(0:Int)≤(i:Int)+(1:Int):=by omega
 have hin:i≤n:=by omega
 have htn:((i:Int)+(1:Int)).toNat=i+1:=by omega
 have Ku:¬(c=i+1):=by omega
 have Nq:(i:Int)≤(n:Int)+(1:Int):=by omega
 have hb4:¬(c=i):=by omega
 have Bqa:∀ty dc sc,(Builtin.copy_ #[(ρ.t 24),(ρ.t 24)] ty #[.slice (some ⟨b,i*i0.size+i0.size,none⟩) (n - i) dc,.slice (some ⟨b,i*i0.size,none⟩) (n+1 - i) sc]).run P w.drew= .ok (goInt (Nat.min (n+1 - i) (n - i))) (w.drew.setCells b (i*i0.size+i0.size) (cs.drop (i*i0.size))):=fun ty dc sc=>
  Abb w.drew _ _ ty (ρ.t 9) b (i*i0.size+i0.size) (n - i) dc ⟨b,i*i0.size,none⟩ (n+1 - i) sc (cs.drop (i*i0.size)) i0 L.t24 L.i9 (by rw[hdl];congr 1;simp only[Nat.min_def];split<;>omega)
   (fun j v hj=>by rw[Addr.add_lit];exact Kr _ v (by rwa [List.getElem?_drop]at hj))
   (fun j hj=>Mx _ (by omega)) (fun j hj=>hfz _ (by omega)) (fun v hv=>h1c v (List.mem_of_mem_drop hv))
 obtain⟨W1,hW1⟩:∃W1,W1=w.drew.setCells b (i*i0.size+i0.size) (cs.drop (i*i0.size)):=⟨_,rfl⟩;have Bi4:∀k,k<(n+1)*i0.size→(W1.cell? ⟨b,k,none⟩).isSome=true:=fun k hk=>by
  rw[hW1];exact isSome_setCells b _ _ _ (fun j hj=>by rw[hdl]at hj;exact Mx _ (by omega)) _ (Mx k hk)
 have Bwo:∀(W:World),(∀x,W.cell? x=W1.cell? x)→(∀x,W.frozen? x=W1.frozen? x)→∀ty dc,(Builtin.copy_ #[(ρ.t 24),(ρ.t 24)] ty #[.slice (some ⟨b,i*i0.size,none⟩) (n+1 - i) dc,.slice (some ⟨vb,0,none⟩) 1 vc]).run P W= .ok (goInt (Nat.min 1 (n+1 - i))) (W.setCells b (i*i0.size) vs):=fun W hWc hWf ty dc=>
  Abb W _ _ ty (ρ.t 9) b (i*i0.size) (n+1 - i) dc ⟨vb,0,none⟩ 1 vc vs i0 L.t24 L.i9 (by rw[Qy];congr 1;simp only[Nat.min_def];split<;>omega)
   (fun j v hj=>by
     rw[Addr.add_lit,hWc,hW1,World.cell?_setCells_out b _ _ _ _ (fun h _=>absurd h hvb),Nat.zero_add]
     exact Ko j v hj)
   (fun j hj=>by rw[hWc];exact Bi4 _ (by omega)) (fun j hj=>by rw[hWf,hW1,World.frozen?_setCells];exact hfz _ (by omega)) h1v
 rw[←hW1]at Bqa;obtain⟨_,_,FG⟩:=L.f22
 go_enter FG,Body2.n22_ntmps ρ
 go_wp2_with (simp only[hov])
 go_region_law_o (refine step_copy_runI rfl _ _ (ρ.t 24) (ρ.t 24) rfl _ _ (by simp[Act.eval,Act.put]) (by simp[Act.eval,Act.put]) (Bqa _ _ _) ?_)
 go_wp2_with (at_builtin;refine wpList_copy_runI _ rfl _ _ (ρ.t 24) (ρ.t 24) rfl _ _ rfl rfl (Bwo _ (fun _=>rfl) (fun _=>rfl) _ _) ?_)
 go_ret
 first|exact⟨rfl,rfl⟩|exact⟨rfl,by rw[hW1]⟩
set_option maxHeartbeats 4000000 in
set_option maxRecDepth 100000 in
theorem A73{i0:TypeInfo}{zv:Value}(L:A0u P ρ i0 zv)(base:Option Addr)(n c vb vc:Nat)(w:World)(Ta:base=none→n=0∧c=0)(hnc:n≤c){v':Value}{w':World}
 (Ez:∀ty,(Builtin.append_ #[(ρ.t 24),(ρ.t 24)] ty #[.slice base n c,.slice (some ⟨vb,0,none⟩) 1 vc]).run P w= .ok v' w'):
 Calls P (ρ.f 22) #[.slice base n c,.int .i64 n,.slice (some ⟨vb,0,none⟩) 1 vc] w fun e w1=>e= .returned v'∧w1=w':=by
 have t0:=L.t0;have a0:=L.a0;have z0:=L.z0;have v0:=L.v0;have t3:=L.t3;have a3:=L.a3;have z3:=L.z3;have v3:=L.v3;have t4:=L.t4;have a4:=L.a4;have z4:=L.z4;have v4:=L.v4;have z9:=L.z9;have t24:=L.t24;have a24:=L.a24;have z24:=L.z24;have v24:=L.v24;have u0:=run_underlying L.t0;have u3:=run_underlying L.t3;have u4:=run_underlying L.t4;have u24:=run_underlying L.t24;have mixed:=L.mixed;obtain⟨_,_,FG⟩:=L.f22
 go_enter FG,Body2.n22_ntmps ρ
 cases base with
 |none=>
  obtain⟨rfl,rfl⟩:=Ta rfl
  go_wp2_with (at_builtin;refine Lib.wpList_append_run _ rfl _ _ _ _ rfl _ _ rfl rfl _ _ (Ez _) ?_)
  go_ret
  exact⟨rfl,rfl⟩
 |some a=>
  obtain⟨ab,ao,asp⟩:=a
  go_wp2_with (at_builtin;refine Lib.wpList_append_run _ rfl _ _ _ _ rfl _ _ rfl rfl _ _ (Ez _) ?_)
  all_goals(go_ret;exact⟨rfl,rfl⟩)
set_option maxHeartbeats 4000000 in
set_option maxRecDepth 100000 in
theorem Bjd{i0:TypeInfo}{zv:Value}(L:A0u P ρ i0 zv)(b n c i vb vc:Nat)(cs vs:List Value)(w:World)(hi:i<n)(hnc:n≤c)(Atu:c<n+1)(Tq:(n+1)*i0.bytes≤140737488355328)(hn:n≤1000000000)
 (Eh:cs.length=n*i0.size) (Qy:vs.length=1*i0.size)
 (Kr:∀j v,cs[j]?=some v→w.cell? ⟨b,j,none⟩=some v)
 (Ko:∀j v,vs[j]?=some v→w.cell? ⟨vb,j,none⟩=some v) (h1c:∀v∈cs,v.oneCell'=true) (h1v:∀v∈vs,v.oneCell'=true):
 Calls P (ρ.f 22) #[.slice (some ⟨b,0,none⟩) n c,.int .i64 i,.slice (some ⟨vb,0,none⟩) 1 vc] w fun e w'=>
  e= .returned (.slice (some ⟨w.heap.size,0,none⟩) (n+1) (grownCap w (n+1) c (ρ.t 9)))∧
  w'=(((w.alloc (.cells ((cs.take (i*i0.size)).toArray++Builtin.zeroCells zv.cells (n+1 - i)++Builtin.zeroCells zv.cells (grownCap w (n+1) c (ρ.t 9) - (n+1))) (ρ.t 9))).drew.setCells w.heap.size (i*i0.size) vs).drew).setCells w.heap.size (i*i0.size+i0.size) (cs.drop (i*i0.size)):=by
 have t0:=L.t0;have a0:=L.a0;have z0:=L.z0;have v0:=L.v0;have t3:=L.t3;have a3:=L.a3;have z3:=L.z3;have v3:=L.v3;have t4:=L.t4;have a4:=L.a4;have z4:=L.z4;have v4:=L.v4;have z9:=L.z9;have t24:=L.t24;have a24:=L.a24;have z24:=L.z24;have v24:=L.v24;have u0:=run_underlying L.t0;have u3:=run_underlying L.t3;have u4:=run_underlying L.t4;have u24:=run_underlying L.t24;have mixed:=L.mixed;have Bxc:=L.A25;have hz2:¬((i:Int)=(n:Int)):=by omega
 have hz3:(c:Int)<(n:Int)+(1:Int):=by omega
 have hnk:(n+1)*i0.size=n*i0.size+i0.size:=Nat.succ_mul ..;have Bw1:(i+1)*i0.size=i*i0.size+i0.size:=Nat.succ_mul ..;have Bim:i*i0.size+i0.size≤n*i0.size:=by rw[←Bw1];exact Nat.mul_le_mul_right _ hi
 have hdl:(cs.drop (i*i0.size)).length=(n - i)*i0.size:=by rw[List.length_drop,Eh,Nat.sub_mul]
 have hni:(n - i)*i0.size=n*i0.size - i*i0.size:=Nat.sub_mul ..;have B2c:(n+1 - i)*i0.size=n*i0.size+i0.size - i*i0.size:=by rw[Nat.sub_mul,hnk]
 have hbw:b<w.heap.size:=block_lt_of_cell (Kr 0 _ (List.getElem?_eq_getElem (by omega)))
 have hvw:vb<w.heap.size:=block_lt_of_cell (Ko 0 _ (List.getElem?_eq_getElem (by omega)))
 have Vd:(n:Int)+(1:Int) - (i:Int)=((n+1 - i:Nat):Int):=by omega
 have hik:i+(n+1 - i)=n+1:=by omega
 have hold:(Builtin.firstCells i0.size i (.slice (some ⟨b,0,none⟩) i c)).run P w.drew= .ok (cs.take (i*i0.size)).toArray w.drew:=
  run_firstCells_some w.drew i0.size i ⟨b,0,none⟩ i c (cs.take (i*i0.size)) (by rw[List.length_take];omega) (fun j v hj=>by
   rw[Addr.add_lit,Nat.zero_add];rw[List.getElem?_take]at hj;split at hj
   ·exact Kr j v hj
   ·cases hj)
 have hrz:∀ty,(Builtin.append_ #[(ρ.t 24),(ρ.t 3)] ty #[.slice (some ⟨b,0,none⟩) i c,.int .i64 ((n:Int)+(1:Int) - (i:Int))]).run P w=
  .ok (.slice (some ⟨w.heap.size,0,none⟩) (n+1) (grownCap w (n+1) c (ρ.t 9))) (w.drew.alloc (.cells ((cs.take (i*i0.size)).toArray++Builtin.zeroCells zv.cells (n+1 - i)++Builtin.zeroCells zv.cells (grownCap w (n+1) c (ρ.t 9) - (n+1))) (ρ.t 9))):=fun ty=>by
  have h:=Lib.run_append_grow_zeros w (ρ.t 24) (ρ.t 3) ty (ρ.t 9) i0 _ .i64 .i64 L.t24 L.t3 L.i9 L.iz (some ⟨b,0,none⟩) i c (cs.take (i*i0.size)) hold (n+1 - i) (by omega) (by omega) (by omega) (by omega) (by
   have:(n+1 - i)*i0.bytes≤(n+1)*i0.bytes:=Nat.mul_le_mul_right _ (by omega)
   omega) (by rw[hik];exact growslice_fits Atu Tq)
  rw[hik]at h;rw[Vd];exact h
 obtain⟨G,hG⟩:∃G,G=grownCap w (n+1) c (ρ.t 9):=⟨_,rfl⟩;obtain⟨ROW,Bia⟩:∃ROW:Array Value,ROW=(cs.take (i*i0.size)).toArray++Builtin.zeroCells zv.cells (n+1 - i)++Builtin.zeroCells zv.cells (G - (n+1)):=⟨_,rfl⟩;rw[←hG]at hrz ⊢;rw[←Bia]at hrz ⊢;have hRl:(n+1)*i0.size≤ROW.size:=by
  rw[Bia];have e1:(Builtin.zeroCells zv.cells (n+1 - i)).size=(n+1 - i)*i0.size:=by rw[←L.izs];simp[Builtin.zeroCells]
  simp only[Array.size_append,e1,List.size_toArray,List.length_take];omega
 obtain⟨W1,hW1⟩:∃W1,W1=w.drew.alloc (.cells ROW (ρ.t 9)):=⟨_,rfl⟩;rw[←hW1]at hrz;have hN:∀j,j<(n+1)*i0.size→(W1.cell? ⟨w.heap.size,j,none⟩).isSome=true:=fun j hj=>by
  rw[hW1,World.cell?_alloc_at (w:=w.drew) ROW _ w.heap.size j rfl,Array.getElem?_eq_getElem (by omega)];rfl
 have hNf:∀j,W1.frozen? ⟨w.heap.size,j,none⟩=false:=fun j=>by rw[hW1];exact World.frozen?_alloc_at (w:=w.drew) ROW _ w.heap.size j rfl
 have hOb:∀j v,w.cell? ⟨b,j,none⟩=some v→W1.cell? ⟨b,j,none⟩=some v:=fun j v h=>by rw[hW1,World.cell?_alloc_past (w:=w.drew) _ b j hbw];exact h
 have hOv:∀j v,w.cell? ⟨vb,j,none⟩=some v→W1.cell? ⟨vb,j,none⟩=some v:=fun j v h=>by rw[hW1,World.cell?_alloc_past (w:=w.drew) _ vb j hvw];exact h
 have Bwp:∀(W:World),(∀x,W.cell? x=W1.cell? x)→(∀x,W.frozen? x=W1.frozen? x)→∀ty dc,(Builtin.copy_ #[(ρ.t 24),(ρ.t 24)] ty #[.slice (some ⟨w.heap.size,i*i0.size,none⟩) (n+1 - i) dc,.slice (some ⟨vb,0,none⟩) 1 vc]).run P W= .ok (goInt (Nat.min 1 (n+1 - i))) (W.setCells w.heap.size (i*i0.size) vs):=fun W hWc hWf ty dc=>
  Abb W _ _ ty (ρ.t 9) w.heap.size (i*i0.size) (n+1 - i) dc ⟨vb,0,none⟩ 1 vc vs i0 L.t24 L.i9 (by rw[Qy];congr 1;simp only[Nat.min_def];split<;>omega)
   (fun j v hj=>by rw[Addr.add_lit,hWc,Nat.zero_add];exact hOv _ v (Ko j v hj))
   (fun j hj=>by rw[hWc];exact hN _ (by omega)) (fun j hj=>by rw[hWf];exact hNf _) h1v
 have hGn:n+1≤G:=by rw[hG];exact grownCap_ge w _ _ _
 have B1z:G≤9223372036854775807:=by
  have:=grownCap_le_maxLen w (n+1) c (ρ.t 9) (by unfold maxLen;omega)
  rw[←hG]at this;unfold maxLen at this;omega
 have hGi:¬(G=i):=by omega
 have B10:¬(G=i+1):=by omega
 have hci:¬(c=i):=by omega
 have hbN:b≠w.heap.size:=by omega
 have Bqb:∀(W:World),(∀x,W.cell? x=(W1.setCells w.heap.size (i*i0.size) vs).cell? x)→(∀x,W.frozen? x=(W1.setCells w.heap.size (i*i0.size) vs).frozen? x)→∀ty dc sc,(Builtin.copy_ #[(ρ.t 24),(ρ.t 24)] ty #[.slice (some ⟨w.heap.size,i*i0.size+i0.size,none⟩) (n - i) dc,.slice (some ⟨b,i*i0.size,none⟩) (n - i) sc]).run P W= .ok (goInt (Nat.min (n - i) (n - i))) (W.setCells w.heap.size (i*i0.size+i0.size) (cs.drop (i*i0.size))):=fun W hWc hWf ty dc sc=>
  Abb W _ _ ty (ρ.t 9) w.heap.size (i*i0.size+i0.size) (n - i) dc ⟨b,i*i0.size,none⟩ (n - i) sc (cs.drop (i*i0.size)) i0 L.t24 L.i9 (by rw[hdl];congr 1;simp only[Nat.min_def];split<;>omega)
   (fun j v hj=>by
     rw[Addr.add_lit,hWc,World.cell?_setCells_out _ _ _ _ _ (fun h _=>absurd h hbN)]
     exact hOb _ v (Kr _ v (by rwa [List.getElem?_drop]at hj)))
   (fun j hj=>by rw[hWc];rw[hdl]at hj;exact isSome_setCells _ _ _ _ (fun t ht=>hN _ (by omega)) _ (hN _ (by omega)))
   (fun j hj=>by rw[hWf,World.frozen?_setCells];exact hNf _) (fun v hv=>h1c v (List.mem_of_mem_drop hv))
 subst hW1;have hE1:∀x,((w.alloc (.cells ROW (ρ.t 9))).drew).cell? x=(w.drew.alloc (.cells ROW (ρ.t 9))).cell? x:=fun x=>rfl
 have hE2:∀x,((w.alloc (.cells ROW (ρ.t 9))).drew).frozen? x=(w.drew.alloc (.cells ROW (ρ.t 9))).frozen? x:=fun x=>rfl
 have hF1:∀x,(((w.alloc (.cells ROW (ρ.t 9))).drew.setCells w.heap.size (i*i0.size) vs).drew).cell? x=((w.drew.alloc (.cells ROW (ρ.t 9))).setCells w.heap.size (i*i0.size) vs).cell? x:=fun x=>rfl
 have hF2:∀x,(((w.alloc (.cells ROW (ρ.t 9))).drew.setCells w.heap.size (i*i0.size) vs).drew).frozen? x=((w.drew.alloc (.cells ROW (ρ.t 9))).setCells w.heap.size (i*i0.size) vs).frozen? x:=fun x=>rfl
 have hw1:IntKind.i64.wrap ((i:Int)+(1:Int))=(i:Int)+(1:Int):=by rw[IntKind.wrap_i64];omega
 have Jx:(0:Int)≤(i:Int)+(1:Int):=by omega
 have hin:i≤n:=by omega
 have htn:((i:Int)+(1:Int)).toNat=i+1:=by omega
 have Nq:(i:Int)≤(n:Int):=by omega
 clear Vd hik hold Bia hG hRl;obtain⟨_,_,FG⟩:=L.f22
 go_enter FG,Body2.n22_ntmps ρ
 go_wp2_with (first
  |(at_builtin;refine Lib.wpList_append_run _ rfl _ _ _ _ rfl _ _ rfl rfl _ _ (hrz _) ?_)
  |(at_builtin;refine wpList_copy_runI _ rfl _ _ (ρ.t 24) (ρ.t 24) rfl _ _ rfl rfl (Bwp _ hE1 hE2 _ _) ?_)
  |(at_builtin;refine wpList_copy_runI _ rfl _ _ (ρ.t 24) (ρ.t 24) rfl _ _ rfl rfl (Bqb _ (fun _=>rfl) (fun _=>rfl) _ _ _) ?_))
 go_region_law_o (refine step_copy_runI rfl _ _ (ρ.t 24) (ρ.t 24) rfl (.slice (some ⟨w.heap.size,i*i0.size+i0.size,none⟩) (n - i) (G - (i+1))) (.slice (some ⟨b,i*i0.size,none⟩) (n - i) (c - i)) (by simp[Act.eval,Act.put]) (by simp[Act.eval,Act.put]) (Bqb _ hF1 hF2 (ρ.t 3) (G - (i+1)) (c - i)) ?_)
 go_wp2
 go_ret
 exact⟨rfl,rfl⟩

open Go.Shelf Go.RowKit Go.Lib Go.Proofs
theorem Ct.split{G:Mem}{w:World}:∀{l m:List D} {cs:List Value} {bs:List Nat},Ct G w (l++m) cs bs→∃c c' b b',cs=c++c'∧bs=b++b'∧Ct G w l c b∧Ct G w m c' b'
 | [],m,cs,bs,h=>⟨[],cs,[],bs,rfl,rfl,by simp[Ct],h⟩
 |d::l,m,cs,bs,h=>by
  simp only[C4,Ct]at h;obtain⟨c,c',b,b',rfl,rfl,h1,h2⟩:=h;obtain⟨p,p',q,q',rfl,rfl,h3,h4⟩:=Ct.split h2;refine⟨c++p,p',b++q,q',by simp,by simp,?_,h4⟩
  simp only[Ct];exact⟨c,p,b,q,rfl,rfl,h1,h3⟩
theorem grownBy_refl(w:World)(r:Option Nat):w.grownBy w r:=⟨rfl,rfl,rfl,Ay _,fun _ _ _=>rfl⟩
theorem Qo{w w' w'':World}{r:Option Nat}(h:w.grownBy w' r)(h':w'.grownBy w'' r):w.grownBy w'' r:=
 ⟨h'.os.trans h.os,h'.tape.trans h.tape,h'.output.trans h.output,C2 h.size h'.size,fun k hk hr=>(h'.block k (Nat.lt_of_lt_of_le hk h.size) hr).trans (h.block k hk hr)⟩
theorem T0(g:Nat)(t:TypeId)(fz:Nat × Nat):∀(vs A X B:List Value) (o:Nat) (cur:Array Value) (w:World),w.heap[g]?=some (.cells cur t fz)→cur.toList=A++X++B→A.length=o→X.length=vs.length→
 (w.setCells g o vs).heap[g]?=some (.cells (A++vs++B).toArray t fz)∧w.grownBy (w.setCells g o vs) (some g)
 | [],A,X,B,o,cur,w,hg,hc,_,hx=>by
   obtain rfl:X=[]:=by simpa using hx
   refine⟨?_,grownBy_refl w _⟩;rw[World.setCells,hg, ←hc]
 |v::r,A,X,B,o,cur,w,hg,hc,ho,hx=>by
  obtain⟨x,X',rfl⟩:∃x X',X=x::X':=by
   cases X with
   |nil=>simp at hx
   |cons x X'=>exact⟨x,X',rfl⟩
  have h1:(cur.setIfInBounds o v).toList=(A++[v])++X'++B:=by
   rw[Array.toList_setIfInBounds,hc, ←ho];simp
  have hs:=setCell_eq_setRow w g o cur t fz v hg;have ih:=T0 g t fz r (A++[v]) X' B (o+1) (cur.setIfInBounds o v) (w.setCell ⟨g,o,none⟩ v) (by rw[hs];exact setRow_heap w g cur _ t fz hg) h1 (by simp[ho]) (by simpa using hx)
  rw[World.setCells];refine⟨by simpa using ih.1,Qo ?_ ih.2⟩
  rw[hs];exact⟨rfl,rfl,rfl,by simp[World.setRow],fun k _ hk=>setRow_other w g k _ (fun e=>hk (by rw[e]))⟩
theorem Avq(z:Array Value)(n:Nat):(Builtin.zeroCells z n).size=n*z.size:=by simp[Builtin.zeroCells]
section
variable{P:Program}
theorem Xv{G:Mem}{σ:Lab}{Fr:Mem}{w w':World}{Fj:Array Value}{m:Nat}(Dj:Gc G σ Fr ⟨w,0, #[]⟩ w){g cap:Nat}{e:TypeId}{row:Array Value}{k:Nat}{l:List D}{xs:List Value}{bs:List Nat}
 (hg:w'.heap[g]?=some (.cells row e (0,0))) (hrs:row.size=cap*k) (Tg:l.length≤cap) (Zq:cap≤maxLen) (hx:row.toList.take (l.length*k)=xs) (hd:Ct G w l xs bs) (hs:∀x∈l,x.size=k)
 (hn:bs.Nodup) (hgb:g ∉ bs) (hf:∀b∈bs,G b=none∧Fr b=none∧b<w.heap.size) (hgf:G g=none∧Fr g=none) {q:Nat} (hqf:G q=none∧Fr q=none) (hq:q ∉ bs) (Qv:w.grownBy w' (some q)) (hm:m=Fj.size):
 ∃(r:SV) (outs:List SV) (c:Value) (G':Mem) (σ':Lab),Ending.returned (Value.slice (some ⟨g,0,none⟩) l.length cap)= .returned c∧Is (.own [] (.vec e k l)) (List.replicate m .no) r outs∧G.le G'∧Gc G' σ' Fr ⟨w,0, #[]⟩ w'∧
  r.root=none∧Dx G' σ' w' m r c∧outs.length=m∧∀i sv,outs[i]?=some sv→sv.root=none∧Dx G' σ' w' i sv (Fj.getD i undef):=by
 have hgl:g<w'.heap.size:=(C3.1 hg).1
 let σ':Lab:=fun b=>if b∈g::bs then some (m,(g::bs).idxOf b)else none
 have inv:∀{b Ca},σ' b=some Ca→b∈g::bs∧Ca=(m,(g::bs).idxOf b):=by
  intro b Ca h;simp only[σ']at h;split at h
  ·rename_i h1;cases h;exact⟨h1,rfl⟩
  ·cases h
 have Mk:∀(M:Mem),M q=none→(∀b o,M b=some o→w.heap[b]?=some o)→∀b o,M b=some o→w'.heap[b]?=some o:=by
  intro M hMg hM b o hb;have h1:=hM b o hb;rw[Qv.block b (C3.1 h1).1 (fun e=>by cases e;rw[hMg]at hb;cases hb)]
  exact h1
 refine⟨_,_,_,G,σ',rfl,⟨rfl,rfl⟩,Mem.le.refl G,⟨Mk G hqf.1 Dj.fixed,?_,?_,Mk Fr hqf.2 Dj.frame,Qv.os,Qv.tape,Qv.output,Qv.size,Dj.apart,Dj.Mv⟩,rfl,?_,by simp,?_⟩
 ·intro b Ca h;rcases Ah.1 (inv h).1 with rfl|hb
  ·exact⟨hgf.1,hgf.2,hgl⟩
  ·obtain⟨h1,h2,h3⟩:=hf b hb;exact⟨h1,h2,Nat.lt_of_lt_of_le h3 Qv.size⟩
 ·intro b b' Ca h h';obtain⟨h1,rfl⟩:=inv h;obtain⟨h2,h3⟩:=inv h';exact Axx h1 h2 (by simpa using h3)
 ·refine⟨g::bs,?_,rfl,Bs.2 ⟨hgb,hn⟩,fun b hb=>⟨(g::bs).idxOf b,by simp only[σ',hb,if_true]⟩⟩
  simp only[Bp,Value.cells];refine .inr ⟨g,0,cap,row,xs,bs,rfl,Row.of hg,fun _=>⟨rfl,hrs⟩,Tg,Zq,by rw[hrs,Bm];exact Ay _,by simpa using hx,hd.tr (Mem.le.refl G) fun b hb=>?_,hs,rfl⟩
  exact Qv.block b (hf b hb).2.2 (fun e=>by cases e;exact hq hb)
 ·intro i sv hi;obtain rfl:sv= .no:=(List.mem_replicate.1 (Aw hi)).2;exact⟨rfl,trivial⟩
theorem Dr.row{G:Mem}{σ:Lab}{w:World}{s:Nat}{e:TypeId}{k:Nat}{l:List D}{c:Value}(h:Dr G σ w s (.vec e k l) c)(he:e<1000000):(c= .slice none 0 0∧l=[])∨
 ∃g cap cur xs bs,c= .slice (some ⟨g,0,none⟩) l.length cap∧w.heap[g]?=some (.cells cur e (0,0))∧cur.size=cap*k∧l.length≤cap∧cap≤maxLen∧cur.toList.take (l.length*k)=xs∧Ct G w l xs bs∧(∀x∈l,x.size=k)∧
  bs.Nodup∧g ∉ bs∧∀b,b=g∨b∈bs→∃j,σ b=some (s,j):=by
 obtain⟨bs,h1,h2,h3,h4⟩:=h;rw[G7 h2]at h1;simp only[Bp]at h1;rcases h1 with⟨h1,rfl,_⟩|⟨g,off,cap,cur,xs,Et,h1,r1,r2,r3,r4,r5,r6,r7,r8,rfl⟩
 ·injection h1 with h1
  exact .inl ⟨h1,rfl⟩
 ·injection h1 with h1
  obtain⟨rfl,r2'⟩:=r2 he;have hn:=Bs.1 h3;exact .inr ⟨g,cap,cur,xs,Et,h1,r1.to he,r2',r3,r4,by simpa using r6,r7,r8,hn.2,hn.1,fun b hb=>h4 b (by simpa using hb)⟩
theorem Amg{w:World}{g:Nat}{cur:Array Value}{e:TypeId}(hg:w.heap[g]?=some (.cells cur e (0,0))){n:Nat}(j:Nat)(v:Value)(h:(cur.toList.take n)[j]?=some v):w.cell? ⟨g,j,none⟩=some v:=by
 rw[Jc]at h;split at h
 ·have:=cell_of_row w g j cur _ _ hg;rw[this];simpa using h
 ·cases h
theorem Br3{ρ:Ren}{i0:TypeInfo}{zv:Value}(L:A0u P ρ i0 zv)(he:ρ.t 9<1000000)(l:List D)(x:D)(i:Nat)(hi:i≤l.length)(hl:l.length≤100000):
 Fn P (ρ.f 22) [.own [] (.vec (ρ.t 9) i0.size l),.v (.int .i64 i),.own [] (.vec (ρ.t 9) i0.size [x])] (Is (.own [] (.vec (ρ.t 9) i0.size (l.take i++x::l.drop i))) [.no,.no,.no]):=by
 intro G σ Fr w Fj Dj hlen Ms;have Gq:=(Ms 0 _ rfl).2;have Uo:Bb G (.int .i64 i) (Fj.getD 1 undef):=(Ms 1 _ rfl).2;have W5:=(Ms 2 _ rfl).2;rw[Bb.int]at Uo;have hca:Fj= #[Fj.getD 0 undef,.int .i64 i,Fj.getD 2 undef]:=by
  rw[←Uo];apply Array.ext
  ·simpa using hlen
  ·intro j h1 h2;have:j=0∨j=1∨j=2:=by simp at h2;omega
   rcases this with rfl|rfl|rfl<;>simp[Array.getD,h1]
 have Cq:Fj.size=3:=hlen;generalize Fj.getD 0 undef=c0 at Gq hca;generalize Fj.getD 2 undef=c2 at W5 hca;have Bxc:=L.A25;rcases Dr.row W5 he with⟨_,h⟩|⟨vb,vc,Bx6,vs,vbs,rfl,v1,v2,v3,v4,v5,v6,v7,v8,v9,v10⟩
 ·cases h
 have hk:x.size=i0.size:=v7 x (by simp)
 have Qy:vs.length=1*i0.size:=by rw[Ct.length v6];simp[D7,hk]
 have Ko:∀j v,vs[j]?=some v→w.cell? ⟨vb,j,none⟩=some v:=fun j v h=>Amg v1 j v (by rw[←v5]at h;exact h)
 have Mi:=Ct.one v6;have A0k:∀b,b=vb∨b∈vbs→G b=none∧Fr b=none∧b<w.heap.size:=fun b hb=>by
  obtain⟨j,hj⟩:=v10 b hb;exact Dj.own b _ hj
 have Bie:∀n,n≤100001→n*i0.bytes≤140737488355328:=fun n hn=>by
  have:n*i0.bytes≤100001*100000:=Nat.mul_le_mul hn L.ib;omega
 rcases Dr.row Gq he with⟨rfl,rfl⟩|⟨g,cap,cur,xs,bs,rfl,r1,r2,r3,r4,r5,r6,r7,r8,r9,r10⟩
 · 
  obtain rfl:i=0:=by simpa using hi
  obtain⟨v',w',Ez,q1,q2,_,q3⟩:=run_append_own_at (P:=P) w 0 (ρ.t 24) (ρ.t 3) (ρ.t 9) i0 zv i0.size i0.bytes L.t24 L.i9 L.iz rfl rfl L.izs L.A25 (.slice none 0 0) 0 [] (Lx.to (Lx.nil w _ _) he) ⟨vb,0,none⟩ 1 vc vs Qy
   (fun j u hj=>by rw[Addr.add_lit,Bm];exact Ko j u hj) Mi (by simp[maxLen]) (Bie _ (by omega)) (A3 _)
  have Az9:∀ty,(Builtin.append_ #[ρ.t 24,ρ.t 24] ty #[.slice none 0 0,.slice (some ⟨vb,0,none⟩) 1 vc]).run P w= .ok v' w':=fun ty=>Ez
  rw[hca];refine(A73 L none 0 0 vb vc w (fun _=>⟨rfl,rfl⟩) (Ay _) Az9).mono ?_
  rintro e w1 ⟨rfl,rfl⟩;rcases q1.2 with⟨_,h⟩|⟨g',Z7,Gu,rfl,_,k1,k2,k3,k4,k5⟩
  ·cases h
  rcases q3 with h|h
  ·simp[Value.ownBlock]at h
  simp only[Value.ownBlock,Af]at h;subst h;obtain⟨f1,f2,f3⟩:=Dj.fresh (Ay _);rw[←hca];refine Xv (l:=[x]) (bs:=vbs) Dj k1 k4 k2 k3 (by simpa using k5) (by simpa using v6) v7 v8 (fun hb=>?_) (fun b hb=>A0k b (.inr hb)) ⟨f1,f2⟩ (q:=w.heap.size) ⟨f1,f2⟩ (fun hb=>?_) ?_ Cq.symm
  ·have:=(A0k _ (.inr hb)).2.2;omega
  ·have:=(A0k _ (.inr hb)).2.2;omega
  ·exact⟨q2.os,q2.tape,q2.output,q2.size,fun k hk _=>q2.block k hk (by simp[Value.ownBlock])⟩
 have N2:∀b,b=g∨b∈bs→G b=none∧Fr b=none∧b<w.heap.size:=fun b hb=>by
  obtain⟨j,hj⟩:=r10 b hb;exact Dj.own b _ hj
 have W7:∀b,b=g∨b∈bs→¬(b=vb∨b∈vbs):=fun b hb Dc=>by
  obtain⟨j,hj⟩:=r10 b hb;obtain⟨j',hj'⟩:=v10 b Dc;rw[hj]at hj';cases hj'
 have Eh:xs.length=l.length*i0.size:=by rw[Ct.length r6,Qt r7]
 have hx1:=Ct.one r6;have Kr:∀j v,xs[j]?=some v→w.cell? ⟨g,j,none⟩=some v:=fun j v h=>Amg r1 j v (by rw[←r5]at h;exact h)
 have hgv:vb≠g:=fun e=>W7 g (.inl rfl) (.inl e.symm)
 obtain⟨cA,cB,bA,bB,Brv,A91,dA,dB⟩:=Ct.split (l:=l.take i) (m:=l.drop i) (by rw[B3];exact r6)
 have hA:cA.length=i*i0.size:=by rw[Ct.length dA,Qt fun y hy=>r7 y (C6 hy),Ck,Da hi]
 have hB:cB=xs.drop (i*i0.size):=by rw[Brv, ←hA];simp
 have hAt:cA=xs.take (i*i0.size):=by rw[Brv, ←hA];simp
 have A9q:Ct G w (l.take i++x::l.drop i) (cA++vs++cB) (bA++vbs++bB):=by
  have:=(dA.append v6).append dB;simpa using this
 have Awh:∀y∈l.take i++x::l.drop i,y.size=i0.size:=by
  intro y hy;rcases Aj.1 hy with hy|hy
  ·exact r7 y (C6 hy)
  ·rcases Ah.1 hy with rfl|hy
   ·exact hk
   ·exact r7 y (Er hy)
 have Vx:∀b,b∈bA++vbs++bB→b∈bs∨b∈vbs:=by
  intro b hb;simp only[Aj]at hb;rw[A91];simp only[Aj];rcases hb with(hb|hb)|hb
  ·exact .inl (.inl hb)
  ·exact .inr hb
  ·exact .inl (.inr hb)
 have F5:(bA++vbs++bB).Nodup:=by
  rw[A91,Cb]at r8;obtain⟨n1,n2,n3⟩:=r8;have c1:∀b∈bA,b ∉ vbs:=fun b hb Dc=>W7 b (.inr (by rw[A91];simp[hb])) (.inr Dc)
  have c2:∀b∈bB,b ∉ vbs:=fun b hb Dc=>W7 b (.inr (by rw[A91];simp[hb])) (.inr Dc)
  rw[Cb,Cb];refine⟨⟨n1,v8,fun a ha b hb e=>c1 a ha (e ▸ hb)⟩,n2,fun a ha b hb e=>?_⟩
  rcases Aj.1 ha with ha|ha
  ·exact n3 a ha b hb e
  ·exact c2 b hb (e ▸ ha)
 have hff:∀b∈bA++vbs++bB,G b=none∧Fr b=none∧b<w.heap.size:=fun b hb=>by
  rcases Vx b hb with h|h
  ·exact N2 b (.inr h)
  ·exact A0k b (.inr h)
 have Vb:g ∉ bA++vbs++bB:=fun hb=>by
  rcases Vx g hb with h|h
  ·exact r9 h
  ·exact W7 g (.inl rfl) (.inr h)
 have hgG:G g=none∧Fr g=none:=⟨(N2 _ (.inl rfl)).1,(N2 _ (.inl rfl)).2.1⟩;have Mh:w.heap.size ∉ bA++vbs++bB:=fun hb=>Nat.lt_irrefl _ (hff _ hb).2.2
 have Atn:(l.take i++x::l.drop i).length=l.length+1:=by simp;omega
 have h63:maxLen=9223372036854775807:=rfl;have hnk:(l.length+1)*i0.size=l.length*i0.size+i0.size:=Nat.succ_mul ..;have Bim:i*i0.size≤l.length*i0.size:=C7 _ hi;by_cases hin:i=l.length
 · 
  obtain⟨v',w',Ez,q1,q2,_,q3⟩:=run_append_own_at (P:=P) w 0 (ρ.t 24) (ρ.t 3) (ρ.t 9) i0 zv i0.size i0.bytes L.t24 L.i9 L.iz rfl rfl L.izs L.A25 (.slice (some ⟨g,0,none⟩) l.length cap) l.length xs
   ⟨Eh,.inr ⟨g,cap,cur,rfl,A3 _,r1,r3,r4,r2,r5⟩⟩ ⟨vb,0,none⟩ 1 vc vs Qy
   (fun j u hj=>by rw[Addr.add_lit,Bm];exact Ko j u hj) Mi (by simp[maxLen];omega) (Bie _ (by omega)) (A3 _)
  subst hin;rw[hca];refine(A73 L (some ⟨g,0,none⟩) l.length cap vb vc w (fun h=>by cases h) r3 (fun ty=>Ez)).mono ?_
  rintro e w1 ⟨rfl,rfl⟩;rw[←hca];rcases q1.2 with⟨_,h⟩|⟨g',Z7,Gu,rfl,_,k1,k2,k3,k4,k5⟩
  ·omega
  have hB0:cB=[]:=by rw[hB, ←Eh];simp
  have hAx:cA=xs:=by rw[hAt, ←Eh];simp
  rw[←Atn]at k2 k5 ⊢;rcases q3 with h|h
  ·simp only[Value.ownBlock,Af]at h;subst h;refine Xv Dj k1 k4 k2 k3 (by rw[k5,hB0,hAx,Dk]) A9q Awh F5 Vb hff hgG hgG Vb ?_ Cq.symm
   simpa[Value.ownBlock]using q2
  ·simp only[Value.ownBlock,Af]at h;subst h;obtain⟨f1,f2,f3⟩:=Dj.fresh (Ay _);refine Xv Dj k1 k4 k2 k3 (by rw[k5,hB0,hAx,Dk]) A9q Awh F5 Mh hff ⟨f1,f2⟩ hgG Vb ?_ Cq.symm
   simpa[Value.ownBlock]using q2
 have Di:i<l.length:=by omega
 have B2a:i*i0.size+i0.size≤l.length*i0.size:=by rw[←Nat.succ_mul];exact C7 _ Di
 have hBl:cB.length=l.length*i0.size - i*i0.size:=by rw[hB,Br,Eh]
 have Amy:∀T:List Value,((cA++vs++cB)++T).take ((l.length+1)*i0.size)=cA++vs++cB:=fun T=>by
  rw[List.take_append_of_le_length (by simp;omega),C9 (by simp;omega)]
 by_cases Atu:l.length+1≤cap
 · 
  have S9:cur.toList.length=cap*i0.size:=by simpa using r2
  have B1u:(l.length+1)*i0.size≤cap*i0.size:=C7 _ Atu;have Rj:∀j,j<(l.length+1)*i0.size→(w.cell? ⟨g,j,none⟩).isSome=true:=fun j hj=>by
   rw[cell_of_row w g j cur _ _ r1,Bg (by omega)];rfl
  have hfz:∀(b j:Nat) (row:Array Value) (t:TypeId),w.heap[b]?=some (.cells row t (0,0))→w.frozen? ⟨b,j,none⟩=false:=fun b j row t h=>by simp[World.frozen?,h]
  have Sa:∀(b:Nat) (row:Array Value) (t:TypeId),w.heap[b]?=some (.cells row t (0,0))→w.shape? b=some (t,row.size):=fun b row t h=>by simp[World.shape?,h]
  rw[hca];refine(Bfh L g l.length cap i vb vc xs vs w Di Atu (by omega) hgv Eh Qy Kr Rj (fun j _=>hfz g j cur _ r1) Ko hx1 Mi _ _ Bx6.size cur.size (Sa _ _ _ v1) (Sa _ _ _ r1) (by omega) (hfz _ _ _ _ v1) (hfz _ _ _ _ v1)).mono ?_
  rintro e w1 ⟨rfl,rfl⟩;rw[←hca];have s1:=T0 g (ρ.t 9) (0,0) (xs.drop (i*i0.size)) (cur.toList.take (i*i0.size+i0.size)) ((cur.toList.drop (i*i0.size+i0.size)).take (xs.drop (i*i0.size)).length) ((cur.toList.drop (i*i0.size+i0.size)).drop (xs.drop (i*i0.size)).length)
   (i*i0.size+i0.size) cur w.drew r1 (by rw[A8,B3,B3]) (by rw[Ck];omega) (by rw[Ck,Br,Br];omega)
  have hT:=s1.1;rw[show cur.toList.take (i*i0.size+i0.size)=cA++(cur.toList.drop (i*i0.size)).take i0.size from by
   rw[List.take_add,hAt, ←r5,List.take_take,Da Bim]]at hT
  have s2:=T0 g (ρ.t 9) (0,0) vs cA ((cur.toList.drop (i*i0.size)).take i0.size) (xs.drop (i*i0.size)++(cur.toList.drop (i*i0.size+i0.size)).drop (xs.drop (i*i0.size)).length) (i*i0.size) _ _ hT
   (by simp) hA (by rw[Ck,Br];omega)
  rw[←Atn];have Qv:w.grownBy ((w.drew.setCells g (i*i0.size+i0.size) (xs.drop (i*i0.size))).setCells g (i*i0.size) vs) (some g):=
   Qo (w':=w.drew) ⟨rfl,rfl,rfl,Ay _,fun _ _ _=>rfl⟩ (Qo s1.2 s2.2)
  refine Xv Dj s2.1 ?_ (by omega) r4 ?_ A9q Awh F5 Vb hff hgG hgG Vb Qv Cq.symm
  ·have:(cur.toList.drop (i*i0.size+i0.size)).length=cap*i0.size - (i*i0.size+i0.size):=by rw[Br,S9]
   simp only[Rt,Cw,hA,Qy,Br,Eh,S9];omega
  ·rw[Atn, ←hB, ←A8];exact Amy _
 · 
  rw[hca];refine(Bjd L g l.length cap i vb vc xs vs w Di r3 (by omega) (Bie _ (by omega)) (by omega) Eh Qy Kr Ko hx1 Mi).mono ?_
  rintro e w1 ⟨rfl,rfl⟩;rw[←hca];obtain⟨gc,hgc⟩:∃gc,gc=grownCap w (l.length+1) cap (ρ.t 9):=⟨_,rfl⟩;have hge:l.length+1≤gc:=by rw[hgc];exact grownCap_ge w _ _ _
  have hle:gc≤maxLen:=by rw[hgc];exact grownCap_le_maxLen w _ _ _ (by rw[h63];omega)
  rw[←hgc];obtain⟨f1,f2,f3⟩:=Dj.fresh (Ay _);obtain⟨Z,hZ⟩:∃Z,Z=(Builtin.zeroCells zv.cells (l.length+1 - i)++Builtin.zeroCells zv.cells (gc - (l.length+1))).toList:=⟨_,rfl⟩;have B19:(l.length+1)*i0.size≤gc*i0.size:=C7 _ hge;have hZl:Z.length=gc*i0.size - i*i0.size:=by
   rw[hZ];simp only[Array.toList_append,Cw,Array.length_toList,Avq,L.izs,Nat.sub_mul];omega
  have Kc:((xs.take (i*i0.size)).toArray++Builtin.zeroCells zv.cells (l.length+1 - i)++Builtin.zeroCells zv.cells (gc - (l.length+1))).toList=cA++Z:=by
   rw[hZ,hAt];simp
  obtain⟨row,hrw⟩:∃row,row=(xs.take (i*i0.size)).toArray++Builtin.zeroCells zv.cells (l.length+1 - i)++Builtin.zeroCells zv.cells (gc - (l.length+1)):=⟨_,rfl⟩;rw[←hrw]at Kc ⊢;have h0:(w.alloc (.cells row (ρ.t 9))).drew.heap[w.heap.size]?=some (.cells row (ρ.t 9) (0,0)):=by
   show(w.heap.push _)[w.heap.size]?=_;rw[J1,if_pos rfl]
  have Bwx:w.grownBy (w.alloc (.cells row (ρ.t 9))).drew (some w.heap.size):=by
   refine⟨rfl,rfl,rfl,by show _≤(w.heap.push _).size;simp,fun k hk _=>?_⟩
   show(w.heap.push _)[k]?=_;rw[J1,if_neg (by omega)]
  have s1:=T0 w.heap.size (ρ.t 9) (0,0) vs cA (Z.take i0.size) (Z.drop i0.size) (i*i0.size) row _ h0 (by rw[Kc,A8,B3]) hA (by rw[Ck];omega)
  have s2:=T0 w.heap.size (ρ.t 9) (0,0) (xs.drop (i*i0.size)) (cA++vs) ((Z.drop i0.size).take (xs.drop (i*i0.size)).length) ((Z.drop i0.size).drop (xs.drop (i*i0.size)).length) (i*i0.size+i0.size) _ _ (show(World.drew _).heap[w.heap.size]?=_ from s1.1)
   (by show cA++vs++Z.drop i0.size=_;rw[A8 (cA++vs),B3]) (by simp[hA,Qy]) (by rw[Ck,Br,Br];omega)
  rw[←Atn];refine Xv Dj s2.1 ?_ (by omega) hle ?_ A9q Awh F5 Mh hff ⟨f1,f2⟩ ⟨f1,f2⟩ Mh (Qo Bwx (Qo s1.2 (Qo (w':=World.drew _) ⟨rfl,rfl,rfl,Ay _,fun _ _ _=>rfl⟩ s2.2))) Cq.symm
  ·simp only[Rt,Cw,hA,Qy,Br,Eh,hZl];omega
  ·rw[Atn, ←hB];exact Amy _
end
set_option maxRecDepth 100000

open Go.Proofs Go.Shelf
def Agq:Ren:=⟨fun n=>if n=22 then 94 else if n=29 then 117 else if n=30 then 118 else n,fun n=>if n=9 then 116 else if n=24 then 107 else n,fun n=>n⟩
theorem Bod:A0u Tryz.prog Agq Tryz.t116 (Tryz.t116.zero.getD undef) where
 mixed:=by kernel_rfl
 f22:=⟨Tryz.f94.name,by kernel_rfl,by kernel_rfl⟩
 f29:=fun a w v h=>by
  rw[run_callFunc_extern (P:=Tryz.prog) (f:=Agq.f 29) (fn:=Tryz.f117) (e:=Extern.SlicesOverlaps.overlaps #[Agq.t 24,Agq.t 24] #[Agq.t 4]) (by kernel_rfl) (by kernel_rfl) (by kernel_rfl) (by kernel_rfl) (by kernel_rfl) a w,h]
  rfl
 t0:=by kernel_rfl
 a0:=fun _=>by kernel_rfl
 z0:=fun _=>by kernel_rfl
 v0:=fun _=>by kernel_rfl
 t3:=by kernel_rfl
 a3:=fun _=>by kernel_rfl
 z3:=fun _=>by kernel_rfl
 v3:=fun _=>by kernel_rfl
 t4:=by kernel_rfl
 a4:=fun _=>by kernel_rfl
 z4:=fun _=>by kernel_rfl
 v4:=fun _=>by kernel_rfl
 t24:=by kernel_rfl
 a24:=fun _=>by kernel_rfl
 z24:=fun _=>by kernel_rfl
 v24:=fun _=>by kernel_rfl
 z9:=fun _=>by kernel_rfl
 i9:=by kernel_rfl
 iz:=by kernel_rfl
 izs:=by kernel_rfl
 A25:=by decide
 ib:=by decide
theorem A6x(l:List D)(x:D)(i:Nat)(hi:i≤l.length)(hl:l.length≤100000):Fn Tryz.prog Sq [.own [] (.vec Np 2 l),.v (.int .i64 i),.own [] (.vec Np 2 [x])] (Is (.own [] (.vec Np 2 (l.take i++x::l.drop i))) [.no,.no,.no]):=
 Br3 Bod (by decide) l x i hi hl
set_option maxHeartbeats 40000000

open Go.Proofs
def A6.pi(s:A6)(a:A1):Nat:=Gm (Fe a) s.l
def A6.pf(s:A6)(a:A1):Bool:=U6 (Fe a) (Su a) s.l
def Fx:Bt:=⟨0,0,[],true⟩
def A6.Ais(s:A6)(a:A1):Bt:=match s.l[s.pi a]? with
 |some h=>if s.pf a=true then h.vs.getLast?.getD Fx else Fx
 |none=>Fx
def Afx(l:List C0)(i:Nat)(f:Bool)(a:A1)(v:Bt):List C0:=
 if f=true then l.modify i fun h=>{h with vs:=h.vs++[v]} else l.take i++⟨a,[v]⟩::l.drop i
theorem Aoc:Fn Tryz.prog A5s [] (Is (sP ⟨[],[]⟩) []):=by
 refine Azr ?_ (by simp)
 repeat'((conv=>whnf);((with_reducible refine Aa ?_ ?_);focus (and_intros<;>kernel_rfl)))
 all_goals(try(conv=>whnf))
 (apply D6<;>kernel_rfl)
theorem A6.Bji{s:A6}{a:A1}(hv:∀h∈s.l,h.vs≠[]∧h.vs.length≤100000)(hf:s.pf a=true):∃e v,s.l[s.pi a]?=some e∧e.vs[e.vs.length - 1]?=some v∧s.Ais a=v∧0<e.vs.length∧e.vs.length≤100000:=by
 obtain⟨e,h1,h2⟩:=Ww hf;obtain⟨h3,h4⟩:=hv e (Aw h1);have h5:0<e.vs.length:=List.length_pos_iff.2 h3;refine⟨e,e.vs[e.vs.length - 1],h1,Ac _,?_,h5,h4⟩;unfold A6.Ais;unfold A6.pi;rw[h1];simp only[hf,if_true];rw[List.getLast?_eq_getElem?,Ac (by omega)]
 rfl
theorem A6.Ait{s:A6}{a:A1}(hf:s.pf a=false):s.Ais a=Fx:=by
 unfold A6.Ais;split
 ·simp[hf]
 ·rfl
theorem Br2{α:Type}{L:List α}{p:Nat}(h:p≤L.length)(x:α):(L.take p++x::L.drop p)[p]?=some x:=by
 rw[Cf (by rw[Ck];omega),Ck,Da h,Nat.sub_self]
 rfl
theorem Boe{α:Type}{L:List α}{p:Nat}(h:p≤L.length)(x y:α):(L.take p++x::L.drop p).set p y=L.take p++y::L.drop p:=by
 rw[List.set_append_right _ _ (by rw[Ck];omega),Ck,Da h,Nat.sub_self]
 rfl
abbrev stD(KS:List I)(VS L:List D):D:=.st [.map KS VS,.vec Np 2 L]

def Ce.ok(c:Ce):Prop:=(1≤c.key.length∧c.key.length≤64)∧(c.gone=true∨c.val.length≤256)
instance(c:Ce):Decidable c.ok:=by unfold Ce.ok;infer_instance
def Fp(F:List Ce)(c:Ce):List Ce:=match F.findIdx? (fun x=>decide (x.key=c.key))with
 |some i=>F.set i c
 |none=>F++[c]
def L6:List Ce→List Ce→Option (List Ce)
 | [],F=>some F
 |c::r,F=>if c.ok then L6 r (Fp F c)else none
def H5(F:List Ce)(k:A1):Ce:=(F.find? fun c=>decide (c.key=k)).getD ⟨[],[],true⟩
def Ni(l:List C0)(a:A1):Bt:=(A6.mk [] l).Ais a
def Pf(l:List C0)(a:A1)(v:Bt):List C0:=Afx l (Gm (Fe a) l) (U6 (Fe a) (Su a) l) a v
structure N0 where
 t:Ef
 l:List C0
 w:Bool
def Dv(n k:A1)(c:Ce)(x:N0):N0:=
 let was:=Ni x.l (Cp n k)
 if c.gone=true∧was.gone=true then x else
 if c.gone=true then⟨{x.t with bytes:=x.t.bytes - (k.length+was.val.length),keys:=x.t.keys - 1,Jk:=x.t.Jk+1},Pf x.l (Cp n k) ⟨x.t.rev+1,0,[],true⟩,true⟩
 else if was.gone=true then⟨{x.t with bytes:=x.t.bytes+(k.length+c.val.length),keys:=x.t.keys+1,Jk:=x.t.Jk+1},Pf x.l (Cp n k) ⟨x.t.rev+1,x.t.rev+1,c.val,false⟩,true⟩
 else⟨{x.t with bytes:=x.t.bytes+(c.val.length - was.val.length),Jk:=x.t.Jk+1},Pf x.l (Cp n k) ⟨x.t.rev+1,was.made,c.val,false⟩,true⟩
def Ea(n:A1)(F:List Ce):List A1→N0→N0
 | [],x=>x
 |k::r,x=>Ea n F r (Dv n k (H5 F k) x)
def N0.fin(x:N0):Ef:=if x.w=true then {x.t with rev:=x.t.rev+1} else x.t
structure U3(m:Nat)(l:List C0):Prop where
 len:l.length≤m
 held:∀h∈l,h.at_.length≤1000000∧h.vs≠[]∧h.vs.length≤m∧∀v∈h.vs,v.val.length≤1000
theorem U3.mono{m m':Nat}{l:List C0}(h:U3 m l)(hm:m≤m'):U3 m' l:=
 ⟨C2 h.len hm,fun x hx=>by obtain⟨a,b,c,d⟩:=h.held x hx;exact⟨a,b,C2 c hm,d⟩⟩
theorem U3.put{m:Nat}{l:List C0}{a:A1}{v:Bt}(h:U3 m l)(ha:a.length≤1000000)(hv:v.val.length≤1000):U3 (m+1) (Pf l a v):=by
 unfold Pf Afx;split
 ·refine⟨by rw[List.length_modify];have:=h.len;omega,fun x hx=>?_⟩
  obtain⟨i,hi,rfl⟩:=Hi.1 hx;rw[List.length_modify]at hi;rw[List.getElem_modify];obtain⟨h1,h2,h3,h4⟩:=h.held l[i] (List.getElem_mem hi);split
  ·refine⟨h1,by simp,by simp;omega,fun u hu=>?_⟩
   rcases Aj.1 hu with hu|hu
   ·exact h4 u hu
   ·simp only[Cx]at hu;subst hu;exact hv
  ·exact⟨h1,h2,by omega,h4⟩
 ·refine⟨by have:=h.len;have:=Wx (Fe a) l;simp;omega,fun x hx=>?_⟩
  rcases Aj.1 hx with hx|hx
  ·obtain⟨h1,h2,h3,h4⟩:=h.held x (C6 hx);exact⟨h1,h2,by omega,h4⟩
  ·rcases Ah.1 hx with rfl|hx
   ·exact⟨ha,by simp,by simp,by simpa using hv⟩
   ·obtain⟨h1,h2,h3,h4⟩:=h.held x (Er hx);exact⟨h1,h2,by omega,h4⟩
theorem Bfr{m:Nat}{l:List C0}(h:U3 m l)(a:A1):(Ni l a).val.length≤1000:=by
 unfold Ni A6.Ais;split
 ·rename_i x hx;split
  ·cases hl:x.vs.getLast? with
   |none=>simp[Fx]
   |some v=>exact(h.held x (Aw hx)).2.2.2 v (List.mem_of_getLast? hl)
  ·simp[Fx]
 ·simp[Fx]
theorem Bct(n k:A1):(Cp n k).length=n.length+k.length+1:=by simp[Cp]
structure TBd(m:Nat)(t:Ef):Prop where
 keys: -(1000000000000+m:Int)≤t.keys∧t.keys≤1000000000000+m
 bytes: -(1000000000000000+10000*m:Int)≤t.bytes∧t.bytes≤1000000000000000+10000*m
 Jk: -(1000000000000+m:Int)≤t.Jk∧t.Jk≤1000000000000+m
theorem TBd.mono{m m':Nat}{t:Ef}(h:TBd m t)(hm:m≤m'):TBd m' t:=by
 obtain⟨h1,h2,h3⟩:=h;exact⟨by omega,by omega,by omega⟩
theorem Aou{m m':Nat}{n k:A1}{c:Ce}{x:N0}(h:U3 m x.l)(ht:TBd m' x.t)(hn:n.length≤1000)(hk:k.length≤64)(hv:c.gone=true∨c.val.length≤256):
 U3 (m+1) (Dv n k c x).l∧TBd (m'+1) (Dv n k c x).t∧(Dv n k c x).t.rev=x.t.rev∧(Dv n k c x).t.floor=x.t.floor:=by
 have hw:=Bfr h (Cp n k);have ha:(Cp n k).length≤1000000:=by rw[Bct];omega
 obtain⟨t1,t2,t3⟩:=ht;unfold Dv;dsimp only;split
 ·exact⟨h.mono (by omega),⟨by omega,by omega,by omega⟩,rfl,rfl⟩
 ·split
  ·exact⟨h.put ha (by simp),⟨by dsimp only;omega,by dsimp only;omega,by dsimp only;omega⟩,rfl,rfl⟩
  ·have hcv:c.val.length≤256:=by
    rcases hv with hv|hv
    ·exact absurd hv (by assumption)
    ·exact hv
   split
   ·exact⟨h.put ha (by dsimp only;omega),⟨by dsimp only;omega,by dsimp only;omega,by dsimp only;omega⟩,rfl,rfl⟩
   ·exact⟨h.put ha (by dsimp only;omega),⟨by dsimp only;omega,by dsimp only;omega,by dsimp only;omega⟩,rfl,rfl⟩
theorem A52(F:List Ce)(c:Ce):(Fp F c).map Ce.key=if(F.any fun x=>decide (x.key=c.key))=true then F.map Ce.key else F.map Ce.key++[c.key]:=by
 unfold Fp;cases h:F.findIdx? (fun x=>decide (x.key=c.key))with
 |none=>
  rw[List.findIdx?_eq_none_iff]at h;have:(F.any fun x=>decide (x.key=c.key))=false:=by rw[List.any_eq_false];intro x hx;simpa using h x hx
  simp[this]
 |some i=>
  obtain⟨hi,h1,h2⟩:=List.findIdx?_eq_some_iff_getElem.1 h;have:(F.any fun x=>decide (x.key=c.key))=true:=by rw[List.any_eq_true];exact⟨F[i],List.getElem_mem hi,h1⟩
  simp only[this,if_true];rw[Gi];have:c.key=(F.map Ce.key)[i]'(by simpa using hi):=by simp only[List.getElem_map];exact(show F[i].key=c.key by simpa using h1).symm
  rw[this,List.set_getElem_self]
theorem Ab6{F:List Ce}{c:Ce}(h:(F.map Ce.key).Nodup):((Fp F c).map Ce.key).Nodup:=by
 rw[A52];split
 ·exact h
 ·rename_i hn;rw[Cb];refine⟨h,by simp,?_⟩
  intro a ha b hb e;simp only[Cx]at hb;subst hb;subst e;obtain⟨x,hx,hxe⟩:=Cs.1 ha;exact hn (by rw[List.any_eq_true];exact⟨x,hx,by simpa using hxe⟩)
theorem Ah5{F:List Ce}{c x:Ce}(h:x∈Fp F c):x∈F∨x=c:=by
 unfold Fp at h;split at h
 ·exact E0 h
 ·simpa using h
theorem Ah4(F:List Ce)(c:Ce):(Fp F c).length≤F.length+1:=by
 unfold Fp;split<;>simp
theorem Aq6{F:List Ce}{k:A1}(h:k∈F.map Ce.key):∃q,F.findIdx? (fun c=>decide (c.key=k))=some q∧F[q]?=some (H5 F k)∧(H5 F k).key=k:=by
 obtain⟨x,hx,hk⟩:=Cs.1 h;cases hq:F.findIdx? (fun c=>decide (c.key=k))with
 |none=>
  rw[List.findIdx?_eq_none_iff]at hq;have:=hq x hx;simp[hk]at this
 |some q=>
  obtain⟨hi,h1,h2⟩:=List.findIdx?_eq_some_iff_getElem.1 hq;have hf:F.find? (fun c=>decide (c.key=k))=some F[q]:=by
   rw[List.find?_eq_some_iff_getElem];exact⟨h1,q,hi,rfl,fun j hj=>by simpa using h2 j hj⟩
  refine⟨q,rfl,?_,?_⟩
  ·unfold H5;rw[hf];exact Ac hi
  ·unfold H5;rw[hf];simpa using h1

def Nh(rev:Int):List Bt→Nat
 |_::w::r=>if w.rev≤rev then Nh rev (w::r)+1 else 0
 |_=>0
def Mt(rev:Int)(vs:List Bt):Nat:=match vs[Nh rev vs]? with
 |some v=>if v.gone=true∧v.rev≤rev then Nh rev vs+1 else Nh rev vs
 |none=>Nh rev vs
theorem Aro(rev:Int):∀(vs:List Bt),vs≠[]→Nh rev vs<vs.length
 | [],h=>absurd rfl h
 | [v],_=>by simp[Nh]
 |v::w::r,_=>by
  unfold Nh;have:=Aro rev (w::r) (by simp)
  split<;>simp at* <;>omega
theorem Baq{rev:Int}{vs:List Bt}{k:Nat}(hk:k<vs.length):Nh rev (vs.drop k)=match vs[k+1]? with
 |some w=>if w.rev≤rev then Nh rev (vs.drop (k+1))+1 else 0
 |none=>0:=by
 rw[A7 hk];by_cases h:k+1<vs.length
 ·rw[A7 h,Ac h];rfl
 ·rw[Bo (by omega),D9 (by omega)]
  rfl
structure CSt where
 l:List C0
 c:Int
def Tn(n:A1)(rev:Int)(h:C0)(x:CSt):CSt:=
 if(Cz h.at_).1=n then(if h.vs.length≤Mt rev h.vs then x else⟨x.l++[⟨h.at_,h.vs.drop (Mt rev h.vs)⟩],x.c+(h.vs.length - Mt rev h.vs:Nat)⟩)else⟨x.l++[h],x.c⟩
def Ls(n:A1)(rev:Int):List C0→CSt→CSt
 | [],x=>x
 |h::r,x=>Ls n rev r (Tn n rev h x)

open Go.RowKit Go.Maps Go.Sort Go.Shelf Go.Proofs
section
variable{P:Program}{ρ κ:Ren}
theorem Aht.of(L:SlLaysZ.n7 P κ):Aht P (κ.f 7) (κ.f 10) (κ.t 23):=fun mb W=>callsIn_wide.1 (AnyZ.keys_in L Fence.wide 5 trivial rfl mb W)
abbrev Ajd:Value→Option (DataW Unit × List MemPlace):=fun _=>some (.nil,[])
theorem Bso{k:TypeId}(hk:P.underlying k=some .string){x:MapEntry}{s:List UInt8}(hx:x.key=Value.string ⟨⟨s⟩⟩)(hs:s.length≤maxLen):WideElems.rd P k Ajd x=some (.string s,.nil):=by
 unfold WideElems.rd;rw[hx];have:keyOf P k (Value.string ⟨⟨s⟩⟩)=some (.string s):=by
  have Cq:(⟨⟨s⟩⟩:ByteArray).size=s.length:=rfl;simp[keyOf,hk,mapKey,Cq,hs]
 rw[this];rfl
theorem A77{k:TypeId}(hk:P.underlying k=some .string):∀(l:List MapEntry) (ss:List (List UInt8)),l.map (·.key)=ss.map (fun s=>Value.string ⟨⟨s⟩⟩)→(∀s∈ss,s.length≤maxLen)→
 (l.map (WideElems.rg P k Ajd)).map (fun p=>strOf p.1)=ss∧∀x∈l,∃y,WideElems.rd P k Ajd x=some y
 | [],[],_,_=>⟨rfl,by simp⟩
 | [],_::_,h,_=>by cases h
 |_::_,[],h,_=>by cases h
 |x::l,s::ss,h,hs=>by
  simp only[A0,Em]at h;obtain⟨h1,h2⟩:=h;obtain⟨h3,h4⟩:=A77 hk l ss h2 fun y hy=>hs y (by simp[hy])
  have h5:=Bso hk h1 (hs s (by simp))
  refine⟨by simp only[A0,h3,WideElems.rg_of h5];rfl,fun y hy=>?_⟩
  rcases Ah.1 hy with rfl|hy
  ·exact⟨_,h5⟩
  ·exact h4 y hy
theorem Yg.of(L:SlLaysZ.n6 P ρ)(K:SlLaysZ.n7 P κ)(hs:∀m,AnyZ.SortsIn P ρ Fence.wide m)(e9:∀args w,(callFunc (ρ.f 9) args).run P w= .ok (.enter (ρ.f 9) args) w)
 (eg:∀args w,(callFunc (κ.f 10) args).run P w= .ok (.enter (κ.f 10) args) w):Yg P (ρ.f 6) (κ.f 10) (ρ.t 26):=by
 intro g b es clock ss W hc hb hk F5 Bs8 Bwn hlen Bah hg;obtain⟨h3,h4⟩:=A77 K.t26 es.toList ss hk Bah;have hl:es.size=ss.length:=by
  have:=congrArg List.length hk;simpa using this
 have Bin:(ss.map (fun s=>Value.string ⟨⟨s⟩⟩)).Nodup:=by
  refine List.pairwise_map.2 (F5.imp fun {a b} A2 e=>A2 ?_)
  simpa using e
 have Fm:W.ownsMap P (κ.t 26) Ajd b ss.length (.map ((es.toList.map (WideElems.rg P (κ.t 26) Ajd)).foldr DataW.insert [])):=
  ⟨es,clock,hb,⟨by rw[hl];simp only[maxLen];omega,⟨Bwn,Bs8.imp (fun h=>by omega),by rw[hk];exact Bin⟩,h4⟩,by omega,rfl⟩
 have Bm3:(strKeys (.map ((es.toList.map (WideElems.rg P (κ.t 26) Ajd)).foldr DataW.insert [])):List (List UInt8)).Perm ss:=by
  have:=(WideShapes.sorted_perm (es.toList.map (WideElems.rg P (κ.t 26) Ajd))).map (fun p=>strOf p.1)
  rw[h3]at this;exact this
 have Cq:Maps.size (.map ((es.toList.map (WideElems.rg P (κ.t 26) Ajd)).foldr DataW.insert []):DataW Unit)=ss.length:=by
  have h5:=Bm3.length_eq;simp only[strKeys,An]at h5;exact h5
 have Bri:SeqGives Fence.wide 2 P (κ.f 10) #[.pointer (some ⟨g,0,none⟩)] encStr (fun ss'=>ss'.Perm (strKeys (.map ((es.toList.map (WideElems.rg P (κ.t 26) Ajd)).foldr DataW.insert [])))) _ W:=
  AnyZ.keys_gives (ρ:=κ) {K with} Fence.wide _ trivial rfl (by omega) g b ss.length _ W hg hc Fm
 rw[Cq]at Bri;refine(callsIn_wide.1 (AnyZ.sorted_in L Fence.wide 5 trivial trivial trivial trivial rfl (by omega) (hs _) e9 (κ.f 10) #[.pointer (some ⟨g,0,none⟩)] trivial eg _ ss.length (by simp only[maxLen];omega) (by omega) W Bri)).mono ?_
 rintro e w' ⟨v,ss',rfl,hS,Kc,Ta,Bwg⟩;have hp:=hS.trans Bm3;refine⟨v,rfl,?_,Bwg⟩;have e1:ss'.mergeSort (fun x y=>decide (x≤y))=Fz ss:=mergeSort_of_perm hp
 rw[hp.length_eq]at Kc;rw[e1]at Kc;exact Kc
end
end Go.Ab
