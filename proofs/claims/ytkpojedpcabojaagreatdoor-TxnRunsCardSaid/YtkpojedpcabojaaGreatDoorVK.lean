/- Lemmas -/
import Derived.Shelf.SlGeneric
import Derived.Shelf.Spec.SlicesInsert
import Derived.Lib.AppendZerosOnto
import Derived.Test.YtkpojedpcabojaaGreatDoorW7
import Derived.Shelf.SlIter.Nil
import Derived.Shelf.SortM.Plain
import Derived.Shelf.SortM.SortNone
set_option linter.unusedVariables false
set_option linter.unusedSimpArgs false
namespace Go.Ab
open Go.Shelf Go.RowKit Go.Lib Go.Proofs
variable{P:Program}{ρ:Ren}
structure Bab(P:Program)(ρ:Ren)(i0:TypeInfo)(zv:Value):Prop where
 mixed:P.follows .mixedOrders=true
 f22:Bears P (ρ.f 22) (Body2.n22 ρ)
 f29:∀(a:Array Value) (w:World) (v:Value),(Extern.SlicesOverlaps.overlaps #[(ρ.t 24),(ρ.t 24)] #[(ρ.t 4)] a).run P w= .ok v w→(callFunc (ρ.f 29) a).run P w= .ok (.value v) w
 t0:P.underlying (ρ.t 0)=some (TypeDesc.tuple #[])
 a0:∀w,(isAgg (ρ.t 0)).run P w= .ok false w
 z0:∀w,(Go.sizeOf (ρ.t 0)).run P w= .ok 1 w
 v0:∀w,(zeroValue (ρ.t 0)).run P w= .ok (Value.tuple #[]) w
 t3:P.underlying (ρ.t 3)=some (TypeDesc.int IntKind.i64)
 a3:∀w,(isAgg (ρ.t 3)).run P w= .ok false w
 z3:∀w,(Go.sizeOf (ρ.t 3)).run P w= .ok 1 w
 v3:∀w,(zeroValue (ρ.t 3)).run P w= .ok (Value.int IntKind.i64 0) w
 t4:P.underlying (ρ.t 4)=some (TypeDesc.bool)
 a4:∀w,(isAgg (ρ.t 4)).run P w= .ok false w
 z4:∀w,(Go.sizeOf (ρ.t 4)).run P w= .ok 1 w
 v4:∀w,(zeroValue (ρ.t 4)).run P w= .ok (Value.bool false) w
 t24:P.underlying (ρ.t 24)=some (TypeDesc.slice (ρ.t 9))
 a24:∀w,(isAgg (ρ.t 24)).run P w= .ok false w
 z24:∀w,(Go.sizeOf (ρ.t 24)).run P w= .ok 1 w
 v24:∀w,(zeroValue (ρ.t 24)).run P w= .ok (Value.slice none 0 0) w
 z9:∀w,(Go.sizeOf (ρ.t 9)).run P w= .ok i0.size w
 i9:P.info? (ρ.t 9)=some i0
 iz:i0.zero=some zv
 izs:zv.cells.size=i0.size
 Bbx:0<i0.size
 ib:i0.bytes≤100000
theorem G8(w:World)(dT sT ty elem:TypeId)(b o Bhv Bsw:Nat)(a:Addr)(Bjd Buv:Nat)(cs:List Value)(i:TypeInfo)
 (hu:P.underlying dT=some (.slice elem)) (hs:P.info? elem=some i) (hn:cs.length=Nat.min Bjd Bhv*i.size)
 (Bir:∀j v,cs[j]?=some v→w.cell? (a.add j)=some v) (hc:∀j,j<cs.length→(w.cell? ⟨b,o+j,none⟩).isSome=true) (hf:∀j,j<cs.length→w.frozen? ⟨b,o+j,none⟩=false) (h1:∀v∈cs,v.oneCell'=true):
 (Builtin.copy_ #[dT,sT] ty #[.slice (some ⟨b,o,none⟩) Bhv Bsw,.slice (some a) Bjd Buv]).run P w= .ok (goInt (Nat.min Bjd Bhv)) (w.setCells b o cs):=by
 have hl:=run_loadCells_list (P:=P) w a cs Bir;have hst:=run_storeCells_cells (P:=P) b o cs 0 w (by simpa using hc) (by simpa using hf) h1
 simp[Builtin.copy_,run_underlying hu,Builtin.lenOf,Builtin.firstCells,sizeOf,typeInfo,hs, ←hn,hl,hst]
set_option maxHeartbeats 4000000 in
set_option maxRecDepth 100000 in
theorem Abq{i0:TypeInfo}{zv:Value}(L:Bab P ρ i0 zv)(b n c i vb vc:Nat)(cs vs:List Value)(w:World)(hi:i<n)(A7j:n+1≤c)(By6:c≤9223372036854775807)(hvb:vb≠b)
 (hcl:cs.length=n*i0.size) (hvl:vs.length=1*i0.size)
 (hcs:∀j v,cs[j]?=some v→w.cell? ⟨b,j,none⟩=some v) (hsp:∀j,j<(n+1)*i0.size→(w.cell? ⟨b,j,none⟩).isSome=true) (hfz:∀j,j<(n+1)*i0.size→w.frozen? ⟨b,j,none⟩=false)
 (hvs:∀j v,vs[j]?=some v→w.cell? ⟨vb,j,none⟩=some v) (h1c:∀v∈cs,v.oneCell'=true) (h1v:∀v∈vs,v.oneCell'=true)
 (tA tB:TypeId) (kA kB:Nat) (hsa:w.shape? vb=some (tA,kA)) (hsb:w.shape? b=some (tB,kB)) (hkB:kB≠0) (hfa:w.frozen? ⟨vb,0,none⟩=false) (hfe:w.frozen? ⟨vb,kA,none⟩=false):
 Calls P (ρ.f 22) #[.slice (some ⟨b,0,none⟩) n c,.int .i64 i,.slice (some ⟨vb,0,none⟩) 1 vc] w fun e w'=>
  e= .returned (.slice (some ⟨b,0,none⟩) (n+1) c)∧w'=(w.drew.setCells b (i*i0.size+i0.size) (cs.drop (i*i0.size))).setCells b (i*i0.size) vs:=by
 have t0:=L.t0;have a0:=L.a0;have z0:=L.z0;have v0:=L.v0;have t3:=L.t3;have a3:=L.a3;have z3:=L.z3;have v3:=L.v3;have t4:=L.t4;have a4:=L.a4;have z4:=L.z4;have v4:=L.v4;have z9:=L.z9;have t24:=L.t24;have a24:=L.a24;have z24:=L.z24;have v24:=L.v24;have u0:=run_underlying L.t0;have u3:=run_underlying L.t3;have u4:=run_underlying L.t4;have u24:=run_underlying L.t24;have hz2:¬((i:Int)=(n:Int)):=by omega
 have hov:∀o lb cb,(callFunc (ρ.f 29) #[.slice (some ⟨vb,0,none⟩) 1 vc,.slice (some ⟨b,o,none⟩) lb cb]).run P w= .ok (.value (.bool false)) w:=fun o lb cb=>by
  exact L.f29 _ w _ (Lib.run_overlaps_apart w (ρ.t 24) (ρ.t 4) (ρ.t 9) L.t24 i0.size L.z9 ⟨vb,0,none⟩ ⟨b,o,none⟩ 1 vc lb cb hvb tA tB kA kB hsa hsb hkB hfa hfe)
 have hnk:(n+1)*i0.size=n*i0.size+i0.size:=Nat.succ_mul ..;have hik:(i+1)*i0.size=i*i0.size+i0.size:=Nat.succ_mul ..;have Bia:i*i0.size+i0.size≤n*i0.size:=by rw[←hik];exact Nat.mul_le_mul_right _ hi
 have hdl:(cs.drop (i*i0.size)).length=(n - i)*i0.size:=by rw[List.length_drop,hcl,Nat.sub_mul]
 have hni:(n - i)*i0.size=n*i0.size - i*i0.size:=Nat.sub_mul ..;have mixed:=L.mixed;have hw1:IntKind.i64.wrap ((i:Int)+(1:Int))=(i:Int)+(1:Int):=by rw[IntKind.wrap_i64];omega
 have hb1:(0:Int)≤(i:Int)+(1:Int):=by omega
 have hin:i≤n:=by omega
 have htn:((i:Int)+(1:Int)).toNat=i+1:=by omega
 have hb2:¬(c=i+1):=by omega
 have hb3:(i:Int)≤(n:Int)+(1:Int):=by omega
 have hb4:¬(c=i):=by omega
 have Bnr:∀ty dc sc,(Builtin.copy_ #[(ρ.t 24),(ρ.t 24)] ty #[.slice (some ⟨b,i*i0.size+i0.size,none⟩) (n - i) dc,.slice (some ⟨b,i*i0.size,none⟩) (n+1 - i) sc]).run P w.drew= .ok (goInt (Nat.min (n+1 - i) (n - i))) (w.drew.setCells b (i*i0.size+i0.size) (cs.drop (i*i0.size))):=fun ty dc sc=>
  G8 w.drew _ _ ty (ρ.t 9) b (i*i0.size+i0.size) (n - i) dc ⟨b,i*i0.size,none⟩ (n+1 - i) sc (cs.drop (i*i0.size)) i0 L.t24 L.i9 (by rw[hdl];congr 1;simp only[Nat.min_def];split<;>omega)
   (fun j v hj=>by rw[Addr.add_lit];exact hcs _ v (by rwa [List.getElem?_drop]at hj))
   (fun j hj=>hsp _ (by omega)) (fun j hj=>hfz _ (by omega)) (fun v hv=>h1c v (List.mem_of_mem_drop hv))
 obtain⟨W1,hW1⟩:∃W1,W1=w.drew.setCells b (i*i0.size+i0.size) (cs.drop (i*i0.size)):=⟨_,rfl⟩;have Biq:∀k,k<(n+1)*i0.size→(W1.cell? ⟨b,k,none⟩).isSome=true:=fun k hk=>by
  rw[hW1];exact isSome_setCells b _ _ _ (fun j hj=>by rw[hdl]at hj;exact hsp _ (by omega)) _ (hsp k hk)
 have Btj:∀(W:World),(∀x,W.cell? x=W1.cell? x)→(∀x,W.frozen? x=W1.frozen? x)→∀ty dc,(Builtin.copy_ #[(ρ.t 24),(ρ.t 24)] ty #[.slice (some ⟨b,i*i0.size,none⟩) (n+1 - i) dc,.slice (some ⟨vb,0,none⟩) 1 vc]).run P W= .ok (goInt (Nat.min 1 (n+1 - i))) (W.setCells b (i*i0.size) vs):=fun W hWc hWf ty dc=>
  G8 W _ _ ty (ρ.t 9) b (i*i0.size) (n+1 - i) dc ⟨vb,0,none⟩ 1 vc vs i0 L.t24 L.i9 (by rw[hvl];congr 1;simp only[Nat.min_def];split<;>omega)
   (fun j v hj=>by
     rw[Addr.add_lit,hWc,hW1,World.cell?_setCells_out b _ _ _ _ (fun h _=>absurd h hvb),Nat.zero_add]
     exact hvs j v hj)
   (fun j hj=>by rw[hWc];exact Biq _ (by omega)) (fun j hj=>by rw[hWf,hW1,World.frozen?_setCells];exact hfz _ (by omega)) h1v
 rw[←hW1]at Bnr;obtain⟨_,_,FG⟩:=L.f22
 go_enter FG,Body2.n22_ntmps ρ
 go_wp2_with (simp only[hov])
 go_region_law_o (refine step_copy_runI rfl _ _ (ρ.t 24) (ρ.t 24) rfl _ _ (by simp[Act.eval,Act.put]) (by simp[Act.eval,Act.put]) (Bnr _ _ _) ?_)
 go_wp2_with (at_builtin;refine wpList_copy_runI _ rfl _ _ (ρ.t 24) (ρ.t 24) rfl _ _ rfl rfl (Btj _ (fun _=>rfl) (fun _=>rfl) _ _) ?_)
 go_ret
 first|exact⟨rfl,rfl⟩|exact⟨rfl,by rw[hW1]⟩
set_option maxHeartbeats 4000000 in
set_option maxRecDepth 100000 in
theorem Yc{i0:TypeInfo}{zv:Value}(L:Bab P ρ i0 zv)(base:Option Addr)(n c vb vc:Nat)(w:World)(Au3:base=none→n=0∧c=0)(hnc:n≤c){v':Value}{w':World}
 (Aih:∀ty,(Builtin.append_ #[(ρ.t 24),(ρ.t 24)] ty #[.slice base n c,.slice (some ⟨vb,0,none⟩) 1 vc]).run P w= .ok v' w'):
 Calls P (ρ.f 22) #[.slice base n c,.int .i64 n,.slice (some ⟨vb,0,none⟩) 1 vc] w fun e w1=>e= .returned v'∧w1=w':=by
 have t0:=L.t0;have a0:=L.a0;have z0:=L.z0;have v0:=L.v0;have t3:=L.t3;have a3:=L.a3;have z3:=L.z3;have v3:=L.v3;have t4:=L.t4;have a4:=L.a4;have z4:=L.z4;have v4:=L.v4;have z9:=L.z9;have t24:=L.t24;have a24:=L.a24;have z24:=L.z24;have v24:=L.v24;have u0:=run_underlying L.t0;have u3:=run_underlying L.t3;have u4:=run_underlying L.t4;have u24:=run_underlying L.t24;have mixed:=L.mixed;obtain⟨_,_,FG⟩:=L.f22
 go_enter FG,Body2.n22_ntmps ρ
 cases base with
 |none=>
  obtain⟨rfl,rfl⟩:=Au3 rfl
  go_wp2_with (at_builtin;refine Lib.wpList_append_run _ rfl _ _ _ _ rfl _ _ rfl rfl _ _ (Aih _) ?_)
  go_ret
  exact⟨rfl,rfl⟩
 |some a=>
  obtain⟨ab,ao,asp⟩:=a
  go_wp2_with (at_builtin;refine Lib.wpList_append_run _ rfl _ _ _ _ rfl _ _ rfl rfl _ _ (Aih _) ?_)
  all_goals(go_ret;exact⟨rfl,rfl⟩)
set_option maxHeartbeats 4000000 in
set_option maxRecDepth 100000 in
theorem Ad1{i0:TypeInfo}{zv:Value}(L:Bab P ρ i0 zv)(b n c i vb vc:Nat)(cs vs:List Value)(w:World)(hi:i<n)(hnc:n≤c)(A7j:c<n+1)(Avd:(n+1)*i0.bytes≤140737488355328)(hn:n≤1000000000)
 (hcl:cs.length=n*i0.size) (hvl:vs.length=1*i0.size)
 (hcs:∀j v,cs[j]?=some v→w.cell? ⟨b,j,none⟩=some v)
 (hvs:∀j v,vs[j]?=some v→w.cell? ⟨vb,j,none⟩=some v) (h1c:∀v∈cs,v.oneCell'=true) (h1v:∀v∈vs,v.oneCell'=true):
 Calls P (ρ.f 22) #[.slice (some ⟨b,0,none⟩) n c,.int .i64 i,.slice (some ⟨vb,0,none⟩) 1 vc] w fun e w'=>
  e= .returned (.slice (some ⟨w.heap.size,0,none⟩) (n+1) (grownCap w (n+1) c (ρ.t 9)))∧
  w'=(((w.alloc (.cells ((cs.take (i*i0.size)).toArray++Builtin.zeroCells zv.cells (n+1 - i)++Builtin.zeroCells zv.cells (grownCap w (n+1) c (ρ.t 9) - (n+1))) (ρ.t 9))).drew.setCells w.heap.size (i*i0.size) vs).drew).setCells w.heap.size (i*i0.size+i0.size) (cs.drop (i*i0.size)):=by
 have t0:=L.t0;have a0:=L.a0;have z0:=L.z0;have v0:=L.v0;have t3:=L.t3;have a3:=L.a3;have z3:=L.z3;have v3:=L.v3;have t4:=L.t4;have a4:=L.a4;have z4:=L.z4;have v4:=L.v4;have z9:=L.z9;have t24:=L.t24;have a24:=L.a24;have z24:=L.z24;have v24:=L.v24;have u0:=run_underlying L.t0;have u3:=run_underlying L.t3;have u4:=run_underlying L.t4;have u24:=run_underlying L.t24;have mixed:=L.mixed;have Bub:=L.Bbx;have hz2:¬((i:Int)=(n:Int)):=by omega
 have hz3:(c:Int)<(n:Int)+(1:Int):=by omega
 have hnk:(n+1)*i0.size=n*i0.size+i0.size:=Nat.succ_mul ..;have Btw:(i+1)*i0.size=i*i0.size+i0.size:=Nat.succ_mul ..;have Bia:i*i0.size+i0.size≤n*i0.size:=by rw[←Btw];exact Nat.mul_le_mul_right _ hi
 have hdl:(cs.drop (i*i0.size)).length=(n - i)*i0.size:=by rw[List.length_drop,hcl,Nat.sub_mul]
 have hni:(n - i)*i0.size=n*i0.size - i*i0.size:=Nat.sub_mul ..;have Bzd:(n+1 - i)*i0.size=n*i0.size+i0.size - i*i0.size:=by rw[Nat.sub_mul,hnk]
 have hbw:b<w.heap.size:=block_lt_of_cell (hcs 0 _ (List.getElem?_eq_getElem (by omega)))
 have hvw:vb<w.heap.size:=block_lt_of_cell (hvs 0 _ (List.getElem?_eq_getElem (by omega)))
 have hkk:(n:Int)+(1:Int) - (i:Int)=((n+1 - i:Nat):Int):=by omega
 have hik:i+(n+1 - i)=n+1:=by omega
 have hold:(Builtin.firstCells i0.size i (.slice (some ⟨b,0,none⟩) i c)).run P w.drew= .ok (cs.take (i*i0.size)).toArray w.drew:=
  run_firstCells_some w.drew i0.size i ⟨b,0,none⟩ i c (cs.take (i*i0.size)) (by rw[List.length_take];omega) (fun j v hj=>by
   rw[Addr.add_lit,Nat.zero_add];rw[List.getElem?_take]at hj;split at hj
   ·exact hcs j v hj
   ·cases hj)
 have hrz:∀ty,(Builtin.append_ #[(ρ.t 24),(ρ.t 3)] ty #[.slice (some ⟨b,0,none⟩) i c,.int .i64 ((n:Int)+(1:Int) - (i:Int))]).run P w=
  .ok (.slice (some ⟨w.heap.size,0,none⟩) (n+1) (grownCap w (n+1) c (ρ.t 9))) (w.drew.alloc (.cells ((cs.take (i*i0.size)).toArray++Builtin.zeroCells zv.cells (n+1 - i)++Builtin.zeroCells zv.cells (grownCap w (n+1) c (ρ.t 9) - (n+1))) (ρ.t 9))):=fun ty=>by
  have h:=Lib.run_append_grow_zeros w (ρ.t 24) (ρ.t 3) ty (ρ.t 9) i0 _ .i64 .i64 L.t24 L.t3 L.i9 L.iz (some ⟨b,0,none⟩) i c (cs.take (i*i0.size)) hold (n+1 - i) (by omega) (by omega) (by omega) (by omega) (by
   have:(n+1 - i)*i0.bytes≤(n+1)*i0.bytes:=Nat.mul_le_mul_right _ (by omega)
   omega) (by rw[hik];exact growslice_fits A7j Avd)
  rw[hik]at h;rw[hkk];exact h
 obtain⟨G,hG⟩:∃G,G=grownCap w (n+1) c (ρ.t 9):=⟨_,rfl⟩;obtain⟨ROW,Bh1⟩:∃ROW:Array Value,ROW=(cs.take (i*i0.size)).toArray++Builtin.zeroCells zv.cells (n+1 - i)++Builtin.zeroCells zv.cells (G - (n+1)):=⟨_,rfl⟩;rw[←hG]at hrz ⊢;rw[←Bh1]at hrz ⊢;have hRl:(n+1)*i0.size≤ROW.size:=by
  rw[Bh1];have e1:(Builtin.zeroCells zv.cells (n+1 - i)).size=(n+1 - i)*i0.size:=by rw[←L.izs];simp[Builtin.zeroCells]
  simp only[Array.size_append,e1,List.size_toArray,List.length_take];omega
 obtain⟨W1,hW1⟩:∃W1,W1=w.drew.alloc (.cells ROW (ρ.t 9)):=⟨_,rfl⟩;rw[←hW1]at hrz;have hN:∀j,j<(n+1)*i0.size→(W1.cell? ⟨w.heap.size,j,none⟩).isSome=true:=fun j hj=>by
  rw[hW1,World.cell?_alloc_at (w:=w.drew) ROW _ w.heap.size j rfl,Array.getElem?_eq_getElem (by omega)];rfl
 have hNf:∀j,W1.frozen? ⟨w.heap.size,j,none⟩=false:=fun j=>by rw[hW1];exact World.frozen?_alloc_at (w:=w.drew) ROW _ w.heap.size j rfl
 have hOb:∀j v,w.cell? ⟨b,j,none⟩=some v→W1.cell? ⟨b,j,none⟩=some v:=fun j v h=>by rw[hW1,World.cell?_alloc_past (w:=w.drew) _ b j hbw];exact h
 have hOv:∀j v,w.cell? ⟨vb,j,none⟩=some v→W1.cell? ⟨vb,j,none⟩=some v:=fun j v h=>by rw[hW1,World.cell?_alloc_past (w:=w.drew) _ vb j hvw];exact h
 have Btk:∀(W:World),(∀x,W.cell? x=W1.cell? x)→(∀x,W.frozen? x=W1.frozen? x)→∀ty dc,(Builtin.copy_ #[(ρ.t 24),(ρ.t 24)] ty #[.slice (some ⟨w.heap.size,i*i0.size,none⟩) (n+1 - i) dc,.slice (some ⟨vb,0,none⟩) 1 vc]).run P W= .ok (goInt (Nat.min 1 (n+1 - i))) (W.setCells w.heap.size (i*i0.size) vs):=fun W hWc hWf ty dc=>
  G8 W _ _ ty (ρ.t 9) w.heap.size (i*i0.size) (n+1 - i) dc ⟨vb,0,none⟩ 1 vc vs i0 L.t24 L.i9 (by rw[hvl];congr 1;simp only[Nat.min_def];split<;>omega)
   (fun j v hj=>by rw[Addr.add_lit,hWc,Nat.zero_add];exact hOv _ v (hvs j v hj))
   (fun j hj=>by rw[hWc];exact hN _ (by omega)) (fun j hj=>by rw[hWf];exact hNf _) h1v
 have hGn:n+1≤G:=by rw[hG];exact grownCap_ge w _ _ _
 have By2:G≤9223372036854775807:=by
  have:=grownCap_le_maxLen w (n+1) c (ρ.t 9) (by unfold maxLen;omega)
  rw[←hG]at this;unfold maxLen at this;omega
 have hGi:¬(G=i):=by omega
 have By3:¬(G=i+1):=by omega
 have hci:¬(c=i):=by omega
 have hbN:b≠w.heap.size:=by omega
 have Bns:∀(W:World),(∀x,W.cell? x=(W1.setCells w.heap.size (i*i0.size) vs).cell? x)→(∀x,W.frozen? x=(W1.setCells w.heap.size (i*i0.size) vs).frozen? x)→∀ty dc sc,(Builtin.copy_ #[(ρ.t 24),(ρ.t 24)] ty #[.slice (some ⟨w.heap.size,i*i0.size+i0.size,none⟩) (n - i) dc,.slice (some ⟨b,i*i0.size,none⟩) (n - i) sc]).run P W= .ok (goInt (Nat.min (n - i) (n - i))) (W.setCells w.heap.size (i*i0.size+i0.size) (cs.drop (i*i0.size))):=fun W hWc hWf ty dc sc=>
  G8 W _ _ ty (ρ.t 9) w.heap.size (i*i0.size+i0.size) (n - i) dc ⟨b,i*i0.size,none⟩ (n - i) sc (cs.drop (i*i0.size)) i0 L.t24 L.i9 (by rw[hdl];congr 1;simp only[Nat.min_def];split<;>omega)
   (fun j v hj=>by
     rw[Addr.add_lit,hWc,World.cell?_setCells_out _ _ _ _ _ (fun h _=>absurd h hbN)]
     exact hOb _ v (hcs _ v (by rwa [List.getElem?_drop]at hj)))
   (fun j hj=>by rw[hWc];rw[hdl]at hj;exact isSome_setCells _ _ _ _ (fun t ht=>hN _ (by omega)) _ (hN _ (by omega)))
   (fun j hj=>by rw[hWf,World.frozen?_setCells];exact hNf _) (fun v hv=>h1c v (List.mem_of_mem_drop hv))
 subst hW1;have hE1:∀x,((w.alloc (.cells ROW (ρ.t 9))).drew).cell? x=(w.drew.alloc (.cells ROW (ρ.t 9))).cell? x:=fun x=>rfl
 have hE2:∀x,((w.alloc (.cells ROW (ρ.t 9))).drew).frozen? x=(w.drew.alloc (.cells ROW (ρ.t 9))).frozen? x:=fun x=>rfl
 have hF1:∀x,(((w.alloc (.cells ROW (ρ.t 9))).drew.setCells w.heap.size (i*i0.size) vs).drew).cell? x=((w.drew.alloc (.cells ROW (ρ.t 9))).setCells w.heap.size (i*i0.size) vs).cell? x:=fun x=>rfl
 have hF2:∀x,(((w.alloc (.cells ROW (ρ.t 9))).drew.setCells w.heap.size (i*i0.size) vs).drew).frozen? x=((w.drew.alloc (.cells ROW (ρ.t 9))).setCells w.heap.size (i*i0.size) vs).frozen? x:=fun x=>rfl
 have hw1:IntKind.i64.wrap ((i:Int)+(1:Int))=(i:Int)+(1:Int):=by rw[IntKind.wrap_i64];omega
 have hb1:(0:Int)≤(i:Int)+(1:Int):=by omega
 have hin:i≤n:=by omega
 have htn:((i:Int)+(1:Int)).toNat=i+1:=by omega
 have hb3:(i:Int)≤(n:Int):=by omega
 clear hkk hik hold Bh1 hG hRl;obtain⟨_,_,FG⟩:=L.f22
 go_enter FG,Body2.n22_ntmps ρ
 go_wp2_with (first
  |(at_builtin;refine Lib.wpList_append_run _ rfl _ _ _ _ rfl _ _ rfl rfl _ _ (hrz _) ?_)
  |(at_builtin;refine wpList_copy_runI _ rfl _ _ (ρ.t 24) (ρ.t 24) rfl _ _ rfl rfl (Btk _ hE1 hE2 _ _) ?_)
  |(at_builtin;refine wpList_copy_runI _ rfl _ _ (ρ.t 24) (ρ.t 24) rfl _ _ rfl rfl (Bns _ (fun _=>rfl) (fun _=>rfl) _ _ _) ?_))
 go_region_law_o (refine step_copy_runI rfl _ _ (ρ.t 24) (ρ.t 24) rfl (.slice (some ⟨w.heap.size,i*i0.size+i0.size,none⟩) (n - i) (G - (i+1))) (.slice (some ⟨b,i*i0.size,none⟩) (n - i) (c - i)) (by simp[Act.eval,Act.put]) (by simp[Act.eval,Act.put]) (Bns _ hF1 hF2 (ρ.t 3) (G - (i+1)) (c - i)) ?_)
 go_wp2
 go_ret
 exact⟨rfl,rfl⟩

open Go.Shelf Go.RowKit Go.Lib Go.Proofs
theorem H8.split{G:Mem}{w:World}:∀{l m:List D} {cs:List Value} {bs:List Nat},H8 G w (l++m) cs bs→∃c c' b b',cs=c++c'∧bs=b++b'∧H8 G w l c b∧H8 G w m c' b'
 | [],m,cs,bs,h=>⟨[],cs,[],bs,rfl,rfl,by simp[H8],h⟩
 |d::l,m,cs,bs,h=>by
  simp only[H3,H8]at h;obtain⟨c,c',b,b',rfl,rfl,h1,h2⟩:=h;obtain⟨p,p',q,q',rfl,rfl,h3,h4⟩:=H8.split h2;refine⟨c++p,p',b++q,q',by simp,by simp,?_,h4⟩
  simp only[H8];exact⟨c,p,b,q,rfl,rfl,h1,h3⟩
theorem grownBy_refl(w:World)(r:Option Nat):w.grownBy w r:=⟨rfl,rfl,rfl,Bz _,fun _ _ _=>rfl⟩
theorem Dd{w w' w'':World}{r:Option Nat}(h:w.grownBy w' r)(h':w'.grownBy w'' r):w.grownBy w'' r:=
 ⟨h'.os.trans h.os,h'.tape.trans h.tape,h'.output.trans h.output,Kq h.size h'.size,fun k hk hr=>(h'.block k (Nat.lt_of_lt_of_le hk h.size) hr).trans (h.block k hk hr)⟩
theorem Eh(g:Nat)(t:TypeId)(fz:Nat × Nat):∀(vs A X B:List Value) (o:Nat) (cur:Array Value) (w:World),w.heap[g]?=some (.cells cur t fz)→cur.toList=A++X++B→A.length=o→X.length=vs.length→
 (w.setCells g o vs).heap[g]?=some (.cells (A++vs++B).toArray t fz)∧w.grownBy (w.setCells g o vs) (some g)
 | [],A,X,B,o,cur,w,hg,hc,_,hx=>by
   obtain rfl:X=[]:=by simpa using hx
   refine⟨?_,grownBy_refl w _⟩;rw[World.setCells,hg, ←hc]
 |v::r,A,X,B,o,cur,w,hg,hc,ho,hx=>by
  obtain⟨x,X',rfl⟩:∃x X',X=x::X':=by
   cases X with
   |nil=>simp at hx
   |cons x X'=>exact⟨x,X',rfl⟩
  have h1:(cur.setIfInBounds o v).toList=(A++[v])++X'++B:=by
   rw[Array.toList_setIfInBounds,hc, ←ho];simp
  have hs:=setCell_eq_setRow w g o cur t fz v hg;have ih:=Eh g t fz r (A++[v]) X' B (o+1) (cur.setIfInBounds o v) (w.setCell ⟨g,o,none⟩ v) (by rw[hs];exact setRow_heap w g cur _ t fz hg) h1 (by simp[ho]) (by simpa using hx)
  rw[World.setCells];refine⟨by simpa using ih.1,Dd ?_ ih.2⟩
  rw[hs];exact⟨rfl,rfl,rfl,by simp[World.setRow],fun k _ hk=>setRow_other w g k _ (fun e=>hk (by rw[e]))⟩
theorem R5(z:Array Value)(n:Nat):(Builtin.zeroCells z n).size=n*z.size:=by simp[Builtin.zeroCells]
section
variable{P:Program}
theorem Fw{G:Mem}{σ:Lab}{Fr:Mem}{w w':World}{Ahz:Array Value}{m:Nat}(H2:WOk G σ Fr ⟨w,0, #[]⟩ w){g cap:Nat}{e:TypeId}{row:Array Value}{k:Nat}{l:List D}{xs:List Value}{bs:List Nat}
 (hg:w'.heap[g]?=some (.cells row e (0,0))) (hrs:row.size=cap*k) (hlc:l.length≤cap) (hcm:cap≤maxLen) (hx:row.toList.take (l.length*k)=xs) (hd:H8 G w l xs bs) (hs:∀x∈l,x.size=k)
 (hn:bs.Nodup) (hgb:g ∉ bs) (hf:∀b∈bs,G b=none∧Fr b=none∧b<w.heap.size) (hgf:G g=none∧Fr g=none) {q:Nat} (hqf:G q=none∧Fr q=none) (hq:q ∉ bs) (hgr:w.grownBy w' (some q)) (hm:m=Ahz.size):
 ∃(r:SV) (outs:List SV) (c:Value) (G':Mem) (σ':Lab),Ending.returned (Value.slice (some ⟨g,0,none⟩) l.length cap)= .returned c∧Is (.own [] (.vec e k l)) (List.replicate m .no) r outs∧G.le G'∧WOk G' σ' Fr ⟨w,0, #[]⟩ w'∧
  r.root=none∧Ab1 G' σ' w' m r c∧outs.length=m∧∀i sv,outs[i]?=some sv→sv.root=none∧Ab1 G' σ' w' i sv (Ahz.getD i undef):=by
 have hgl:g<w'.heap.size:=(Ht.1 hg).1
 let σ':Lab:=fun b=>if b∈g::bs then some (m,(g::bs).idxOf b)else none
 have inv:∀{b Gf},σ' b=some Gf→b∈g::bs∧Gf=(m,(g::bs).idxOf b):=by
  intro b Gf h;simp only[σ']at h;split at h
  ·rename_i h1;cases h;exact⟨h1,rfl⟩
  ·cases h
 have Asq:∀(M:Mem),M q=none→(∀b o,M b=some o→w.heap[b]?=some o)→∀b o,M b=some o→w'.heap[b]?=some o:=by
  intro M hMg hM b o hb;have h1:=hM b o hb;rw[hgr.block b (Ht.1 h1).1 (fun e=>by cases e;rw[hMg]at hb;cases hb)]
  exact h1
 refine⟨_,_,_,G,σ',rfl,⟨rfl,rfl⟩,Mem.le.refl G,⟨Asq G hqf.1 H2.fixed,?_,?_,Asq Fr hqf.2 H2.frame,hgr.os,hgr.tape,hgr.output,hgr.size,H2.apart,H2.amb⟩,rfl,?_,by simp,?_⟩
 ·intro b Gf h;rcases Bg.1 (inv h).1 with rfl|hb
  ·exact⟨hgf.1,hgf.2,hgl⟩
  ·obtain⟨h1,h2,h3⟩:=hf b hb;exact⟨h1,h2,Nat.lt_of_lt_of_le h3 hgr.size⟩
 ·intro b b' Gf h h';obtain⟨h1,rfl⟩:=inv h;obtain⟨h2,h3⟩:=inv h';exact Wu h1 h2 (by simpa using h3)
 ·refine⟨g::bs,?_,rfl,Hw.2 ⟨hgb,hn⟩,fun b hb=>⟨(g::bs).idxOf b,by simp only[σ',hb,if_true]⟩⟩
  simp only[Fe,Value.cells];refine .inr ⟨g,0,cap,row,xs,bs,rfl,Row.of hg,fun _=>⟨rfl,hrs⟩,hlc,hcm,by rw[hrs,E3];exact Bz _,by simpa using hx,hd.tr (Mem.le.refl G) fun b hb=>?_,hs,rfl⟩
  exact hgr.block b (hf b hb).2.2 (fun e=>by cases e;exact hq hb)
 ·intro i sv hi;obtain rfl:sv= .no:=(List.mem_replicate.1 (Cb hi)).2;exact⟨rfl,trivial⟩
theorem Ac5.row{G:Mem}{σ:Lab}{w:World}{s:Nat}{e:TypeId}{k:Nat}{l:List D}{c:Value}(h:Ac5 G σ w s (.vec e k l) c)(he:e<1000000):(c= .slice none 0 0∧l=[])∨
 ∃g cap cur xs bs,c= .slice (some ⟨g,0,none⟩) l.length cap∧w.heap[g]?=some (.cells cur e (0,0))∧cur.size=cap*k∧l.length≤cap∧cap≤maxLen∧cur.toList.take (l.length*k)=xs∧H8 G w l xs bs∧(∀x∈l,x.size=k)∧
  bs.Nodup∧g ∉ bs∧∀b,b=g∨b∈bs→∃j,σ b=some (s,j):=by
 obtain⟨bs,h1,h2,h3,h4⟩:=h;rw[J9 h2]at h1;simp only[Fe]at h1;rcases h1 with⟨h1,rfl,_⟩|⟨g,off,cap,cur,xs,bs',h1,r1,r2,r3,r4,r5,r6,r7,r8,rfl⟩
 ·injection h1 with h1
  exact .inl ⟨h1,rfl⟩
 ·injection h1 with h1
  obtain⟨rfl,r2'⟩:=r2 he;have hn:=Hw.1 h3;exact .inr ⟨g,cap,cur,xs,bs',h1,r1.to he,r2',r3,r4,by simpa using r6,r7,r8,hn.2,hn.1,fun b hb=>h4 b (by simpa using hb)⟩
theorem Mx{w:World}{g:Nat}{cur:Array Value}{e:TypeId}(hg:w.heap[g]?=some (.cells cur e (0,0))){n:Nat}(j:Nat)(v:Value)(h:(cur.toList.take n)[j]?=some v):w.cell? ⟨g,j,none⟩=some v:=by
 rw[Am5]at h;split at h
 ·have:=cell_of_row w g j cur _ _ hg;rw[this];simpa using h
 ·cases h
theorem Afs{ρ:Ren}{i0:TypeInfo}{zv:Value}(L:Bab P ρ i0 zv)(he:ρ.t 9<1000000)(l:List D)(x:D)(i:Nat)(hi:i≤l.length)(hl:l.length≤100000):
 Fn P (ρ.f 22) [.own [] (.vec (ρ.t 9) i0.size l),.v (.int .i64 i),.own [] (.vec (ρ.t 9) i0.size [x])] (Is (.own [] (.vec (ρ.t 9) i0.size (l.take i++x::l.drop i))) [.no,.no,.no]):=by
 intro G σ Fr w Ahz H2 hlen Ar2;have hc0:=(Ar2 0 _ rfl).2;have hc1:C7 G (.int .i64 i) (Ahz.getD 1 undef):=(Ar2 1 _ rfl).2;have hc2:=(Ar2 2 _ rfl).2;rw[C7.int]at hc1;have hca:Ahz= #[Ahz.getD 0 undef,.int .i64 i,Ahz.getD 2 undef]:=by
  rw[←hc1];apply Array.ext
  ·simpa using hlen
  ·intro j h1 h2;have:j=0∨j=1∨j=2:=by simp at h2;omega
   rcases this with rfl|rfl|rfl<;>simp[Array.getD,h1]
 have Hr:Ahz.size=3:=hlen;generalize Ahz.getD 0 undef=c0 at hc0 hca;generalize Ahz.getD 2 undef=c2 at hc2 hca;have Bub:=L.Bbx;rcases Ac5.row hc2 he with⟨_,h⟩|⟨vb,vc,Buz,vs,vbs,rfl,v1,v2,v3,v4,v5,v6,v7,v8,v9,v10⟩
 ·cases h
 have hk:x.size=i0.size:=v7 x (by simp)
 have hvl:vs.length=1*i0.size:=by rw[H8.length v6];simp[Ae5,hk]
 have hvs:∀j v,vs[j]?=some v→w.cell? ⟨vb,j,none⟩=some v:=fun j v h=>Mx v1 j v (by rw[←v5]at h;exact h)
 have hv1:=H8.one v6;have A97:∀b,b=vb∨b∈vbs→G b=none∧Fr b=none∧b<w.heap.size:=fun b hb=>by
  obtain⟨j,hj⟩:=v10 b hb;exact H2.own b _ hj
 have Bh4:∀n,n≤100001→n*i0.bytes≤140737488355328:=fun n hn=>by
  have:n*i0.bytes≤100001*100000:=Nat.mul_le_mul hn L.ib;omega
 rcases Ac5.row hc0 he with⟨rfl,rfl⟩|⟨g,cap,cur,xs,bs,rfl,r1,r2,r3,r4,r5,r6,r7,r8,r9,r10⟩
 · 
  obtain rfl:i=0:=by simpa using hi
  obtain⟨v',w',Aih,q1,q2,_,q3⟩:=run_append_own_at (P:=P) w 0 (ρ.t 24) (ρ.t 3) (ρ.t 9) i0 zv i0.size i0.bytes L.t24 L.i9 L.iz rfl rfl L.izs L.Bbx (.slice none 0 0) 0 [] (Arr.to (Arr.nil w _ _) he) ⟨vb,0,none⟩ 1 vc vs hvl
   (fun j u hj=>by rw[Addr.add_lit,E3];exact hvs j u hj) hv1 (by simp[maxLen]) (Bh4 _ (by omega)) (Cr _)
  have A90:∀ty,(Builtin.append_ #[ρ.t 24,ρ.t 24] ty #[.slice none 0 0,.slice (some ⟨vb,0,none⟩) 1 vc]).run P w= .ok v' w':=fun ty=>Aih
  rw[hca];refine(Yc L none 0 0 vb vc w (fun _=>⟨rfl,rfl⟩) (Bz _) A90).mono ?_
  rintro e w1 ⟨rfl,rfl⟩;rcases q1.2 with⟨_,h⟩|⟨g',Azd,Amr,rfl,_,k1,k2,k3,k4,k5⟩
  ·cases h
  rcases q3 with h|h
  ·simp[Value.ownBlock]at h
  simp only[Value.ownBlock,A0]at h;subst h;obtain⟨f1,f2,f3⟩:=H2.fresh (Bz _);rw[←hca];refine Fw (l:=[x]) (bs:=vbs) H2 k1 k4 k2 k3 (by simpa using k5) (by simpa using v6) v7 v8 (fun hb=>?_) (fun b hb=>A97 b (.inr hb)) ⟨f1,f2⟩ (q:=w.heap.size) ⟨f1,f2⟩ (fun hb=>?_) ?_ Hr.symm
  ·have:=(A97 _ (.inr hb)).2.2;omega
  ·have:=(A97 _ (.inr hb)).2.2;omega
  ·exact⟨q2.os,q2.tape,q2.output,q2.size,fun k hk _=>q2.block k hk (by simp[Value.ownBlock])⟩
 have Atb:∀b,b=g∨b∈bs→G b=none∧Fr b=none∧b<w.heap.size:=fun b hb=>by
  obtain⟨j,hj⟩:=r10 b hb;exact H2.own b _ hj
 have Axq:∀b,b=g∨b∈bs→¬(b=vb∨b∈vbs):=fun b hb Sy=>by
  obtain⟨j,hj⟩:=r10 b hb;obtain⟨j',hj'⟩:=v10 b Sy;rw[hj]at hj';cases hj'
 have hcl:xs.length=l.length*i0.size:=by rw[H8.length r6,Lr r7]
 have hx1:=H8.one r6;have hcs:∀j v,xs[j]?=some v→w.cell? ⟨g,j,none⟩=some v:=fun j v h=>Mx r1 j v (by rw[←r5]at h;exact h)
 have hgv:vb≠g:=fun e=>Axq g (.inl rfl) (.inl e.symm)
 obtain⟨cA,cB,bA,bB,Bo5,Bea,dA,dB⟩:=H8.split (l:=l.take i) (m:=l.drop i) (by rw[Fj];exact r6)
 have hA:cA.length=i*i0.size:=by rw[H8.length dA,Lr fun y hy=>r7 y (P2 hy),Hg,U6 hi]
 have hB:cB=xs.drop (i*i0.size):=by rw[Bo5, ←hA];simp
 have hAt:cA=xs.take (i*i0.size):=by rw[Bo5, ←hA];simp
 have Bd3:H8 G w (l.take i++x::l.drop i) (cA++vs++cB) (bA++vbs++bB):=by
  have:=(dA.append v6).append dB;simpa using this
 have A8f:∀y∈l.take i++x::l.drop i,y.size=i0.size:=by
  intro y hy;rcases Bv.1 hy with hy|hy
  ·exact r7 y (P2 hy)
  ·rcases Bg.1 hy with rfl|hy
   ·exact hk
   ·exact r7 y (Agw hy)
 have Aw4:∀b,b∈bA++vbs++bB→b∈bs∨b∈vbs:=by
  intro b hb;simp only[Bv]at hb;rw[Bea];simp only[Bv];rcases hb with(hb|hb)|hb
  ·exact .inl (.inl hb)
  ·exact .inr hb
  ·exact .inl (.inr hb)
 have hnd:(bA++vbs++bB).Nodup:=by
  rw[Bea,Hb]at r8;obtain⟨n1,n2,n3⟩:=r8;have c1:∀b∈bA,b ∉ vbs:=fun b hb Sy=>Axq b (.inr (by rw[Bea];simp[hb])) (.inr Sy)
  have c2:∀b∈bB,b ∉ vbs:=fun b hb Sy=>Axq b (.inr (by rw[Bea];simp[hb])) (.inr Sy)
  rw[Hb,Hb];refine⟨⟨n1,v8,fun a ha b hb e=>c1 a ha (e ▸ hb)⟩,n2,fun a ha b hb e=>?_⟩
  rcases Bv.1 ha with ha|ha
  ·exact n3 a ha b hb e
  ·exact c2 b hb (e ▸ ha)
 have hff:∀b∈bA++vbs++bB,G b=none∧Fr b=none∧b<w.heap.size:=fun b hb=>by
  rcases Aw4 b hb with h|h
  ·exact Atb b (.inr h)
  ·exact A97 b (.inr h)
 have hgn:g ∉ bA++vbs++bB:=fun hb=>by
  rcases Aw4 g hb with h|h
  ·exact r9 h
  ·exact Axq g (.inl rfl) (.inr h)
 have hgG:G g=none∧Fr g=none:=⟨(Atb _ (.inl rfl)).1,(Atb _ (.inl rfl)).2.1⟩;have hfn:w.heap.size ∉ bA++vbs++bB:=fun hb=>Nat.lt_irrefl _ (hff _ hb).2.2
 have A7c:(l.take i++x::l.drop i).length=l.length+1:=by simp;omega
 have h63:maxLen=9223372036854775807:=rfl;have hnk:(l.length+1)*i0.size=l.length*i0.size+i0.size:=Nat.succ_mul ..;have Bia:i*i0.size≤l.length*i0.size:=Jh _ hi;by_cases hin:i=l.length
 · 
  obtain⟨v',w',Aih,q1,q2,_,q3⟩:=run_append_own_at (P:=P) w 0 (ρ.t 24) (ρ.t 3) (ρ.t 9) i0 zv i0.size i0.bytes L.t24 L.i9 L.iz rfl rfl L.izs L.Bbx (.slice (some ⟨g,0,none⟩) l.length cap) l.length xs
   ⟨hcl,.inr ⟨g,cap,cur,rfl,Cr _,r1,r3,r4,r2,r5⟩⟩ ⟨vb,0,none⟩ 1 vc vs hvl
   (fun j u hj=>by rw[Addr.add_lit,E3];exact hvs j u hj) hv1 (by simp[maxLen];omega) (Bh4 _ (by omega)) (Cr _)
  subst hin;rw[hca];refine(Yc L (some ⟨g,0,none⟩) l.length cap vb vc w (fun h=>by cases h) r3 (fun ty=>Aih)).mono ?_
  rintro e w1 ⟨rfl,rfl⟩;rw[←hca];rcases q1.2 with⟨_,h⟩|⟨g',Azd,Amr,rfl,_,k1,k2,k3,k4,k5⟩
  ·omega
  have hB0:cB=[]:=by rw[hB, ←hcl];simp
  have hAx:cA=xs:=by rw[hAt, ←hcl];simp
  rw[←A7c]at k2 k5 ⊢;rcases q3 with h|h
  ·simp only[Value.ownBlock,A0]at h;subst h;refine Fw H2 k1 k4 k2 k3 (by rw[k5,hB0,hAx,R2]) Bd3 A8f hnd hgn hff hgG hgG hgn ?_ Hr.symm
   simpa[Value.ownBlock]using q2
  ·simp only[Value.ownBlock,A0]at h;subst h;obtain⟨f1,f2,f3⟩:=H2.fresh (Bz _);refine Fw H2 k1 k4 k2 k3 (by rw[k5,hB0,hAx,R2]) Bd3 A8f hnd hfn hff ⟨f1,f2⟩ hgG hgn ?_ Hr.symm
   simpa[Value.ownBlock]using q2
 have Ze:i<l.length:=by omega
 have By9:i*i0.size+i0.size≤l.length*i0.size:=by rw[←Nat.succ_mul];exact Jh _ Ze
 have hBl:cB.length=l.length*i0.size - i*i0.size:=by rw[hB,Ei,hcl]
 have A4s:∀T:List Value,((cA++vs++cB)++T).take ((l.length+1)*i0.size)=cA++vs++cB:=fun T=>by
  rw[List.take_append_of_le_length (by simp;omega),Am2 (by simp;omega)]
 by_cases A7j:l.length+1≤cap
 · 
  have Au0:cur.toList.length=cap*i0.size:=by simpa using r2
  have Byu:(l.length+1)*i0.size≤cap*i0.size:=Jh _ A7j;have Auv:∀j,j<(l.length+1)*i0.size→(w.cell? ⟨g,j,none⟩).isSome=true:=fun j hj=>by
   rw[cell_of_row w g j cur _ _ r1,E6 (by omega)];rfl
  have hfz:∀(b j:Nat) (row:Array Value) (t:TypeId),w.heap[b]?=some (.cells row t (0,0))→w.frozen? ⟨b,j,none⟩=false:=fun b j row t h=>by simp[World.frozen?,h]
  have hsh:∀(b:Nat) (row:Array Value) (t:TypeId),w.heap[b]?=some (.cells row t (0,0))→w.shape? b=some (t,row.size):=fun b row t h=>by simp[World.shape?,h]
  rw[hca];refine(Abq L g l.length cap i vb vc xs vs w Ze A7j (by omega) hgv hcl hvl hcs Auv (fun j _=>hfz g j cur _ r1) hvs hx1 hv1 _ _ Buz.size cur.size (hsh _ _ _ v1) (hsh _ _ _ r1) (by omega) (hfz _ _ _ _ v1) (hfz _ _ _ _ v1)).mono ?_
  rintro e w1 ⟨rfl,rfl⟩;rw[←hca];have s1:=Eh g (ρ.t 9) (0,0) (xs.drop (i*i0.size)) (cur.toList.take (i*i0.size+i0.size)) ((cur.toList.drop (i*i0.size+i0.size)).take (xs.drop (i*i0.size)).length) ((cur.toList.drop (i*i0.size+i0.size)).drop (xs.drop (i*i0.size)).length)
   (i*i0.size+i0.size) cur w.drew r1 (by rw[Df,Fj,Fj]) (by rw[Hg];omega) (by rw[Hg,Ei,Ei];omega)
  have hT:=s1.1;rw[show cur.toList.take (i*i0.size+i0.size)=cA++(cur.toList.drop (i*i0.size)).take i0.size from by
   rw[List.take_add,hAt, ←r5,List.take_take,U6 Bia]]at hT
  have s2:=Eh g (ρ.t 9) (0,0) vs cA ((cur.toList.drop (i*i0.size)).take i0.size) (xs.drop (i*i0.size)++(cur.toList.drop (i*i0.size+i0.size)).drop (xs.drop (i*i0.size)).length) (i*i0.size) _ _ hT
   (by simp) hA (by rw[Hg,Ei];omega)
  rw[←A7c];have hgr:w.grownBy ((w.drew.setCells g (i*i0.size+i0.size) (xs.drop (i*i0.size))).setCells g (i*i0.size) vs) (some g):=
   Dd (w':=w.drew) ⟨rfl,rfl,rfl,Bz _,fun _ _ _=>rfl⟩ (Dd s1.2 s2.2)
  refine Fw H2 s2.1 ?_ (by omega) r4 ?_ Bd3 A8f hnd hgn hff hgG hgG hgn hgr Hr.symm
  ·have:(cur.toList.drop (i*i0.size+i0.size)).length=cap*i0.size - (i*i0.size+i0.size):=by rw[Ei,Au0]
   simp only[Auz,Hq,hA,hvl,Ei,hcl,Au0];omega
  ·rw[A7c, ←hB, ←Df];exact A4s _
 · 
  rw[hca];refine(Ad1 L g l.length cap i vb vc xs vs w Ze r3 (by omega) (Bh4 _ (by omega)) (by omega) hcl hvl hcs hvs hx1 hv1).mono ?_
  rintro e w1 ⟨rfl,rfl⟩;rw[←hca];obtain⟨gc,hgc⟩:∃gc,gc=grownCap w (l.length+1) cap (ρ.t 9):=⟨_,rfl⟩;have hge:l.length+1≤gc:=by rw[hgc];exact grownCap_ge w _ _ _
  have hle:gc≤maxLen:=by rw[hgc];exact grownCap_le_maxLen w _ _ _ (by rw[h63];omega)
  rw[←hgc];obtain⟨f1,f2,f3⟩:=H2.fresh (Bz _);obtain⟨Z,hZ⟩:∃Z,Z=(Builtin.zeroCells zv.cells (l.length+1 - i)++Builtin.zeroCells zv.cells (gc - (l.length+1))).toList:=⟨_,rfl⟩;have By8:(l.length+1)*i0.size≤gc*i0.size:=Jh _ hge;have hZl:Z.length=gc*i0.size - i*i0.size:=by
   rw[hZ];simp only[Array.toList_append,Hq,Array.length_toList,R5,L.izs,Nat.sub_mul];omega
  have Ars:((xs.take (i*i0.size)).toArray++Builtin.zeroCells zv.cells (l.length+1 - i)++Builtin.zeroCells zv.cells (gc - (l.length+1))).toList=cA++Z:=by
   rw[hZ,hAt];simp
  obtain⟨row,hrw⟩:∃row,row=(xs.take (i*i0.size)).toArray++Builtin.zeroCells zv.cells (l.length+1 - i)++Builtin.zeroCells zv.cells (gc - (l.length+1)):=⟨_,rfl⟩;rw[←hrw]at Ars ⊢;have h0:(w.alloc (.cells row (ρ.t 9))).drew.heap[w.heap.size]?=some (.cells row (ρ.t 9) (0,0)):=by
   show(w.heap.push _)[w.heap.size]?=_;rw[Am3,if_pos rfl]
  have Btt:w.grownBy (w.alloc (.cells row (ρ.t 9))).drew (some w.heap.size):=by
   refine⟨rfl,rfl,rfl,by show _≤(w.heap.push _).size;simp,fun k hk _=>?_⟩
   show(w.heap.push _)[k]?=_;rw[Am3,if_neg (by omega)]
  have s1:=Eh w.heap.size (ρ.t 9) (0,0) vs cA (Z.take i0.size) (Z.drop i0.size) (i*i0.size) row _ h0 (by rw[Ars,Df,Fj]) hA (by rw[Hg];omega)
  have s2:=Eh w.heap.size (ρ.t 9) (0,0) (xs.drop (i*i0.size)) (cA++vs) ((Z.drop i0.size).take (xs.drop (i*i0.size)).length) ((Z.drop i0.size).drop (xs.drop (i*i0.size)).length) (i*i0.size+i0.size) _ _ (show(World.drew _).heap[w.heap.size]?=_ from s1.1)
   (by show cA++vs++Z.drop i0.size=_;rw[Df (cA++vs),Fj]) (by simp[hA,hvl]) (by rw[Hg,Ei,Ei];omega)
  rw[←A7c];refine Fw H2 s2.1 ?_ (by omega) hle ?_ Bd3 A8f hnd hfn hff ⟨f1,f2⟩ ⟨f1,f2⟩ hfn (Dd Btt (Dd s1.2 (Dd (w':=World.drew _) ⟨rfl,rfl,rfl,Bz _,fun _ _ _=>rfl⟩ s2.2))) Hr.symm
  ·simp only[Auz,Hq,hA,hvl,Ei,hcl,hZl];omega
  ·rw[A7c, ←hB];exact A4s _
end
set_option maxRecDepth 100000

open Go.Proofs Go.Shelf
def Kf:Ren:=⟨fun n=>if n=22 then 94 else if n=29 then 117 else if n=30 then 118 else n,fun n=>if n=9 then 116 else if n=24 then 107 else n,fun n=>n⟩
theorem Afa:Bab Tryz.prog Kf Tryz.t116 (Tryz.t116.zero.getD undef) where
 mixed:=by kernel_rfl
 f22:=⟨Tryz.f94.name,by kernel_rfl,by kernel_rfl⟩
 f29:=fun a w v h=>by
  rw[run_callFunc_extern (P:=Tryz.prog) (f:=Kf.f 29) (fn:=Tryz.f117) (e:=Extern.SlicesOverlaps.overlaps #[Kf.t 24,Kf.t 24] #[Kf.t 4]) (by kernel_rfl) (by kernel_rfl) (by kernel_rfl) (by kernel_rfl) (by kernel_rfl) a w,h]
  rfl
 t0:=by kernel_rfl
 a0:=fun _=>by kernel_rfl
 z0:=fun _=>by kernel_rfl
 v0:=fun _=>by kernel_rfl
 t3:=by kernel_rfl
 a3:=fun _=>by kernel_rfl
 z3:=fun _=>by kernel_rfl
 v3:=fun _=>by kernel_rfl
 t4:=by kernel_rfl
 a4:=fun _=>by kernel_rfl
 z4:=fun _=>by kernel_rfl
 v4:=fun _=>by kernel_rfl
 t24:=by kernel_rfl
 a24:=fun _=>by kernel_rfl
 z24:=fun _=>by kernel_rfl
 v24:=fun _=>by kernel_rfl
 z9:=fun _=>by kernel_rfl
 i9:=by kernel_rfl
 iz:=by kernel_rfl
 izs:=by kernel_rfl
 Bbx:=by decide
 ib:=by decide
theorem X7(l:List D)(x:D)(i:Nat)(hi:i≤l.length)(hl:l.length≤100000):Fn Tryz.prog D2 [.own [] (.vec Dr 2 l),.v (.int .i64 i),.own [] (.vec Dr 2 [x])] (Is (.own [] (.vec Dr 2 (l.take i++x::l.drop i))) [.no,.no,.no]):=
 Afs Afa (by decide) l x i hi hl
set_option maxHeartbeats 40000000

open Go.Proofs
def Cn.pi(s:Cn)(a:Az):Nat:=Km (Kh a) s.l
def Cn.pf(s:Cn)(a:Az):Bool:=bsF (Kh a) (eqH a) s.l
def Akw:Fk:=⟨0,0,[],true⟩
def Cn.A29(s:Cn)(a:Az):Fk:=match s.l[s.pi a]? with
 |some h=>if s.pf a=true then h.vs.getLast?.getD Akw else Akw
 |none=>Akw
def A1y(l:List Zk)(i:Nat)(f:Bool)(a:Az)(v:Fk):List Zk:=
 if f=true then l.modify i fun h=>{h with vs:=h.vs++[v]} else l.take i++⟨a,[v]⟩::l.drop i
theorem Adg:Fn Tryz.prog W8 [] (Is (sP ⟨[],[]⟩) []):=by
 refine T8 ?_ (by simp)
 repeat'((conv=>whnf);((with_reducible refine Ac ?_ ?_);focus (and_intros<;>kernel_rfl)))
 all_goals(try(conv=>whnf))
 (apply Dj<;>kernel_rfl)
theorem Cn.Bi1{s:Cn}{a:Az}(hv:∀h∈s.l,h.vs≠[]∧h.vs.length≤100000)(hf:s.pf a=true):∃e v,s.l[s.pi a]?=some e∧e.vs[e.vs.length - 1]?=some v∧s.A29 a=v∧0<e.vs.length∧e.vs.length≤100000:=by
 obtain⟨e,h1,h2⟩:=Afp hf;obtain⟨h3,h4⟩:=hv e (Cb h1);have h5:0<e.vs.length:=List.length_pos_iff.2 h3;refine⟨e,e.vs[e.vs.length - 1],h1,Ae _,?_,h5,h4⟩;unfold Cn.A29;unfold Cn.pi;rw[h1];simp only[hf,if_true];rw[List.getLast?_eq_getElem?,Ae (by omega)]
 rfl
theorem Cn.A3a{s:Cn}{a:Az}(hf:s.pf a=false):s.A29 a=Akw:=by
 unfold Cn.A29;split
 ·simp[hf]
 ·rfl
theorem Afr{α:Type}{L:List α}{p:Nat}(h:p≤L.length)(x:α):(L.take p++x::L.drop p)[p]?=some x:=by
 rw[G4 (by rw[Hg];omega),Hg,U6 h,Nat.sub_self]
 rfl
theorem Afb{α:Type}{L:List α}{p:Nat}(h:p≤L.length)(x y:α):(L.take p++x::L.drop p).set p y=L.take p++y::L.drop p:=by
 rw[List.set_append_right _ _ (by rw[Hg];omega),Hg,U6 h,Nat.sub_self]
 rfl
abbrev stD(KS:List I)(VS L:List D):D:=.st [.map KS VS,.vec Dr 2 L]

def Ef.ok(c:Ef):Prop:=(1≤c.key.length∧c.key.length≤64)∧(c.gone=true∨c.val.length≤256)
instance(c:Ef):Decidable c.ok:=by unfold Ef.ok;infer_instance
def Bm(F:List Ef)(c:Ef):List Ef:=match F.findIdx? (fun x=>decide (x.key=c.key))with
 |some i=>F.set i c
 |none=>F++[c]
def K6:List Ef→List Ef→Option (List Ef)
 | [],F=>some F
 |c::r,F=>if c.ok then K6 r (Bm F c)else none
def Anv(F:List Ef)(k:Az):Ef:=(F.find? fun c=>decide (c.key=k)).getD ⟨[],[],true⟩
def Q1(l:List Zk)(a:Az):Fk:=(Cn.mk [] l).A29 a
def Ath(l:List Zk)(a:Az)(v:Fk):List Zk:=A1y l (Km (Kh a) l) (bsF (Kh a) (eqH a) l) a v
structure WSt where
 t:Tal
 l:List Zk
 w:Bool
def Dw(n k:Az)(c:Ef)(x:WSt):WSt:=
 let was:=Q1 x.l (B7 n k)
 if c.gone=true∧was.gone=true then x else
 if c.gone=true then⟨{x.t with bytes:=x.t.bytes - (k.length+was.val.length),keys:=x.t.keys - 1,Aq7:=x.t.Aq7+1},Ath x.l (B7 n k) ⟨x.t.rev+1,0,[],true⟩,true⟩
 else if was.gone=true then⟨{x.t with bytes:=x.t.bytes+(k.length+c.val.length),keys:=x.t.keys+1,Aq7:=x.t.Aq7+1},Ath x.l (B7 n k) ⟨x.t.rev+1,x.t.rev+1,c.val,false⟩,true⟩
 else⟨{x.t with bytes:=x.t.bytes+(c.val.length - was.val.length),Aq7:=x.t.Aq7+1},Ath x.l (B7 n k) ⟨x.t.rev+1,was.made,c.val,false⟩,true⟩
def Ge(n:Az)(F:List Ef):List Az→WSt→WSt
 | [],x=>x
 |k::r,x=>Ge n F r (Dw n k (Anv F k) x)
def WSt.fin(x:WSt):Tal:=if x.w=true then {x.t with rev:=x.t.rev+1} else x.t
structure LBd(m:Nat)(l:List Zk):Prop where
 len:l.length≤m
 held:∀h∈l,h.at_.length≤1000000∧h.vs≠[]∧h.vs.length≤m∧∀v∈h.vs,v.val.length≤1000
theorem LBd.mono{m m':Nat}{l:List Zk}(h:LBd m l)(hm:m≤m'):LBd m' l:=
 ⟨Kq h.len hm,fun x hx=>by obtain⟨a,b,c,d⟩:=h.held x hx;exact⟨a,b,Kq c hm,d⟩⟩
theorem LBd.put{m:Nat}{l:List Zk}{a:Az}{v:Fk}(h:LBd m l)(ha:a.length≤1000000)(hv:v.val.length≤1000):LBd (m+1) (Ath l a v):=by
 unfold Ath A1y;split
 ·refine⟨by rw[List.length_modify];have:=h.len;omega,fun x hx=>?_⟩
  obtain⟨i,hi,rfl⟩:=Akp.1 hx;rw[List.length_modify]at hi;rw[List.getElem_modify];obtain⟨h1,h2,h3,h4⟩:=h.held l[i] (List.getElem_mem hi);split
  ·refine⟨h1,by simp,by simp;omega,fun u hu=>?_⟩
   rcases Bv.1 hu with hu|hu
   ·exact h4 u hu
   ·simp only[Jd]at hu;subst hu;exact hv
  ·exact⟨h1,h2,by omega,h4⟩
 ·refine⟨by have:=h.len;have:=Hp (Kh a) l;simp;omega,fun x hx=>?_⟩
  rcases Bv.1 hx with hx|hx
  ·obtain⟨h1,h2,h3,h4⟩:=h.held x (P2 hx);exact⟨h1,h2,by omega,h4⟩
  ·rcases Bg.1 hx with rfl|hx
   ·exact⟨ha,by simp,by simp,by simpa using hv⟩
   ·obtain⟨h1,h2,h3,h4⟩:=h.held x (Agw hx);exact⟨h1,h2,by omega,h4⟩
theorem Abt{m:Nat}{l:List Zk}(h:LBd m l)(a:Az):(Q1 l a).val.length≤1000:=by
 unfold Q1 Cn.A29;split
 ·rename_i x hx;split
  ·cases hl:x.vs.getLast? with
   |none=>simp[Akw]
   |some v=>exact(h.held x (Cb hx)).2.2.2 v (List.mem_of_getLast? hl)
  ·simp[Akw]
 ·simp[Akw]
theorem Aa5(n k:Az):(B7 n k).length=n.length+k.length+1:=by simp[B7]
structure TBd(m:Nat)(t:Tal):Prop where
 keys: -(1000000000000+m:Int)≤t.keys∧t.keys≤1000000000000+m
 bytes: -(1000000000000000+10000*m:Int)≤t.bytes∧t.bytes≤1000000000000000+10000*m
 Aq7: -(1000000000000+m:Int)≤t.Aq7∧t.Aq7≤1000000000000+m
theorem TBd.mono{m m':Nat}{t:Tal}(h:TBd m t)(hm:m≤m'):TBd m' t:=by
 obtain⟨h1,h2,h3⟩:=h;exact⟨by omega,by omega,by omega⟩
theorem W4{m m':Nat}{n k:Az}{c:Ef}{x:WSt}(h:LBd m x.l)(ht:TBd m' x.t)(hn:n.length≤1000)(hk:k.length≤64)(hv:c.gone=true∨c.val.length≤256):
 LBd (m+1) (Dw n k c x).l∧TBd (m'+1) (Dw n k c x).t∧(Dw n k c x).t.rev=x.t.rev∧(Dw n k c x).t.floor=x.t.floor:=by
 have hw:=Abt h (B7 n k);have ha:(B7 n k).length≤1000000:=by rw[Aa5];omega
 obtain⟨t1,t2,t3⟩:=ht;unfold Dw;dsimp only;split
 ·exact⟨h.mono (by omega),⟨by omega,by omega,by omega⟩,rfl,rfl⟩
 ·split
  ·exact⟨h.put ha (by simp),⟨by dsimp only;omega,by dsimp only;omega,by dsimp only;omega⟩,rfl,rfl⟩
  ·have hcv:c.val.length≤256:=by
    rcases hv with hv|hv
    ·exact absurd hv (by assumption)
    ·exact hv
   split
   ·exact⟨h.put ha (by dsimp only;omega),⟨by dsimp only;omega,by dsimp only;omega,by dsimp only;omega⟩,rfl,rfl⟩
   ·exact⟨h.put ha (by dsimp only;omega),⟨by dsimp only;omega,by dsimp only;omega,by dsimp only;omega⟩,rfl,rfl⟩
theorem Xe(F:List Ef)(c:Ef):(Bm F c).map Ef.key=if(F.any fun x=>decide (x.key=c.key))=true then F.map Ef.key else F.map Ef.key++[c.key]:=by
 unfold Bm;cases h:F.findIdx? (fun x=>decide (x.key=c.key))with
 |none=>
  rw[List.findIdx?_eq_none_iff]at h;have:(F.any fun x=>decide (x.key=c.key))=false:=by rw[List.any_eq_false];intro x hx;simpa using h x hx
  simp[this]
 |some i=>
  obtain⟨hi,h1,h2⟩:=List.findIdx?_eq_some_iff_getElem.1 h;have:(F.any fun x=>decide (x.key=c.key))=true:=by rw[List.any_eq_true];exact⟨F[i],List.getElem_mem hi,h1⟩
  simp only[this,if_true];rw[Amd];have:c.key=(F.map Ef.key)[i]'(by simpa using hi):=by simp only[List.getElem_map];exact(show F[i].key=c.key by simpa using h1).symm
  rw[this,List.set_getElem_self]
theorem U5{F:List Ef}{c:Ef}(h:(F.map Ef.key).Nodup):((Bm F c).map Ef.key).Nodup:=by
 rw[Xe];split
 ·exact h
 ·rename_i hn;rw[Hb];refine⟨h,by simp,?_⟩
  intro a ha b hb e;simp only[Jd]at hb;subst hb;subst e;obtain⟨x,hx,hxe⟩:=X4.1 ha;exact hn (by rw[List.any_eq_true];exact⟨x,hx,by simpa using hxe⟩)
theorem Zn{F:List Ef}{c x:Ef}(h:x∈Bm F c):x∈F∨x=c:=by
 unfold Bm at h;split at h
 ·exact Ain h
 ·simpa using h
theorem Zm(F:List Ef)(c:Ef):(Bm F c).length≤F.length+1:=by
 unfold Bm;split<;>simp
theorem Adz{F:List Ef}{k:Az}(h:k∈F.map Ef.key):∃q,F.findIdx? (fun c=>decide (c.key=k))=some q∧F[q]?=some (Anv F k)∧(Anv F k).key=k:=by
 obtain⟨x,hx,hk⟩:=X4.1 h;cases hq:F.findIdx? (fun c=>decide (c.key=k))with
 |none=>
  rw[List.findIdx?_eq_none_iff]at hq;have:=hq x hx;simp[hk]at this
 |some q=>
  obtain⟨hi,h1,h2⟩:=List.findIdx?_eq_some_iff_getElem.1 hq;have hf:F.find? (fun c=>decide (c.key=k))=some F[q]:=by
   rw[List.find?_eq_some_iff_getElem];exact⟨h1,q,hi,rfl,fun j hj=>by simpa using h2 j hj⟩
  refine⟨q,rfl,?_,?_⟩
  ·unfold Anv;rw[hf];exact Ae hi
  ·unfold Anv;rw[hf];simpa using h1

def Eo(rev:Int):List Fk→Nat
 |_::w::r=>if w.rev≤rev then Eo rev (w::r)+1 else 0
 |_=>0
def Lm(rev:Int)(vs:List Fk):Nat:=match vs[Eo rev vs]? with
 |some v=>if v.gone=true∧v.rev≤rev then Eo rev vs+1 else Eo rev vs
 |none=>Eo rev vs
theorem Ve(rev:Int):∀(vs:List Fk),vs≠[]→Eo rev vs<vs.length
 | [],h=>absurd rfl h
 | [v],_=>by simp[Eo]
 |v::w::r,_=>by
  unfold Eo;have:=Ve rev (w::r) (by simp)
  split<;>simp at* <;>omega
theorem Bey{rev:Int}{vs:List Fk}{k:Nat}(hk:k<vs.length):Eo rev (vs.drop k)=match vs[k+1]? with
 |some w=>if w.rev≤rev then Eo rev (vs.drop (k+1))+1 else 0
 |none=>0:=by
 rw[Cc hk];by_cases h:k+1<vs.length
 ·rw[Cc h,Ae h];rfl
 ·rw[Db (by omega),Aic (by omega)]
  rfl
structure CSt where
 l:List Zk
 c:Int
def Uy(n:Az)(rev:Int)(h:Zk)(x:CSt):CSt:=
 if(C1 h.at_).1=n then(if h.vs.length≤Lm rev h.vs then x else⟨x.l++[⟨h.at_,h.vs.drop (Lm rev h.vs)⟩],x.c+(h.vs.length - Lm rev h.vs:Nat)⟩)else⟨x.l++[h],x.c⟩
def Mz(n:Az)(rev:Int):List Zk→CSt→CSt
 | [],x=>x
 |h::r,x=>Mz n rev r (Uy n rev h x)

open Go.RowKit Go.Maps Go.Sort Go.Shelf Go.Proofs
section
variable{P:Program}{ρ κ:Ren}
theorem A2z.of(L:SlLaysZ.n7 P κ):A2z P (κ.f 7) (κ.f 10) (κ.t 23):=fun mb W=>callsIn_wide.1 (AnyZ.keys_in L Fence.wide 5 trivial rfl mb W)
abbrev A3k:Value→Option (DataW Unit × List MemPlace):=fun _=>some (.nil,[])
theorem Aft{k:TypeId}(hk:P.underlying k=some .string){x:MapEntry}{s:List UInt8}(hx:x.key=Value.string ⟨⟨s⟩⟩)(hs:s.length≤maxLen):WideElems.rd P k A3k x=some (.string s,.nil):=by
 unfold WideElems.rd;rw[hx];have:keyOf P k (Value.string ⟨⟨s⟩⟩)=some (.string s):=by
  have Hr:(⟨⟨s⟩⟩:ByteArray).size=s.length:=rfl;simp[keyOf,hk,mapKey,Hr,hs]
 rw[this];rfl
theorem Yg{k:TypeId}(hk:P.underlying k=some .string):∀(l:List MapEntry) (ss:List (List UInt8)),l.map (·.key)=ss.map (fun s=>Value.string ⟨⟨s⟩⟩)→(∀s∈ss,s.length≤maxLen)→
 (l.map (WideElems.rg P k A3k)).map (fun p=>strOf p.1)=ss∧∀x∈l,∃y,WideElems.rd P k A3k x=some y
 | [],[],_,_=>⟨rfl,by simp⟩
 | [],_::_,h,_=>by cases h
 |_::_,[],h,_=>by cases h
 |x::l,s::ss,h,hs=>by
  simp only[Cy,Ajg]at h;obtain⟨h1,h2⟩:=h;obtain⟨h3,h4⟩:=Yg hk l ss h2 fun y hy=>hs y (by simp[hy])
  have h5:=Aft hk h1 (hs s (by simp))
  refine⟨by simp only[Cy,h3,WideElems.rg_of h5];rfl,fun y hy=>?_⟩
  rcases Bg.1 hy with rfl|hy
  ·exact⟨_,h5⟩
  ·exact h4 y hy
theorem Aym.of(L:SlLaysZ.n6 P ρ)(K:SlLaysZ.n7 P κ)(hs:∀m,AnyZ.SortsIn P ρ Fence.wide m)(e9:∀args w,(callFunc (ρ.f 9) args).run P w= .ok (.enter (ρ.f 9) args) w)
 (eg:∀args w,(callFunc (κ.f 10) args).run P w= .ok (.enter (κ.f 10) args) w):Aym P (ρ.f 6) (κ.f 10) (ρ.t 26):=by
 intro g b es clock ss W hc hb hk hnd Bp5 Bti hlen Bet hg;obtain⟨h3,h4⟩:=Yg K.t26 es.toList ss hk Bet;have hl:es.size=ss.length:=by
  have:=congrArg List.length hk;simpa using this
 have Bib:(ss.map (fun s=>Value.string ⟨⟨s⟩⟩)).Nodup:=by
  refine List.pairwise_map.2 (hnd.imp fun {a b} Cf e=>Cf ?_)
  simpa using e
 have Akd:W.ownsMap P (κ.t 26) A3k b ss.length (.map ((es.toList.map (WideElems.rg P (κ.t 26) A3k)).foldr DataW.insert [])):=
  ⟨es,clock,hb,⟨by rw[hl];simp only[maxLen];omega,⟨Bti,Bp5.imp (fun h=>by omega),by rw[hk];exact Bib⟩,h4⟩,by omega,rfl⟩
 have Bko:(strKeys (.map ((es.toList.map (WideElems.rg P (κ.t 26) A3k)).foldr DataW.insert [])):List (List UInt8)).Perm ss:=by
  have:=(WideShapes.sorted_perm (es.toList.map (WideElems.rg P (κ.t 26) A3k))).map (fun p=>strOf p.1)
  rw[h3]at this;exact this
 have Hr:Maps.size (.map ((es.toList.map (WideElems.rg P (κ.t 26) A3k)).foldr DataW.insert []):DataW Unit)=ss.length:=by
  have h5:=Bko.length_eq;simp only[strKeys,Bh]at h5;exact h5
 have Box:SeqGives Fence.wide 2 P (κ.f 10) #[.pointer (some ⟨g,0,none⟩)] encStr (fun ss'=>ss'.Perm (strKeys (.map ((es.toList.map (WideElems.rg P (κ.t 26) A3k)).foldr DataW.insert [])))) _ W:=
  AnyZ.keys_gives (ρ:=κ) {K with} Fence.wide _ trivial rfl (by omega) g b ss.length _ W hg hc Akd
 rw[Hr]at Box;refine(callsIn_wide.1 (AnyZ.sorted_in L Fence.wide 5 trivial trivial trivial trivial rfl (by omega) (hs _) e9 (κ.f 10) #[.pointer (some ⟨g,0,none⟩)] trivial eg _ ss.length (by simp only[maxLen];omega) (by omega) W Box)).mono ?_
 rintro e w' ⟨v,ss',rfl,hS,Ars,Au3,Btb⟩;have hp:=hS.trans Bko;refine⟨v,rfl,?_,Btb⟩;have e1:ss'.mergeSort (fun x y=>decide (x≤y))=Dc ss:=mergeSort_of_perm hp
 rw[hp.length_eq]at Ars;rw[e1]at Ars;exact Ars
end
end Go.Ab
