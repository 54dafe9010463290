/- Lemmas -/
import Derived.Test.YtgcccllpegilnaaGreatDoorNI
import Derived.Shelf.Slices.Delete
set_option linter.unusedVariables false
set_option linter.unusedSimpArgs false
namespace Go.Ab
open Go.Shelf Go.RowKit Go.Lib Go.Proofs
variable{P:Program}{ρ:Ren}
structure LDel (P:Program) (ρ:Ren) (i0:TypeInfo) (zv:Value):Prop where
 mixed:P.follows .mixedOrders=true
 f24:Bears P (ρ.f 24) (Body2.n24 ρ)
 t0:P.underlying (ρ.t 0)=some (TypeDesc.tuple #[])
 a0:∀w,(isAgg (ρ.t 0)).run P w= .ok false w
 z0:∀w,(Go.sizeOf (ρ.t 0)).run P w= .ok 1 w
 v0:∀w,(zeroValue (ρ.t 0)).run P w= .ok (Value.tuple #[]) w
 t3:P.underlying (ρ.t 3)=some (TypeDesc.int IntKind.i64)
 a3:∀w,(isAgg (ρ.t 3)).run P w= .ok false w
 z3:∀w,(Go.sizeOf (ρ.t 3)).run P w= .ok 1 w
 v3:∀w,(zeroValue (ρ.t 3)).run P w= .ok (Value.int IntKind.i64 0) w
 t4:P.underlying (ρ.t 4)=some (TypeDesc.bool)
 a4:∀w,(isAgg (ρ.t 4)).run P w= .ok false w
 z4:∀w,(Go.sizeOf (ρ.t 4)).run P w= .ok 1 w
 v4:∀w,(zeroValue (ρ.t 4)).run P w= .ok (Value.bool false) w
 t24:P.underlying (ρ.t 24)=some (TypeDesc.slice (ρ.t 9))
 a24:∀w,(isAgg (ρ.t 24)).run P w= .ok false w
 z24:∀w,(Go.sizeOf (ρ.t 24)).run P w= .ok 1 w
 v24:∀w,(zeroValue (ρ.t 24)).run P w= .ok (Value.slice none 0 0) w
 z9:∀w,(Go.sizeOf (ρ.t 9)).run P w= .ok i0.size w
 v9:∀w,(zeroValue (ρ.t 9)).run P w= .ok zv w
 i9:P.info? (ρ.t 9)=some i0
 iz:i0.zero=some zv
 izs:zv.cells.size=i0.size
 iz1:∀v∈zv.cells.toList,v.oneCell'=true
 ipos:0<i0.size
theorem Awn (z:Array Value):Builtin.zeroCells z 1=z:=by
 apply Array.ext
 ·simp[Builtin.zeroCells]
 ·intro j h1 h2
  simp only[Builtin.zeroCells,Array.getElem_map,Array.getElem_range,Nat.mod_eq_of_lt h2]
  exact getElem!_pos z j h2
theorem Awd (w:World) (t e ty:TypeId) (z:Value) (ht:P.underlying t=some (.slice e)) (hv:∀w,(zeroValue e).run P w= .ok z w) (b o c:Nat)
 (hc:∀j,j<z.cells.size→(w.cell? ⟨b,o+j,none⟩).isSome=true) (hf:∀j,j<z.cells.size→w.frozen? ⟨b,o+j,none⟩=false) (h1:∀v∈z.cells.toList,v.oneCell'=true):
 (Builtin.clear_ #[t] ty #[.slice (some ⟨b,o,none⟩) 1 c]).run P w= .ok (.tuple #[]) (w.setCells b o z.cells.toList):=by
 have hst:=run_storeCells_cells (P:=P) b o z.cells.toList 0 w (by simpa using hc) (by simpa using hf) h1
 simp only[Nat.add_zero]at hst
 simp[Builtin.clear_,run_underlying ht,hv,Awn,hst]
set_option maxHeartbeats 4000000 in
set_option maxRecDepth 100000 in
theorem Bgs {i0:TypeInfo} {zv:Value} (L:LDel P ρ i0 zv) (b n c i:Nat) (cs:List Value) (w:World) (hi:i<n) (hnc:n≤c) (hc63:c≤9223372036854775807)
 (hcl:cs.length=n*i0.size)
 (hcs:∀j v,cs[j]?=some v→w.cell? ⟨b,j,none⟩=some v) (hfz:∀j,j<n*i0.size→w.frozen? ⟨b,j,none⟩=false)
 (h1c:∀v∈cs,v.oneCell'=true):
 Calls P (ρ.f 24) #[.slice (some ⟨b,0,none⟩) n c,.int .i64 i,.int .i64 ((i+1:Nat):Int)] w fun e w'=>
  e= .returned (.slice (some ⟨b,0,none⟩) (n - 1) c)∧w'=(w.drew.setCells b (i*i0.size) (cs.drop (i*i0.size+i0.size))).setCells b (n*i0.size - i0.size) zv.cells.toList:=by
 have t0:=L.t0;have a0:=L.a0;have z0:=L.z0;have v0:=L.v0;have t3:=L.t3;have a3:=L.a3;have z3:=L.z3;have v3:=L.v3;have t4:=L.t4;have a4:=L.a4;have z4:=L.z4;have v4:=L.v4;have z9:=L.z9;have t24:=L.t24;have a24:=L.a24;have z24:=L.z24;have v24:=L.v24
 have u0:=run_underlying L.t0;have u3:=run_underlying L.t3;have u4:=run_underlying L.t4;have u24:=run_underlying L.t24
 have mixed:=L.mixed
 have hpos:=L.ipos
 have hik:(i+1)*i0.size=i*i0.size+i0.size:=Nat.succ_mul ..
 have hin':i*i0.size+i0.size≤n*i0.size:=by rw[←hik];exact Nat.mul_le_mul_right _ hi
 have hsome:∀j,j<n*i0.size→(w.cell? ⟨b,j,none⟩).isSome=true:=fun j hj=>by
  rw[hcs j _ (List.getElem?_eq_getElem (by omega))];rfl
 obtain⟨news,hnews⟩:∃news,news=cs.drop (i*i0.size+i0.size):=⟨_,rfl⟩
 have hnl:news.length=(n - (i+1))*i0.size:=by rw[hnews,List.length_drop,hcl,Nat.sub_mul,hik]
 have hni:(n - (i+1))*i0.size=n*i0.size - (i*i0.size+i0.size):=by rw[Nat.sub_mul,hik]
 obtain⟨A,hA,hsrc⟩:∃A:Addr,(if c=i+1 then some (⟨b,0,none⟩:Addr)else some ⟨b,i*i0.size+i0.size,none⟩)=some A∧∀t u,news[t]?=some u→w.drew.cell? (A.add t)=some u:=by
  by_cases h:c=i+1
  ·refine⟨⟨b,0,none⟩,by simp[h],fun t u hu=>?_⟩
   have h0:news.length=0:=by rw[hnl,show n - (i+1)=0 by omega];simp
   rw[List.length_eq_zero_iff.1 h0]at hu
   simp at hu
  ·refine⟨⟨b,i*i0.size+i0.size,none⟩,by simp[h],fun t u hu=>?_⟩
   rw[hnews,List.getElem?_drop]at hu
   rw[Addr.add_lit]
   exact hcs _ u hu
 have h1n:∀u∈news,u.oneCell'=true:=fun u hu=>h1c u (List.mem_of_mem_drop (by rw[←hnews];exact hu))
 have hsp:∀t,t<news.length→(w.drew.cell? ⟨b,0+i*i0.size+t,none⟩).isSome=true∧w.drew.frozen? ⟨b,0+i*i0.size+t,none⟩=false:=by
  intro t ht
  rw[Nat.zero_add]
  rw[hnl]at ht
  exact⟨hsome _ (by omega),hfz _ (by omega)⟩
 obtain⟨W1,hW1⟩:∃W1,W1=w.drew.setCells b (i*i0.size) news:=⟨_,rfl⟩
 have hpn:(n - 1)*i0.size=n*i0.size - i0.size:=by rw[Nat.sub_mul,Nat.one_mul]
 have hcl1:∀ty cc,(Builtin.clear_ #[ρ.t 24] ty #[.slice (some ⟨b,n*i0.size - i0.size,none⟩) 1 cc]).run P W1= .ok (.tuple #[]) (W1.setCells b (n*i0.size - i0.size) zv.cells.toList):=fun ty cc=>by
  refine Awd W1 _ _ ty zv t24 L.v9 b _ cc (fun t ht=>?_) (fun t ht=>?_) L.iz1
  ·rw[L.izs]at ht
   rw[hW1]
   exact isSome_setCells b _ _ _ (fun j hj=>by rw[hnl]at hj;exact hsome _ (by omega)) _ (hsome _ (by omega))
  ·rw[L.izs]at ht
   rw[hW1,World.frozen?_setCells]
   exact hfz _ (by omega)
 rw[←hnews, ←hW1]
 have hW1':w.drew.setCells b (0+i*i0.size) news=W1:=by rw[hW1,Nat.zero_add]
 have hic:i≤c:=by omega
 have hjc:i+1≤c:=by omega
 have hjn:i+1≤n:=by omega
 have hin1:i+(n - (i+1))=n - 1:=by omega
 have heq:¬((i:Int)=(i:Int)+1):=by omega
 have hb1:(0:Int)≤(i:Int)+1:=by omega
 have hb2:(i:Int)+1≤(n:Int):=by omega
 have htn:((i:Int)+1).toNat=i+1:=by omega
 have hcn:¬(c=n - 1):=by omega
 have hn1:n - (n - 1)=1:=by omega
 have hle1:n - 1≤n:=by omega
 have hle2:n - 1≤c:=by omega
 clear hW1 hnews hcs
 obtain⟨_,_,FG⟩:=L.f24
 go_enter FG,Body2.n24_ntmps ρ
 go_wp2_with fail
 go_region_law_o (refine step_append_room rfl (.tmp 22) (.tmp 25) (ρ.t 24) rfl (ρ.t 9) i0 i0.size t24 L.i9 rfl b 0 i c (by simp[Act.eval,Act.put]) A (n - (i+1)) (c - (i+1)) news (by simp[Act.eval,Act.put]) hnl hsrc h1n (by omega) hsp ?_;rw[hW1'])
 go_goals
 go_wp2
 all_goals(go_ret;exact⟨rfl,rfl⟩)

open Go.Shelf Go.RowKit Go.Lib Go.Proofs
theorem RepDs.split {G:Mem} {w:World}:∀{l m:List D} {cs:List Value} {bs:List Nat},RepDs G w (l++m) cs bs→∃c c' b b',cs=c++c'∧bs=b++b'∧RepDs G w l c b∧RepDs G w m c' b'
 | [],m,cs,bs,h=>⟨[],cs,[],bs,rfl,rfl,by simp[RepDs],h⟩
 |d::l,m,cs,bs,h=>by
  simp only[List.cons_append,RepDs]at h
  obtain⟨c,c',b,b',rfl,rfl,h1,h2⟩:=h
  obtain⟨p,p',q,q',rfl,rfl,h3,h4⟩:=RepDs.split h2
  refine⟨c++p,p',b++q,q',by simp,by simp,?_,h4⟩
  simp only[RepDs]
  exact⟨c,p,b,q,rfl,rfl,h1,h3⟩
theorem grownBy_refl (w:World) (r:Option Nat):w.grownBy w r:=⟨rfl,rfl,rfl,Nat.le_refl _,fun _ _ _=>rfl⟩
theorem Hf {w w' w'':World} {r:Option Nat} (h:w.grownBy w' r) (h':w'.grownBy w'' r):w.grownBy w'' r:=
 ⟨h'.os.trans h.os,h'.tape.trans h.tape,h'.output.trans h.output,Nat.le_trans h.size h'.size,fun k hk hr=>(h'.block k (Nat.lt_of_lt_of_le hk h.size) hr).trans (h.block k hk hr)⟩
theorem Ky (g:Nat) (t:TypeId) (fz:Nat × Nat):∀(vs A X B:List Value) (o:Nat) (cur:Array Value) (w:World),w.heap[g]?=some (.cells cur t fz)→cur.toList=A++X++B→A.length=o→X.length=vs.length→
 (w.setCells g o vs).heap[g]?=some (.cells (A++vs++B).toArray t fz)∧w.grownBy (w.setCells g o vs) (some g)
 | [],A,X,B,o,cur,w,hg,hc,_,hx=>by
   obtain rfl:X=[]:=by simpa using hx
   refine⟨?_,grownBy_refl w _⟩
   rw[World.setCells,hg, ←hc]
 |v::r,A,X,B,o,cur,w,hg,hc,ho,hx=>by
  obtain⟨x,X',rfl⟩:∃x X',X=x::X':=by
   cases X with
   |nil=>simp at hx
   |cons x X'=>exact⟨x,X',rfl⟩
  have h1:(cur.setIfInBounds o v).toList=(A++[v])++X'++B:=by
   rw[Array.toList_setIfInBounds,hc, ←ho]
   simp
  have hs:=setCell_eq_setRow w g o cur t fz v hg
  have ih:=Ky g t fz r (A++[v]) X' B (o+1) (cur.setIfInBounds o v) (w.setCell ⟨g,o,none⟩ v) (by rw[hs];exact setRow_heap w g cur _ t fz hg) h1 (by simp[ho]) (by simpa using hx)
  rw[World.setCells]
  refine⟨by simpa using ih.1,Hf ?_ ih.2⟩
  rw[hs]
  exact⟨rfl,rfl,rfl,by simp[World.setRow],fun k _ hk=>setRow_other w g k _ (fun e=>hk (by rw[e]))⟩
theorem Aru (z:Array Value) (n:Nat):(Builtin.zeroCells z n).size=n*z.size:=by simp[Builtin.zeroCells]
section
variable{P:Program}
theorem Q5 {G:Mem} {σ:Lab} {Fr:Mem} {w w':World} {cargs:Array Value} {m:Nat} (hok:WOk G σ Fr ⟨w,0, #[]⟩ w) {g cap:Nat} {e:TypeId} {row:Array Value} {k:Nat} {l:List D} {xs:List Value} {bs:List Nat}
 (hg:w'.heap[g]?=some (.cells row e (0,0))) (hrs:row.size=cap*k) (hlc:l.length≤cap) (hcm:cap≤maxLen) (hx:row.toList.take (l.length*k)=xs) (hd:RepDs G w l xs bs) (hs:∀x∈l,x.size=k)
 (hn:bs.Nodup) (hgb:g ∉ bs) (hf:∀b∈bs,G b=none∧Fr b=none∧b<w.heap.size) (hgf:G g=none∧Fr g=none) {q:Nat} (hqf:G q=none∧Fr q=none) (hq:q ∉ bs) (hgr:w.grownBy w' (some q)) (hm:m=cargs.size):
 ∃(r:SV) (outs:List SV) (c:Value) (G':Mem) (σ':Lab),Ending.returned (Value.slice (some ⟨g,0,none⟩) l.length cap)= .returned c∧Is (.own [] (.vec e k l)) (List.replicate m .no) r outs∧G.le G'∧WOk G' σ' Fr ⟨w,0, #[]⟩ w'∧
  r.root=none∧RepOwn G' σ' w' m r c∧outs.length=m∧∀i sv,outs[i]?=some sv→sv.root=none∧RepOwn G' σ' w' i sv (cargs.getD i undef):=by
 have hgl:g<w'.heap.size:=(Array.getElem?_eq_some_iff.1 hg).1
 let σ':Lab:=fun b=>if b∈g::bs then some (m,(g::bs).idxOf b)else none
 have inv:∀{b lab},σ' b=some lab→b∈g::bs∧lab=(m,(g::bs).idxOf b):=by
  intro b lab h
  simp only[σ']at h
  split at h
  ·rename_i h1;cases h;exact⟨h1,rfl⟩
  ·cases h
 have keep:∀(M:Mem),M q=none→(∀b o,M b=some o→w.heap[b]?=some o)→∀b o,M b=some o→w'.heap[b]?=some o:=by
  intro M hMg hM b o hb
  have h1:=hM b o hb
  rw[hgr.block b (Array.getElem?_eq_some_iff.1 h1).1 (fun e=>by cases e;rw[hMg]at hb;cases hb)]
  exact h1
 refine⟨_,_,_,G,σ',rfl,⟨rfl,rfl⟩,Mem.le.refl G,⟨keep G hqf.1 hok.fixed,?_,?_,keep Fr hqf.2 hok.frame,hgr.os,hgr.tape,hgr.output,hgr.size,hok.apart,hok.amb⟩,rfl,?_,by simp,?_⟩
 ·intro b lab h
  rcases List.mem_cons.1 (inv h).1 with rfl|hb
  ·exact⟨hgf.1,hgf.2,hgl⟩
  ·obtain⟨h1,h2,h3⟩:=hf b hb
   exact⟨h1,h2,Nat.lt_of_lt_of_le h3 hgr.size⟩
 ·intro b b' lab h h'
  obtain⟨h1,rfl⟩:=inv h
  obtain⟨h2,h3⟩:=inv h'
  exact Auc h1 h2 (by simpa using h3)
 ·refine⟨g::bs,?_,rfl,List.nodup_cons.2 ⟨hgb,hn⟩,fun b hb=>⟨(g::bs).idxOf b,by simp only[σ',hb,if_true]⟩⟩
  simp only[RepD,Value.cells]
  refine .inr ⟨g,0,cap,row,xs,bs,rfl,Row.of hg,fun _=>⟨rfl,hrs⟩,hlc,hcm,by rw[hrs,Nat.zero_add];exact Nat.le_refl _,by simpa using hx,hd.tr (Mem.le.refl G) fun b hb=>?_,hs,rfl⟩
  exact hgr.block b (hf b hb).2.2 (fun e=>by cases e;exact hq hb)
 ·intro i sv hi
  obtain rfl:sv= .no:=(List.mem_replicate.1 (List.mem_of_getElem? hi)).2
  exact⟨rfl,trivial⟩
theorem OwnD.row {G:Mem} {σ:Lab} {w:World} {s:Nat} {e:TypeId} {k:Nat} {l:List D} {c:Value} (h:OwnD G σ w s (.vec e k l) c) (he:e<1000000):(c= .slice none 0 0∧l=[])∨
 ∃g cap cur xs bs,c= .slice (some ⟨g,0,none⟩) l.length cap∧w.heap[g]?=some (.cells cur e (0,0))∧cur.size=cap*k∧l.length≤cap∧cap≤maxLen∧cur.toList.take (l.length*k)=xs∧RepDs G w l xs bs∧(∀x∈l,x.size=k)∧
  bs.Nodup∧g ∉ bs∧∀b,b=g∨b∈bs→∃j,σ b=some (s,j):=by
 obtain⟨bs,h1,h2,h3,h4⟩:=h
 rw[Fp h2]at h1
 simp only[RepD]at h1
 rcases h1 with⟨h1,rfl,_⟩|⟨g,off,cap,cur,xs,bs',h1,r1,r2,r3,r4,r5,r6,r7,r8,rfl⟩
 ·injection h1 with h1
  exact .inl ⟨h1,rfl⟩
 ·injection h1 with h1
  obtain⟨rfl,r2'⟩:=r2 he
  have hn:=List.nodup_cons.1 h3
  exact .inr ⟨g,cap,cur,xs,bs',h1,r1.to he,r2',r3,r4,by simpa using r6,r7,r8,hn.2,hn.1,fun b hb=>h4 b (by simpa using hb)⟩
theorem Yo {w:World} {g:Nat} {cur:Array Value} {e:TypeId} (hg:w.heap[g]?=some (.cells cur e (0,0))) {n:Nat} (j:Nat) (v:Value) (h:(cur.toList.take n)[j]?=some v):w.cell? ⟨g,j,none⟩=some v:=by
 rw[List.getElem?_take]at h
 split at h
 ·have:=cell_of_row w g j cur _ _ hg
  rw[this]
  simpa using h
 ·cases h
theorem Aqe {ρ:Ren} {i0:TypeInfo} {zv:Value} (L:LIns P ρ i0 zv) (he:ρ.t 9<1000000) (l:List D) (x:D) (i:Nat) (hi:i≤l.length) (hl:l.length≤100000):
 Fn P (ρ.f 22) [.own [] (.vec (ρ.t 9) i0.size l),.v (.int .i64 i),.own [] (.vec (ρ.t 9) i0.size [x])] (Is (.own [] (.vec (ρ.t 9) i0.size (l.take i++x::l.drop i))) [.no,.no,.no]):=by
 intro G σ Fr w cargs hok hlen hargs
 have hc0:=(hargs 0 _ rfl).2
 have hc1:RepV G (.int .i64 i) (cargs.getD 1 undef):=(hargs 1 _ rfl).2
 have hc2:=(hargs 2 _ rfl).2
 rw[RepV.int]at hc1
 have hca:cargs= #[cargs.getD 0 undef,.int .i64 i,cargs.getD 2 undef]:=by
  rw[←hc1]
  apply Array.ext
  ·simpa using hlen
  ·intro j h1 h2
   have:j=0∨j=1∨j=2:=by simp at h2;omega
   rcases this with rfl|rfl|rfl<;>simp[Array.getD,h1]
 have hsz:cargs.size=3:=hlen
 generalize cargs.getD 0 undef=c0 at hc0 hca
 generalize cargs.getD 2 undef=c2 at hc2 hca
 have hpos:=L.ipos
 rcases OwnD.row hc2 he with⟨_,h⟩|⟨vb,vc,vcur,vs,vbs,rfl,v1,v2,v3,v4,v5,v6,v7,v8,v9,v10⟩
 ·cases h
 have hk:x.size=i0.size:=v7 x (by simp)
 have hvl:vs.length=1*i0.size:=by rw[RepDs.length v6];simp[dsizes,hk]
 have hvs:∀j v,vs[j]?=some v→w.cell? ⟨vb,j,none⟩=some v:=fun j v h=>Yo v1 j v (by rw[←v5]at h;exact h)
 have hv1:=RepDs.one v6
 have vfree:∀b,b=vb∨b∈vbs→G b=none∧Fr b=none∧b<w.heap.size:=fun b hb=>by
  obtain⟨j,hj⟩:=v10 b hb
  exact hok.own b _ hj
 have hb16:∀n,n≤100001→n*i0.bytes≤140737488355328:=fun n hn=>by
  have:n*i0.bytes≤100001*100000:=Nat.mul_le_mul hn L.ib
  omega
 rcases OwnD.row hc0 he with⟨rfl,rfl⟩|⟨g,cap,cur,xs,bs,rfl,r1,r2,r3,r4,r5,r6,r7,r8,r9,r10⟩
 · 
  obtain rfl:i=0:=by simpa using hi
  obtain⟨v',w',hrun,q1,q2,_,q3⟩:=run_append_own_at (P:=P) w 0 (ρ.t 24) (ρ.t 3) (ρ.t 9) i0 zv i0.size i0.bytes L.t24 L.i9 L.iz rfl rfl L.izs L.ipos (.slice none 0 0) 0 [] (OwnsR.to (OwnsR.nil w _ _) he) ⟨vb,0,none⟩ 1 vc vs hvl
   (fun j u hj=>by rw[Addr.add_lit,Nat.zero_add];exact hvs j u hj) hv1 (by simp[maxLen]) (hb16 _ (by omega)) (Nat.zero_le _)
  have hrun':∀ty,(Builtin.append_ #[ρ.t 24,ρ.t 24] ty #[.slice none 0 0,.slice (some ⟨vb,0,none⟩) 1 vc]).run P w= .ok v' w':=fun ty=>hrun
  rw[hca]
  refine(A47 L none 0 0 vb vc w (fun _=>⟨rfl,rfl⟩) (Nat.le_refl _) hrun').mono ?_
  rintro e w1 ⟨rfl,rfl⟩
  rcases q1.2 with⟨_,h⟩|⟨g',cap',cur',rfl,_,k1,k2,k3,k4,k5⟩
  ·cases h
  rcases q3 with h|h
  ·simp[Value.ownBlock]at h
  simp only[Value.ownBlock,Option.some.injEq]at h
  subst h
  obtain⟨f1,f2,f3⟩:=hok.fresh (Nat.le_refl _)
  rw[←hca]
  refine Q5 (l:=[x]) (bs:=vbs) hok k1 k4 k2 k3 (by simpa using k5) (by simpa using v6) v7 v8 (fun hb=>?_) (fun b hb=>vfree b (.inr hb)) ⟨f1,f2⟩ (q:=w.heap.size) ⟨f1,f2⟩ (fun hb=>?_) ?_ hsz.symm
  ·have:=(vfree _ (.inr hb)).2.2
   omega
  ·have:=(vfree _ (.inr hb)).2.2
   omega
  ·exact⟨q2.os,q2.tape,q2.output,q2.size,fun k hk _=>q2.block k hk (by simp[Value.ownBlock])⟩
 have hfree:∀b,b=g∨b∈bs→G b=none∧Fr b=none∧b<w.heap.size:=fun b hb=>by
  obtain⟨j,hj⟩:=r10 b hb
  exact hok.own b _ hj
 have hdis:∀b,b=g∨b∈bs→¬(b=vb∨b∈vbs):=fun b hb hb'=>by
  obtain⟨j,hj⟩:=r10 b hb
  obtain⟨j',hj'⟩:=v10 b hb'
  rw[hj]at hj'
  cases hj'
 have hcl:xs.length=l.length*i0.size:=by rw[RepDs.length r6,H7 r7]
 have hx1:=RepDs.one r6
 have hcs:∀j v,xs[j]?=some v→w.cell? ⟨g,j,none⟩=some v:=fun j v h=>Yo r1 j v (by rw[←r5]at h;exact h)
 have hgv:vb≠g:=fun e=>hdis g (.inl rfl) (.inl e.symm)
 obtain⟨cA,cB,bA,bB,hxAB,hbAB,dA,dB⟩:=RepDs.split (l:=l.take i) (m:=l.drop i) (by rw[List.take_append_drop];exact r6)
 have hA:cA.length=i*i0.size:=by rw[RepDs.length dA,H7 fun y hy=>r7 y (List.mem_of_mem_take hy),List.length_take,Nat.min_eq_left hi]
 have hB:cB=xs.drop (i*i0.size):=by rw[hxAB, ←hA];simp
 have hAt:cA=xs.take (i*i0.size):=by rw[hxAB, ←hA];simp
 have dall:RepDs G w (l.take i++x::l.drop i) (cA++vs++cB) (bA++vbs++bB):=by
  have:=(dA.append v6).append dB
  simpa using this
 have hszs:∀y∈l.take i++x::l.drop i,y.size=i0.size:=by
  intro y hy
  rcases List.mem_append.1 hy with hy|hy
  ·exact r7 y (List.mem_of_mem_take hy)
  ·rcases List.mem_cons.1 hy with rfl|hy
   ·exact hk
   ·exact r7 y (List.mem_of_mem_drop hy)
 have hmem:∀b,b∈bA++vbs++bB→b∈bs∨b∈vbs:=by
  intro b hb
  simp only[List.mem_append]at hb
  rw[hbAB]
  simp only[List.mem_append]
  rcases hb with(hb|hb)|hb
  ·exact .inl (.inl hb)
  ·exact .inr hb
  ·exact .inl (.inr hb)
 have hnd:(bA++vbs++bB).Nodup:=by
  rw[hbAB,List.nodup_append]at r8
  obtain⟨n1,n2,n3⟩:=r8
  have c1:∀b∈bA,b ∉ vbs:=fun b hb hb'=>hdis b (.inr (by rw[hbAB];simp[hb])) (.inr hb')
  have c2:∀b∈bB,b ∉ vbs:=fun b hb hb'=>hdis b (.inr (by rw[hbAB];simp[hb])) (.inr hb')
  rw[List.nodup_append,List.nodup_append]
  refine⟨⟨n1,v8,fun a ha b hb e=>c1 a ha (e ▸ hb)⟩,n2,fun a ha b hb e=>?_⟩
  rcases List.mem_append.1 ha with ha|ha
  ·exact n3 a ha b hb e
  ·exact c2 b hb (e ▸ ha)
 have hff:∀b∈bA++vbs++bB,G b=none∧Fr b=none∧b<w.heap.size:=fun b hb=>by
  rcases hmem b hb with h|h
  ·exact hfree b (.inr h)
  ·exact vfree b (.inr h)
 have hgn:g ∉ bA++vbs++bB:=fun hb=>by
  rcases hmem g hb with h|h
  ·exact r9 h
  ·exact hdis g (.inl rfl) (.inr h)
 have hgG:G g=none∧Fr g=none:=⟨(hfree _ (.inl rfl)).1,(hfree _ (.inl rfl)).2.1⟩
 have hfn:w.heap.size ∉ bA++vbs++bB:=fun hb=>Nat.lt_irrefl _ (hff _ hb).2.2
 have hlen':(l.take i++x::l.drop i).length=l.length+1:=by simp;omega
 have h63:maxLen=9223372036854775807:=rfl
 have hnk:(l.length+1)*i0.size=l.length*i0.size+i0.size:=Nat.succ_mul ..
 have hin':i*i0.size≤l.length*i0.size:=Nat.mul_le_mul_right _ hi
 by_cases hin:i=l.length
 · 
  obtain⟨v',w',hrun,q1,q2,_,q3⟩:=run_append_own_at (P:=P) w 0 (ρ.t 24) (ρ.t 3) (ρ.t 9) i0 zv i0.size i0.bytes L.t24 L.i9 L.iz rfl rfl L.izs L.ipos (.slice (some ⟨g,0,none⟩) l.length cap) l.length xs
   ⟨hcl,.inr ⟨g,cap,cur,rfl,Nat.zero_le _,r1,r3,r4,r2,r5⟩⟩ ⟨vb,0,none⟩ 1 vc vs hvl
   (fun j u hj=>by rw[Addr.add_lit,Nat.zero_add];exact hvs j u hj) hv1 (by simp[maxLen];omega) (hb16 _ (by omega)) (Nat.zero_le _)
  subst hin
  rw[hca]
  refine(A47 L (some ⟨g,0,none⟩) l.length cap vb vc w (fun h=>by cases h) r3 (fun ty=>hrun)).mono ?_
  rintro e w1 ⟨rfl,rfl⟩
  rw[←hca]
  rcases q1.2 with⟨_,h⟩|⟨g',cap',cur',rfl,_,k1,k2,k3,k4,k5⟩
  ·omega
  have hB0:cB=[]:=by rw[hB, ←hcl];simp
  have hAx:cA=xs:=by rw[hAt, ←hcl];simp
  rw[←hlen']at k2 k5 ⊢
  rcases q3 with h|h
  ·simp only[Value.ownBlock,Option.some.injEq]at h
   subst h
   refine Q5 hok k1 k4 k2 k3 (by rw[k5,hB0,hAx,List.append_nil]) dall hszs hnd hgn hff hgG hgG hgn ?_ hsz.symm
   simpa[Value.ownBlock]using q2
  ·simp only[Value.ownBlock,Option.some.injEq]at h
   subst h
   obtain⟨f1,f2,f3⟩:=hok.fresh (Nat.le_refl _)
   refine Q5 hok k1 k4 k2 k3 (by rw[k5,hB0,hAx,List.append_nil]) dall hszs hnd hfn hff ⟨f1,f2⟩ hgG hgn ?_ hsz.symm
   simpa[Value.ownBlock]using q2
 have hlt:i<l.length:=by omega
 have hin2:i*i0.size+i0.size≤l.length*i0.size:=by rw[←Nat.succ_mul];exact Nat.mul_le_mul_right _ hlt
 have hBl:cB.length=l.length*i0.size - i*i0.size:=by rw[hB,List.length_drop,hcl]
 have hfit:∀T:List Value,((cA++vs++cB)++T).take ((l.length+1)*i0.size)=cA++vs++cB:=fun T=>by
  rw[List.take_append_of_le_length (by simp;omega),List.take_of_length_le (by simp;omega)]
 by_cases hroom:l.length+1≤cap
 · 
  have hcur:cur.toList.length=cap*i0.size:=by simpa using r2
  have hcapk:(l.length+1)*i0.size≤cap*i0.size:=Nat.mul_le_mul_right _ hroom
  have hcell:∀j,j<(l.length+1)*i0.size→(w.cell? ⟨g,j,none⟩).isSome=true:=fun j hj=>by
   rw[cell_of_row w g j cur _ _ r1,Array.getElem?_eq_getElem (by omega)];rfl
  have hfz:∀(b j:Nat) (row:Array Value) (t:TypeId),w.heap[b]?=some (.cells row t (0,0))→w.frozen? ⟨b,j,none⟩=false:=fun b j row t h=>by simp[World.frozen?,h]
  have hsh:∀(b:Nat) (row:Array Value) (t:TypeId),w.heap[b]?=some (.cells row t (0,0))→w.shape? b=some (t,row.size):=fun b row t h=>by simp[World.shape?,h]
  rw[hca]
  refine(Baw L g l.length cap i vb vc xs vs w hlt hroom (by omega) hgv hcl hvl hcs hcell (fun j _=>hfz g j cur _ r1) hvs hx1 hv1 _ _ vcur.size cur.size (hsh _ _ _ v1) (hsh _ _ _ r1) (by omega) (hfz _ _ _ _ v1) (hfz _ _ _ _ v1)).mono ?_
  rintro e w1 ⟨rfl,rfl⟩
  rw[←hca]
  have s1:=Ky g (ρ.t 9) (0,0) (xs.drop (i*i0.size)) (cur.toList.take (i*i0.size+i0.size)) ((cur.toList.drop (i*i0.size+i0.size)).take (xs.drop (i*i0.size)).length) ((cur.toList.drop (i*i0.size+i0.size)).drop (xs.drop (i*i0.size)).length)
   (i*i0.size+i0.size) cur w.drew r1 (by rw[List.append_assoc,List.take_append_drop,List.take_append_drop]) (by rw[List.length_take];omega) (by rw[List.length_take,List.length_drop,List.length_drop];omega)
  have hT:=s1.1
  rw[show cur.toList.take (i*i0.size+i0.size)=cA++(cur.toList.drop (i*i0.size)).take i0.size from by
   rw[List.take_add,hAt, ←r5,List.take_take,Nat.min_eq_left hin']]at hT
  have s2:=Ky g (ρ.t 9) (0,0) vs cA ((cur.toList.drop (i*i0.size)).take i0.size) (xs.drop (i*i0.size)++(cur.toList.drop (i*i0.size+i0.size)).drop (xs.drop (i*i0.size)).length) (i*i0.size) _ _ hT
   (by simp) hA (by rw[List.length_take,List.length_drop];omega)
  rw[←hlen']
  have hgr:w.grownBy ((w.drew.setCells g (i*i0.size+i0.size) (xs.drop (i*i0.size))).setCells g (i*i0.size) vs) (some g):=
   Hf (w':=w.drew) ⟨rfl,rfl,rfl,Nat.le_refl _,fun _ _ _=>rfl⟩ (Hf s1.2 s2.2)
  refine Q5 hok s2.1 ?_ (by omega) r4 ?_ dall hszs hnd hgn hff hgG hgG hgn hgr hsz.symm
  ·have:(cur.toList.drop (i*i0.size+i0.size)).length=cap*i0.size - (i*i0.size+i0.size):=by rw[List.length_drop,hcur]
   simp only[List.size_toArray,List.length_append,hA,hvl,List.length_drop,hcl,hcur]
   omega
  ·rw[hlen', ←hB, ←List.append_assoc]
   exact hfit _
 · 
  rw[hca]
  refine(Beb L g l.length cap i vb vc xs vs w hlt r3 (by omega) (hb16 _ (by omega)) (by omega) hcl hvl hcs hvs hx1 hv1).mono ?_
  rintro e w1 ⟨rfl,rfl⟩
  rw[←hca]
  obtain⟨gc,hgc⟩:∃gc,gc=grownCap w (l.length+1) cap (ρ.t 9):=⟨_,rfl⟩
  have hge:l.length+1≤gc:=by rw[hgc];exact grownCap_ge w _ _ _
  have hle:gc≤maxLen:=by rw[hgc];exact grownCap_le_maxLen w _ _ _ (by rw[h63];omega)
  rw[←hgc]
  obtain⟨f1,f2,f3⟩:=hok.fresh (Nat.le_refl _)
  obtain⟨Z,hZ⟩:∃Z,Z=(Builtin.zeroCells zv.cells (l.length+1 - i)++Builtin.zeroCells zv.cells (gc - (l.length+1))).toList:=⟨_,rfl⟩
  have hgck:(l.length+1)*i0.size≤gc*i0.size:=Nat.mul_le_mul_right _ hge
  have hZl:Z.length=gc*i0.size - i*i0.size:=by
   rw[hZ]
   simp only[Array.toList_append,List.length_append,Array.length_toList,Aru,L.izs,Nat.sub_mul]
   omega
  have hrow:((xs.take (i*i0.size)).toArray++Builtin.zeroCells zv.cells (l.length+1 - i)++Builtin.zeroCells zv.cells (gc - (l.length+1))).toList=cA++Z:=by
   rw[hZ,hAt]
   simp
  obtain⟨row,hrw⟩:∃row,row=(xs.take (i*i0.size)).toArray++Builtin.zeroCells zv.cells (l.length+1 - i)++Builtin.zeroCells zv.cells (gc - (l.length+1)):=⟨_,rfl⟩
  rw[←hrw]at hrow ⊢
  have h0:(w.alloc (.cells row (ρ.t 9))).drew.heap[w.heap.size]?=some (.cells row (ρ.t 9) (0,0)):=by
   show(w.heap.push _)[w.heap.size]?=_
   rw[Array.getElem?_push,if_pos rfl]
  have hgr0:w.grownBy (w.alloc (.cells row (ρ.t 9))).drew (some w.heap.size):=by
   refine⟨rfl,rfl,rfl,by show _≤(w.heap.push _).size;simp,fun k hk _=>?_⟩
   show(w.heap.push _)[k]?=_
   rw[Array.getElem?_push,if_neg (by omega)]
  have s1:=Ky w.heap.size (ρ.t 9) (0,0) vs cA (Z.take i0.size) (Z.drop i0.size) (i*i0.size) row _ h0 (by rw[hrow,List.append_assoc,List.take_append_drop]) hA (by rw[List.length_take];omega)
  have s2:=Ky w.heap.size (ρ.t 9) (0,0) (xs.drop (i*i0.size)) (cA++vs) ((Z.drop i0.size).take (xs.drop (i*i0.size)).length) ((Z.drop i0.size).drop (xs.drop (i*i0.size)).length) (i*i0.size+i0.size) _ _ (show(World.drew _).heap[w.heap.size]?=_ from s1.1)
   (by show cA++vs++Z.drop i0.size=_;rw[List.append_assoc (cA++vs),List.take_append_drop]) (by simp[hA,hvl]) (by rw[List.length_take,List.length_drop,List.length_drop];omega)
  rw[←hlen']
  refine Q5 hok s2.1 ?_ (by omega) hle ?_ dall hszs hnd hfn hff ⟨f1,f2⟩ ⟨f1,f2⟩ hfn (Hf hgr0 (Hf s1.2 (Hf (w':=World.drew _) ⟨rfl,rfl,rfl,Nat.le_refl _,fun _ _ _=>rfl⟩ s2.2))) hsz.symm
  ·simp only[List.size_toArray,List.length_append,hA,hvl,List.length_drop,hcl,hZl]
   omega
  ·rw[hlen', ←hB]
   exact hfit _
theorem Axz {ρ:Ren} {i0:TypeInfo} {zv:Value} (L:LDel P ρ i0 zv) (he:ρ.t 9<1000000) (l:List D) (i:Nat) (hi:i<l.length) (hl:l.length≤100000):
 Fn P (ρ.f 24) [.own [] (.vec (ρ.t 9) i0.size l),.v (.int .i64 i),.v (.int .i64 ((i+1:Nat):Int))] (Is (.own [] (.vec (ρ.t 9) i0.size (l.take i++l.drop (i+1)))) [.no,.no,.no]):=by
 intro G σ Fr w cargs hok hlen hargs
 have hc0:=(hargs 0 _ rfl).2
 have hc1:RepV G (.int .i64 i) (cargs.getD 1 undef):=(hargs 1 _ rfl).2
 have hc2:RepV G (.int .i64 ((i+1:Nat):Int)) (cargs.getD 2 undef):=(hargs 2 _ rfl).2
 rw[RepV.int]at hc1 hc2
 have hca:cargs= #[cargs.getD 0 undef,.int .i64 i,.int .i64 ((i+1:Nat):Int)]:=by
  rw[←hc1, ←hc2]
  apply Array.ext
  ·simpa using hlen
  ·intro j h1 h2
   have:j=0∨j=1∨j=2:=by simp at h2;omega
   rcases this with rfl|rfl|rfl<;>simp[Array.getD,h1]
 have hsz:cargs.size=3:=hlen
 generalize cargs.getD 0 undef=c0 at hc0 hca
 have hpos:=L.ipos
 rcases OwnD.row hc0 he with⟨_,h⟩|⟨g,cap,cur,xs,bs,rfl,r1,r2,r3,r4,r5,r6,r7,r8,r9,r10⟩
 ·rw[h]at hi;simp at hi
 have hfree:∀b,b=g∨b∈bs→G b=none∧Fr b=none∧b<w.heap.size:=fun b hb=>by
  obtain⟨j,hj⟩:=r10 b hb
  exact hok.own b _ hj
 have hcl:xs.length=l.length*i0.size:=by rw[RepDs.length r6,H7 r7]
 have hx1:=RepDs.one r6
 have hcs:∀j v,xs[j]?=some v→w.cell? ⟨g,j,none⟩=some v:=fun j v h=>Yo r1 j v (by rw[←r5]at h;exact h)
 obtain⟨cA,c1,bA,b1,hx,hb,dA,d1⟩:=RepDs.split (l:=l.take i) (m:=l.drop i) (by rw[List.take_append_drop];exact r6)
 obtain⟨cM,cB,bM,bB,hx2,hb2,dM,dB⟩:=RepDs.split (l:=[l[i]]) (m:=l.drop (i+1)) (by rw[List.singleton_append, ←List.drop_eq_getElem_cons hi];exact d1)
 have hA:cA.length=i*i0.size:=by rw[RepDs.length dA,H7 fun y hy=>r7 y (List.mem_of_mem_take hy),List.length_take,Nat.min_eq_left (Nat.le_of_lt hi)]
 have hM:cM.length=i0.size:=by rw[RepDs.length dM];simp[dsizes,r7 l[i] (List.getElem_mem hi)]
 have hAt:cA=xs.take (i*i0.size):=by rw[hx, ←hA];simp
 have hB:cB=xs.drop (i*i0.size+i0.size):=by rw[hx,hx2, ←hA, ←hM, ←List.append_assoc, ←List.length_append];simp
 have hni:(l.length - 1)*i0.size=l.length*i0.size - i0.size:=by rw[Nat.sub_mul,Nat.one_mul]
 have hin2:i*i0.size+i0.size≤l.length*i0.size:=by rw[←Nat.succ_mul];exact Nat.mul_le_mul_right _ hi
 have hBl:cB.length=l.length*i0.size - (i*i0.size+i0.size):=by rw[hB,List.length_drop,hcl]
 have dall:=dA.append dB
 have hszs:∀y∈l.take i++l.drop (i+1),y.size=i0.size:=by
  intro y hy
  rcases List.mem_append.1 hy with hy|hy
  ·exact r7 y (List.mem_of_mem_take hy)
  ·exact r7 y (List.mem_of_mem_drop hy)
 have hmem:∀b,b∈bA++bB→b∈bs:=by
  intro b h
  rw[hb,hb2]
  rcases List.mem_append.1 h with h|h<;>simp[h]
 have hnd:(bA++bB).Nodup:=by
  rw[hb,hb2,List.nodup_append]at r8
  obtain⟨n1,n2,n3⟩:=r8
  rw[List.nodup_append]
  exact⟨n1,(List.nodup_append.1 n2).2.1,fun a ha b hb e=>n3 a ha b (by simp[hb]) e⟩
 have hff:∀b∈bA++bB,G b=none∧Fr b=none∧b<w.heap.size:=fun b h=>hfree b (.inr (hmem b h))
 have hgn:g ∉ bA++bB:=fun h=>r9 (hmem g h)
 have hgG:G g=none∧Fr g=none:=⟨(hfree _ (.inl rfl)).1,(hfree _ (.inl rfl)).2.1⟩
 have hlen':(l.take i++l.drop (i+1)).length=l.length - 1:=by simp;omega
 have h63:maxLen=9223372036854775807:=rfl
 have hcur:cur.toList.length=cap*i0.size:=by simpa using r2
 have hcapk:l.length*i0.size≤cap*i0.size:=Nat.mul_le_mul_right _ r3
 have hfz:∀j,w.frozen? ⟨g,j,none⟩=false:=fun j=>by simp[World.frozen?,r1]
 rw[hca]
 refine(Bgs L g l.length cap i xs w hi r3 (by omega) hcl hcs (fun j _=>hfz j) hx1).mono ?_
 rintro e w1 ⟨rfl,rfl⟩
 rw[←hca]
 have s1:=Ky g (ρ.t 9) (0,0) (xs.drop (i*i0.size+i0.size)) cA ((cur.toList.drop (i*i0.size)).take (xs.drop (i*i0.size+i0.size)).length) ((cur.toList.drop (i*i0.size)).drop (xs.drop (i*i0.size+i0.size)).length)
  (i*i0.size) cur w.drew r1 (by rw[List.append_assoc,List.take_append_drop,hAt, ←r5,List.take_take,Nat.min_eq_left (by omega),List.take_append_drop]) hA (by rw[List.length_take,List.length_drop,List.length_drop];omega)
 have hzl:zv.cells.toList.length=i0.size:=by rw[←L.izs];simp
 have hTl:((cur.toList.drop (i*i0.size)).drop (xs.drop (i*i0.size+i0.size)).length).length=cap*i0.size - (l.length*i0.size - i0.size):=by
  rw[List.length_drop,List.length_drop,List.length_drop,hcur,hcl]
  omega
 obtain⟨T,hT⟩:∃T,T=(cur.toList.drop (i*i0.size)).drop (xs.drop (i*i0.size+i0.size)).length:=⟨_,rfl⟩
 rw[←hT]at s1 hTl
 have s2:=Ky g (ρ.t 9) (0,0) zv.cells.toList (cA++xs.drop (i*i0.size+i0.size)) (T.take i0.size) (T.drop i0.size) (l.length*i0.size - i0.size) _ _ s1.1
  (by show cA++xs.drop (i*i0.size+i0.size)++T=_;rw[List.append_assoc (cA++_),List.take_append_drop]) (by rw[List.length_append,hA,List.length_drop,hcl];omega) (by rw[List.length_take,hzl];omega)
 have hgr:w.grownBy ((w.drew.setCells g (i*i0.size) (xs.drop (i*i0.size+i0.size))).setCells g (l.length*i0.size - i0.size) zv.cells.toList) (some g):=
  Hf (w':=w.drew) ⟨rfl,rfl,rfl,Nat.le_refl _,fun _ _ _=>rfl⟩ (Hf s1.2 s2.2)
 rw[←hlen']
 refine Q5 hok s2.1 ?_ (by omega) r4 ?_ dall hszs hnd hgn hff hgG hgG hgn hgr hsz.symm
 ·simp only[List.size_toArray,List.length_append,hA,List.length_drop,hcl,Array.length_toList,L.izs,hTl]
  omega
 ·rw[hlen', ←hB,hni]
  show List.take _ (cA++cB++zv.cells.toList++List.drop i0.size T)=_
  rw[List.append_assoc,List.take_append_of_le_length (by rw[List.length_append,hA,hBl];omega),List.take_of_length_le (by rw[List.length_append,hA,hBl];omega)]
end
set_option maxRecDepth 100000

open Go.Proofs Go.Shelf
def Tr:Ren:=⟨fun n=>if n=22 then 112 else if n=29 then 130 else if n=30 then 131 else n,fun n=>if n=9 then 52 else if n=24 then 25 else n,fun n=>n⟩
theorem A65:LIns Tryz.prog Tr Tryz.t52 (Tryz.t52.zero.getD undef) where
 mixed:=by kernel_rfl
 f22:=⟨Tryz.f112.name,by kernel_rfl,by kernel_rfl⟩
 f29:=fun a w v h=>by
  rw[run_callFunc_extern (P:=Tryz.prog) (f:=Tr.f 29) (fn:=Tryz.f130) (e:=Extern.SlicesOverlaps.overlaps #[Tr.t 24,Tr.t 24] #[Tr.t 4]) (by kernel_rfl) (by kernel_rfl) (by kernel_rfl) (by kernel_rfl) (by kernel_rfl) a w,h]
  rfl
 t0:=by kernel_rfl
 a0:=fun _=>by kernel_rfl
 z0:=fun _=>by kernel_rfl
 v0:=fun _=>by kernel_rfl
 t3:=by kernel_rfl
 a3:=fun _=>by kernel_rfl
 z3:=fun _=>by kernel_rfl
 v3:=fun _=>by kernel_rfl
 t4:=by kernel_rfl
 a4:=fun _=>by kernel_rfl
 z4:=fun _=>by kernel_rfl
 v4:=fun _=>by kernel_rfl
 t24:=by kernel_rfl
 a24:=fun _=>by kernel_rfl
 z24:=fun _=>by kernel_rfl
 v24:=fun _=>by kernel_rfl
 z9:=fun _=>by kernel_rfl
 i9:=by kernel_rfl
 iz:=by kernel_rfl
 izs:=by kernel_rfl
 ipos:=by decide
 ib:=by decide
theorem Ati (l:List D) (x:D) (i:Nat) (hi:i≤l.length) (hl:l.length≤100000):Fn Tryz.prog Mt [.own [] (.vec Cc 3 l),.v (.int .i64 i),.own [] (.vec Cc 3 [x])] (Is (.own [] (.vec Cc 3 (l.take i++x::l.drop i))) [.no,.no,.no]):=
 Aqe A65 (by decide) l x i hi hl
def Zd:Ren:=⟨fun n=>if n=22 then 115 else if n=29 then 132 else if n=30 then 133 else n,fun n=>if n=9 then 43 else if n=24 then 26 else n,fun n=>n⟩
theorem Bea:LIns Tryz.prog Zd Tryz.t43 (Tryz.t43.zero.getD undef) where
 mixed:=by kernel_rfl
 f22:=⟨Tryz.f115.name,by kernel_rfl,by kernel_rfl⟩
 f29:=fun a w v h=>by
  rw[run_callFunc_extern (P:=Tryz.prog) (f:=Zd.f 29) (fn:=Tryz.f132) (e:=Extern.SlicesOverlaps.overlaps #[Zd.t 24,Zd.t 24] #[Zd.t 4]) (by kernel_rfl) (by kernel_rfl) (by kernel_rfl) (by kernel_rfl) (by kernel_rfl) a w,h]
  rfl
 t0:=by kernel_rfl
 a0:=fun _=>by kernel_rfl
 z0:=fun _=>by kernel_rfl
 v0:=fun _=>by kernel_rfl
 t3:=by kernel_rfl
 a3:=fun _=>by kernel_rfl
 z3:=fun _=>by kernel_rfl
 v3:=fun _=>by kernel_rfl
 t4:=by kernel_rfl
 a4:=fun _=>by kernel_rfl
 z4:=fun _=>by kernel_rfl
 v4:=fun _=>by kernel_rfl
 t24:=by kernel_rfl
 a24:=fun _=>by kernel_rfl
 z24:=fun _=>by kernel_rfl
 v24:=fun _=>by kernel_rfl
 z9:=fun _=>by kernel_rfl
 i9:=by kernel_rfl
 iz:=by kernel_rfl
 izs:=by kernel_rfl
 ipos:=by decide
 ib:=by decide
theorem A16 (l:List D) (x:D) (i:Nat) (hi:i≤l.length) (hl:l.length≤100000):Fn Tryz.prog Qn [.own [] (.vec B3 5 l),.v (.int .i64 i),.own [] (.vec B3 5 [x])] (Is (.own [] (.vec B3 5 (l.take i++x::l.drop i))) [.no,.no,.no]):=
 Aqe Bea (by decide) l x i hi hl
def Bdd:Ren:=⟨fun n=>if n=24 then 87 else n,fun n=>if n=9 then 43 else if n=24 then 26 else n,fun n=>n⟩
theorem Bdb:LDel Tryz.prog Bdd Tryz.t43 (Tryz.t43.zero.getD undef) where
 mixed:=by kernel_rfl
 f24:=⟨Tryz.f87.name,by kernel_rfl,by kernel_rfl⟩
 t0:=by kernel_rfl
 a0:=fun _=>by kernel_rfl
 z0:=fun _=>by kernel_rfl
 v0:=fun _=>by kernel_rfl
 t3:=by kernel_rfl
 a3:=fun _=>by kernel_rfl
 z3:=fun _=>by kernel_rfl
 v3:=fun _=>by kernel_rfl
 t4:=by kernel_rfl
 a4:=fun _=>by kernel_rfl
 z4:=fun _=>by kernel_rfl
 v4:=fun _=>by kernel_rfl
 t24:=by kernel_rfl
 a24:=fun _=>by kernel_rfl
 z24:=fun _=>by kernel_rfl
 v24:=fun _=>by kernel_rfl
 z9:=fun _=>by kernel_rfl
 v9:=fun _=>by kernel_rfl
 i9:=by kernel_rfl
 iz:=by kernel_rfl
 izs:=by kernel_rfl
 iz1:=by decide
 ipos:=by decide
theorem A1v (l:List D) (i:Nat) (hi:i<l.length) (hl:l.length≤100000):Fn Tryz.prog Qk [.own [] (.vec B3 5 l),.v (.int .i64 i),.v (.int .i64 ((i+1:Nat):Int))] (Is (.own [] (.vec B3 5 (l.take i++l.drop (i+1)))) [.no,.no,.no]):=
 Axz Bdb (by decide) l i hi hl
def Zc:Ren:=⟨fun n=>if n=22 then 122 else if n=29 then 135 else if n=30 then 136 else n,fun n=>if n=9 then 48 else if n=24 then 27 else n,fun n=>n⟩
theorem Bd9:LIns Tryz.prog Zc Tryz.t48 (Tryz.t48.zero.getD undef) where
 mixed:=by kernel_rfl
 f22:=⟨Tryz.f122.name,by kernel_rfl,by kernel_rfl⟩
 f29:=fun a w v h=>by
  rw[run_callFunc_extern (P:=Tryz.prog) (f:=Zc.f 29) (fn:=Tryz.f135) (e:=Extern.SlicesOverlaps.overlaps #[Zc.t 24,Zc.t 24] #[Zc.t 4]) (by kernel_rfl) (by kernel_rfl) (by kernel_rfl) (by kernel_rfl) (by kernel_rfl) a w,h]
  rfl
 t0:=by kernel_rfl
 a0:=fun _=>by kernel_rfl
 z0:=fun _=>by kernel_rfl
 v0:=fun _=>by kernel_rfl
 t3:=by kernel_rfl
 a3:=fun _=>by kernel_rfl
 z3:=fun _=>by kernel_rfl
 v3:=fun _=>by kernel_rfl
 t4:=by kernel_rfl
 a4:=fun _=>by kernel_rfl
 z4:=fun _=>by kernel_rfl
 v4:=fun _=>by kernel_rfl
 t24:=by kernel_rfl
 a24:=fun _=>by kernel_rfl
 z24:=fun _=>by kernel_rfl
 v24:=fun _=>by kernel_rfl
 z9:=fun _=>by kernel_rfl
 i9:=by kernel_rfl
 iz:=by kernel_rfl
 izs:=by kernel_rfl
 ipos:=by decide
 ib:=by decide
theorem A15 (l:List D) (x:D) (i:Nat) (hi:i≤l.length) (hl:l.length≤100000):Fn Tryz.prog Qm [.own [] (.vec B2 3 l),.v (.int .i64 i),.own [] (.vec B2 3 [x])] (Is (.own [] (.vec B2 3 (l.take i++x::l.drop i))) [.no,.no,.no]):=
 Aqe Bd9 (by decide) l x i hi hl
def Bdc:Ren:=⟨fun n=>if n=24 then 94 else n,fun n=>if n=9 then 48 else if n=24 then 27 else n,fun n=>n⟩
theorem Bda:LDel Tryz.prog Bdc Tryz.t48 (Tryz.t48.zero.getD undef) where
 mixed:=by kernel_rfl
 f24:=⟨Tryz.f94.name,by kernel_rfl,by kernel_rfl⟩
 t0:=by kernel_rfl
 a0:=fun _=>by kernel_rfl
 z0:=fun _=>by kernel_rfl
 v0:=fun _=>by kernel_rfl
 t3:=by kernel_rfl
 a3:=fun _=>by kernel_rfl
 z3:=fun _=>by kernel_rfl
 v3:=fun _=>by kernel_rfl
 t4:=by kernel_rfl
 a4:=fun _=>by kernel_rfl
 z4:=fun _=>by kernel_rfl
 v4:=fun _=>by kernel_rfl
 t24:=by kernel_rfl
 a24:=fun _=>by kernel_rfl
 z24:=fun _=>by kernel_rfl
 v24:=fun _=>by kernel_rfl
 z9:=fun _=>by kernel_rfl
 v9:=fun _=>by kernel_rfl
 i9:=by kernel_rfl
 iz:=by kernel_rfl
 izs:=by kernel_rfl
 iz1:=by decide
 ipos:=by decide
theorem A1u (l:List D) (i:Nat) (hi:i<l.length) (hl:l.length≤100000):Fn Tryz.prog Qj [.own [] (.vec B2 3 l),.v (.int .i64 i),.v (.int .i64 ((i+1:Nat):Int))] (Is (.own [] (.vec B2 3 (l.take i++l.drop (i+1)))) [.no,.no,.no]):=
 Axz Bda (by decide) l i hi hl
def Ae1:Ren:=⟨fun n=>if n=22 then 90 else if n=29 then 118 else if n=30 then 119 else n,fun n=>if n=9 then 9 else if n=24 then 41 else n,fun n=>n⟩
theorem Bhc:LIns Tryz.prog Ae1 Tryz.t9 (Tryz.t9.zero.getD undef) where
 mixed:=by kernel_rfl
 f22:=⟨Tryz.f90.name,by kernel_rfl,by kernel_rfl⟩
 f29:=fun a w v h=>by
  rw[run_callFunc_extern (P:=Tryz.prog) (f:=Ae1.f 29) (fn:=Tryz.f118) (e:=Extern.SlicesOverlaps.overlaps #[Ae1.t 24,Ae1.t 24] #[Ae1.t 4]) (by kernel_rfl) (by kernel_rfl) (by kernel_rfl) (by kernel_rfl) (by kernel_rfl) a w,h]
  rfl
 t0:=by kernel_rfl
 a0:=fun _=>by kernel_rfl
 z0:=fun _=>by kernel_rfl
 v0:=fun _=>by kernel_rfl
 t3:=by kernel_rfl
 a3:=fun _=>by kernel_rfl
 z3:=fun _=>by kernel_rfl
 v3:=fun _=>by kernel_rfl
 t4:=by kernel_rfl
 a4:=fun _=>by kernel_rfl
 z4:=fun _=>by kernel_rfl
 v4:=fun _=>by kernel_rfl
 t24:=by kernel_rfl
 a24:=fun _=>by kernel_rfl
 z24:=fun _=>by kernel_rfl
 v24:=fun _=>by kernel_rfl
 z9:=fun _=>by kernel_rfl
 i9:=by kernel_rfl
 iz:=by kernel_rfl
 izs:=by kernel_rfl
 ipos:=by decide
 ib:=by decide
theorem A33 (l:List D) (x:D) (i:Nat) (hi:i≤l.length) (hl:l.length≤100000):Fn Tryz.prog S4 [.own [] (.vec Em 1 l),.v (.int .i64 i),.own [] (.vec Em 1 [x])] (Is (.own [] (.vec Em 1 (l.take i++x::l.drop i))) [.no,.no,.no]):=
 Aqe Bhc (by decide) l x i hi hl
def Bgr:Ren:=⟨fun n=>if n=24 then 89 else n,fun n=>if n=9 then 9 else if n=24 then 41 else n,fun n=>n⟩
theorem Bgq:LDel Tryz.prog Bgr Tryz.t9 (Tryz.t9.zero.getD undef) where
 mixed:=by kernel_rfl
 f24:=⟨Tryz.f89.name,by kernel_rfl,by kernel_rfl⟩
 t0:=by kernel_rfl
 a0:=fun _=>by kernel_rfl
 z0:=fun _=>by kernel_rfl
 v0:=fun _=>by kernel_rfl
 t3:=by kernel_rfl
 a3:=fun _=>by kernel_rfl
 z3:=fun _=>by kernel_rfl
 v3:=fun _=>by kernel_rfl
 t4:=by kernel_rfl
 a4:=fun _=>by kernel_rfl
 z4:=fun _=>by kernel_rfl
 v4:=fun _=>by kernel_rfl
 t24:=by kernel_rfl
 a24:=fun _=>by kernel_rfl
 z24:=fun _=>by kernel_rfl
 v24:=fun _=>by kernel_rfl
 z9:=fun _=>by kernel_rfl
 v9:=fun _=>by kernel_rfl
 i9:=by kernel_rfl
 iz:=by kernel_rfl
 izs:=by kernel_rfl
 iz1:=by decide
 ipos:=by decide
theorem A3v (l:List D) (i:Nat) (hi:i<l.length) (hl:l.length≤100000):Fn Tryz.prog S3 [.own [] (.vec Em 1 l),.v (.int .i64 i),.v (.int .i64 ((i+1:Nat):Int))] (Is (.own [] (.vec Em 1 (l.take i++l.drop (i+1)))) [.no,.no,.no]):=
 Axz Bgq (by decide) l i hi hl

def Es:SV→Option SV
 | .own _ t=>match t.toI with
   |some y=>some (.v y)
   |none=>none
 | .tupd l=>match toIs l with
   |some r=>some (.tup (r.map F.i))
   |none=>none
 | .v x=>some (.v x)
 |_=>none
theorem A5f {G:Mem} {y:I} {v:Value} (h:RepI G y v.cells.toList) (hv:valOf y.isAgg v=true):RepV G y v:=by
 unfold RepV
 cases hx:y.isAgg with
 |true=>
  rw[hx]at hv
  obtain⟨a',rfl⟩:=Qh hv
  rw[if_pos rfl]
  exact⟨a',rfl,h⟩
 |false=>
  rw[hx]at hv
  rw[Fp hv]at h
  rw[if_neg (by simp)]
  exact h
theorem Auu {G G':Mem} {σ:Lab} {w:World} {s:Nat} (hG:G.le G'):∀{l:List D} {r:List I} {cs:List Value} {bs:List Nat} {j:Nat},RepVs G w l cs bs→toIs l=some r→(∀b∈bs,G' b=w.heap[b]?)→RepTup G' σ w s j (r.map F.i) cs
 | [],r,cs,bs,j,h,hr,_=>by
   simp only[toIs,Option.some.injEq]at hr
   subst hr
   simp only[RepVs]at h
   simp[RepTup,h.1]
 |d::l,r,cs,bs,j,h,hr,hb=>by
  simp only[toIs]at hr
  split at hr
  ·rename_i x hx
   split at hr
   ·rename_i r' hr'
    cases hr
    simp only[RepVs]at h
    obtain⟨v,c',b,b',rfl,rfl,hv,h1,h2⟩:=h
    simp only[List.map_cons,RepTup]
    refine⟨v,c',rfl,A5f (RepD.toI hG h1 hx fun b hb'=>hb b (by simp[hb'])) ?_,Auu hG h2 hr' fun b hb'=>hb b (by simp[hb'])⟩
    rw[(toI_shape hx).2];exact hv
   ·cases hr
  ·cases hr
theorem Fn.frz {P:Program} {f:FuncId} {args:List SV} {Post Post':SV→List SV→Prop} (h:Fn P f args Post) (hP:∀r az,Post r az→∃r',Es r=some r'∧Post' r' az):Fn P f args Post':=by
 intro G σ Fr w cargs hok hsz hin
 refine(h G σ Fr w cargs hok hsz hin).mono ?_
 rintro e w' ⟨r,az,c,G1,σ1,rfl,hp,hG,hok1,hroot,hrep,hlen,has⟩
 obtain⟨r',hfr,hp'⟩:=hP r az hp
 let G2:Mem:=fun b=>match σ1 b with
  |some (s,_)=>if s=args.length then w'.heap[b]? else G1 b
  |none=>G1 b
 let σ2:Lab:=fun b=>match σ1 b with
  |some (s,k)=>if s=args.length then none else some (s,k)
  |none=>none
 have hG2n:∀b k,σ1 b=some (args.length,k)→G2 b=w'.heap[b]?:=by
  intro b k hb
  simp only[G2,hb,if_true]
 have hG2o:∀b,(∀k,σ1 b≠some (args.length,k))→G2 b=G1 b:=by
  intro b hb
  simp only[G2]
  split
  ·rename_i s k hs
   split
   ·rename_i hsn;subst hsn;exact absurd hs (hb k)
   ·rfl
  ·rfl
 have hle:G1.le G2:=by
  intro b o hb
  rw[hG2o b]
  ·exact hb
  ·intro k hk
   rw[(hok1.own b _ hk).1]at hb
   cases hb
 have hσ2:∀b s k,σ2 b=some (s,k)→σ1 b=some (s,k)∧s≠args.length:=by
  intro b s k hb
  simp only[σ2]at hb
  split at hb
  ·rename_i s' k' hs
   split at hb
   ·cases hb
   ·rename_i hne;cases hb;exact⟨hs,hne⟩
  ·cases hb
 have hok2:WOk G2 σ2 Fr ⟨w,0, #[]⟩ w':=by
  refine⟨?_,?_,?_,hok1.frame,hok1.os,hok1.tape,hok1.output,hok1.size,?_,Amb.mono hle hok1.amb⟩
  ·intro b o hb
   by_cases hk:∃k,σ1 b=some (args.length,k)
   ·obtain⟨k,hk⟩:=hk
    rw[hG2n b k hk]at hb;exact hb
   ·rw[hG2o b (fun k hk'=>hk ⟨k,hk'⟩)]at hb
    exact hok1.fixed b o hb
  ·rintro b ⟨s,k⟩ hb
   obtain⟨h1,h2⟩:=hσ2 b s k hb
   obtain⟨h3,h4,h5⟩:=hok1.own b _ h1
   refine⟨?_,h4,h5⟩
   rw[hG2o b (fun k' hk'=>?_)]
   ·exact h3
   ·rw[h1]at hk';cases hk';exact h2 rfl
  ·rintro b b' ⟨s,k⟩ hb hb'
   exact hok1.inj b b' _ (hσ2 b s k hb).1 (hσ2 b' s k hb').1
  ·intro b o hb
   by_cases hk:∃k,σ1 b=some (args.length,k)
   ·obtain⟨k,hk⟩:=hk
    rw[(hok1.own b _ hk).2.1]at hb;cases hb
   ·rw[hG2o b (fun k hk'=>hk ⟨k,hk'⟩)]
    exact hok1.apart b o hb
 have hasn:∀i sv,az[i]?=some sv→sv.root=none∧RepOwn G2 σ2 w' i sv (cargs.getD i undef):=by
  intro i sv hi
  obtain⟨h1,h2⟩:=has i sv hi
  refine⟨h1,RepOwn.tr h2 hle fun b k hb=>⟨?_,rfl⟩⟩
  have hil:i<args.length:=by
   have:=(List.getElem?_eq_some_iff.1 hi).1
   omega
  simp only[σ2,hb]
  rw[if_neg (by omega)]
 refine⟨r',az,c,G2,σ2,rfl,hp',hG.trans hle,hok2,?_,?_,hlen,hasn⟩
 ·unfold Es at hfr
  split at hfr
  ·split at hfr
   ·cases hfr;rfl
   ·cases hfr
  ·split at hfr
   ·cases hfr;rfl
   ·cases hfr
  ·cases hfr;rfl
  ·cases hfr
 ·unfold Es at hfr
  split at hfr
  ·rename_i inv t
   split at hfr
   ·rename_i y hy
    cases hfr
    obtain⟨bs,h1,h2,h3,h4⟩:=(show OwnD G1 σ1 w' args.length t c from hrep)
    refine A5f (RepD.toI hle h1 hy fun b hb=>?_) (by rw[(toI_shape hy).2];exact h2)
    obtain⟨k,hk⟩:=h4 b hb
    exact hG2n b k hk
   ·cases hfr
  ·rename_i l
   split at hfr
   ·rename_i r0 hr0
    cases hfr
    obtain⟨a,bs,h0,h1,h3,h4⟩:=(show OwnT G1 σ1 w' args.length l c from hrep)
    refine⟨a,h0,Auu hle h1 hr0 fun b hb=>?_⟩
    obtain⟨k,hk⟩:=h4 b hb
    exact hG2n b k hk
   ·cases hfr
  ·cases hfr
   exact RepV.mono hle hrep
  ·cases hfr
end Go.Ab
