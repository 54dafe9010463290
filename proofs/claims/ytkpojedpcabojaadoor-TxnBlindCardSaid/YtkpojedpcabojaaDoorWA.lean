/- Lemmas -/
import Derived.Test.YtkpojedpcabojaaDoorNI
import Derived.Shelf.SlIter.Nil
import Derived.Shelf.SortM.Plain
import Derived.Shelf.SortM.SortNone
set_option linter.unusedVariables false
set_option linter.unusedSimpArgs false
namespace Go.Ab
open Go.Shelf Go.RowKit Go.Lib Go.Proofs
theorem H8.split{G:Mem}{w:World}:∀{l m:List D} {cs:List Value} {bs:List Nat},H8 G w (l++m) cs bs→∃c c' b b',cs=c++c'∧bs=b++b'∧H8 G w l c b∧H8 G w m c' b'
 | [],m,cs,bs,h=>⟨[],cs,[],bs,rfl,rfl,by simp[H8],h⟩
 |d::l,m,cs,bs,h=>by
  simp only[H3,H8]at h;obtain⟨c,c',b,b',rfl,rfl,h1,h2⟩:=h;obtain⟨p,p',q,q',rfl,rfl,h3,h4⟩:=H8.split h2;refine⟨c++p,p',b++q,q',by simp,by simp,?_,h4⟩
  simp only[H8];exact⟨c,p,b,q,rfl,rfl,h1,h3⟩
theorem grownBy_refl(w:World)(r:Option Nat):w.grownBy w r:=⟨rfl,rfl,rfl,Bz _,fun _ _ _=>rfl⟩
theorem Dd{w w' w'':World}{r:Option Nat}(h:w.grownBy w' r)(h':w'.grownBy w'' r):w.grownBy w'' r:=
 ⟨h'.os.trans h.os,h'.tape.trans h.tape,h'.output.trans h.output,Kq h.size h'.size,fun k hk hr=>(h'.block k (Nat.lt_of_lt_of_le hk h.size) hr).trans (h.block k hk hr)⟩
theorem Eh(g:Nat)(t:TypeId)(fz:Nat × Nat):∀(vs A X B:List Value) (o:Nat) (cur:Array Value) (w:World),w.heap[g]?=some (.cells cur t fz)→cur.toList=A++X++B→A.length=o→X.length=vs.length→
 (w.setCells g o vs).heap[g]?=some (.cells (A++vs++B).toArray t fz)∧w.grownBy (w.setCells g o vs) (some g)
 | [],A,X,B,o,cur,w,hg,hc,_,hx=>by
   obtain rfl:X=[]:=by simpa using hx
   refine⟨?_,grownBy_refl w _⟩;rw[World.setCells,hg, ←hc]
 |v::r,A,X,B,o,cur,w,hg,hc,ho,hx=>by
  obtain⟨x,X',rfl⟩:∃x X',X=x::X':=by
   cases X with
   |nil=>simp at hx
   |cons x X'=>exact⟨x,X',rfl⟩
  have h1:(cur.setIfInBounds o v).toList=(A++[v])++X'++B:=by
   rw[Array.toList_setIfInBounds,hc, ←ho];simp
  have hs:=setCell_eq_setRow w g o cur t fz v hg;have ih:=Eh g t fz r (A++[v]) X' B (o+1) (cur.setIfInBounds o v) (w.setCell ⟨g,o,none⟩ v) (by rw[hs];exact setRow_heap w g cur _ t fz hg) h1 (by simp[ho]) (by simpa using hx)
  rw[World.setCells];refine⟨by simpa using ih.1,Dd ?_ ih.2⟩
  rw[hs];exact⟨rfl,rfl,rfl,by simp[World.setRow],fun k _ hk=>setRow_other w g k _ (fun e=>hk (by rw[e]))⟩
theorem R5(z:Array Value)(n:Nat):(Builtin.zeroCells z n).size=n*z.size:=by simp[Builtin.zeroCells]
section
variable{P:Program}
theorem Fw{G:Mem}{σ:Lab}{Fr:Mem}{w w':World}{Ahz:Array Value}{m:Nat}(H2:WOk G σ Fr ⟨w,0, #[]⟩ w){g cap:Nat}{e:TypeId}{row:Array Value}{k:Nat}{l:List D}{xs:List Value}{bs:List Nat}
 (hg:w'.heap[g]?=some (.cells row e (0,0))) (hrs:row.size=cap*k) (hlc:l.length≤cap) (hcm:cap≤maxLen) (hx:row.toList.take (l.length*k)=xs) (hd:H8 G w l xs bs) (hs:∀x∈l,x.size=k)
 (hn:bs.Nodup) (hgb:g ∉ bs) (hf:∀b∈bs,G b=none∧Fr b=none∧b<w.heap.size) (hgf:G g=none∧Fr g=none) {q:Nat} (hqf:G q=none∧Fr q=none) (hq:q ∉ bs) (hgr:w.grownBy w' (some q)) (hm:m=Ahz.size):
 ∃(r:SV) (outs:List SV) (c:Value) (G':Mem) (σ':Lab),Ending.returned (Value.slice (some ⟨g,0,none⟩) l.length cap)= .returned c∧Is (.own [] (.vec e k l)) (List.replicate m .no) r outs∧G.le G'∧WOk G' σ' Fr ⟨w,0, #[]⟩ w'∧
  r.root=none∧Ab1 G' σ' w' m r c∧outs.length=m∧∀i sv,outs[i]?=some sv→sv.root=none∧Ab1 G' σ' w' i sv (Ahz.getD i undef):=by
 have hgl:g<w'.heap.size:=(Ht.1 hg).1
 let σ':Lab:=fun b=>if b∈g::bs then some (m,(g::bs).idxOf b)else none
 have inv:∀{b Gf},σ' b=some Gf→b∈g::bs∧Gf=(m,(g::bs).idxOf b):=by
  intro b Gf h;simp only[σ']at h;split at h
  ·rename_i h1;cases h;exact⟨h1,rfl⟩
  ·cases h
 have Asq:∀(M:Mem),M q=none→(∀b o,M b=some o→w.heap[b]?=some o)→∀b o,M b=some o→w'.heap[b]?=some o:=by
  intro M hMg hM b o hb;have h1:=hM b o hb;rw[hgr.block b (Ht.1 h1).1 (fun e=>by cases e;rw[hMg]at hb;cases hb)]
  exact h1
 refine⟨_,_,_,G,σ',rfl,⟨rfl,rfl⟩,Mem.le.refl G,⟨Asq G hqf.1 H2.fixed,?_,?_,Asq Fr hqf.2 H2.frame,hgr.os,hgr.tape,hgr.output,hgr.size,H2.apart,H2.amb⟩,rfl,?_,by simp,?_⟩
 ·intro b Gf h;rcases Bg.1 (inv h).1 with rfl|hb
  ·exact⟨hgf.1,hgf.2,hgl⟩
  ·obtain⟨h1,h2,h3⟩:=hf b hb;exact⟨h1,h2,Nat.lt_of_lt_of_le h3 hgr.size⟩
 ·intro b b' Gf h h';obtain⟨h1,rfl⟩:=inv h;obtain⟨h2,h3⟩:=inv h';exact Wu h1 h2 (by simpa using h3)
 ·refine⟨g::bs,?_,rfl,Hw.2 ⟨hgb,hn⟩,fun b hb=>⟨(g::bs).idxOf b,by simp only[σ',hb,if_true]⟩⟩
  simp only[Fe,Value.cells];refine .inr ⟨g,0,cap,row,xs,bs,rfl,Row.of hg,fun _=>⟨rfl,hrs⟩,hlc,hcm,by rw[hrs,E3];exact Bz _,by simpa using hx,hd.tr (Mem.le.refl G) fun b hb=>?_,hs,rfl⟩
  exact hgr.block b (hf b hb).2.2 (fun e=>by cases e;exact hq hb)
 ·intro i sv hi;obtain rfl:sv= .no:=(List.mem_replicate.1 (Cb hi)).2;exact⟨rfl,trivial⟩
theorem Ac5.row{G:Mem}{σ:Lab}{w:World}{s:Nat}{e:TypeId}{k:Nat}{l:List D}{c:Value}(h:Ac5 G σ w s (.vec e k l) c)(he:e<1000000):(c= .slice none 0 0∧l=[])∨
 ∃g cap cur xs bs,c= .slice (some ⟨g,0,none⟩) l.length cap∧w.heap[g]?=some (.cells cur e (0,0))∧cur.size=cap*k∧l.length≤cap∧cap≤maxLen∧cur.toList.take (l.length*k)=xs∧H8 G w l xs bs∧(∀x∈l,x.size=k)∧
  bs.Nodup∧g ∉ bs∧∀b,b=g∨b∈bs→∃j,σ b=some (s,j):=by
 obtain⟨bs,h1,h2,h3,h4⟩:=h;rw[J9 h2]at h1;simp only[Fe]at h1;rcases h1 with⟨h1,rfl,_⟩|⟨g,off,cap,cur,xs,bs',h1,r1,r2,r3,r4,r5,r6,r7,r8,rfl⟩
 ·injection h1 with h1
  exact .inl ⟨h1,rfl⟩
 ·injection h1 with h1
  obtain⟨rfl,r2'⟩:=r2 he;have hn:=Hw.1 h3;exact .inr ⟨g,cap,cur,xs,bs',h1,r1.to he,r2',r3,r4,by simpa using r6,r7,r8,hn.2,hn.1,fun b hb=>h4 b (by simpa using hb)⟩
theorem Mx{w:World}{g:Nat}{cur:Array Value}{e:TypeId}(hg:w.heap[g]?=some (.cells cur e (0,0))){n:Nat}(j:Nat)(v:Value)(h:(cur.toList.take n)[j]?=some v):w.cell? ⟨g,j,none⟩=some v:=by
 rw[Am5]at h;split at h
 ·have:=cell_of_row w g j cur _ _ hg;rw[this];simpa using h
 ·cases h
theorem Afs{ρ:Ren}{i0:TypeInfo}{zv:Value}(L:Bab P ρ i0 zv)(he:ρ.t 9<1000000)(l:List D)(x:D)(i:Nat)(hi:i≤l.length)(hl:l.length≤100000):
 Fn P (ρ.f 22) [.own [] (.vec (ρ.t 9) i0.size l),.v (.int .i64 i),.own [] (.vec (ρ.t 9) i0.size [x])] (Is (.own [] (.vec (ρ.t 9) i0.size (l.take i++x::l.drop i))) [.no,.no,.no]):=by
 intro G σ Fr w Ahz H2 hlen Ar2;have hc0:=(Ar2 0 _ rfl).2;have hc1:C7 G (.int .i64 i) (Ahz.getD 1 undef):=(Ar2 1 _ rfl).2;have hc2:=(Ar2 2 _ rfl).2;rw[C7.int]at hc1;have hca:Ahz= #[Ahz.getD 0 undef,.int .i64 i,Ahz.getD 2 undef]:=by
  rw[←hc1];apply Array.ext
  ·simpa using hlen
  ·intro j h1 h2;have:j=0∨j=1∨j=2:=by simp at h2;omega
   rcases this with rfl|rfl|rfl<;>simp[Array.getD,h1]
 have Hr:Ahz.size=3:=hlen;generalize Ahz.getD 0 undef=c0 at hc0 hca;generalize Ahz.getD 2 undef=c2 at hc2 hca;have Bub:=L.Bbx;rcases Ac5.row hc2 he with⟨_,h⟩|⟨vb,vc,Buz,vs,vbs,rfl,v1,v2,v3,v4,v5,v6,v7,v8,v9,v10⟩
 ·cases h
 have hk:x.size=i0.size:=v7 x (by simp)
 have hvl:vs.length=1*i0.size:=by rw[H8.length v6];simp[Ae5,hk]
 have hvs:∀j v,vs[j]?=some v→w.cell? ⟨vb,j,none⟩=some v:=fun j v h=>Mx v1 j v (by rw[←v5]at h;exact h)
 have hv1:=H8.one v6;have A97:∀b,b=vb∨b∈vbs→G b=none∧Fr b=none∧b<w.heap.size:=fun b hb=>by
  obtain⟨j,hj⟩:=v10 b hb;exact H2.own b _ hj
 have Bh4:∀n,n≤100001→n*i0.bytes≤140737488355328:=fun n hn=>by
  have:n*i0.bytes≤100001*100000:=Nat.mul_le_mul hn L.ib;omega
 rcases Ac5.row hc0 he with⟨rfl,rfl⟩|⟨g,cap,cur,xs,bs,rfl,r1,r2,r3,r4,r5,r6,r7,r8,r9,r10⟩
 · 
  obtain rfl:i=0:=by simpa using hi
  obtain⟨v',w',Aih,q1,q2,_,q3⟩:=run_append_own_at (P:=P) w 0 (ρ.t 24) (ρ.t 3) (ρ.t 9) i0 zv i0.size i0.bytes L.t24 L.i9 L.iz rfl rfl L.izs L.Bbx (.slice none 0 0) 0 [] (Arr.to (Arr.nil w _ _) he) ⟨vb,0,none⟩ 1 vc vs hvl
   (fun j u hj=>by rw[Addr.add_lit,E3];exact hvs j u hj) hv1 (by simp[maxLen]) (Bh4 _ (by omega)) (Cr _)
  have A90:∀ty,(Builtin.append_ #[ρ.t 24,ρ.t 24] ty #[.slice none 0 0,.slice (some ⟨vb,0,none⟩) 1 vc]).run P w= .ok v' w':=fun ty=>Aih
  rw[hca];refine(Yc L none 0 0 vb vc w (fun _=>⟨rfl,rfl⟩) (Bz _) A90).mono ?_
  rintro e w1 ⟨rfl,rfl⟩;rcases q1.2 with⟨_,h⟩|⟨g',Azd,Amr,rfl,_,k1,k2,k3,k4,k5⟩
  ·cases h
  rcases q3 with h|h
  ·simp[Value.ownBlock]at h
  simp only[Value.ownBlock,A0]at h;subst h;obtain⟨f1,f2,f3⟩:=H2.fresh (Bz _);rw[←hca];refine Fw (l:=[x]) (bs:=vbs) H2 k1 k4 k2 k3 (by simpa using k5) (by simpa using v6) v7 v8 (fun hb=>?_) (fun b hb=>A97 b (.inr hb)) ⟨f1,f2⟩ (q:=w.heap.size) ⟨f1,f2⟩ (fun hb=>?_) ?_ Hr.symm
  ·have:=(A97 _ (.inr hb)).2.2;omega
  ·have:=(A97 _ (.inr hb)).2.2;omega
  ·exact⟨q2.os,q2.tape,q2.output,q2.size,fun k hk _=>q2.block k hk (by simp[Value.ownBlock])⟩
 have Atb:∀b,b=g∨b∈bs→G b=none∧Fr b=none∧b<w.heap.size:=fun b hb=>by
  obtain⟨j,hj⟩:=r10 b hb;exact H2.own b _ hj
 have Axq:∀b,b=g∨b∈bs→¬(b=vb∨b∈vbs):=fun b hb Sy=>by
  obtain⟨j,hj⟩:=r10 b hb;obtain⟨j',hj'⟩:=v10 b Sy;rw[hj]at hj';cases hj'
 have hcl:xs.length=l.length*i0.size:=by rw[H8.length r6,Lr r7]
 have hx1:=H8.one r6;have hcs:∀j v,xs[j]?=some v→w.cell? ⟨g,j,none⟩=some v:=fun j v h=>Mx r1 j v (by rw[←r5]at h;exact h)
 have hgv:vb≠g:=fun e=>Axq g (.inl rfl) (.inl e.symm)
 obtain⟨cA,cB,bA,bB,Bo5,Bea,dA,dB⟩:=H8.split (l:=l.take i) (m:=l.drop i) (by rw[Fj];exact r6)
 have hA:cA.length=i*i0.size:=by rw[H8.length dA,Lr fun y hy=>r7 y (P2 hy),Hg,U6 hi]
 have hB:cB=xs.drop (i*i0.size):=by rw[Bo5, ←hA];simp
 have hAt:cA=xs.take (i*i0.size):=by rw[Bo5, ←hA];simp
 have Bd3:H8 G w (l.take i++x::l.drop i) (cA++vs++cB) (bA++vbs++bB):=by
  have:=(dA.append v6).append dB;simpa using this
 have A8f:∀y∈l.take i++x::l.drop i,y.size=i0.size:=by
  intro y hy;rcases Bv.1 hy with hy|hy
  ·exact r7 y (P2 hy)
  ·rcases Bg.1 hy with rfl|hy
   ·exact hk
   ·exact r7 y (Agw hy)
 have Aw4:∀b,b∈bA++vbs++bB→b∈bs∨b∈vbs:=by
  intro b hb;simp only[Bv]at hb;rw[Bea];simp only[Bv];rcases hb with(hb|hb)|hb
  ·exact .inl (.inl hb)
  ·exact .inr hb
  ·exact .inl (.inr hb)
 have hnd:(bA++vbs++bB).Nodup:=by
  rw[Bea,Hb]at r8;obtain⟨n1,n2,n3⟩:=r8;have c1:∀b∈bA,b ∉ vbs:=fun b hb Sy=>Axq b (.inr (by rw[Bea];simp[hb])) (.inr Sy)
  have c2:∀b∈bB,b ∉ vbs:=fun b hb Sy=>Axq b (.inr (by rw[Bea];simp[hb])) (.inr Sy)
  rw[Hb,Hb];refine⟨⟨n1,v8,fun a ha b hb e=>c1 a ha (e ▸ hb)⟩,n2,fun a ha b hb e=>?_⟩
  rcases Bv.1 ha with ha|ha
  ·exact n3 a ha b hb e
  ·exact c2 b hb (e ▸ ha)
 have hff:∀b∈bA++vbs++bB,G b=none∧Fr b=none∧b<w.heap.size:=fun b hb=>by
  rcases Aw4 b hb with h|h
  ·exact Atb b (.inr h)
  ·exact A97 b (.inr h)
 have hgn:g ∉ bA++vbs++bB:=fun hb=>by
  rcases Aw4 g hb with h|h
  ·exact r9 h
  ·exact Axq g (.inl rfl) (.inr h)
 have hgG:G g=none∧Fr g=none:=⟨(Atb _ (.inl rfl)).1,(Atb _ (.inl rfl)).2.1⟩;have hfn:w.heap.size ∉ bA++vbs++bB:=fun hb=>Nat.lt_irrefl _ (hff _ hb).2.2
 have A7c:(l.take i++x::l.drop i).length=l.length+1:=by simp;omega
 have h63:maxLen=9223372036854775807:=rfl;have hnk:(l.length+1)*i0.size=l.length*i0.size+i0.size:=Nat.succ_mul ..;have Bia:i*i0.size≤l.length*i0.size:=Jh _ hi;by_cases hin:i=l.length
 · 
  obtain⟨v',w',Aih,q1,q2,_,q3⟩:=run_append_own_at (P:=P) w 0 (ρ.t 24) (ρ.t 3) (ρ.t 9) i0 zv i0.size i0.bytes L.t24 L.i9 L.iz rfl rfl L.izs L.Bbx (.slice (some ⟨g,0,none⟩) l.length cap) l.length xs
   ⟨hcl,.inr ⟨g,cap,cur,rfl,Cr _,r1,r3,r4,r2,r5⟩⟩ ⟨vb,0,none⟩ 1 vc vs hvl
   (fun j u hj=>by rw[Addr.add_lit,E3];exact hvs j u hj) hv1 (by simp[maxLen];omega) (Bh4 _ (by omega)) (Cr _)
  subst hin;rw[hca];refine(Yc L (some ⟨g,0,none⟩) l.length cap vb vc w (fun h=>by cases h) r3 (fun ty=>Aih)).mono ?_
  rintro e w1 ⟨rfl,rfl⟩;rw[←hca];rcases q1.2 with⟨_,h⟩|⟨g',Azd,Amr,rfl,_,k1,k2,k3,k4,k5⟩
  ·omega
  have hB0:cB=[]:=by rw[hB, ←hcl];simp
  have hAx:cA=xs:=by rw[hAt, ←hcl];simp
  rw[←A7c]at k2 k5 ⊢;rcases q3 with h|h
  ·simp only[Value.ownBlock,A0]at h;subst h;refine Fw H2 k1 k4 k2 k3 (by rw[k5,hB0,hAx,R2]) Bd3 A8f hnd hgn hff hgG hgG hgn ?_ Hr.symm
   simpa[Value.ownBlock]using q2
  ·simp only[Value.ownBlock,A0]at h;subst h;obtain⟨f1,f2,f3⟩:=H2.fresh (Bz _);refine Fw H2 k1 k4 k2 k3 (by rw[k5,hB0,hAx,R2]) Bd3 A8f hnd hfn hff ⟨f1,f2⟩ hgG hgn ?_ Hr.symm
   simpa[Value.ownBlock]using q2
 have Ze:i<l.length:=by omega
 have By9:i*i0.size+i0.size≤l.length*i0.size:=by rw[←Nat.succ_mul];exact Jh _ Ze
 have hBl:cB.length=l.length*i0.size - i*i0.size:=by rw[hB,Ei,hcl]
 have A4s:∀T:List Value,((cA++vs++cB)++T).take ((l.length+1)*i0.size)=cA++vs++cB:=fun T=>by
  rw[List.take_append_of_le_length (by simp;omega),Am2 (by simp;omega)]
 by_cases A7j:l.length+1≤cap
 · 
  have Au0:cur.toList.length=cap*i0.size:=by simpa using r2
  have Byu:(l.length+1)*i0.size≤cap*i0.size:=Jh _ A7j;have Auv:∀j,j<(l.length+1)*i0.size→(w.cell? ⟨g,j,none⟩).isSome=true:=fun j hj=>by
   rw[cell_of_row w g j cur _ _ r1,E6 (by omega)];rfl
  have hfz:∀(b j:Nat) (row:Array Value) (t:TypeId),w.heap[b]?=some (.cells row t (0,0))→w.frozen? ⟨b,j,none⟩=false:=fun b j row t h=>by simp[World.frozen?,h]
  have hsh:∀(b:Nat) (row:Array Value) (t:TypeId),w.heap[b]?=some (.cells row t (0,0))→w.shape? b=some (t,row.size):=fun b row t h=>by simp[World.shape?,h]
  rw[hca];refine(Abq L g l.length cap i vb vc xs vs w Ze A7j (by omega) hgv hcl hvl hcs Auv (fun j _=>hfz g j cur _ r1) hvs hx1 hv1 _ _ Buz.size cur.size (hsh _ _ _ v1) (hsh _ _ _ r1) (by omega) (hfz _ _ _ _ v1) (hfz _ _ _ _ v1)).mono ?_
  rintro e w1 ⟨rfl,rfl⟩;rw[←hca];have s1:=Eh g (ρ.t 9) (0,0) (xs.drop (i*i0.size)) (cur.toList.take (i*i0.size+i0.size)) ((cur.toList.drop (i*i0.size+i0.size)).take (xs.drop (i*i0.size)).length) ((cur.toList.drop (i*i0.size+i0.size)).drop (xs.drop (i*i0.size)).length)
   (i*i0.size+i0.size) cur w.drew r1 (by rw[Df,Fj,Fj]) (by rw[Hg];omega) (by rw[Hg,Ei,Ei];omega)
  have hT:=s1.1;rw[show cur.toList.take (i*i0.size+i0.size)=cA++(cur.toList.drop (i*i0.size)).take i0.size from by
   rw[List.take_add,hAt, ←r5,List.take_take,U6 Bia]]at hT
  have s2:=Eh g (ρ.t 9) (0,0) vs cA ((cur.toList.drop (i*i0.size)).take i0.size) (xs.drop (i*i0.size)++(cur.toList.drop (i*i0.size+i0.size)).drop (xs.drop (i*i0.size)).length) (i*i0.size) _ _ hT
   (by simp) hA (by rw[Hg,Ei];omega)
  rw[←A7c];have hgr:w.grownBy ((w.drew.setCells g (i*i0.size+i0.size) (xs.drop (i*i0.size))).setCells g (i*i0.size) vs) (some g):=
   Dd (w':=w.drew) ⟨rfl,rfl,rfl,Bz _,fun _ _ _=>rfl⟩ (Dd s1.2 s2.2)
  refine Fw H2 s2.1 ?_ (by omega) r4 ?_ Bd3 A8f hnd hgn hff hgG hgG hgn hgr Hr.symm
  ·have:(cur.toList.drop (i*i0.size+i0.size)).length=cap*i0.size - (i*i0.size+i0.size):=by rw[Ei,Au0]
   simp only[Auz,Hq,hA,hvl,Ei,hcl,Au0];omega
  ·rw[A7c, ←hB, ←Df];exact A4s _
 · 
  rw[hca];refine(Ad1 L g l.length cap i vb vc xs vs w Ze r3 (by omega) (Bh4 _ (by omega)) (by omega) hcl hvl hcs hvs hx1 hv1).mono ?_
  rintro e w1 ⟨rfl,rfl⟩;rw[←hca];obtain⟨gc,hgc⟩:∃gc,gc=grownCap w (l.length+1) cap (ρ.t 9):=⟨_,rfl⟩;have hge:l.length+1≤gc:=by rw[hgc];exact grownCap_ge w _ _ _
  have hle:gc≤maxLen:=by rw[hgc];exact grownCap_le_maxLen w _ _ _ (by rw[h63];omega)
  rw[←hgc];obtain⟨f1,f2,f3⟩:=H2.fresh (Bz _);obtain⟨Z,hZ⟩:∃Z,Z=(Builtin.zeroCells zv.cells (l.length+1 - i)++Builtin.zeroCells zv.cells (gc - (l.length+1))).toList:=⟨_,rfl⟩;have By8:(l.length+1)*i0.size≤gc*i0.size:=Jh _ hge;have hZl:Z.length=gc*i0.size - i*i0.size:=by
   rw[hZ];simp only[Array.toList_append,Hq,Array.length_toList,R5,L.izs,Nat.sub_mul];omega
  have Ars:((xs.take (i*i0.size)).toArray++Builtin.zeroCells zv.cells (l.length+1 - i)++Builtin.zeroCells zv.cells (gc - (l.length+1))).toList=cA++Z:=by
   rw[hZ,hAt];simp
  obtain⟨row,hrw⟩:∃row,row=(xs.take (i*i0.size)).toArray++Builtin.zeroCells zv.cells (l.length+1 - i)++Builtin.zeroCells zv.cells (gc - (l.length+1)):=⟨_,rfl⟩;rw[←hrw]at Ars ⊢;have h0:(w.alloc (.cells row (ρ.t 9))).drew.heap[w.heap.size]?=some (.cells row (ρ.t 9) (0,0)):=by
   show(w.heap.push _)[w.heap.size]?=_;rw[Am3,if_pos rfl]
  have Btt:w.grownBy (w.alloc (.cells row (ρ.t 9))).drew (some w.heap.size):=by
   refine⟨rfl,rfl,rfl,by show _≤(w.heap.push _).size;simp,fun k hk _=>?_⟩
   show(w.heap.push _)[k]?=_;rw[Am3,if_neg (by omega)]
  have s1:=Eh w.heap.size (ρ.t 9) (0,0) vs cA (Z.take i0.size) (Z.drop i0.size) (i*i0.size) row _ h0 (by rw[Ars,Df,Fj]) hA (by rw[Hg];omega)
  have s2:=Eh w.heap.size (ρ.t 9) (0,0) (xs.drop (i*i0.size)) (cA++vs) ((Z.drop i0.size).take (xs.drop (i*i0.size)).length) ((Z.drop i0.size).drop (xs.drop (i*i0.size)).length) (i*i0.size+i0.size) _ _ (show(World.drew _).heap[w.heap.size]?=_ from s1.1)
   (by show cA++vs++Z.drop i0.size=_;rw[Df (cA++vs),Fj]) (by simp[hA,hvl]) (by rw[Hg,Ei,Ei];omega)
  rw[←A7c];refine Fw H2 s2.1 ?_ (by omega) hle ?_ Bd3 A8f hnd hfn hff ⟨f1,f2⟩ ⟨f1,f2⟩ hfn (Dd Btt (Dd s1.2 (Dd (w':=World.drew _) ⟨rfl,rfl,rfl,Bz _,fun _ _ _=>rfl⟩ s2.2))) Hr.symm
  ·simp only[Auz,Hq,hA,hvl,Ei,hcl,hZl];omega
  ·rw[A7c, ←hB];exact A4s _
end
set_option maxRecDepth 100000

open Go.Proofs Go.Shelf
def Kf:Ren:=⟨fun n=>if n=22 then 102 else if n=29 then 121 else if n=30 then 122 else n,fun n=>if n=9 then 138 else if n=24 then 110 else n,fun n=>n⟩
theorem Afa:Bab Tryd.prog Kf Tryd.t138 (Tryd.t138.zero.getD undef) where
 mixed:=by kernel_rfl
 f22:=⟨Tryd.f102.name,by kernel_rfl,by kernel_rfl⟩
 f29:=fun a w v h=>by
  rw[run_callFunc_extern (P:=Tryd.prog) (f:=Kf.f 29) (fn:=Tryd.f121) (e:=Extern.SlicesOverlaps.overlaps #[Kf.t 24,Kf.t 24] #[Kf.t 4]) (by kernel_rfl) (by kernel_rfl) (by kernel_rfl) (by kernel_rfl) (by kernel_rfl) a w,h]
  rfl
 t0:=by kernel_rfl
 a0:=fun _=>by kernel_rfl
 z0:=fun _=>by kernel_rfl
 v0:=fun _=>by kernel_rfl
 t3:=by kernel_rfl
 a3:=fun _=>by kernel_rfl
 z3:=fun _=>by kernel_rfl
 v3:=fun _=>by kernel_rfl
 t4:=by kernel_rfl
 a4:=fun _=>by kernel_rfl
 z4:=fun _=>by kernel_rfl
 v4:=fun _=>by kernel_rfl
 t24:=by kernel_rfl
 a24:=fun _=>by kernel_rfl
 z24:=fun _=>by kernel_rfl
 v24:=fun _=>by kernel_rfl
 z9:=fun _=>by kernel_rfl
 i9:=by kernel_rfl
 iz:=by kernel_rfl
 izs:=by kernel_rfl
 Bbx:=by decide
 ib:=by decide
theorem X7(l:List D)(x:D)(i:Nat)(hi:i≤l.length)(hl:l.length≤100000):Fn Tryd.prog D2 [.own [] (.vec Dr 2 l),.v (.int .i64 i),.own [] (.vec Dr 2 [x])] (Is (.own [] (.vec Dr 2 (l.take i++x::l.drop i))) [.no,.no,.no]):=
 Afs Afa (by decide) l x i hi hl
set_option maxHeartbeats 40000000

open Go.Proofs
def Cn.pi(s:Cn)(a:Az):Nat:=Km (Kh a) s.l
def Cn.pf(s:Cn)(a:Az):Bool:=bsF (Kh a) (eqH a) s.l
def Akw:Fk:=⟨0,0,[],true⟩
def Cn.A29(s:Cn)(a:Az):Fk:=match s.l[s.pi a]? with
 |some h=>if s.pf a=true then h.vs.getLast?.getD Akw else Akw
 |none=>Akw
def A1y(l:List Zk)(i:Nat)(f:Bool)(a:Az)(v:Fk):List Zk:=
 if f=true then l.modify i fun h=>{h with vs:=h.vs++[v]} else l.take i++⟨a,[v]⟩::l.drop i
theorem Adg:Fn Tryd.prog W8 [] (Is (sP ⟨[],[]⟩) []):=by
 refine T8 ?_ (by simp)
 repeat'((conv=>whnf);((with_reducible refine Ac ?_ ?_);focus (and_intros<;>kernel_rfl)))
 all_goals(try(conv=>whnf))
 (apply dKq<;>kernel_rfl)
theorem Cn.Bi1{s:Cn}{a:Az}(hv:∀h∈s.l,h.vs≠[]∧h.vs.length≤100000)(hf:s.pf a=true):∃e v,s.l[s.pi a]?=some e∧e.vs[e.vs.length - 1]?=some v∧s.A29 a=v∧0<e.vs.length∧e.vs.length≤100000:=by
 obtain⟨e,h1,h2⟩:=Afp hf;obtain⟨h3,h4⟩:=hv e (Cb h1);have h5:0<e.vs.length:=List.length_pos_iff.2 h3;refine⟨e,e.vs[e.vs.length - 1],h1,Ae _,?_,h5,h4⟩;unfold Cn.A29;unfold Cn.pi;rw[h1];simp only[hf,if_true];rw[List.getLast?_eq_getElem?,Ae (by omega)]
 rfl
theorem Cn.A3a{s:Cn}{a:Az}(hf:s.pf a=false):s.A29 a=Akw:=by
 unfold Cn.A29;split
 ·simp[hf]
 ·rfl
theorem Afr{α:Type}{L:List α}{p:Nat}(h:p≤L.length)(x:α):(L.take p++x::L.drop p)[p]?=some x:=by
 rw[G4 (by rw[Hg];omega),Hg,U6 h,Nat.sub_self]
 rfl
theorem Afb{α:Type}{L:List α}{p:Nat}(h:p≤L.length)(x y:α):(L.take p++x::L.drop p).set p y=L.take p++y::L.drop p:=by
 rw[List.set_append_right _ _ (by rw[Hg];omega),Hg,U6 h,Nat.sub_self]
 rfl
abbrev stD(KS:List I)(VS L:List D):D:=.st [.map KS VS,.vec Dr 2 L]

def Ef.ok(c:Ef):Prop:=(1≤c.key.length∧c.key.length≤64)∧(c.gone=true∨c.val.length≤256)
instance(c:Ef):Decidable c.ok:=by unfold Ef.ok;infer_instance
def Bm(F:List Ef)(c:Ef):List Ef:=match F.findIdx? (fun x=>decide (x.key=c.key))with
 |some i=>F.set i c
 |none=>F++[c]
def K6:List Ef→List Ef→Option (List Ef)
 | [],F=>some F
 |c::r,F=>if c.ok then K6 r (Bm F c)else none
def Anv(F:List Ef)(k:Az):Ef:=(F.find? fun c=>decide (c.key=k)).getD ⟨[],[],true⟩
def Q1(l:List Zk)(a:Az):Fk:=(Cn.mk [] l).A29 a
def Ath(l:List Zk)(a:Az)(v:Fk):List Zk:=A1y l (Km (Kh a) l) (bsF (Kh a) (eqH a) l) a v
structure WSt where
 t:Tal
 l:List Zk
 w:Bool
def Dw(n k:Az)(c:Ef)(x:WSt):WSt:=
 let was:=Q1 x.l (B7 n k)
 if c.gone=true∧was.gone=true then x else
 if c.gone=true then⟨{x.t with bytes:=x.t.bytes - (k.length+was.val.length),keys:=x.t.keys - 1,Aq7:=x.t.Aq7+1},Ath x.l (B7 n k) ⟨x.t.rev+1,0,[],true⟩,true⟩
 else if was.gone=true then⟨{x.t with bytes:=x.t.bytes+(k.length+c.val.length),keys:=x.t.keys+1,Aq7:=x.t.Aq7+1},Ath x.l (B7 n k) ⟨x.t.rev+1,x.t.rev+1,c.val,false⟩,true⟩
 else⟨{x.t with bytes:=x.t.bytes+(c.val.length - was.val.length),Aq7:=x.t.Aq7+1},Ath x.l (B7 n k) ⟨x.t.rev+1,was.made,c.val,false⟩,true⟩
def Ge(n:Az)(F:List Ef):List Az→WSt→WSt
 | [],x=>x
 |k::r,x=>Ge n F r (Dw n k (Anv F k) x)
def WSt.fin(x:WSt):Tal:=if x.w=true then {x.t with rev:=x.t.rev+1} else x.t
structure LBd(m:Nat)(l:List Zk):Prop where
 len:l.length≤m
 held:∀h∈l,h.at_.length≤1000000∧h.vs≠[]∧h.vs.length≤m∧∀v∈h.vs,v.val.length≤1000
theorem LBd.mono{m m':Nat}{l:List Zk}(h:LBd m l)(hm:m≤m'):LBd m' l:=
 ⟨Kq h.len hm,fun x hx=>by obtain⟨a,b,c,d⟩:=h.held x hx;exact⟨a,b,Kq c hm,d⟩⟩
theorem LBd.put{m:Nat}{l:List Zk}{a:Az}{v:Fk}(h:LBd m l)(ha:a.length≤1000000)(hv:v.val.length≤1000):LBd (m+1) (Ath l a v):=by
 unfold Ath A1y;split
 ·refine⟨by rw[List.length_modify];have:=h.len;omega,fun x hx=>?_⟩
  obtain⟨i,hi,rfl⟩:=Akp.1 hx;rw[List.length_modify]at hi;rw[List.getElem_modify];obtain⟨h1,h2,h3,h4⟩:=h.held l[i] (List.getElem_mem hi);split
  ·refine⟨h1,by simp,by simp;omega,fun u hu=>?_⟩
   rcases Bv.1 hu with hu|hu
   ·exact h4 u hu
   ·simp only[Jd]at hu;subst hu;exact hv
  ·exact⟨h1,h2,by omega,h4⟩
 ·refine⟨by have:=h.len;have:=Hp (Kh a) l;simp;omega,fun x hx=>?_⟩
  rcases Bv.1 hx with hx|hx
  ·obtain⟨h1,h2,h3,h4⟩:=h.held x (P2 hx);exact⟨h1,h2,by omega,h4⟩
  ·rcases Bg.1 hx with rfl|hx
   ·exact⟨ha,by simp,by simp,by simpa using hv⟩
   ·obtain⟨h1,h2,h3,h4⟩:=h.held x (Agw hx);exact⟨h1,h2,by omega,h4⟩
theorem Abt{m:Nat}{l:List Zk}(h:LBd m l)(a:Az):(Q1 l a).val.length≤1000:=by
 unfold Q1 Cn.A29;split
 ·rename_i x hx;split
  ·cases hl:x.vs.getLast? with
   |none=>simp[Akw]
   |some v=>exact(h.held x (Cb hx)).2.2.2 v (List.mem_of_getLast? hl)
  ·simp[Akw]
 ·simp[Akw]
theorem Aa5(n k:Az):(B7 n k).length=n.length+k.length+1:=by simp[B7]
structure TBd(m:Nat)(t:Tal):Prop where
 keys: -(1000000000000+m:Int)≤t.keys∧t.keys≤1000000000000+m
 bytes: -(1000000000000000+10000*m:Int)≤t.bytes∧t.bytes≤1000000000000000+10000*m
 Aq7: -(1000000000000+m:Int)≤t.Aq7∧t.Aq7≤1000000000000+m
theorem TBd.mono{m m':Nat}{t:Tal}(h:TBd m t)(hm:m≤m'):TBd m' t:=by
 obtain⟨h1,h2,h3⟩:=h;exact⟨by omega,by omega,by omega⟩
theorem W4{m m':Nat}{n k:Az}{c:Ef}{x:WSt}(h:LBd m x.l)(ht:TBd m' x.t)(hn:n.length≤1000)(hk:k.length≤64)(hv:c.gone=true∨c.val.length≤256):
 LBd (m+1) (Dw n k c x).l∧TBd (m'+1) (Dw n k c x).t∧(Dw n k c x).t.rev=x.t.rev∧(Dw n k c x).t.floor=x.t.floor:=by
 have hw:=Abt h (B7 n k);have ha:(B7 n k).length≤1000000:=by rw[Aa5];omega
 obtain⟨t1,t2,t3⟩:=ht;unfold Dw;dsimp only;split
 ·exact⟨h.mono (by omega),⟨by omega,by omega,by omega⟩,rfl,rfl⟩
 ·split
  ·exact⟨h.put ha (by simp),⟨by dsimp only;omega,by dsimp only;omega,by dsimp only;omega⟩,rfl,rfl⟩
  ·have hcv:c.val.length≤256:=by
    rcases hv with hv|hv
    ·exact absurd hv (by assumption)
    ·exact hv
   split
   ·exact⟨h.put ha (by dsimp only;omega),⟨by dsimp only;omega,by dsimp only;omega,by dsimp only;omega⟩,rfl,rfl⟩
   ·exact⟨h.put ha (by dsimp only;omega),⟨by dsimp only;omega,by dsimp only;omega,by dsimp only;omega⟩,rfl,rfl⟩
theorem Xe(F:List Ef)(c:Ef):(Bm F c).map Ef.key=if(F.any fun x=>decide (x.key=c.key))=true then F.map Ef.key else F.map Ef.key++[c.key]:=by
 unfold Bm;cases h:F.findIdx? (fun x=>decide (x.key=c.key))with
 |none=>
  rw[List.findIdx?_eq_none_iff]at h;have:(F.any fun x=>decide (x.key=c.key))=false:=by rw[List.any_eq_false];intro x hx;simpa using h x hx
  simp[this]
 |some i=>
  obtain⟨hi,h1,h2⟩:=List.findIdx?_eq_some_iff_getElem.1 h;have:(F.any fun x=>decide (x.key=c.key))=true:=by rw[List.any_eq_true];exact⟨F[i],List.getElem_mem hi,h1⟩
  simp only[this,if_true];rw[Amd];have:c.key=(F.map Ef.key)[i]'(by simpa using hi):=by simp only[List.getElem_map];exact(show F[i].key=c.key by simpa using h1).symm
  rw[this,List.set_getElem_self]
theorem U5{F:List Ef}{c:Ef}(h:(F.map Ef.key).Nodup):((Bm F c).map Ef.key).Nodup:=by
 rw[Xe];split
 ·exact h
 ·rename_i hn;rw[Hb];refine⟨h,by simp,?_⟩
  intro a ha b hb e;simp only[Jd]at hb;subst hb;subst e;obtain⟨x,hx,hxe⟩:=X4.1 ha;exact hn (by rw[List.any_eq_true];exact⟨x,hx,by simpa using hxe⟩)
theorem Zn{F:List Ef}{c x:Ef}(h:x∈Bm F c):x∈F∨x=c:=by
 unfold Bm at h;split at h
 ·exact Ain h
 ·simpa using h
theorem Zm(F:List Ef)(c:Ef):(Bm F c).length≤F.length+1:=by
 unfold Bm;split<;>simp
theorem Adz{F:List Ef}{k:Az}(h:k∈F.map Ef.key):∃q,F.findIdx? (fun c=>decide (c.key=k))=some q∧F[q]?=some (Anv F k)∧(Anv F k).key=k:=by
 obtain⟨x,hx,hk⟩:=X4.1 h;cases hq:F.findIdx? (fun c=>decide (c.key=k))with
 |none=>
  rw[List.findIdx?_eq_none_iff]at hq;have:=hq x hx;simp[hk]at this
 |some q=>
  obtain⟨hi,h1,h2⟩:=List.findIdx?_eq_some_iff_getElem.1 hq;have hf:F.find? (fun c=>decide (c.key=k))=some F[q]:=by
   rw[List.find?_eq_some_iff_getElem];exact⟨h1,q,hi,rfl,fun j hj=>by simpa using h2 j hj⟩
  refine⟨q,rfl,?_,?_⟩
  ·unfold Anv;rw[hf];exact Ae hi
  ·unfold Anv;rw[hf];simpa using h1

def Eo(rev:Int):List Fk→Nat
 |_::w::r=>if w.rev≤rev then Eo rev (w::r)+1 else 0
 |_=>0
def Lm(rev:Int)(vs:List Fk):Nat:=match vs[Eo rev vs]? with
 |some v=>if v.gone=true∧v.rev≤rev then Eo rev vs+1 else Eo rev vs
 |none=>Eo rev vs
theorem Ve(rev:Int):∀(vs:List Fk),vs≠[]→Eo rev vs<vs.length
 | [],h=>absurd rfl h
 | [v],_=>by simp[Eo]
 |v::w::r,_=>by
  unfold Eo;have:=Ve rev (w::r) (by simp)
  split<;>simp at* <;>omega
theorem Bey{rev:Int}{vs:List Fk}{k:Nat}(hk:k<vs.length):Eo rev (vs.drop k)=match vs[k+1]? with
 |some w=>if w.rev≤rev then Eo rev (vs.drop (k+1))+1 else 0
 |none=>0:=by
 rw[Cc hk];by_cases h:k+1<vs.length
 ·rw[Cc h,Ae h];rfl
 ·rw[Db (by omega),Aic (by omega)]
  rfl
structure CSt where
 l:List Zk
 c:Int
def Uy(n:Az)(rev:Int)(h:Zk)(x:CSt):CSt:=
 if(C1 h.at_).1=n then(if h.vs.length≤Lm rev h.vs then x else⟨x.l++[⟨h.at_,h.vs.drop (Lm rev h.vs)⟩],x.c+(h.vs.length - Lm rev h.vs:Nat)⟩)else⟨x.l++[h],x.c⟩
def Mz(n:Az)(rev:Int):List Zk→CSt→CSt
 | [],x=>x
 |h::r,x=>Mz n rev r (Uy n rev h x)

open Go.RowKit Go.Maps Go.Sort Go.Shelf Go.Proofs
section
variable{P:Program}{ρ κ:Ren}
theorem A2z.of(L:SlLaysZ.n7 P κ):A2z P (κ.f 7) (κ.f 10) (κ.t 23):=fun mb W=>callsIn_wide.1 (AnyZ.keys_in L Fence.wide 5 trivial rfl mb W)
abbrev A3k:Value→Option (DataW Unit × List MemPlace):=fun _=>some (.nil,[])
theorem Aft{k:TypeId}(hk:P.underlying k=some .string){x:MapEntry}{s:List UInt8}(hx:x.key=Value.string ⟨⟨s⟩⟩)(hs:s.length≤maxLen):WideElems.rd P k A3k x=some (.string s,.nil):=by
 unfold WideElems.rd;rw[hx];have:keyOf P k (Value.string ⟨⟨s⟩⟩)=some (.string s):=by
  have Hr:(⟨⟨s⟩⟩:ByteArray).size=s.length:=rfl;simp[keyOf,hk,mapKey,Hr,hs]
 rw[this];rfl
theorem Yg{k:TypeId}(hk:P.underlying k=some .string):∀(l:List MapEntry) (ss:List (List UInt8)),l.map (·.key)=ss.map (fun s=>Value.string ⟨⟨s⟩⟩)→(∀s∈ss,s.length≤maxLen)→
 (l.map (WideElems.rg P k A3k)).map (fun p=>strOf p.1)=ss∧∀x∈l,∃y,WideElems.rd P k A3k x=some y
 | [],[],_,_=>⟨rfl,by simp⟩
 | [],_::_,h,_=>by cases h
 |_::_,[],h,_=>by cases h
 |x::l,s::ss,h,hs=>by
  simp only[Cy,Ajg]at h;obtain⟨h1,h2⟩:=h;obtain⟨h3,h4⟩:=Yg hk l ss h2 fun y hy=>hs y (by simp[hy])
  have h5:=Aft hk h1 (hs s (by simp))
  refine⟨by simp only[Cy,h3,WideElems.rg_of h5];rfl,fun y hy=>?_⟩
  rcases Bg.1 hy with rfl|hy
  ·exact⟨_,h5⟩
  ·exact h4 y hy
theorem Aym.of(L:SlLaysZ.n6 P ρ)(K:SlLaysZ.n7 P κ)(hs:∀m,AnyZ.SortsIn P ρ Fence.wide m)(e9:∀args w,(callFunc (ρ.f 9) args).run P w= .ok (.enter (ρ.f 9) args) w)
 (eg:∀args w,(callFunc (κ.f 10) args).run P w= .ok (.enter (κ.f 10) args) w):Aym P (ρ.f 6) (κ.f 10) (ρ.t 26):=by
 intro g b es clock ss W hc hb hk hnd Bp5 Bti hlen Bet hg;obtain⟨h3,h4⟩:=Yg K.t26 es.toList ss hk Bet;have hl:es.size=ss.length:=by
  have:=congrArg List.length hk;simpa using this
 have Bib:(ss.map (fun s=>Value.string ⟨⟨s⟩⟩)).Nodup:=by
  refine List.pairwise_map.2 (hnd.imp fun {a b} Cf e=>Cf ?_)
  simpa using e
 have Akd:W.ownsMap P (κ.t 26) A3k b ss.length (.map ((es.toList.map (WideElems.rg P (κ.t 26) A3k)).foldr DataW.insert [])):=
  ⟨es,clock,hb,⟨by rw[hl];simp only[maxLen];omega,⟨Bti,Bp5.imp (fun h=>by omega),by rw[hk];exact Bib⟩,h4⟩,by omega,rfl⟩
 have Bko:(strKeys (.map ((es.toList.map (WideElems.rg P (κ.t 26) A3k)).foldr DataW.insert [])):List (List UInt8)).Perm ss:=by
  have:=(WideShapes.sorted_perm (es.toList.map (WideElems.rg P (κ.t 26) A3k))).map (fun p=>strOf p.1)
  rw[h3]at this;exact this
 have Hr:Maps.size (.map ((es.toList.map (WideElems.rg P (κ.t 26) A3k)).foldr DataW.insert []):DataW Unit)=ss.length:=by
  have h5:=Bko.length_eq;simp only[strKeys,Bh]at h5;exact h5
 have Box:SeqGives Fence.wide 2 P (κ.f 10) #[.pointer (some ⟨g,0,none⟩)] encStr (fun ss'=>ss'.Perm (strKeys (.map ((es.toList.map (WideElems.rg P (κ.t 26) A3k)).foldr DataW.insert [])))) _ W:=
  AnyZ.keys_gives (ρ:=κ) {K with} Fence.wide _ trivial rfl (by omega) g b ss.length _ W hg hc Akd
 rw[Hr]at Box;refine(callsIn_wide.1 (AnyZ.sorted_in L Fence.wide 5 trivial trivial trivial trivial rfl (by omega) (hs _) e9 (κ.f 10) #[.pointer (some ⟨g,0,none⟩)] trivial eg _ ss.length (by simp only[maxLen];omega) (by omega) W Box)).mono ?_
 rintro e w' ⟨v,ss',rfl,hS,Ars,Au3,Btb⟩;have hp:=hS.trans Bko;refine⟨v,rfl,?_,Btb⟩;have e1:ss'.mergeSort (fun x y=>decide (x≤y))=Dc ss:=mergeSort_of_perm hp
 rw[hp.length_eq]at Ars;rw[e1]at Ars;exact Ars
end

open Go.Proofs
abbrev ksF(F:List Ef):List I:=F.map fun c=>I.str c.key
abbrev vsF(F:List Ef):List D:=F.map fun c=>D.it c.Bx
theorem Xf{F:List Ef}{c:Ef}(h:F.findIdx? (fun x=>decide (x.key=c.key))=none):Lo c.key (ksF F) 0=some none∧ksF (Bm F c)=ksF F++[.str c.key]∧vsF (Bm F c)=vsF F++[.it c.Bx]:=by
 refine⟨by rw[E5 (fun c:Ef=>c.key),h];rfl,?_,?_⟩<;>simp[Bm,h]
theorem Xg{F:List Ef}{c:Ef}{q:Nat}(h:F.findIdx? (fun x=>decide (x.key=c.key))=some q):Lo c.key (ksF F) 0=some (some q)∧ksF (Bm F c)=ksF F∧vsF (Bm F c)=(vsF F).set q (.it c.Bx):=by
 refine⟨by rw[E5 (fun c:Ef=>c.key),h];rfl,?_,?_⟩
 ·obtain⟨hi,h1,h2⟩:=List.findIdx?_eq_some_iff_getElem.1 h;simp only[Bm,h,ksF];rw[Amd];have:I.str c.key=(F.map fun c=>I.str c.key)[q]'(by simpa using hi):=by simp only[List.getElem_map];exact congrArg I.str (show F[q].key=c.key by simpa using h1).symm
  rw[this,List.set_getElem_self]
 ·simp only[Bm,h,vsF];rw[Amd]
theorem Ai8(s:Cn)(n:Az)(cs:List Ef)(hf:s.fi n=none):
 Fn Tryd.prog Da [sP s,.v (.str n),.v (.list (cs.map Ef.Bx))] (Is (.tup [.i (ti 0),.i (ti 16)]) [sP s,.no,.no]):=by
 refine Fo ?_ (by simp)
 obtain⟨h1,h2⟩:=Cn.Ayr hf;repeat'((conv=>whnf);first|((with_reducible refine Ax (by(with_reducible rfl)) (fun hb=>?_));(try rw[hb]);(try simp only[Aa]at hb))|((with_reducible refine Aw (by(with_reducible rfl)) (fun hb=>?_));(try rw[hb]);(try simp only[Aa]at hb))|((with_reducible refine A5 (fun hb=>?_) (fun hb=>?_))<;>first|(exact absurd hb (by decide))|((try rw[hb]);(try simp only[Aa]at hb)))|((with_reducible refine Ac ?_ ?_);focus (and_intros<;>first|omega|(with_reducible rfl)|kernel_rfl|(simp;done)))|((refine Au ?_))|(((with_reducible apply A9));(focus (simp only[D.at,D.put,D.Xw,D.Fh,Mg,Jo,D.Bx,Js,Ad,Af,h1,Cn.toD]<;>exact rfl))))
 all_goals(try(conv=>whnf))
 (apply dKq<;>kernel_rfl)
theorem Ae8(s:Cn)(n:Az)(cs:List Ef)(i:Nat)(hf:s.fi n=some i)(hcs:cs.length≤40000)(RES:Option (List Ef))(Ajz:RES=none)(hF:K6 cs []=RES):
 Fn Tryd.prog Da [sP s,.v (.str n),.v (.list (cs.map Ef.Bx))] (Is (.tup [.i (ti 0),.i (ti 1)]) [sP s,.no,.no]):=by
 refine Fo ?_ (by simp)
 obtain⟨h1,h2,h3⟩:=Cn.Ari hf;repeat'((conv=>whnf);first|((with_reducible refine Ax (by(with_reducible rfl)) (fun hb=>?_));(try rw[hb]);(try simp only[Aa]at hb))|((with_reducible refine A5 (fun hb=>?_) (fun hb=>?_))<;>first|(exact absurd hb (by decide))|((try rw[hb]);(try simp only[Aa]at hb)))|((with_reducible refine Ac ?_ ?_);focus (and_intros<;>first|omega|(with_reducible rfl)|kernel_rfl|(simp;done)))|(with_reducible intro Cq)|((with_reducible refine A5 ?_ ?_);focus (decide))|((refine Au ?_))|(((with_reducible apply A9));(focus (simp only[D.at,D.put,D.Xw,D.Fh,Mg,Jo,D.Bx,Js,Ad,Af,h1,h3,Cn.toD,Tal.Bx]<;>exact rfl))))
 all_goals(try(conv=>whnf))
 refine Afm.by (X:=Nat × List Ef × List I × List D) (fun y=>[(31,.v (ti (y.1:Int))),(10,.own [] (.map y.2.2.1 y.2.2.2))]) (fun y=>y.1≤cs.length∧y.2.1.length≤y.1∧y.2.2.1=ksF y.2.1∧y.2.2.2=vsF y.2.1∧K6 (cs.drop y.1) y.2.1=RES∧(y.2.1.map Ef.key).Nodup∧∀c∈y.2.1,c.ok) (fun y=>cs.length - y.1) (0,[],[],[]) (by kernel_rfl) ⟨Cr _,by simp,rfl,rfl,hF,by simp,by simp⟩ ?_
 rintro⟨j,F,KS,VS⟩ ⟨hj,hFl,e1,e2,hR,hnd,H2⟩;dsimp only at hj hFl e1 e2 hR hnd H2 ⊢;subst e1 e2;have Az2:(cs.map Ef.Bx).length=cs.length:=Bh _;have hw:IntKind.i64.wrap ((j:Int)+1)=((j+1:Nat):Int):=Dk (n:=100000) (by omega) (by simp only[maxLen];omega)
 by_cases hjl:j<cs.length
 case neg=>
  rw[Db (by omega)]at hR
  rw[←hR]at Ajz;cases Ajz
 obtain⟨c,he⟩:∃c,cs[j]?=some c:=⟨_,Ae hjl⟩;have Ze:¬decide ((j:Int)<(cs.length:Int))=false:=by simp;omega
 have Bem:¬decide ((j:Int)<((cs.map Ef.Bx).length:Int))=false:=by simp;omega
 have hdr:cs.drop j=c::cs.drop (j+1):=by rw[Cc hjl];rw[Ae hjl]at he;cases he;rfl
 rw[hdr]at hR;simp only[K6]at hR;have Atw:=Aaz c.key;have Art:=Wx c.val;by_cases hc:c.ok
 ·skip
  have At8:∀x∈Bm F c,x.ok:=fun x hx=>by
   rcases Zn hx with h|h
   ·exact H2 x h
   ·subst h;exact hc
  have hfl:=Zm F c;rw[if_pos hc]at hR;have Bii:=U5 (c:=c) hnd;obtain⟨hc1,hc2⟩:=hc;rw[decide_eq_true hc1]at Atw;have Az4:∀KS' VS',KS'=ksF (Bm F c)→VS'=vsF (Bm F c)→j+1≤cs.length∧(Bm F c).length≤j+1∧KS'=ksF (Bm F c)∧VS'=vsF (Bm F c)∧K6 (cs.drop (j+1)) (Bm F c)=RES∧((Bm F c).map Ef.key).Nodup∧∀c'∈Bm F c,c'.ok:=
   fun KS' VS' e1 e2=>⟨by omega,by omega,e1,e2,hR,Bii,At8⟩
  clear hR hdr;cases hq:F.findIdx? (fun x=>decide (x.key=c.key))with
  |none=>
   obtain⟨g1,g2,g3⟩:=Xf hq;obtain⟨ck,cv,cg⟩:=c;cases cg with
   |true=>
    repeat'((conv=>whnf);first|((with_reducible refine Ax (by(with_reducible exact Ai (by assumption))) (fun hb=>?_));(try rw[hb]);(try simp only[Aa]at hb))|((with_reducible refine Aw (by(with_reducible rfl)) (fun hb=>?_));(try rw[hb]);(try simp only[Aa]at hb))|((with_reducible refine A5 (fun hb=>?_) (fun hb=>?_))<;>first|(exact absurd hb (by decide))|((try rw[hb]);(try simp only[Aa]at hb)))|((with_reducible refine Ac ?_ ?_);focus (and_intros<;>first|omega|kernel_rfl|(intro _ hh;cases hh;done)|(simp;done)|decide))|((try dsimp only);(rw[B6 he]))|((with_reducible refine Ct.mk ?_);refine⟨_,Atw,?_⟩;rintro _ _ ⟨rfl,rfl⟩)|((try dsimp only);rw[hw])|(((with_reducible apply A9));(focus (simp only[D.at,D.put,D.Xw,D.Fh,Mg,Jo,D.Bx,Js,Ad,Af,g1,Lt]<;>exact rfl))))
    all_goals(try(conv=>whnf))
    refine Round.by (j+1,Bm F ⟨ck,cv,true⟩,ksF F++[.str ck],vsF F++[.it (Ef.mk ck cv true).Bx]) ?_ (Az4 _ _ g2.symm g3.symm) (by dsimp only;omega)
    try dsimp only
    show norm _ _=upd _ _
    kernel_rfl
   |false=>
    rw[decide_eq_true (by simpa using hc2)]at Art
    repeat'((conv=>whnf);first|((with_reducible refine Ax (by first|(with_reducible exact Ai (by assumption))|(with_reducible rfl)) (fun hb=>?_));(try rw[hb]);(try simp only[Aa]at hb))|((with_reducible refine Aw (by(with_reducible rfl)) (fun hb=>?_));(try rw[hb]);(try simp only[Aa]at hb))|((with_reducible refine A5 (fun hb=>?_) (fun hb=>?_))<;>first|(exact absurd hb (by decide))|((try rw[hb]);(try simp only[Aa]at hb)))|((with_reducible refine Ac ?_ ?_);focus (and_intros<;>first|omega|kernel_rfl|(intro _ hh;cases hh;done)|(simp;done)|decide))|((try dsimp only);(rw[B6 he]))|((with_reducible refine Ct.mk ?_);refine⟨_,Atw,?_⟩;rintro _ _ ⟨rfl,rfl⟩)|((with_reducible refine Ct.mk ?_);refine⟨_,Art,?_⟩;rintro _ _ ⟨rfl,rfl⟩)|((try dsimp only);rw[hw])|(((with_reducible apply A9));(focus (simp only[D.at,D.put,D.Xw,D.Fh,Mg,Jo,D.Bx,Js,Ad,Af,g1,Lt]<;>exact rfl))))
    all_goals(try(conv=>whnf))
    refine Round.by (j+1,Bm F ⟨ck,cv,false⟩,ksF F++[.str ck],vsF F++[.it (Ef.mk ck cv false).Bx]) ?_ (Az4 _ _ g2.symm g3.symm) (by dsimp only;omega)
    try dsimp only
    show norm _ _=upd _ _
    kernel_rfl
  |some q=>
   obtain⟨g1,g2,g3⟩:=Xg hq;obtain⟨ck,cv,cg⟩:=c;cases cg with
   |true=>
    repeat'((conv=>whnf);first|((with_reducible refine Ax (by(with_reducible exact Ai (by assumption))) (fun hb=>?_));(try rw[hb]);(try simp only[Aa]at hb))|((with_reducible refine Aw (by(with_reducible rfl)) (fun hb=>?_));(try rw[hb]);(try simp only[Aa]at hb))|((with_reducible refine A5 (fun hb=>?_) (fun hb=>?_))<;>first|(exact absurd hb (by decide))|((try rw[hb]);(try simp only[Aa]at hb)))|((with_reducible refine Ac ?_ ?_);focus (and_intros<;>first|omega|kernel_rfl|(intro _ hh;cases hh;done)|(simp;done)|decide))|((try dsimp only);(rw[B6 he]))|((with_reducible refine Ct.mk ?_);refine⟨_,Atw,?_⟩;rintro _ _ ⟨rfl,rfl⟩)|((try dsimp only);rw[hw])|(((with_reducible apply A9));(focus (simp only[D.at,D.put,D.Xw,D.Fh,Mg,Jo,D.Bx,Js,Ad,Af,g1,Lt]<;>exact rfl))))
    all_goals(try(conv=>whnf))
    refine Round.by (j+1,Bm F ⟨ck,cv,true⟩,ksF F,(vsF F).set q (.it (Ef.mk ck cv true).Bx)) ?_ (Az4 _ _ g2.symm g3.symm) (by dsimp only;omega)
    try dsimp only
    show norm _ _=upd _ _
    kernel_rfl
   |false=>
    rw[decide_eq_true (by simpa using hc2)]at Art
    repeat'((conv=>whnf);first|((with_reducible refine Ax (by first|(with_reducible exact Ai (by assumption))|(with_reducible rfl)) (fun hb=>?_));(try rw[hb]);(try simp only[Aa]at hb))|((with_reducible refine Aw (by(with_reducible rfl)) (fun hb=>?_));(try rw[hb]);(try simp only[Aa]at hb))|((with_reducible refine A5 (fun hb=>?_) (fun hb=>?_))<;>first|(exact absurd hb (by decide))|((try rw[hb]);(try simp only[Aa]at hb)))|((with_reducible refine Ac ?_ ?_);focus (and_intros<;>first|omega|kernel_rfl|(intro _ hh;cases hh;done)|(simp;done)|decide))|((try dsimp only);(rw[B6 he]))|((with_reducible refine Ct.mk ?_);refine⟨_,Atw,?_⟩;rintro _ _ ⟨rfl,rfl⟩)|((with_reducible refine Ct.mk ?_);refine⟨_,Art,?_⟩;rintro _ _ ⟨rfl,rfl⟩)|((try dsimp only);rw[hw])|(((with_reducible apply A9));(focus (simp only[D.at,D.put,D.Xw,D.Fh,Mg,Jo,D.Bx,Js,Ad,Af,g1,Lt]<;>exact rfl))))
    all_goals(try(conv=>whnf))
    refine Round.by (j+1,Bm F ⟨ck,cv,false⟩,ksF F,(vsF F).set q (.it (Ef.mk ck cv false).Bx)) ?_ (Az4 _ _ g2.symm g3.symm) (by dsimp only;omega)
    try dsimp only
    show norm _ _=upd _ _
    kernel_rfl
 ·obtain⟨ck,cv,cg⟩:=c;by_cases hk:1≤ck.length∧ck.length≤64
  ·rw[decide_eq_true hk]at Atw;cases cg with
   |true=>exact absurd ⟨hk,.inl rfl⟩ hc
   |false=>
    have hv:¬cv.length≤256:=fun h=>hc ⟨hk,.inr h⟩
    rw[decide_eq_false hv]at Art;repeat'((conv=>whnf);first|((with_reducible refine Ax (by first|(with_reducible exact Ai (by assumption))|(with_reducible rfl)) (fun hb=>?_));(try rw[hb]);(try simp only[Aa]at hb))|((with_reducible refine Aw (by(with_reducible rfl)) (fun hb=>?_));(try rw[hb]);(try simp only[Aa]at hb))|((with_reducible refine A5 (fun hb=>?_) (fun hb=>?_))<;>first|(exact absurd hb (by decide))|((try rw[hb]);(try simp only[Aa]at hb)))|((with_reducible refine Ac ?_ ?_);focus (and_intros<;>first|omega|kernel_rfl|(intro _ hh;cases hh;done)|(simp;done)|decide))|((try dsimp only);(rw[B6 he]))|((with_reducible refine Ct.mk ?_);refine⟨_,Atw,?_⟩;rintro _ _ ⟨rfl,rfl⟩)|((with_reducible refine Ct.mk ?_);refine⟨_,Art,?_⟩;rintro _ _ ⟨rfl,rfl⟩))
    all_goals(try(conv=>whnf))
    (apply dKq<;>kernel_rfl)
  ·rw[decide_eq_false hk]at Atw;repeat'((conv=>whnf);first|((with_reducible refine Ax (by first|(with_reducible exact Ai (by assumption))|(with_reducible rfl)) (fun hb=>?_));(try rw[hb]);(try simp only[Aa]at hb))|((with_reducible refine A5 (fun hb=>?_) (fun hb=>?_))<;>first|(exact absurd hb (by decide))|((try rw[hb]);(try simp only[Aa]at hb)))|((with_reducible refine Ac ?_ ?_);focus (and_intros<;>first|omega|kernel_rfl|(intro _ hh;cases hh;done)|(simp;done)|decide))|((try dsimp only);(rw[B6 he]))|((with_reducible refine Ct.mk ?_);refine⟨_,Atw,?_⟩;rintro _ _ ⟨rfl,rfl⟩))
   all_goals(try(conv=>whnf))
   (apply dKq<;>kernel_rfl)
theorem Aji(s:Cn)(n:Az)(cs:List Ef)(i:Nat)(hf:s.fi n=some i)(hcs:cs.length≤1000)(RES:Option (List Ef))(Ajz:RES=none)(hF:K6 cs []=RES):
 Fn Tryd.prog Da [sP s,.v (.str n),.v (.list (cs.map Ef.Bx))] (Is (.tup [.i (ti 0),.i (ti 1)]) [sP s,.no,.no]):=
 Ae8 s n cs i hf (by omega) RES Ajz hF
end Go.Ab
