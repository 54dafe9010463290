/- Lemmas -/
import Derived.Test.YtkpojedpcabojaaGreatDoorAbJ
set_option linter.unusedVariables false
set_option linter.unusedSimpArgs false
namespace Go.Ab
open Go.Op
def Hg(w:World)(b:Nat)(o:Obj):World:={w with heap:=w.heap.setIfInBounds b o}
def Lw(str:List UInt8)(pos:Nat):Nat × Nat:=Utf8.decode ⟨⟨str⟩⟩ pos
def A8t(d:Nat)(x:Bh):M:=Qi x fun u=>match u with
 | .str s=>Eo d (.sit s 0)
 |_=>.fail
def Ar2(d:Option Nat)(x:Bh):M:=match x with
 | .t n=>.get n fun ver sv=>match sv with
   | .sit s pos=>.ite (decide (pos<s.length))
    (.set n (ver+1) (.sit s (pos+(Lw s pos).2)) (.Co (d≠some n) fun _=>Ci d (.F4 [.i (.bool true),.i (.int .i64 pos),.i (.int .i32 (Lw s pos).1)]) .done))
    (Ci d (.F4 [.i (.bool false)]) .done)
   |_=>.fail
 |_=>.fail
section
variable{P:Program}{N:Nat}{G:Mem}{σ:Lab}{Fr:Mem}{w0:Base}{w:World}{st:St}{a:Act}
theorem Bcb{o:Oper}{d:Nat}{t:TypeId}{x:Operand}{x':Bh}(hd:o.dst=some d)(ho:o.op= .range t x)(hx:Bu N x x'=true)(ht:P.underlying t=some .string):Sound P N o (A8t d x'):=by
 intro G σ Fr w0 st a w Q next E hN hr hw hn A9
 subst hN;obtain⟨u,h1,hu⟩:=Hs hr hx hw;split at h1
 ·rename_i s;obtain⟨hc,hl⟩:=Bb.str.1 hu;obtain⟨σ',st',r1,r2⟩:=hr.Yu (A9 d hd) (sv:=.sit s 0) (o:=.stringIter ⟨⟨s⟩⟩ 0) (c:=.pointer (some ⟨w.heap.size,0,none⟩)) rfl (by intro _ e;cases e)
   (fun σ1 _ hb=>⟨w.heap.size,rfl,hb,heap_alloc_new w _⟩) h1
  refine Df (w':=w.alloc (.stringIter ⟨⟨s⟩⟩ 0)) ?_ (by rw[hd];exact hn G σ' st' _ _ (Mem.le.refl G) r1 r2)
  simp[execOp,ho,Instr.range,run_underlying ht,hc]
 ·exact h1.elim
theorem A6s{o:Oper}{x:Operand}{x':Bh}(ho:o.op= .next x true)(hx:Bu N x x'=true):Sound P N o (Ar2 o.dst x'):=by
 intro G σ Fr w0 st a w Q next E hN hr hw hn A9
 subst hN;cases x' with
 |c _=>exact hw.elim
 |Fo _ _=>exact hw.elim
 |t n=>
  obtain⟨rfl,Ej⟩:=Gb hx;simp only[Ar2,M.wp]at hw;cases hs:st[n]? with
  |none=>simp[hs]at hw
  |some cur=>
   obtain⟨ver,sv⟩:=cur;simp only[hs]at hw;have Ba:=hr.slot Ej hs;split at hw
   ·rename_i s pos;obtain⟨b,hc,hσ,hb⟩:=Ba;obtain⟨h1,h2⟩:=hw;have Bwh:b<w.heap.size:=(C3.1 hb).1;have Rw:(getObj b).run P w= .ok (.stringIter ⟨⟨s⟩⟩ pos) w:=by simp[getObj,Sem.run,hb]
    have Cq:(⟨⟨s⟩⟩:ByteArray).size=s.length:=rfl;by_cases hp:pos<s.length
    ·have h1:=h1 (decide_eq_true hp);obtain⟨A2,h1⟩:=h1
     let w1:=Hg w b (.stringIter ⟨⟨s⟩⟩ (pos+(Lw s pos).2))
     have Fq:(setObj b (.stringIter ⟨⟨s⟩⟩ (pos+(Lw s pos).2))).run P w= .ok () w1:=by simp[setObj,Sem.run,hb,w1,Hg]
     have Atw:w1.heap[b]?=some (.stringIter ⟨⟨s⟩⟩ (pos+(Lw s pos).2)):=by simp[w1,Hg,Bwh]
     have Tu:∀x,x≠b→w1.heap[x]?=w.heap[x]?:=by
      intro x hx;simp[w1,Hg,E4,Ne.symm hx]
     obtain⟨k1,k2,k3⟩:=hr.Bz.own b _ hσ;have Dj:Gc G σ Fr w0 w1:=by
      refine⟨?_,?_,hr.Bz.inj,?_,hr.Bz.os,hr.Bz.tape,hr.Bz.output,?_,hr.Bz.apart,hr.Bz.Mv⟩
      ·intro b' o' h;rw[Tu b' (by rintro rfl;rw[k1]at h;cases h)]
       exact hr.Bz.fixed b' o' h
      ·intro b' Ca h;obtain⟨q1,q2,q3⟩:=hr.Bz.own b' Ca h;exact⟨q1,q2,by simpa[w1,Hg]using q3⟩
      ·intro b' o' h;rw[Tu b' (by rintro rfl;rw[k2]at h;cases h)]
       exact hr.Bz.frame b' o' h
      ·have:=hr.Bz.size;simpa[w1,Hg]using this
     have hv:val a w0 n=a.eval (.tmp n):=G9 (by rw[hr.n];exact Ej)
     have Hr:Rel G σ Fr w0 (st.set n (ver+1,.sit s (pos+(Lw s pos).2))) a w1:=by
      refine Rel.self hr Dj (Mem.le.refl G) hs (Bk _) ?_ ?_
      ·intro s' Hf b' k Dc;refine⟨Dc,Tu b' ?_⟩;rintro rfl;rw[hσ]at Dc;cases Dc;exact Hf rfl
      ·exact⟨b,by rw[hv];exact hc,hσ,Atw⟩
     obtain⟨σ',st',r1,r2⟩:=Hr.Ci A9 (sv:=.F4 [.i (.bool true),.i (.int .i64 pos),.i (.int .i32 (Lw s pos).1)]) (c:=.tuple #[.bool true,.int .i64 pos,.int .i32 (Lw s pos).1]) (fun d' hd ver _=>
      ⟨_,rfl,_,_,rfl,Bb.bool.2 rfl,_,_,rfl,Bb.int.2 rfl,_,_,rfl,Bb.int.2 rfl,rfl⟩) h1
     refine Df (w':=w1) ?_ (hn G σ' st' _ w1 (Mem.le.refl G) r1 r2);have Bwq:Utf8.decode ⟨⟨s⟩⟩ pos=((Lw s pos).1,(Lw s pos).2):=rfl;simp only[execOp,ho,hc,Instr.next,Sem.run_bind,Rw,Result.andThen,Cq,if_pos hp,Bwq,Fq,Sem.run_pure];rfl
    ·have h2:=h2 (decide_eq_false hp);obtain⟨σ',st',r1,r2⟩:=hr.Ci A9 (sv:=.F4 [.i (.bool false)]) (c:=.tuple #[.bool false]) (fun d' hd ver _=>⟨_,rfl,_,_,rfl,Bb.bool.2 rfl,rfl⟩) h2
     refine Df (w':=w) ?_ (hn G σ' st' _ w (Mem.le.refl G) r1 r2);simp only[execOp,ho,hc,Instr.next,Sem.run_bind,Rw,Result.andThen,Cq,if_neg hp,Sem.run_pure]
   ·exact hw.elim
def A8p(d:Nat)(x:Bh):M:=Um x fun u=>Eo d (.own [] u)
theorem Au4{o:Oper}{d:Nat}{x:Operand}{x':Bh}(hd:o.dst=some d)(ho:o.op= .move x∨o.op= .assign x)(hx:Bu N x x'=true):Sound P N o (A8p d x'):=by
 intro G0 σ0 Fr w0 st0 a w Q next E hN hr hw hn A9
 subst hN;obtain⟨u,G,σ,st,hG,Hr,h1,hf⟩:=Aoj hr hx hw;obtain⟨σ',st',r1,r2⟩:=Hr.H3 (P:=P) (A9 d hd) hf h1;refine Df (w':=w) (v:=a.eval x) ?_ (by rw[hd];exact hn G σ' st' _ w hG r1 r2)
 rcases ho with ho|ho<;>simp[execOp,ho]
end

section
variable{P:Program}{N:Nat}{G:Mem}{σ:Lab}{Fr:Mem}{w0:Base}{w:World}{st:St}{a:Act}
end

open Go.Op
def Nd(k:List UInt8):List I→Nat→Option (Option Nat)
 | [],_=>some none
 |x::l,i=>match x with
  | .str s=>if s=k then some (some i)else Nd k l (i+1)
  |_=>none
theorem Ah6{k:List UInt8}:∀{l:List I} {i j:Nat},Nd k l i=some (some j)→∃m,j=i+m∧l[m]?=some (.str k)
 | [],i,j,h=>by simp[Nd]at h
 |x::l,i,j,h=>by
  simp only[Nd]at h;split at h
  ·split at h
   ·rename_i s hs;subst hs;cases h;exact⟨0,rfl,rfl⟩
   ·obtain⟨m,h1,h2⟩:=Ah6 h;exact⟨m+1,by omega,by simpa using h2⟩
  ·cases h
def Jh(ks:List I)(vs:List D)(r:Option Nat)(k:List UInt8)(u:D):D:=match r with
 |some i=>.map ks (vs.set i u)
 |none=>.map (ks++[.str k]) (vs++[u])
def A4k(d:Nat):M:=Eo d (.own [] (.map [] []))
def A8o(m k v:Bh):M:=Um v fun u=>Qi k fun y=>match y with
 | .str s=>rdH m fun h cur inv t p=>match D.at p t with
   |some d=>match d with
    | .map ks vs=>match Nd s ks 0 with
      |some r=>match D.put p t (Jh ks vs r s u)with
       |some t'=>.set h (cur+1) (.own (bump inv p (cur+1)) t') .done
       |none=>.fail
      |none=>.fail
    |_=>.fail
   |none=>.fail
 |_=>.fail
theorem J2.append{G:Mem}{x:I}{v:Value}(h1:valOf x.isAgg v=true)(h2:Bi G x v.cells.toList):∀{ks:List I} {cs:List Value},J2 G ks cs→J2 G (ks++[x]) (cs++[v])
 | [],cs,h=>by
   simp only[J2]at h;subst h;simp only[Cu,J2];exact⟨v,[],rfl,h1,h2,rfl⟩
 |y::ks,cs,h=>by
  simp only[J2]at h;obtain⟨v',c',rfl,h3,h4,h5⟩:=h;simp only[C4,J2];exact⟨v',_,rfl,h3,h4,J2.append h1 h2 h5⟩
theorem J2.get{G:Mem}:∀{ks:List I} {cs:List Value},J2 G ks cs→ks.length=cs.length∧∀(i:Nat) (x:I),ks[i]?=some x→∃v,cs[i]?=some v∧valOf x.isAgg v=true∧Bi G x v.cells.toList
 | [],cs,h=>by
   simp only[J2]at h;subst h;exact⟨rfl,fun i x h=>by simp at h⟩
 |y::ks,cs,h=>by
  simp only[J2]at h;obtain⟨v',c',rfl,h3,h4,h5⟩:=h;obtain⟨k1,k2⟩:=J2.get h5;refine⟨by simp[k1],fun i x hx=>?_⟩
  cases i with
  |zero=>cases hx;exact⟨v',rfl,h3,h4⟩
  |succ i=>simpa using k2 i x (by simpa using hx)
theorem Ff.append{G:Mem}{w:World}{d:D}{v:Value}{b:List Nat}(h1:valOf d.isAgg v=true)(h2:Bp G w d v.cells.toList b):∀{vs:List D} {cs:List Value} {bs:List Nat},Ff G w vs cs bs→Ff G w (vs++[d]) (cs++[v]) (bs++b)
 | [],cs,bs,h=>by
   simp only[Ff]at h;obtain⟨rfl,rfl⟩:=h;simp only[Cu,Ff];exact⟨v,[],b,[],rfl,by simp,h1,h2,rfl,rfl⟩
 |y::vs,cs,bs,h=>by
  simp only[Ff]at h;obtain⟨v',c',b1,b2,rfl,rfl,h3,h4,h5⟩:=h;simp only[C4,Ff];exact⟨v',_,b1,b2++b,rfl,by simp,h3,h4,Ff.append h1 h2 h5⟩
theorem Ayr{α:Type}{l:List α}{i:Nat}{x:α}(h:l[i]?=some x):l.set i x=l:=by
 obtain⟨h1,rfl⟩:=Ak.1 h;exact List.set_getElem_self h1
theorem Aub{α:Type}{f:α→α}:∀{l:List α} {i:Nat} {x:α},l[i]?=some x→l.modify i f=l.set i (f x)
 | [],i,x,h=>by simp at h
 |a::l,0,x,h=>by cases h;rfl
 |a::l,i+1,x,h=>by
  rw[List.modify_succ_cons,E9,Aub (l:=l) (by simpa using h)]
theorem Ff.length{G:Mem}{w:World}:∀{vs:List D} {cs:List Value} {bs:List Nat},Ff G w vs cs bs→vs.length=cs.length
 | [],cs,bs,h=>by
   simp only[Ff]at h;obtain⟨rfl,rfl⟩:=h;rfl
 |y::vs,cs,bs,h=>by
  simp only[Ff]at h;obtain⟨v',c',b1,b2,rfl,rfl,h3,h4,h5⟩:=h;simp[Ff.length h5]
theorem Ff.put{G:Mem}{w w':World}{u:D}{v:Value}{b:List Nat}(h1:valOf u.isAgg v=true)(h2:Bp G w' u v.cells.toList b):∀{vs:List D} {cs:List Value} {bs:List Nat} {i:Nat},i<vs.length→Ff G w vs cs bs→(∀x∈bs,w'.heap[x]?=w.heap[x]?)→
 ∃b1 b0 b2,bs=b1++b0++b2∧Ff G w' (vs.set i u) (cs.set i v) (b1++b++b2)
 | [],cs,bs,i,hi,h,_=>by simp at hi
 |y::vs,cs,bs,0,hi,h,hk=>by
  simp only[Ff]at h;obtain⟨v',c',b1,b2,rfl,rfl,h3,h4,h5⟩:=h;refine⟨[],b1,b2,by simp,?_⟩
  simp only[F7,Cu,Ff];exact⟨v,c',b,b2,rfl,rfl,h1,h2,h5.tr (Mem.le.refl G) fun x hx=>hk x (by simp[hx])⟩
 |y::vs,cs,bs,i+1,hi,h,hk=>by
  simp only[Ff]at h;obtain⟨v',c',b1,b2,rfl,rfl,h3,h4,h5⟩:=h;obtain⟨k1,k0,k2,rfl,k3⟩:=Ff.put h1 h2 (i:=i) (by simpa using hi) h5 fun x hx=>hk x (by simp[hx])
  refine⟨b1++k1,k0,k2,by simp,?_⟩
  simp only[E9,Ff];exact⟨v',_,b1,k1++b++k2,rfl,by simp,h3,h4.tr (Mem.le.refl G) fun x hx=>hk x (by simp[hx]),k3⟩
theorem A00(k s:List UInt8):((⟨⟨k⟩⟩:ByteArray)==⟨⟨s⟩⟩)=decide (k=s):=by
 show ByteArray.beq _ _=_;unfold ByteArray.beq;rw[Bool.eq_iff_iff];simp
theorem Y5{G:Mem}{k:List UInt8}:∀{ks:List I} {es:List MapEntry} {i:Nat} {r:Option Nat},J2 G ks (es.map (·.key))→Nd k ks i=some r→
 Instr.findNow .string (.string ⟨⟨k⟩⟩) es i=some (r.bind fun j=>(es[j - i]?).map fun e=>(j,e.val))∧∀j,r=some j→i≤j∧j - i<es.length
 | [],es,i,r,h,hf=>by
   simp only[J2,List.map_eq_nil_iff]at h;subst h;simp only[Nd,Af]at hf;subst hf;exact⟨rfl,fun j e=>by cases e⟩
 |x::ks,[],i,r,h,hf=>by
  simp only[J2,C5]at h;obtain⟨v,c',h1,_⟩:=h;cases h1
 |x::ks,e::es,i,r,h,hf=>by
  simp only[J2,A0,Em]at h;obtain⟨v,c',⟨h1,rfl⟩,h2,h3,h4⟩:=h;simp only[Nd]at hf;split at hf
  ·rename_i s;have hv:v= .string ⟨⟨s⟩⟩:=by
    have h3:=h3;rw[G7 (show valOf false v=true from h2)]at h3;simp[Bi]at h3;exact h3.1
   rw[hv]at h1;split at hf
   ·rename_i hs;subst hs;cases hf;refine⟨?_,fun j e'=>by cases e';exact⟨Ay _,by simp⟩⟩
    simp[Instr.findNow,h1,Instr.sameNow,A00]
   ·rename_i hs;obtain⟨k1,k2⟩:=Y5 h4 hf;have A2:((⟨⟨k⟩⟩:ByteArray)==⟨⟨s⟩⟩)=false:=by
     rw[A00];exact decide_eq_false fun e'=>hs e'.symm
    refine⟨?_,fun j e'=>?_⟩
    ·simp only[Instr.findNow,h1,Instr.sameNow,A2];rw[k1];cases r with
     |none=>rfl
     |some j=>
      obtain⟨k3,k4⟩:=k2 j rfl;simp only[Option.bind_some];have:j - i=(j - (i+1))+1:=by omega
      rw[this,Bn]
    ·obtain⟨k3,k4⟩:=k2 j e';exact⟨by omega,by simp;omega⟩
  ·cases hf
theorem Lq.keeps{m:Lq}{w w':World}{bs Fw:List Nat}{s s':S7}(h:m.fits w bs Fw s s')(hk:∀b∈bs,b ∉ Fw→w'.heap[b]?=w.heap[b]?):m.new w w' bs Fw s'.2 s'.2:=by
 cases m with
 |inl pre post=>exact hk
 |U5 g pre post ty fz=>
  obtain⟨h0,h1,⟨row,h2,_,h3⟩,_⟩:=h;exact⟨by rw[hk g h0 h1,h2, ←h3],fun b hb hu _=>hk b hb hu⟩
 |val=>exact⟨rfl,hk⟩
section
variable{P:Program}{N:Nat}{G:Mem}{σ:Lab}{Fr:Mem}{w0:Base}{w:World}{st:St}{a:Act}
theorem Rel.Ae0{w':World}{s cur:Nat}{inv:Inv}{p:List Nat}{t t' u u':D}{news:List Nat}(h:Rel G σ Fr w0 st a w)(hs:st[s]?=some (cur,.own inv t))(Dd:t.at p=some u)(G8:t.put p u'=some t')(Uq:u.leaf=false)
 (Jg:u'.isAgg=u.isAgg) (hn:∀b∈news,G b=none∧Fr b=none∧σ b=none∧b<w.heap.size) (Cq:w'.heap.size=w.heap.size) (hos:w'.os=w.os) (htp:w'.tape=w.tape) (hou:w'.output=w.output)
 (hw:∀cs Fw,Bp G w u cs Fw→Fw.Nodup→(∀b∈Fw,∃k,σ b=some (s,k))→(∀hh,spot w p t (none,(val a w0 s).cells.toList)=some (hh,cs)→(∃Mb,Bp G w' u' cs Mb∧Mb.Nodup∧∀b∈Mb,b∈Fw∨b∈news)∧∀b,b ∉ Fw→w'.heap[b]?=w.heap[b]?)):
 ∃σ',Rel G σ' Fr w0 (st.set s (cur+1,.own (bump inv p (cur+1)) t')) a w':=by
 obtain⟨bs,Ba,H7,F5,Jj⟩:=show Dr G σ w s t (val a w0 s)from h.Bj s cur _ hs;obtain⟨m,s',Fw,f1,f2,f3,f4,f5,f6⟩:=focus (here:=none) Ba F5 Dd
 obtain⟨⟨Mb,g1,g2,g3⟩,g4⟩:=hw s'.2 Fw f2 f3 (fun b hb=>Jj b (f4 b hb)) s'.1 f1
 have Th:∀b∈news,b ∉ bs:=fun b hb N1=>by
  obtain⟨k,hk⟩:=Jj b N1;rw[(hn b hb).2.2.1]at hk;cases hk
 obtain⟨Et,r1,r2,r3,r4,r5⟩:=f6 G w' u' s'.2 Mb t' (Mem.le.refl G) rfl Jg g1 g2 (fun b hb=>(g3 b hb).imp id (Th b)) (Lq.keeps f5 fun b _ hu=>g4 b hu) G8
 have Rj:m.cells (val a w0 s).cells.toList s'.2=(val a w0 s).cells.toList:=(Lq.same f5).2;rw[Rj]at r1 r5;have hta:t'.isAgg=t.isAgg:=by
  rw[r4];split
  ·rename_i hp;subst hp;simp only[D.at,Af]at Dd;rw[Jg,Dd]
  ·rfl
 obtain⟨K,hK⟩:=h.Bz.room s;have hold:∀x k,σ x=some k→σ.H3 s K news x=some k:=fun x k hx=>by
  rw[Lab.Mf]
  ·exact hx
  ·intro hm;have:=(hn x hm).2.2.1;rw[hx]at this;cases this
 have Btq:Gc G σ Fr w0 w':=by
  refine⟨?_,?_,h.Bz.inj,?_,hos.trans h.Bz.os,htp.trans h.Bz.tape,hou.trans h.Bz.output,by rw[Cq];exact h.Bz.size,h.Bz.apart,h.Bz.Mv⟩
  ·intro b o hb;rw[g4 b fun hu=>?_]
   ·exact h.Bz.fixed b o hb
   ·obtain⟨k,hk⟩:=Jj b (f4 b hu);rw[(h.Bz.own b _ hk).1]at hb;cases hb
  ·intro b Ca hb;obtain⟨k1,k2,k3⟩:=h.Bz.own b Ca hb;exact⟨k1,k2,by rw[Cq];exact k3⟩
  ·intro b o hb;rw[g4 b fun hu=>?_]
   ·exact h.Bz.frame b o hb
   ·obtain⟨k,hk⟩:=Jj b (f4 b hu);rw[(h.Bz.own b _ hk).2.1]at hb;cases hb
 have Bjb:=Btq.H3 (s:=s) (K:=K) (bs:=news) hK fun x hx=>by
  obtain⟨k1,k2,_,k4⟩:=hn x hx;exact⟨k1,k2,by rw[Cq];exact k4⟩
 obtain⟨Zu,W4⟩:=Focus.refs (G:=G) (inv:=inv) (cur:=cur) r5;rw[if_neg (by rw[Uq];simp)]at Zu W4
 refine⟨_,h.tree Bjb (Mem.le.refl G) hs (Bk _) ?_ (fun _ x k hx=>hold x _ hx) ?_ Zu W4⟩
 ·intro s1 hs1 x k hx;refine⟨hold x _ hx,g4 x fun hu=>?_⟩
  obtain⟨k',hk⟩:=Jj x (f4 x hu);rw[hx]at hk;cases hk;exact hs1 rfl
 ·refine⟨Et,r1,by rw[hta];exact H7,r2,fun x hx=>?_⟩
  rcases(r3 x).1 hx with⟨h1,_⟩|h1
  ·obtain⟨k,hk⟩:=Jj x h1;exact⟨k,hold x _ hk⟩
  ·rcases g3 x h1 with h2|h2
   ·obtain⟨k,hk⟩:=Jj x (f4 x h2);exact⟨k,hold x _ hk⟩
   ·exact⟨_,Lab.Me h2⟩
theorem Zc{w:World}{b:Nat}{o o':Obj}(h:w.heap[b]?=some o'):(Hg w b o).heap[b]?=some o:=by
 have:=(C3.1 h).1;simp[Hg,this]
theorem Nu{w:World}{b x:Nat}{o:Obj}(h:x≠b):(Hg w b o).heap[x]?=w.heap[x]?:=by
 simp[Hg,E4,Ne.symm h]
def Ac4(es:Array MapEntry)(clock:Nat)(r:Option Nat)(k v:Value):Obj:=match r with
 |some i=>.map (es.modify i fun e=>{e with key:=k,val:=v}) clock
 |none=>.map (es.push {key:=k,val:=v,born:=clock}) (clock+1)
theorem Aa8{u:D}{k:List UInt8}{ks:List I}{vs:List D}{r:Option Nat}{b clock:Nat}{es:Array MapEntry}{Ss bu:List Nat}{kv v:Value}
 (hb:w.heap[b]?=some (.map es clock)) (Pw:J2 G ks (es.toList.map (·.key))) (Ko:Ff G w vs (es.toList.map (·.val)) Ss) (hp:(es.toList.map (·.born)).Pairwise (· < ·)) (Di:∀e∈es.toList,e.born<clock)
 (hf:Nd k ks 0=some r) (hkv:Bb G (.str k) kv) (hu:Bp G w u v.cells.toList bu) (huv:valOf u.isAgg v=true) (hn1:b ∉ Ss) (Vf:b ∉ bu) (Bq2:Ss.Nodup) (Bq3:bu.Nodup) (W7:∀x∈bu,x ∉ Ss):
 ∃Mb,Bp G (Hg w b (Ac4 es clock r kv v)) (Jh ks vs r k u) [.map (some b)] Mb∧Mb.Nodup∧∀x∈Mb,(x=b∨x∈Ss)∨x∈bu:=by
 have Ts:kv= .string ⟨⟨k⟩⟩:=(Bb.str.1 hkv).1;have hkI:Bi G (.str k) kv.cells.toList:=by
  have h3:=hkv;rw[Ts]at h3 ⊢;exact h3
 have hkA:valOf (I.isAgg (.str k)) kv=true:=by rw[Ts];rfl
 have Be3:∀x∈Ss,(Hg w b (Ac4 es clock r kv v)).heap[x]?=w.heap[x]?:=fun x hx=>Nu fun e=>hn1 (e ▸ hx)
 have Brg:∀x∈bu,(Hg w b (Ac4 es clock r kv v)).heap[x]?=w.heap[x]?:=fun x hx=>Nu fun e=>Vf (e ▸ hx)
 have hu':=hu.tr (Mem.le.refl G) Brg;cases r with
 |none=>
  refine⟨b::(Ss++bu),?_,?_,?_⟩
  ·simp only[Jh,Bp];refine⟨b,_,_,_,_,Ss++bu,rfl,Zc hb,rfl,rfl,?_,?_,?_,?_,rfl⟩
   ·simp only[Array.toList_push,B5,A0,C5];exact Pw.append hkA hkI
   ·simp only[Array.toList_push,B5,A0,C5];exact(Ko.tr (Mem.le.refl G) Be3).append huv hu'
   ·simp only[Array.toList_push,B5,A0,C5];rw[P7];refine⟨hp,List.pairwise_singleton _ _,fun x hx y hy=>?_⟩
    obtain⟨e,he,rfl⟩:=Cs.1 hx;rw[Cx.1 hy];exact Di e he
   ·intro e he;simp only[Array.toList_push,Aj,Cx]at he;rcases he with he|rfl
    ·have:=Di e he;omega
    ·simp
  ·rw[Bs,Cb];exact⟨by simp[hn1,Vf],Bq2,Bq3,fun x hx y hy e=>W7 y hy (e ▸ hx)⟩
  ·intro x hx;simp only[Ah,Aj]at hx;rcases hx with h|h|h
   ·exact .inl (.inl h)
   ·exact .inl (.inr h)
   ·exact .inr h
 |some i=>
  obtain⟨m,h1,h2⟩:=Ah6 hf;obtain rfl:m=i:=by omega
  obtain⟨g1,g2⟩:=Pw.get;obtain⟨v0,q1,q2,q3⟩:=g2 m _ h2;rw[B2,Eg]at q1;obtain⟨e0,q1,rfl⟩:=q1;have hek:e0.key=kv:=by
   have q2':valOf false e0.key=true:=q2;rw[G7 q2']at q3;simp[Bi]at q3;rw[q3.1,Ts]
  have hlen:=Ko.length;have hml:m<es.toList.length:=(Ak.1 q1).1;have Bac:(es.modify m fun e=>{e with key:=kv,val:=v}).toList=es.toList.set m {e0 with key:=kv,val:=v}:=by
   rw[Array.toList_modify,Aub q1]
  obtain⟨b1,b0,b2,rfl,k3⟩:=Ff.put huv hu' (i:=m) (by rw[hlen];simpa using hml) Ko Be3
  refine⟨b::(b1++bu++b2),?_,?_,?_⟩
  ·simp only[Jh,Bp];refine⟨b,_,_,_,_,b1++bu++b2,rfl,Zc hb,rfl,rfl,?_,?_,?_,?_,rfl⟩
   ·rw[Bac,Gi];rw[Ayr (by rw[B2,q1];simp[hek])]
    exact Pw
   ·rw[Bac,Gi];exact k3
   ·rw[Bac,Gi];rw[Ayr (by rw[B2,q1];rfl)]
    exact hp
   ·intro e he;rw[Bac]at he;rcases E0 he with he|rfl
    ·exact Di e he
    ·exact Di e0 (Aw q1)
  ·have hn:=Bq2;rw[Cb,Cb]at hn;rw[Bs,Cb,Cb];simp only[Aj,not_or]at hn1 W7 ⊢;exact⟨⟨⟨hn1.1.1,Vf⟩,hn1.2⟩,⟨hn.1.1,Bq3,fun x hx y hy e=>(W7 y hy).1.1 (e ▸ hx)⟩,hn.2.1,fun x hx y hy e=>by
    rcases hx with hx|hx
    ·exact hn.2.2 x (by simp[hx]) y hy e
    ·exact(W7 x hx).2 (e ▸ hy)⟩
  ·intro x hx;simp only[Ah,Aj]at hx ⊢;rcases hx with h|(h|h)|h
   ·exact .inl (.inl h)
   ·exact .inl (.inr (.inl (.inl h)))
   ·exact .inr h
   ·exact .inl (.inr (.inr h))
theorem An3{tk:TypeId}{s:ByteArray}(Ya:P.underlying tk=some .string)(em:Bool)(n:Nat):(Instr.checkKey em (n+1) tk (.string s)).run P w= .ok () w:=by
 rw[Instr.checkKey];simp only[Sem.run_bind,run_underlying Ya,Result.andThen];rfl
theorem Bj8(s s':ByteArray):∀n,Instr.sameBits n (.string s) (.string s')=(s==s')
 |0=>rfl
 |_+1=>rfl
theorem Ayf{s:List UInt8}:(Instr.keyThatStays (.string ⟨⟨s⟩⟩) (.string ⟨⟨s⟩⟩)).run P w= .ok (.string ⟨⟨s⟩⟩) w:=by
 unfold Instr.keyThatStays;rw[Bj8,A00,decide_eq_true rfl];rfl
theorem Bb7{o:Oper}{t tk tv:TypeId}{m k v:Operand}{m' k' v':Bh}(hd:o.dst=none)(ho:o.op= .mapUpdate t m k v)(ht:P.underlying t=some (.map tk tv))(Ya:P.underlying tk=some .string)
 (hm:Bu N m m'=true) (hk:Bu N k k'=true) (hv:Bu N v v'=true):Sound P N o (A8o m' k' v'):=by
 intro G0 σ0 Fr w0 st0 a w Q next E hN hr0 hw hn A9
 subst hN;obtain⟨u,bu,G,σ,st,hG,hr,h1,⟨hu1,hu2,hu3,hu4⟩,_,_⟩:=Q4 hr0 hv hw;obtain⟨y,h2,hy⟩:=Hs hr hk h1;split at h2
 ·rename_i s;obtain⟨s0,cur,inv,t0,p,h3,hs,x0,hh0,Av6,Ao2,L0⟩:=Abu hr hm h2;split at h3
  ·rename_i d Dd;split at h3
   ·rename_i ks vs;split at h3
    ·rename_i r hf;split at h3
     ·rename_i t' G8;simp only[M.wp]at h3;obtain⟨bs,Ba,H7,F5,Jj⟩:=show Dr G σ w s0 t0 (val a w0 s0)from hr.Bj s0 cur _ hs;obtain⟨mm,s',Fw,f1,f2,f3,f4,f5,f6⟩:=focus (here:=none) Ba F5 Dd
      rw[L0]at f1;obtain rfl:=Cy f1;have f2':=f2;simp only[Bp]at f2;obtain⟨b,es,clock,kc,vc,Ss,e1,hb,rfl,rfl,Pw,Ko,hp,Di,rfl⟩:=f2;injection e1 with e1
      obtain⟨n1,n0⟩:=Bs.1 f3;have Fm:∀x∈b::Ss,x ∉ bu:=fun x hx hxu=>by
       obtain⟨kk,Jn⟩:=Jj x (f4 x hx);rw[(hu4 x hxu).2.2.1]at Jn;cases Jn
      have Ts:a.eval k= .string ⟨⟨s⟩⟩:=(Bb.str.1 hy).1;obtain⟨Mb,g1,g2,g3⟩:=Aa8 (u:=u) (v:=a.eval v) (kv:=a.eval k) hb Pw Ko hp Di hf hy hu1 hu2 n1 (Fm b (by simp)) n0 hu3 (fun x hx hx0=>Fm x (by simp[hx0]) hx)
      obtain⟨fn1,fn2⟩:=Y5 Pw hf;have Jg:(Jh ks vs r s u).isAgg=false:=by cases r<;>rfl
      obtain⟨σ',r1⟩:=hr.Ae0 (w':=Hg w b (Ac4 es clock r (a.eval k) (a.eval v))) (news:=bu) hs Dd G8 rfl Jg hu4 (by simp[Hg]) rfl rfl rfl (fun cs Fw q1 q2 q3 hh q4=>by
       rw[L0]at q4;simp only[Af,B6]at q4;obtain⟨rfl,rfl⟩:=q4;have q5:=q1;simp only[Bp]at q5;obtain⟨b',es',Bo8,kc',vc',Bhk,e1',Dc,rfl,rfl,Biq,Bja,hp',Arc,rfl⟩:=q5;rw[e1]at e1';simp only[Em,Value.map.injEq,Af,and_true]at e1';subst e1';rw[hb]at Dc;simp only[Af,Obj.map.injEq]at Dc;obtain⟨rfl,rfl⟩:=Dc;have Atr:∀x∈b::Bhk,x ∉ bu:=fun x hx hxu=>by
        obtain⟨kk,Jn⟩:=q3 x hx;rw[(hu4 x hxu).2.2.1]at Jn;cases Jn
       obtain⟨n1',n0'⟩:=Bs.1 q2;obtain⟨Bkh,g1',g2',g3'⟩:=Aa8 (u:=u) (v:=a.eval v) (kv:=a.eval k) hb Biq Bja hp' Arc hf hy hu1 hu2 n1' (Atr b (by simp)) n0' hu3 (fun x hx hx0=>Atr x (by simp[hx0]) hx)
       exact⟨⟨Bkh,by rw[e1];exact g1',g2',fun x hx=>(g3' x hx).imp (fun h=>by simpa using h) id⟩,fun x hx=>Nu fun e=>hx (by simp[e])⟩)
      refine Abj (w':=Hg w b (Ac4 es clock r (a.eval k) (a.eval v))) ?_ (by rw[hd];exact hn G σ' _ _ _ hG r1 h3)
      have Aec:(Instr.findKey tk (.string ⟨⟨s⟩⟩) es.toList).run P w= .ok (r.bind fun j=>(es.toList[j]?).map fun e=>(j,e.val)) w:=by
       simp only[Instr.findKey,Sem.run_bind,run_underlying Ya,Result.andThen,fn1];rfl
      have Agf:(Instr.checkKey false 10000 tk (.string ⟨⟨s⟩⟩)).run P w= .ok () w:=An3 Ya false 9999;have Rw:(getObj b).run P w= .ok (.map es clock) w:=by simp[getObj,Sem.run,hb]
      have Fq:∀ob,(setObj b ob).run P w= .ok () (Hg w b ob):=fun ob=>by simp[setObj,Sem.run,hb,Hg]
      have Bi8:(Instr.mapUpdate t (.map (some b)) (.string ⟨⟨s⟩⟩) (a.eval v)).run P w= .ok () (Hg w b (Ac4 es clock r (.string ⟨⟨s⟩⟩) (a.eval v))):=by
       unfold Instr.mapUpdate;simp only[Sem.run_bind,run_underlying ht,Result.andThen,Rw,Agf,Aec];cases r with
       |none=>exact Fq _
       |some j=>
        obtain⟨_,fn3⟩:=fn2 j rfl;obtain⟨m1,q1,q2⟩:=Ah6 hf;obtain rfl:m1=j:=by omega
        obtain⟨q3,q4⟩:=Pw.get;obtain⟨v0,q5,q6,q7⟩:=q4 m1 _ q2;rw[B2,Eg]at q5;obtain⟨e0,q5,rfl⟩:=q5;have hek:e0.key= .string ⟨⟨s⟩⟩:=by
         rw[G7 (show valOf false e0.key=true from q6)]at q7;simp[Bi]at q7;exact q7.1
        have q8:es[m1]?=some e0:=by simpa using q5
        simp only[Option.bind_some,q5,Bx,q8,Option.getD_some,hek,Ayf,Fq,Sem.run_bind,Result.andThen];rfl
      have he:a.eval m= .map (some b):=e1;simp only[execOp,ho,he,Ts,Sem.run_bind,Bi8,Result.andThen];rfl
     ·exact h3.elim
    ·exact h3.elim
   ·exact h3.elim
  ·exact h3.elim
 ·exact h2.elim
theorem A6q{o:Oper}{d:Nat}{t:TypeId}(hd:o.dst=some d)(ho:o.op= .makeMap t none):Sound P N o (A4k d):=by
 intro G σ Fr w0 st a w Q next E hN hr hw hn A9
 subst hN;obtain⟨σ',st',r1,r2⟩:=hr.Yu (A9 d hd) (sv:=.own [] (.map [] [])) (o:=.map #[] 0) (c:=.map (some w.heap.size)) rfl (by intro _ e;cases e)
  (fun σ1 _ hb=>⟨[w.heap.size],by
    simp only[Bp,Value.cells];exact⟨_, #[],0,[],[],[],rfl,heap_alloc_new w _,rfl,rfl,rfl,⟨rfl,rfl⟩,List.Pairwise.nil,by simp,rfl⟩,rfl,by simp,by simpa using⟨0,hb⟩⟩) hw
 refine Df (w':=w.alloc (.map #[] 0)) ?_ (by rw[hd];exact hn G σ' st' _ _ (Mem.le.refl G) r1 r2)
 simp[execOp,ho,Instr.makeMap]
def Awu(d:Nat)(x:Bh)(i:Nat):M:=match x with
 | .t n=>.get n fun _ sv=>match sv with
   | .Lv s v p b=>match i with
     |0=>.Co (d≠s) fun _=>Ci (some d) (.pd s v p) .done
     |1=>Eo d (.v (.bool b))
     |_=>.fail
   |_=>Apd d x i
 |_=>Apd d x i
theorem Bb0{o:Oper}{d i:Nat}{x:Operand}{x':Bh}(hd:o.dst=some d)(ho:o.op= .extract x i)(hx:Bu N x x'=true):Sound P N o (Awu d x' i):=by
 intro G σ Fr w0 st a w Q next E hN hr hw hn A9
 have h2:=Bbz (P:=P) hd ho hx G σ Fr w0 st a w Q next E hN hr
 subst hN;cases x' with
 |c _=>exact h2 hw hn A9
 |Fo _ _=>exact h2 hw hn A9
 |t n=>
  obtain⟨rfl,Ej⟩:=Gb hx;simp only[Awu,M.wp]at hw;cases hs:st[n]? with
  |none=>simp[hs]at hw
  |some cur=>
   obtain⟨ver,sv⟩:=cur;simp only[hs]at hw;have Ba:=hr.slot Ej hs;split at hw
   ·rename_i s v p b;obtain⟨c0,hc,cu,g1,g2,g3⟩:=Ba;split at hw
    ·obtain⟨A2,hw⟩:=hw;obtain⟨σ',st',r1,r2⟩:=hr.Ci (d:=some d) (by rintro _ ⟨⟩;exact A9 d hd) (sv:=.pd s v p) (c:=c0) (fun d' Pu ver _=>by
      cases Pu;refine⟨cu,by rw[Az A2];exact g1,g2,fun inv t e hp ha=>?_⟩
      rw[Db (Ne.symm A2)];exact g3 inv t e hp ha) hw
     refine Df (w':=w) ?_ (by rw[hd];exact hn G σ' st' _ w (Mem.le.refl G) r1 r2)
     simp[execOp,ho,hc,Instr.extract]
    ·obtain⟨σ',st',r1,r2⟩:=hr.Xo (A9 d hd) (c:=.bool b) (Bb.bool.2 rfl) hw;refine Df (w':=w) ?_ (by rw[hd];exact hn G σ' st' _ w (Mem.le.refl G) r1 r2)
     simp[execOp,ho,hc,Instr.extract]
    ·exact hw.elim
   ·exact h2 hw hn A9
theorem A32{y:I}{v:Value}(h:Bi G y v.cells.toList)(hv:valOf y.isAgg v=true):Bb G y v:=by
 unfold Bb;cases hx:y.isAgg with
 |true=>
  rw[hx]at hv;obtain⟨a',rfl⟩:=Wk hv;rw[if_pos rfl];exact⟨a',rfl,h⟩
 |false=>
  rw[hx]at hv;rw[G7 hv]at h;rw[if_neg (by simp)]
  exact h
def A8m(d:Nat)(z:I)(ok:Bool)(x k:Bh):M:=Qi k fun y=>match y with
 | .str s=>rdH x fun h cur inv t p=>match D.at p t with
   |some dd=>match dd with
    | .map ks vs=>match Nd s ks 0 with
      |some r=>match r with
       |some i=>match vs[i]? with
        |some u=>match u with
         | .it y=>match ok with
           |true=>Ci (some d) (.F4 [.i y,.i (.bool true)]) .done
           |false=>Eo d (.v y)
         | .ptr _=>.Co (d≠h) fun _=>match ok with
           |true=>Ci (some d) (.Lv h cur (p++[i]++[0]) true) .done
           |false=>Ci (some d) (.pd h cur (p++[i]++[0])) .done
         |_=>.fail
        |none=>.fail
       |none=>match ok with
        |true=>Ci (some d) (.F4 [.i z,.i (.bool false)]) .done
        |false=>Eo d (.v z)
      |none=>.fail
    |_=>.fail
   |none=>.fail
 |_=>.fail
def A1d(P:Program)(tv:TypeId)(z:I):Bool:=match P.info? tv with
 |some i=>match i.zero with
  |some v=>valOf z.isAgg v&&match zI z v.cells.toList with
   |some []=>true
   |_=>false
  |none=>false
 |none=>false
theorem A5y{tv:TypeId}{z:I}(h:A1d P tv z=true):∃v,(zeroValue tv).run P w= .ok v w∧Bb G z v:=by
 unfold A1d at h;split at h
 ·rename_i i hi;split at h
  ·rename_i v hv;simp only[Ad]at h;obtain⟨h1,h2⟩:=h;split at h2
   ·rename_i h3;obtain⟨c,e,h4⟩:=Abx G z _ _ h3;rw[Dk]at e;refine⟨v,by simp[zeroValue,typeInfo,hi,hv],A32 (by rw[e];exact h4) h1⟩
   ·cases h2
  ·cases h
 ·cases h
def Ba2(P:Program)(t:TypeId)(z:I):Bool:=match P.underlying t with
 |some (.map tk tv)=>(match P.underlying tk with
  |some .string=>true
  |_=>false)&&A1d P tv z
 |_=>false
theorem Bb5{o:Oper}{d:Nat}{t:TypeId}{x k:Operand}{x' k':Bh}{z:I}{ok:Bool}(hd:o.dst=some d)(ho:o.op= .lookup t x k ok)(ht:Ba2 P t z=true)
 (hx:Bu N x x'=true) (hk:Bu N k k'=true):Sound P N o (A8m d z ok x' k'):=by
 intro G σ Fr w0 st a w Q next E hN hr hw hn A9
 subst hN;unfold Ba2 at ht;split at ht
 case h_2=>cases ht
 rename_i tk tv hu;simp only[Ad]at ht;obtain⟨Ya,hz⟩:=ht;split at Ya
 case h_2=>cases Ya
 rename_i Bah;obtain⟨zv,hz1,hz2⟩:=A5y (G:=G) (w:=w) hz;obtain⟨y,h2,hy⟩:=Hs hr hk hw;split at h2
 ·rename_i s;obtain⟨s0,cur,inv,t0,p,h3,hs,x0,hh0,Av6,Ao2,L0⟩:=Abu hr hx h2;split at h3
  ·rename_i d0 Dd;split at h3
   ·rename_i ks vs;split at h3
    ·rename_i r hf;obtain⟨bs,Ba,H7,F5,Jj⟩:=show Dr G σ w s0 t0 (val a w0 s0)from hr.Bj s0 cur _ hs;obtain⟨mm,s',Fw,f1,f2,f3,f4,f5,f6⟩:=focus (here:=none) Ba F5 Dd
     rw[L0]at f1;obtain rfl:=Cy f1;simp only[Bp]at f2;obtain⟨b,es,clock,kc,vc,Ss,e1,hb,rfl,rfl,Pw,Ko,hp,Di,rfl⟩:=f2;injection e1 with e1
     have Ts:a.eval k= .string ⟨⟨s⟩⟩:=(Bb.str.1 hy).1;obtain⟨fn1,fn2⟩:=Y5 Pw hf;have Aec:(Instr.findKey tk (.string ⟨⟨s⟩⟩) es.toList).run P w= .ok (r.bind fun j=>(es.toList[j]?).map fun e=>(j,e.val)) w:=by
      simp only[Instr.findKey,Sem.run_bind,run_underlying Bah,Result.andThen,fn1];rfl
     have Agf:∀em,(Instr.checkKey em 10000 tk (.string ⟨⟨s⟩⟩)).run P w= .ok () w:=fun em=>An3 Bah em 9999
     have Rw:(getObj b).run P w= .ok (.map es clock) w:=by simp[getObj,Sem.run,hb]
     have he:a.eval x= .map (some b):=e1;have run:∀{e:MapEntry} {i:Nat},r=some i→es.toList[i]?=some e→(execOp a.eval o).run P w= .ok (.value (if ok then .tuple #[e.val,.bool true]else e.val)) w:=by
      intro e i hri hei;subst hri;rw[Option.bind_some,hei,Bx]at Aec;simp only[execOp,ho,he,Ts,Instr.lookup,Sem.run_bind,run_underlying hu,Result.andThen,Rw,Agf,Aec,Sem.run_pure]
     have Bsp:r=none→(execOp a.eval o).run P w= .ok (.value (if ok then .tuple #[zv,.bool false]else zv)) w:=by
      intro hri;subst hri;rw[Option.bind_none]at Aec;simp only[execOp,ho,he,Ts,Instr.lookup,Sem.run_bind,run_underlying hu,Result.andThen,Rw,Agf,Aec,Sem.run_pure,hz1]
     split at h3
     ·rename_i i;split at h3
      ·rename_i u hvi;obtain⟨v,b1,bi,b2,q1,_,q2,q3,_⟩:=Ko.nth hvi;rw[B2,Eg]at q1;obtain⟨e0,q1,rfl⟩:=q1;split at h3
       ·rename_i y;simp only[Bp]at q3;have L9:=A32 q3.1 q2;split at h3
        ·obtain⟨σ',st',r1,r2⟩:=hr.Ci (d:=some d) (by rintro _ ⟨⟩;exact A9 d hd) (sv:=.F4 [.i y,.i (.bool true)]) (c:=.tuple #[e0.val,.bool true]) (fun d' _ ver _=>
          ⟨_,rfl,_,_,rfl,L9,_,_,rfl,Bb.bool.2 rfl,rfl⟩) h3
         exact Df (run rfl q1) (by rw[hd];exact hn G σ' st' _ w (Mem.le.refl G) r1 r2)
        ·obtain⟨σ',st',r1,r2⟩:=hr.Xo (A9 d hd) L9 h3;exact Df (run rfl q1) (by rw[hd];exact hn G σ' st' _ w (Mem.le.refl G) r1 r2)
       ·rename_i u';obtain⟨A2,h3⟩:=h3;have Brs:D.at (p++[i]) t0=some (.ptr u'):=by rw[V7 Dd];exact hvi
        simp only[Bp]at q3;obtain⟨g,cells,ty',Et,k1,k2,_⟩:=q3;have hev:e0.val= .pointer (some ⟨g,0,none⟩):=by
         have q2':valOf false e0.val=true:=q2;rw[G7 q2']at k1;injection k1
        have Bi4:spot w (p++[i]) t0 (none,(val a w0 s0).cells.toList)=some (none,[e0.val]):=by
         rw[Sd Dd L0 (y:=.ptr u') hvi];have:es.toList[i]?=some e0:=q1;simp only[Dz,he,hb,this];rw[hev];rfl
        have Pj:Qc w t0 (val a w0 s0) (p++[i]++[0]) e0.val:=by
         refine⟨u',g,0,cells.toList,by rw[V7 Brs];rfl,?_,hev⟩
         rw[Sd Brs Bi4 (y:=u') rfl];simp[Dz,hev,k2]
        split at h3
        ·obtain⟨σ',st',r1,r2⟩:=hr.Ci (d:=some d) (by rintro _ ⟨⟩;exact A9 d hd) (sv:=.Lv s0 cur (p++[i]++[0]) true) (c:=.tuple #[e0.val,.bool true]) (fun d' Pu ver _=>by
          cases Pu;refine⟨_,rfl,_,by rw[Az A2];exact hs,Ay _,fun Kj t' e _ _=>?_⟩
          cases e;rw[Db (Ne.symm A2)];exact Pj) h3
         exact Df (run rfl q1) (by rw[hd];exact hn G σ' st' _ w (Mem.le.refl G) r1 r2)
        ·obtain⟨σ',st',r1,r2⟩:=hr.Ci (d:=some d) (by rintro _ ⟨⟩;exact A9 d hd) (sv:=.pd s0 cur (p++[i]++[0])) (c:=e0.val) (fun d' Pu ver _=>by
          cases Pu;refine⟨_,by rw[Az A2];exact hs,Ay _,fun Kj t' e _ _=>?_⟩
          cases e;rw[Db (Ne.symm A2)];exact Pj) h3
         exact Df (run rfl q1) (by rw[hd];exact hn G σ' st' _ w (Mem.le.refl G) r1 r2)
       ·exact h3.elim
      ·exact h3.elim
     ·split at h3
      ·obtain⟨σ',st',r1,r2⟩:=hr.Ci (d:=some d) (by rintro _ ⟨⟩;exact A9 d hd) (sv:=.F4 [.i z,.i (.bool false)]) (c:=.tuple #[zv,.bool false]) (fun d' _ ver _=>
        ⟨_,rfl,_,_,rfl,hz2,_,_,rfl,Bb.bool.2 rfl,rfl⟩) h3
       exact Df (Bsp rfl) (by rw[hd];exact hn G σ' st' _ w (Mem.le.refl G) r1 r2)
      ·obtain⟨σ',st',r1,r2⟩:=hr.Xo (A9 d hd) hz2 h3;exact Df (Bsp rfl) (by rw[hd];exact hn G σ' st' _ w (Mem.le.refl G) r1 r2)
    ·exact h3.elim
   ·exact h3.elim
  ·exact h3.elim
 ·exact h2.elim
def A8n(d:Nat)(x:Bh):M:=rdH x fun _ _ _ t p=>match D.at p t with
 |some u=>match u with
  | .map ks _=>Eo d (.v (.int .i64 ks.length))
  |_=>.fail
 |none=>.fail
def A28(P:Program)(t:TypeId):Bool:=match P.underlying t with
 |some (.map _ _)=>true
 |_=>false
theorem Bb6{o:Oper}{d:Nat}{t:TypeId}{x:Operand}{x':Bh}(hd:o.dst=some d)(ho:o.op= .call {callee:=.builtin .len,args:= #[x],argTypes:= #[t]})(ht:A28 P t=true)(hx:Bu N x x'=true):Sound P N o (A8n d x'):=by
 intro G σ Fr w0 st a w Q next E hN hr hw hn A9
 subst hN;unfold A28 at ht;split at ht
 case h_2=>cases ht
 rename_i tk tv hu;obtain⟨s0,cur,inv,t0,p,h3,hs,x0,hh0,Av6,Ao2,L0⟩:=Abu hr hx hw;split at h3
 ·rename_i d0 Dd;split at h3
  ·rename_i ks vs;obtain⟨bs,Ba,H7,F5,Jj⟩:=show Dr G σ w s0 t0 (val a w0 s0)from hr.Bj s0 cur _ hs;obtain⟨mm,s',Fw,f1,f2,f3,f4,f5,f6⟩:=focus (here:=none) Ba F5 Dd
   rw[L0]at f1;obtain rfl:=Cy f1;simp only[Bp]at f2;obtain⟨b,es,clock,kc,vc,Ss,e1,hb,rfl,rfl,Pw,Ko,hp,Di,rfl⟩:=f2;injection e1 with e1
   have he:a.eval x= .map (some b):=e1;have Rw:(getObj b).run P w= .ok (.map es clock) w:=by simp[getObj,Sem.run,hb]
   have hl:es.size=ks.length:=by
    have:=Pw.get.1;simpa using this.symm
   obtain⟨σ',st',r1,r2⟩:=hr.Xo (A9 d hd) (c:=.int .i64 (ks.length:Int)) (Bb.int.2 rfl) h3;refine Df (w':=w) ?_ (by rw[hd];exact hn G σ' st' _ w (Mem.le.refl G) r1 r2)
   simp[execOp,ho,resolve,invoke,builtin,Builtin.len_,run_underlying hu,he,Rw,Result.andThen,hl,goInt]
  ·exact h3.elim
 ·exact h3.elim
end

def Ar1(m k v:Bh):M:=match v with
 | .t n=>.get n fun _ sv=>match sv with
   | .pd x ver p0=>match p0 with
     | [0]=>.get x fun cv Ek=>match Ek with
       | .own Ari u=>match u with
         | .ptr _=>.Co (alive ver Ari [0]=true) fun _=>.set x (cv+1) .no (Qi k fun y=>match y with
           | .str s=>rdH m fun h cur inv t p=>match p with
             | [0,i0]=>match t with
               | .ptr t1=>match t1 with
                 | .st l=>match l[i0]? with
                   |some d=>match d with
                    | .map ks vs=>match Nd s ks 0 with
                      |some r=>.Co (h≠x) fun _=>.set h (cur+1) (.own (bump inv [0,i0] (cur+1)) (.ptr (B7 (l.set i0 (Jh ks vs r s u))))) (.get x fun c2 _=>.set x (c2+1) (.pd h (cur+1) [0,i0,r.getD vs.length,0]) .done)
                      |none=>.fail
                    |_=>.fail
                   |none=>.fail
                 |_=>.fail
               |_=>.fail
             |_=>.fail
           |_=>.fail)
         |_=>.fail
       |_=>.fail
     |_=>.fail
   |_=>.fail
 |_=>.fail
section
variable{P:Program}{N:Nat}{G:Mem}{σ:Lab}{Fr:Mem}{w0:Base}{w:World}{st:St}{a:Act}
theorem Bfw{ks:List I}{vs:List D}{r:Option Nat}{k:List UInt8}{u:D}(h:∀i,r=some i→i<vs.length):(Jh ks vs r k u).Cr (r.getD vs.length)=some u:=by
 cases r with
 |none=>simp[Jh,D.Cr]
 |some i=>simp[Jh,D.Cr,h i rfl]
theorem Aow{d y:D}{i:Nat}{p:List Nat}(h:d.Cr i=some y):D.at (i::p) d=D.at p y:=by simp only[D.at,h]
theorem Aey{d y:D}{i:Nat}{p:List Nat}{z z':S7}(h:d.Cr i=some y)(h2:Dz w d z i=some z'):spot w (i::p) d z=spot w p y z':=by simp only[Ab.spot,h,h2]
theorem A6r{o:Oper}{t tk tv:TypeId}{m k v:Operand}{m' k' v':Bh}(hd:o.dst=none)(ho:o.op= .mapUpdate t m k v)(ht:P.underlying t=some (.map tk tv))(Ya:P.underlying tk=some .string)
 (hm:Bu N m m'=true) (hk:Bu N k k'=true) (hv:Bu N v v'=true):Sound P N o (Ar1 m' k' v'):=by
 intro G σ0 Fr w0 st0 a w Q next E hN hr0 hw hn A9
 subst hN;cases v' with
 |c _=>exact hw.elim
 |Fo _ _=>exact hw.elim
 |t n=>
  obtain⟨rfl,Ej⟩:=Gb hv;simp only[Ar1,M.wp]at hw;cases hs0:st0[n]? with
  |none=>simp[hs0]at hw
  |some Bvz=>
   obtain⟨vn,svn⟩:=Bvz;simp only[hs0]at hw;have Btj:=hr0.slot Ej hs0;split at hw
   case h_2=>exact hw.elim
   rename_i x ver p0;split at hw
   case h_2=>exact hw.elim
   cases hx:st0[x]? with
   |none=>simp[M.wp,hx]at hw
   |some Bv0=>
    obtain⟨cv,svx⟩:=Bv0;simp only[M.wp,hx]at hw;split at hw
    case h_2=>exact hw.elim
    rename_i Ari u;split at hw
    case h_2=>exact hw.elim
    rename_i d0;simp only[M.wp]at hw;obtain⟨X7,h1⟩:=hw;obtain⟨cc,e1,_,Pj⟩:=Btj;rw[hx]at e1;obtain rfl:=Cy e1;have Bm2:=show Dr G σ0 w x (.ptr d0) (val a w0 x)from hr0.Bj x cv _ hx;have hce:=Bm2.A0i (Pj Ari _ rfl (by simp) X7)
    obtain⟨bu,hu1,hu2,hu3,Bte⟩:=Bm2;rw[←hce]at hu1 hu2;have hr:=hr0.drop hx (Bk cv);have hu4:∀b∈bu,G b=none∧Fr b=none∧(σ0.drop x) b=none∧b<w.heap.size:=fun b hb=>by
     obtain⟨kk,Jn⟩:=Bte b hb;obtain⟨k1,k2,k3⟩:=hr0.Bz.own b _ Jn;exact⟨k1,k2,by simp[Lab.drop,Jn],k3⟩
    generalize hσ:σ0.drop x=σ at*;have Bxt:=(Ak.1 hx).1;have Bxu:(st0.set x (cv+1,SV.no))[x]?=some (cv+1,SV.no):=by simp[Bxt]
    generalize st0.set x (cv+1,SV.no)=st at*;obtain⟨y,h2,hy⟩:=Hs hr hk h1;split at h2
    case h_2=>exact h2.elim
    rename_i s;obtain⟨s0,cur,inv,t0,p,h3,hs,xx0,hh0,Av6,Ao2,L0⟩:=Abu hr hm h2;split at h3
    case h_2=>exact h3.elim
    rename_i i0;split at h3
    case h_2=>exact h3.elim
    rename_i t1;split at h3
    case h_2=>exact h3.elim
    rename_i l;split at h3
    case h_2=>exact h3.elim
    rename_i dd hli;split at h3
    case h_2=>exact h3.elim
    rename_i ks vs;split at h3
    case h_2=>exact h3.elim
    rename_i r hf;simp only[M.wp]at h3;obtain⟨A2,h3⟩:=h3;have Dd:D.at [0,i0] (.ptr (.st l))=some (.map ks vs):=by simp[D.at,D.Cr,hli]
    have G8:D.put [0,i0] (.ptr (.st l)) (Jh ks vs r s (.ptr d0))=some (.ptr (B7 (l.set i0 (Jh ks vs r s (.ptr d0))))):=by simp[D.put,D.Cr,hli,D.Bc]
    obtain⟨bs,Ba,H7,F5,Jj⟩:=show Dr G σ w s0 (.ptr (.st l)) (val a w0 s0)from hr.Bj s0 cur _ hs;have Fy:=Ba;rw[G7 H7]at Fy;simp only[Bp]at Fy;obtain⟨g,cells,tyg,Et,hcg,hg,hrl,N1⟩:=Fy;injection hcg with hcg
    obtain⟨_,_,B2k,fa1,fa2,fa3,fa4,_,_⟩:=focus (here:=some (g,0)) (d:=.st l) (p:=[i0]) (u:=.map ks vs) (cs:=cells.toList) (by simpa only[Bp]using hrl) (by rw[N1]at F5;exact(Bs.1 F5).2) (by simp[D.at,D.Cr,hli])
    obtain⟨mm,s',Fw,f1,f2,f3,f4,f5,f6⟩:=focus (here:=none) Ba F5 Dd
    rw[L0]at f1;obtain rfl:=Cy f1;simp only[Bp]at f2;obtain⟨b,es,clock,kc,vc,Ss,e1,hb,rfl,rfl,Pw,Ko,hp,Di,rfl⟩:=f2;injection e1 with e1
    obtain⟨n1,n0⟩:=Bs.1 f3;have Fm:∀x∈b::Ss,x ∉ bu:=fun x hx hxu=>by
     obtain⟨kk,Jn⟩:=Jj x (f4 x hx);rw[(hu4 x hxu).2.2.1]at Jn;cases Jn
    have Ts:a.eval k= .string ⟨⟨s⟩⟩:=(Bb.str.1 hy).1;obtain⟨Mb,g1,g2,g3⟩:=Aa8 (u:=.ptr d0) (v:=a.eval (.tmp n)) (kv:=a.eval k) hb Pw Ko hp Di hf hy hu1 hu2 n1 (Fm b (by simp)) n0 hu3 (fun x hx hx0=>Fm x (by simp[hx0]) hx)
    obtain⟨fn1,fn2⟩:=Y5 Pw hf;have Jg:(Jh ks vs r s (.ptr d0)).isAgg=false:=by cases r<;>rfl
    obtain⟨σ',r1⟩:=hr.Ae0 (w':=Hg w b (Ac4 es clock r (a.eval k) (a.eval (.tmp n)))) (news:=bu) hs Dd G8 rfl Jg hu4 (by simp[Hg]) rfl rfl rfl (fun cs Fw q1 q2 q3 hh q4=>by
     rw[L0]at q4;simp only[Af,B6]at q4;obtain⟨rfl,rfl⟩:=q4;have q5:=q1;simp only[Bp]at q5;obtain⟨b',es',Bo8,kc',vc',Bhk,e1',Dc,rfl,rfl,Biq,Bja,hp',Arc,rfl⟩:=q5;rw[e1]at e1';simp only[Em,Value.map.injEq,Af,and_true]at e1';subst e1';rw[hb]at Dc;simp only[Af,Obj.map.injEq]at Dc;obtain⟨rfl,rfl⟩:=Dc;have Atr:∀x∈b::Bhk,x ∉ bu:=fun x hx hxu=>by
      obtain⟨kk,Jn⟩:=q3 x hx;rw[(hu4 x hxu).2.2.1]at Jn;cases Jn
     obtain⟨n1',n0'⟩:=Bs.1 q2;obtain⟨Bkh,g1',g2',g3'⟩:=Aa8 (u:=.ptr d0) (v:=a.eval (.tmp n)) (kv:=a.eval k) hb Biq Bja hp' Arc hf hy hu1 hu2 n1' (Atr b (by simp)) n0' hu3 (fun x hx hx0=>Atr x (by simp[hx0]) hx)
     exact⟨⟨Bkh,by rw[e1];exact g1',g2',fun x hx=>(g3' x hx).imp (fun h=>by simpa using h) id⟩,fun x hx=>Nu fun e=>hx (by simp[e])⟩)
    have Btk:=(Ak.1 hs).1;have hx2:(st.set s0 (cur+1,SV.own (bump inv [0,i0] (cur+1)) (.ptr (B7 (l.set i0 (Jh ks vs r s (.ptr d0)))))))[x]?=some (cv+1,SV.no):=by rw[Az A2];exact Bxu
    simp only[hx2]at h3;have hri:∀i,r=some i→i<vs.length:=fun i e=>by
     obtain⟨_,fn3⟩:=fn2 i e;have hlen:=Ko.length;rw[An]at hlen;rw[hlen];have:i<es.toList.length:=by simpa using fn3
     exact this
    have Zu:Qc (Hg w b (Ac4 es clock r (a.eval k) (a.eval (.tmp n)))) (.ptr (B7 (l.set i0 (Jh ks vs r s (.ptr d0))))) (val a w0 s0) [0,i0,r.getD vs.length,0] (val a w0 x):=by
     rw[←hce];have hux:=hu1;rw[G7 (show valOf false (a.eval (.tmp n))=true from hu2)]at hux;simp only[Bp]at hux;obtain⟨gx,cx,tyx,bux,hcx,hgx,_,hbx⟩:=hux;injection hcx with hcx
     have Bwy:gx≠b:=fun e=>Fm b (by simp) (by rw[hbx,e];simp)
     have Mx:=L0;rw[hcg]at Mx;have A2g:i0<l.length:=(Ak.1 hli).1;simp only[Ab.spot,D.Cr,Dz,Value.cells,hg,hli]at Mx;simp only[Ab.spot,D.Cr,Dz,hli]at fa1;have Bhx:=fa2;rw[←Cy fa1]at Bhx;simp only[Bp]at Bhx;obtain⟨b1,_,_,_,_,bs1,Uo,_,_,_,_,_,_,_,Bxm⟩:=Bhx;simp only[Af,B6]at Mx;have hbb:b1=b:=by
      have h5:=Mx.2;rw[Uo,e1]at h5;simpa using h5
     have hgb:g≠b:=fun e=>by
      rw[N1]at F5;refine(Bs.1 F5).1 (fa4 g ?_);rw[Bxm,hbb,e];simp
     have hj:=Bfw (ks:=ks) (vs:=vs) (k:=s) (u:=.ptr d0) hri;have Fq:(l.set i0 (Jh ks vs r s (.ptr d0)))[i0]?=some (Jh ks vs r s (.ptr d0)):=by simp[A2g]
     have Cq:(Jh ks vs r s (.ptr d0)).size=1:=by cases r<;>rfl
     have Bwr:∃e clk es',Ac4 es clock r (a.eval k) (a.eval (.tmp n))= .map es' clk∧es'[r.getD vs.length]?=some e∧e.val=a.eval (.tmp n):=by
      have hlen:=Ko.length;rw[An]at hlen;cases r with
      |none=>exact⟨{key:=a.eval k,val:=a.eval (.tmp n),born:=clock},clock+1,_,rfl,by simp[hlen],rfl⟩
      |some i=>
       have hi:=hri i rfl;rw[hlen]at hi;have hi:i<es.size:=by simpa using hi
       exact⟨{es[i]with key:=a.eval k,val:=a.eval (.tmp n)},clock,_,rfl,by show(es.modify i _)[i]?=_;rw[Array.getElem?_modify,if_pos rfl,Bg hi];rfl,rfl⟩
     obtain⟨e,clk,es',h6,h7,h8⟩:=Bwr;refine⟨d0,gx,0,cx.toList,?_,?_,hcx⟩
     ·rw[Aow (d:=.ptr _) (i:=0) rfl,Aow (Acw.trans Fq),Aow hj,Aow (d:=.ptr d0) (i:=0) rfl];rfl
     ·rw[h6,hcg];rw[Aey (d:=.ptr _) (i:=0) rfl (z':=(some (g,0),cells.toList)) (by simp[Dz,Value.cells,Nu hgb,hg])]
      rw[Aey (Acw.trans Fq) (z':=(hh0,[.map (some b)])) (by
       rw[R0,Fq];simp only[Cq,List.take_set_of_le (Ay i0)];have h9:=Mx.2;rw[e1]at h9;simp only[D.size]at h9;rw[h9];simp[Mx.1])]
      rw[Aey hj (z':=(none,[a.eval (.tmp n)])) (by
       have h10:es'.toList[r.getD vs.length]?=some e:=by rw[Array.getElem?_toList];exact h7
       have h11:Dz (Hg w b (.map es' clk)) (Jh ks vs r s (.ptr d0)) (hh0,[.map (some b)]) (r.getD vs.length)=some (none,e.val.cells.toList):=by
        generalize hJ:r.getD vs.length=J at*;cases r<;>simp only[Jh,Dz,Zc hb,h10]
       rw[h11,h8,hcx];rfl)]
      rw[Aey (d:=.ptr d0) (i:=0) rfl (z':=(some (gx,0),cx.toList)) (by simp[Dz,hcx,Nu Bwy,hgx])]
      rfl
    refine Abj (w':=Hg w b (Ac4 es clock r (a.eval k) (a.eval (.tmp n)))) ?_ (by
     rw[hd];refine hn G σ' _ _ _ (Mem.le.refl G) ?_ h3;refine Rel.self r1 r1.Bz (Mem.le.refl G) hx2 (Bk _) (fun s' _=>Kept.refl _ _ _) ?_ (by intro _ e;cases e) (by intro _ _ e;cases e)
     refine⟨_,by rw[Az (Ne.symm A2)];simp[Btk];rfl,Ay _,fun Kj d e _ _=>?_⟩
     cases e;exact Zu)
    have Aec:(Instr.findKey tk (.string ⟨⟨s⟩⟩) es.toList).run P w= .ok (r.bind fun j=>(es.toList[j]?).map fun e=>(j,e.val)) w:=by
     simp only[Instr.findKey,Sem.run_bind,run_underlying Ya,Result.andThen,fn1];rfl
    have Agf:(Instr.checkKey false 10000 tk (.string ⟨⟨s⟩⟩)).run P w= .ok () w:=An3 Ya false 9999;have Rw:(getObj b).run P w= .ok (.map es clock) w:=by simp[getObj,Sem.run,hb]
    have Fq:∀ob,(setObj b ob).run P w= .ok () (Hg w b ob):=fun ob=>by simp[setObj,Sem.run,hb,Hg]
    have Bi8:(Instr.mapUpdate t (.map (some b)) (.string ⟨⟨s⟩⟩) (a.eval (.tmp n))).run P w= .ok () (Hg w b (Ac4 es clock r (.string ⟨⟨s⟩⟩) (a.eval (.tmp n)))):=by
     unfold Instr.mapUpdate;simp only[Sem.run_bind,run_underlying ht,Result.andThen,Rw,Agf,Aec];cases r with
     |none=>exact Fq _
     |some j=>
      obtain⟨_,fn3⟩:=fn2 j rfl;obtain⟨m1,q1,q2⟩:=Ah6 hf;obtain rfl:m1=j:=by omega
      obtain⟨q3,q4⟩:=Pw.get;obtain⟨v0,q5,q6,q7⟩:=q4 m1 _ q2;rw[B2,Eg]at q5;obtain⟨e0,q5,rfl⟩:=q5;have hek:e0.key= .string ⟨⟨s⟩⟩:=by
       rw[G7 (show valOf false e0.key=true from q6)]at q7;simp[Bi]at q7;exact q7.1
      have q8:es[m1]?=some e0:=by simpa using q5
      simp only[Option.bind_some,q5,Bx,q8,Option.getD_some,hek,Ayf,Fq,Sem.run_bind,Result.andThen];rfl
    have he:a.eval m= .map (some b):=e1;simp only[execOp,ho,he,Ts,Sem.run_bind,Bi8,Result.andThen];rfl
end
end Go.Ab
