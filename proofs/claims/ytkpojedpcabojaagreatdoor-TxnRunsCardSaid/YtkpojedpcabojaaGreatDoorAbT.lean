/- Lemmas -/
import Derived.Test.YtkpojedpcabojaaGreatDoorAbJ
import Derived.Maps.RangeRun
set_option linter.unusedVariables false
set_option linter.unusedSimpArgs false
namespace Go.Ab
open Go.Op
def Aq(w:World)(b:Nat)(o:Obj):World:={w with heap:=w.heap.setIfInBounds b o}
def Kt(str:List UInt8)(pos:Nat):Nat × Nat:=Utf8.decode ⟨⟨str⟩⟩ pos
def Acd(d:Nat)(x:D6):M:=rdI x fun u=>match u with
 | .str s=>Jz d (.sit s 0)
 |_=>.fail
def Vc(d:Option Nat)(x:D6):M:=match x with
 | .t n=>.get n fun ver sv=>match sv with
   | .sit s pos=>.ite (decide (pos<s.length))
    (.set n (ver+1) (.sit s (pos+(Kt s pos).2)) (.Hh (d≠some n) fun _=>Gj d (.tup [.i (.bool true),.i (.int .i64 pos),.i (.int .i32 (Kt s pos).1)]) .done))
    (Gj d (.tup [.i (.bool false)]) .done)
   |_=>.fail
 |_=>.fail
section
variable{P:Program}{N:Nat}{G:Mem}{σ:Lab}{Fr:Mem}{w0:Base}{w:World}{st:St}{a:Act}
theorem Aev{o:Oper}{d:Nat}{t:TypeId}{x:Operand}{x':D6}(hd:o.dst=some d)(ho:o.op= .range t x)(hx:Jj N x x'=true)(ht:P.underlying t=some .string):Sound P N o (Acd d x'):=by
 intro G σ Fr w0 st a w Q next E hN hr hw hn C2
 subst hN;obtain⟨u,h1,hu⟩:=J8 hr hx hw;split at h1
 ·rename_i s;obtain⟨hc,hl⟩:=C7.str.1 hu;obtain⟨σ',st',r1,r2⟩:=hr.Ayv (C2 d hd) (sv:=.sit s 0) (o:=.stringIter ⟨⟨s⟩⟩ 0) (c:=.pointer (some ⟨w.heap.size,0,none⟩)) rfl (by intro _ e;cases e)
   (fun σ1 _ hb=>⟨w.heap.size,rfl,hb,heap_alloc_new w _⟩) h1
  refine Jt (w':=w.alloc (.stringIter ⟨⟨s⟩⟩ 0)) ?_ (by rw[hd];exact hn G σ' st' _ _ (Mem.le.refl G) r1 r2)
  simp[execOp,ho,Instr.range,run_underlying ht,hc]
 ·exact h1.elim
theorem Aax{o:Oper}{x:Operand}{x':D6}(ho:o.op= .next x true)(hx:Jj N x x'=true):Sound P N o (Vc o.dst x'):=by
 intro G σ Fr w0 st a w Q next E hN hr hw hn C2
 subst hN;cases x' with
 |c _=>exact hw.elim
 |Ahc _ _=>exact hw.elim
 |t n=>
  obtain⟨rfl,Agv⟩:=J0 hx;simp only[Vc,M.wp]at hw;cases hs:st[n]? with
  |none=>simp[hs]at hw
  |some cur=>
   obtain⟨ver,sv⟩:=cur;simp only[hs]at hw;have Dh:=hr.slot Agv hs;split at hw
   ·rename_i s pos;obtain⟨b,hc,hσ,hb⟩:=Dh;obtain⟨h1,h2⟩:=hw;have Btd:b<w.heap.size:=(Ht.1 hb).1;have Avj:(getObj b).run P w= .ok (.stringIter ⟨⟨s⟩⟩ pos) w:=by simp[getObj,Sem.run,hb]
    have Hr:(⟨⟨s⟩⟩:ByteArray).size=s.length:=rfl;by_cases hp:pos<s.length
    ·have h1:=h1 (decide_eq_true hp);obtain⟨Cf,h1⟩:=h1
     let w1:=Aq w b (.stringIter ⟨⟨s⟩⟩ (pos+(Kt s pos).2))
     have Akv:(setObj b (.stringIter ⟨⟨s⟩⟩ (pos+(Kt s pos).2))).run P w= .ok () w1:=by simp[setObj,Sem.run,hb,w1,Aq]
     have A1d:w1.heap[b]?=some (.stringIter ⟨⟨s⟩⟩ (pos+(Kt s pos).2)):=by simp[w1,Aq,Btd]
     have Av2:∀x,x≠b→w1.heap[x]?=w.heap[x]?:=by
      intro x hx;simp[w1,Aq,Ajv,Ne.symm hx]
     obtain⟨k1,k2,k3⟩:=hr.Fc.own b _ hσ;have H2:WOk G σ Fr w0 w1:=by
      refine⟨?_,?_,hr.Fc.inj,?_,hr.Fc.os,hr.Fc.tape,hr.Fc.output,?_,hr.Fc.apart,hr.Fc.amb⟩
      ·intro b' o' h;rw[Av2 b' (by rintro rfl;rw[k1]at h;cases h)]
       exact hr.Fc.fixed b' o' h
      ·intro b' Gf h;obtain⟨q1,q2,q3⟩:=hr.Fc.own b' Gf h;exact⟨q1,q2,by simpa[w1,Aq]using q3⟩
      ·intro b' o' h;rw[Av2 b' (by rintro rfl;rw[k2]at h;cases h)]
       exact hr.Fc.frame b' o' h
      ·have:=hr.Fc.size;simpa[w1,Aq]using this
     have hv:val a w0 n=a.eval (.tmp n):=J2 (by rw[hr.n];exact Agv)
     have hr1:Rel G σ Fr w0 (st.set n (ver+1,.sit s (pos+(Kt s pos).2))) a w1:=by
      refine Rel.self hr H2 (Mem.le.refl G) hs (Ej _) ?_ ?_
      ·intro s' hs' b' k Sy;refine⟨Sy,Av2 b' ?_⟩;rintro rfl;rw[hσ]at Sy;cases Sy;exact hs' rfl
      ·exact⟨b,by rw[hv];exact hc,hσ,A1d⟩
     obtain⟨σ',st',r1,r2⟩:=hr1.Gj C2 (sv:=.tup [.i (.bool true),.i (.int .i64 pos),.i (.int .i32 (Kt s pos).1)]) (c:=.tuple #[.bool true,.int .i64 pos,.int .i32 (Kt s pos).1]) (fun d' hd ver _=>
      ⟨_,rfl,_,_,rfl,C7.bool.2 rfl,_,_,rfl,C7.int.2 rfl,_,_,rfl,C7.int.2 rfl,rfl⟩) h1
     refine Jt (w':=w1) ?_ (hn G σ' st' _ w1 (Mem.le.refl G) r1 r2);have Btm:Utf8.decode ⟨⟨s⟩⟩ pos=((Kt s pos).1,(Kt s pos).2):=rfl;simp only[execOp,ho,hc,Instr.next,Sem.run_bind,Avj,Result.andThen,Hr,if_pos hp,Btm,Akv,Sem.run_pure];rfl
    ·have h2:=h2 (decide_eq_false hp);obtain⟨σ',st',r1,r2⟩:=hr.Gj C2 (sv:=.tup [.i (.bool false)]) (c:=.tuple #[.bool false]) (fun d' hd ver _=>⟨_,rfl,_,_,rfl,C7.bool.2 rfl,rfl⟩) h2
     refine Jt (w':=w) ?_ (hn G σ' st' _ w (Mem.le.refl G) r1 r2);simp only[execOp,ho,hc,Instr.next,Sem.run_bind,Avj,Result.andThen,Hr,if_neg hp,Sem.run_pure]
   ·exact hw.elim
def Ab0(d:Nat)(x:D6):M:=M6 x fun u=>Jz d (.own [] u)
theorem Wa{o:Oper}{d:Nat}{x:Operand}{x':D6}(hd:o.dst=some d)(ho:o.op= .move x∨o.op= .assign x)(hx:Jj N x x'=true):Sound P N o (Ab0 d x'):=by
 intro G0 σ0 Fr w0 st0 a w Q next E hN hr hw hn C2
 subst hN;obtain⟨u,G,σ,st,hG,hr1,h1,hf⟩:=Tp hr hx hw;obtain⟨σ',st',r1,r2⟩:=hr1.Anp (P:=P) (C2 d hd) hf h1;refine Jt (w':=w) (v:=a.eval x) ?_ (by rw[hd];exact hn G σ' st' _ w hG r1 r2)
 rcases ho with ho|ho<;>simp[execOp,ho]
end

section
variable{P:Program}{N:Nat}{G:Mem}{σ:Lab}{Fr:Mem}{w0:Base}{w:World}{st:St}{a:Act}
end

open Go.Op
def Lo(k:List UInt8):List I→Nat→Option (Option Nat)
 | [],_=>some none
 |x::l,i=>match x with
  | .str s=>if s=k then some (some i)else Lo k l (i+1)
  |_=>none
theorem U3{k:List UInt8}:∀{l:List I} {i j:Nat},Lo k l i=some (some j)→∃m,j=i+m∧l[m]?=some (.str k)
 | [],i,j,h=>by simp[Lo]at h
 |x::l,i,j,h=>by
  simp only[Lo]at h;split at h
  ·split at h
   ·rename_i s hs;subst hs;cases h;exact⟨0,rfl,rfl⟩
   ·obtain⟨m,h1,h2⟩:=U3 h;exact⟨m+1,by omega,by simpa using h2⟩
  ·cases h
def Lt(ks:List I)(vs:List D)(r:Option Nat)(k:List UInt8)(u:D):D:=match r with
 |some i=>.map ks (vs.set i u)
 |none=>.map (ks++[.str k]) (vs++[u])
def Zh(d:Nat):M:=Jz d (.own [] (.map [] []))
def Abz(m k v:D6):M:=M6 v fun u=>rdI k fun y=>match y with
 | .str s=>rdH m fun h cur inv t p=>match D.at p t with
   |some d=>match d with
    | .map ks vs=>match Lo s ks 0 with
      |some r=>match D.put p t (Lt ks vs r s u)with
       |some t'=>.set h (cur+1) (.own (bump inv p (cur+1)) t') .done
       |none=>.fail
      |none=>.fail
    |_=>.fail
   |none=>.fail
 |_=>.fail
theorem Aos.append{G:Mem}{x:I}{v:Value}(h1:valOf x.isAgg v=true)(h2:D8 G x v.cells.toList):∀{ks:List I} {cs:List Value},Aos G ks cs→Aos G (ks++[x]) (cs++[v])
 | [],cs,h=>by
   simp only[Aos]at h;subst h;simp only[H4,Aos];exact⟨v,[],rfl,h1,h2,rfl⟩
 |y::ks,cs,h=>by
  simp only[Aos]at h;obtain⟨v',c',rfl,h3,h4,h5⟩:=h;simp only[H3,Aos];exact⟨v',_,rfl,h3,h4,Aos.append h1 h2 h5⟩
theorem Aos.get{G:Mem}:∀{ks:List I} {cs:List Value},Aos G ks cs→ks.length=cs.length∧∀(i:Nat) (x:I),ks[i]?=some x→∃v,cs[i]?=some v∧valOf x.isAgg v=true∧D8 G x v.cells.toList
 | [],cs,h=>by
   simp only[Aos]at h;subst h;exact⟨rfl,fun i x h=>by simp at h⟩
 |y::ks,cs,h=>by
  simp only[Aos]at h;obtain⟨v',c',rfl,h3,h4,h5⟩:=h;obtain⟨k1,k2⟩:=Aos.get h5;refine⟨by simp[k1],fun i x hx=>?_⟩
  cases i with
  |zero=>cases hx;exact⟨v',rfl,h3,h4⟩
  |succ i=>simpa using k2 i x (by simpa using hx)
theorem Aiz.append{G:Mem}{w:World}{d:D}{v:Value}{b:List Nat}(h1:valOf d.isAgg v=true)(h2:Fe G w d v.cells.toList b):∀{vs:List D} {cs:List Value} {bs:List Nat},Aiz G w vs cs bs→Aiz G w (vs++[d]) (cs++[v]) (bs++b)
 | [],cs,bs,h=>by
   simp only[Aiz]at h;obtain⟨rfl,rfl⟩:=h;simp only[H4,Aiz];exact⟨v,[],b,[],rfl,by simp,h1,h2,rfl,rfl⟩
 |y::vs,cs,bs,h=>by
  simp only[Aiz]at h;obtain⟨v',c',b1,b2,rfl,rfl,h3,h4,h5⟩:=h;simp only[H3,Aiz];exact⟨v',_,b1,b2++b,rfl,by simp,h3,h4,Aiz.append h1 h2 h5⟩
theorem Xq{α:Type}{l:List α}{i:Nat}{x:α}(h:l[i]?=some x):l.set i x=l:=by
 obtain⟨h1,rfl⟩:=A7.1 h;exact List.set_getElem_self h1
theorem Vw{α:Type}{f:α→α}:∀{l:List α} {i:Nat} {x:α},l[i]?=some x→l.modify i f=l.set i (f x)
 | [],i,x,h=>by simp at h
 |a::l,0,x,h=>by cases h;rfl
 |a::l,i+1,x,h=>by
  rw[List.modify_succ_cons,Ais,Vw (l:=l) (by simpa using h)]
theorem Aiz.length{G:Mem}{w:World}:∀{vs:List D} {cs:List Value} {bs:List Nat},Aiz G w vs cs bs→vs.length=cs.length
 | [],cs,bs,h=>by
   simp only[Aiz]at h;obtain⟨rfl,rfl⟩:=h;rfl
 |y::vs,cs,bs,h=>by
  simp only[Aiz]at h;obtain⟨v',c',b1,b2,rfl,rfl,h3,h4,h5⟩:=h;simp[Aiz.length h5]
theorem Aiz.put{G:Mem}{w w':World}{u:D}{v:Value}{b:List Nat}(h1:valOf u.isAgg v=true)(h2:Fe G w' u v.cells.toList b):∀{vs:List D} {cs:List Value} {bs:List Nat} {i:Nat},i<vs.length→Aiz G w vs cs bs→(∀x∈bs,w'.heap[x]?=w.heap[x]?)→
 ∃b1 b0 b2,bs=b1++b0++b2∧Aiz G w' (vs.set i u) (cs.set i v) (b1++b++b2)
 | [],cs,bs,i,hi,h,_=>by simp at hi
 |y::vs,cs,bs,0,hi,h,hk=>by
  simp only[Aiz]at h;obtain⟨v',c',b1,b2,rfl,rfl,h3,h4,h5⟩:=h;refine⟨[],b1,b2,by simp,?_⟩
  simp only[Akm,H4,Aiz];exact⟨v,c',b,b2,rfl,rfl,h1,h2,h5.tr (Mem.le.refl G) fun x hx=>hk x (by simp[hx])⟩
 |y::vs,cs,bs,i+1,hi,h,hk=>by
  simp only[Aiz]at h;obtain⟨v',c',b1,b2,rfl,rfl,h3,h4,h5⟩:=h;obtain⟨k1,k0,k2,rfl,k3⟩:=Aiz.put h1 h2 (i:=i) (by simpa using hi) h5 fun x hx=>hk x (by simp[hx])
  refine⟨b1++k1,k0,k2,by simp,?_⟩
  simp only[Ais,Aiz];exact⟨v',_,b1,k1++b++k2,rfl,by simp,h3,h4.tr (Mem.le.refl G) fun x hx=>hk x (by simp[hx]),k3⟩
theorem Yb(k s:List UInt8):((⟨⟨k⟩⟩:ByteArray)==⟨⟨s⟩⟩)=decide (k=s):=by
 show ByteArray.beq _ _=_;unfold ByteArray.beq;rw[Bool.eq_iff_iff];simp
theorem Rr{G:Mem}{k:List UInt8}:∀{ks:List I} {es:List MapEntry} {i:Nat} {r:Option Nat},Aos G ks (es.map (·.key))→Lo k ks i=some r→
 Instr.findNow .string (.string ⟨⟨k⟩⟩) es i=some (r.bind fun j=>(es[j - i]?).map fun e=>(j,e.val))∧∀j,r=some j→i≤j∧j - i<es.length
 | [],es,i,r,h,hf=>by
   simp only[Aos,List.map_eq_nil_iff]at h;subst h;simp only[Lo,A0]at hf;subst hf;exact⟨rfl,fun j e=>by cases e⟩
 |x::ks,[],i,r,h,hf=>by
  simp only[Aos,Kc]at h;obtain⟨v,c',h1,_⟩:=h;cases h1
 |x::ks,e::es,i,r,h,hf=>by
  simp only[Aos,Cy,Ajg]at h;obtain⟨v,c',⟨h1,rfl⟩,h2,h3,h4⟩:=h;simp only[Lo]at hf;split at hf
  ·rename_i s;have hv:v= .string ⟨⟨s⟩⟩:=by
    have h3:=h3;rw[J9 (show valOf false v=true from h2)]at h3;simp[D8]at h3;exact h3.1
   rw[hv]at h1;split at hf
   ·rename_i hs;subst hs;cases hf;refine⟨?_,fun j e'=>by cases e';exact⟨Bz _,by simp⟩⟩
    simp[Instr.findNow,h1,Instr.sameNow,Yb]
   ·rename_i hs;obtain⟨k1,k2⟩:=Rr h4 hf;have Cf:((⟨⟨k⟩⟩:ByteArray)==⟨⟨s⟩⟩)=false:=by
     rw[Yb];exact decide_eq_false fun e'=>hs e'.symm
    refine⟨?_,fun j e'=>?_⟩
    ·simp only[Instr.findNow,h1,Instr.sameNow,Cf];rw[k1];cases r with
     |none=>rfl
     |some j=>
      obtain⟨k3,k4⟩:=k2 j rfl;simp only[Option.bind_some];have:j - i=(j - (i+1))+1:=by omega
      rw[this,Du]
    ·obtain⟨k3,k4⟩:=k2 j e';exact⟨by omega,by simp;omega⟩
  ·cases hf
theorem Lie.keeps{m:Lie}{w w':World}{bs ubs:List Nat}{s s':Avv}(h:m.fits w bs ubs s s')(hk:∀b∈bs,b ∉ ubs→w'.heap[b]?=w.heap[b]?):m.new w w' bs ubs s'.2 s'.2:=by
 cases m with
 |inl pre post=>exact hk
 |blk g pre post ty fz=>
  obtain⟨h0,h1,⟨row,h2,_,h3⟩,_⟩:=h;exact⟨by rw[hk g h0 h1,h2, ←h3],fun b hb hu _=>hk b hb hu⟩
 |val=>exact⟨rfl,hk⟩
section
variable{P:Program}{N:Nat}{G:Mem}{σ:Lab}{Fr:Mem}{w0:Base}{w:World}{st:St}{a:Act}
theorem Rel.Bhn{w':World}{s cur:Nat}{inv:Inv}{p:List Nat}{t t' u u':D}{news:List Nat}(h:Rel G σ Fr w0 st a w)(hs:st[s]?=some (cur,.own inv t))(C3:t.at p=some u)(Aof:t.put p u'=some t')(hul:u.leaf=false)
 (hag:u'.isAgg=u.isAgg) (hn:∀b∈news,G b=none∧Fr b=none∧σ b=none∧b<w.heap.size) (Hr:w'.heap.size=w.heap.size) (hos:w'.os=w.os) (htp:w'.tape=w.tape) (hou:w'.output=w.output)
 (hw:∀cs ubs,Fe G w u cs ubs→ubs.Nodup→(∀b∈ubs,∃k,σ b=some (s,k))→(∀hh,spot w p t (none,(val a w0 s).cells.toList)=some (hh,cs)→(∃Asv,Fe G w' u' cs Asv∧Asv.Nodup∧∀b∈Asv,b∈ubs∨b∈news)∧∀b,b ∉ ubs→w'.heap[b]?=w.heap[b]?)):
 ∃σ',Rel G σ' Fr w0 (st.set s (cur+1,.own (bump inv p (cur+1)) t')) a w':=by
 obtain⟨bs,Dh,hva,hnd,Aoe⟩:=show Ac5 G σ w s t (val a w0 s)from h.Eb s cur _ hs;obtain⟨m,s',ubs,f1,f2,f3,f4,f5,f6⟩:=focus (here:=none) Dh hnd C3
 obtain⟨⟨Asv,g1,g2,g3⟩,g4⟩:=hw s'.2 ubs f2 f3 (fun b hb=>Aoe b (f4 b hb)) s'.1 f1
 have hnb:∀b∈news,b ∉ bs:=fun b hb hbs=>by
  obtain⟨k,hk⟩:=Aoe b hbs;rw[(hn b hb).2.2.1]at hk;cases hk
 obtain⟨bs',r1,r2,r3,r4,r5⟩:=f6 G w' u' s'.2 Asv t' (Mem.le.refl G) rfl hag g1 g2 (fun b hb=>(g3 b hb).imp id (hnb b)) (Lie.keeps f5 fun b _ hu=>g4 b hu) Aof
 have Auv:m.cells (val a w0 s).cells.toList s'.2=(val a w0 s).cells.toList:=(Lie.same f5).2;rw[Auv]at r1 r5;have hta:t'.isAgg=t.isAgg:=by
  rw[r4];split
  ·rename_i hp;subst hp;simp only[D.at,A0]at C3;rw[hag,C3]
  ·rfl
 obtain⟨K,hK⟩:=h.Fc.room s;have hold:∀x k,σ x=some k→σ.Anp s K news x=some k:=fun x k hx=>by
  rw[Lab.Asn]
  ·exact hx
  ·intro hm;have:=(hn x hm).2.2.1;rw[hx]at this;cases this
 have Bqi:WOk G σ Fr w0 w':=by
  refine⟨?_,?_,h.Fc.inj,?_,hos.trans h.Fc.os,htp.trans h.Fc.tape,hou.trans h.Fc.output,by rw[Hr];exact h.Fc.size,h.Fc.apart,h.Fc.amb⟩
  ·intro b o hb;rw[g4 b fun hu=>?_]
   ·exact h.Fc.fixed b o hb
   ·obtain⟨k,hk⟩:=Aoe b (f4 b hu);rw[(h.Fc.own b _ hk).1]at hb;cases hb
  ·intro b Gf hb;obtain⟨k1,k2,k3⟩:=h.Fc.own b Gf hb;exact⟨k1,k2,by rw[Hr];exact k3⟩
  ·intro b o hb;rw[g4 b fun hu=>?_]
   ·exact h.Fc.frame b o hb
   ·obtain⟨k,hk⟩:=Aoe b (f4 b hu);rw[(h.Fc.own b _ hk).2.1]at hb;cases hb
 have Biu:=Bqi.Anp (s:=s) (K:=K) (bs:=news) hK fun x hx=>by
  obtain⟨k1,k2,_,k4⟩:=hn x hx;exact⟨k1,k2,by rw[Hr];exact k4⟩
 obtain⟨hpd,hbd⟩:=Focus.refs (G:=G) (inv:=inv) (cur:=cur) r5;rw[if_neg (by rw[hul];simp)]at hpd hbd
 refine⟨_,h.tree Biu (Mem.le.refl G) hs (Ej _) ?_ (fun _ x k hx=>hold x _ hx) ?_ hpd hbd⟩
 ·intro s1 hs1 x k hx;refine⟨hold x _ hx,g4 x fun hu=>?_⟩
  obtain⟨k',hk⟩:=Aoe x (f4 x hu);rw[hx]at hk;cases hk;exact hs1 rfl
 ·refine⟨bs',r1,by rw[hta];exact hva,r2,fun x hx=>?_⟩
  rcases(r3 x).1 hx with⟨h1,_⟩|h1
  ·obtain⟨k,hk⟩:=Aoe x h1;exact⟨k,hold x _ hk⟩
  ·rcases g3 x h1 with h2|h2
   ·obtain⟨k,hk⟩:=Aoe x (f4 x h2);exact⟨k,hold x _ hk⟩
   ·exact⟨_,Lab.Asm h2⟩
theorem Uz{w:World}{b:Nat}{o o':Obj}(h:w.heap[b]?=some o'):(Aq w b o).heap[b]?=some o:=by
 have:=(Ht.1 h).1;simp[Aq,this]
theorem Qy{w:World}{b x:Nat}{o:Obj}(h:x≠b):(Aq w b o).heap[x]?=w.heap[x]?:=by
 simp[Aq,Ajv,Ne.symm h]
def A8i(es:Array MapEntry)(clock:Nat)(r:Option Nat)(k v:Value):Obj:=match r with
 |some i=>.map (es.modify i fun e=>{e with key:=k,val:=v}) clock
 |none=>.map (es.push {key:=k,val:=v,born:=clock}) (clock+1)
theorem Vu{u:D}{k:List UInt8}{ks:List I}{vs:List D}{r:Option Nat}{b clock:Nat}{es:Array MapEntry}{bs0 bu:List Nat}{kv v:Value}
 (hb:w.heap[b]?=some (.map es clock)) (hks:Aos G ks (es.toList.map (·.key))) (hvs:Aiz G w vs (es.toList.map (·.val)) bs0) (hp:(es.toList.map (·.born)).Pairwise (· < ·)) (Ze:∀e∈es.toList,e.born<clock)
 (hf:Lo k ks 0=some r) (hkv:C7 G (.str k) kv) (hu:Fe G w u v.cells.toList bu) (huv:valOf u.isAgg v=true) (hn1:b ∉ bs0) (hn2:b ∉ bu) (Bod:bs0.Nodup) (Boe:bu.Nodup) (Axq:∀x∈bu,x ∉ bs0):
 ∃Asv,Fe G (Aq w b (A8i es clock r kv v)) (Lt ks vs r k u) [.map (some b)] Asv∧Asv.Nodup∧∀x∈Asv,(x=b∨x∈bs0)∨x∈bu:=by
 have hk0:kv= .string ⟨⟨k⟩⟩:=(C7.str.1 hkv).1;have hkI:D8 G (.str k) kv.cells.toList:=by
  have h3:=hkv;rw[hk0]at h3 ⊢;exact h3
 have hkA:valOf (I.isAgg (.str k)) kv=true:=by rw[hk0];rfl
 have Bgw:∀x∈bs0,(Aq w b (A8i es clock r kv v)).heap[x]?=w.heap[x]?:=fun x hx=>Qy fun e=>hn1 (e ▸ hx)
 have Bov:∀x∈bu,(Aq w b (A8i es clock r kv v)).heap[x]?=w.heap[x]?:=fun x hx=>Qy fun e=>hn2 (e ▸ hx)
 have hu':=hu.tr (Mem.le.refl G) Bov;cases r with
 |none=>
  refine⟨b::(bs0++bu),?_,?_,?_⟩
  ·simp only[Lt,Fe];refine⟨b,_,_,_,_,bs0++bu,rfl,Uz hb,rfl,rfl,?_,?_,?_,?_,rfl⟩
   ·simp only[Array.toList_push,F5,Cy,Kc];exact hks.append hkA hkI
   ·simp only[Array.toList_push,F5,Cy,Kc];exact(hvs.tr (Mem.le.refl G) Bgw).append huv hu'
   ·simp only[Array.toList_push,F5,Cy,Kc];rw[Arz];refine⟨hp,List.pairwise_singleton _ _,fun x hx y hy=>?_⟩
    obtain⟨e,he,rfl⟩:=X4.1 hx;rw[Jd.1 hy];exact Ze e he
   ·intro e he;simp only[Array.toList_push,Bv,Jd]at he;rcases he with he|rfl
    ·have:=Ze e he;omega
    ·simp
  ·rw[Hw,Hb];exact⟨by simp[hn1,hn2],Bod,Boe,fun x hx y hy e=>Axq y hy (e ▸ hx)⟩
  ·intro x hx;simp only[Bg,Bv]at hx;rcases hx with h|h|h
   ·exact .inl (.inl h)
   ·exact .inl (.inr h)
   ·exact .inr h
 |some i=>
  obtain⟨m,h1,h2⟩:=U3 hf;obtain rfl:m=i:=by omega
  obtain⟨g1,g2⟩:=hks.get;obtain⟨v0,q1,q2,q3⟩:=g2 m _ h2;rw[Ev,Ad7]at q1;obtain⟨e0,q1,rfl⟩:=q1;have hek:e0.key=kv:=by
   have q2':valOf false e0.key=true:=q2;rw[J9 q2']at q3;simp[D8]at q3;rw[q3.1,hk0]
  have hlen:=hvs.length;have hml:m<es.toList.length:=(A7.1 q1).1;have Ben:(es.modify m fun e=>{e with key:=kv,val:=v}).toList=es.toList.set m {e0 with key:=kv,val:=v}:=by
   rw[Array.toList_modify,Vw q1]
  obtain⟨b1,b0,b2,rfl,k3⟩:=Aiz.put huv hu' (i:=m) (by rw[hlen];simpa using hml) hvs Bgw
  refine⟨b::(b1++bu++b2),?_,?_,?_⟩
  ·simp only[Lt,Fe];refine⟨b,_,_,_,_,b1++bu++b2,rfl,Uz hb,rfl,rfl,?_,?_,?_,?_,rfl⟩
   ·rw[Ben,Amd];rw[Xq (by rw[Ev,q1];simp[hek])]
    exact hks
   ·rw[Ben,Amd];exact k3
   ·rw[Ben,Amd];rw[Xq (by rw[Ev,q1];rfl)]
    exact hp
   ·intro e he;rw[Ben]at he;rcases Ain he with he|rfl
    ·exact Ze e he
    ·exact Ze e0 (Cb q1)
  ·have hn:=Bod;rw[Hb,Hb]at hn;rw[Hw,Hb,Hb];simp only[Bv,not_or]at hn1 Axq ⊢;exact⟨⟨⟨hn1.1.1,hn2⟩,hn1.2⟩,⟨hn.1.1,Boe,fun x hx y hy e=>(Axq y hy).1.1 (e ▸ hx)⟩,hn.2.1,fun x hx y hy e=>by
    rcases hx with hx|hx
    ·exact hn.2.2 x (by simp[hx]) y hy e
    ·exact(Axq x hx).2 (e ▸ hy)⟩
  ·intro x hx;simp only[Bg,Bv]at hx ⊢;rcases hx with h|(h|h)|h
   ·exact .inl (.inl h)
   ·exact .inl (.inr (.inl (.inl h)))
   ·exact .inr h
   ·exact .inl (.inr (.inr h))
theorem W5{tk:TypeId}{s:ByteArray}(htk:P.underlying tk=some .string)(em:Bool)(n:Nat):(Instr.checkKey em (n+1) tk (.string s)).run P w= .ok () w:=by
 rw[Instr.checkKey];simp only[Sem.run_bind,run_underlying htk,Result.andThen];rfl
theorem Ag9(s s':ByteArray):∀n,Instr.sameBits n (.string s) (.string s')=(s==s')
 |0=>rfl
 |_+1=>rfl
theorem Af4{s:List UInt8}:(Instr.keyThatStays (.string ⟨⟨s⟩⟩) (.string ⟨⟨s⟩⟩)).run P w= .ok (.string ⟨⟨s⟩⟩) w:=by
 unfold Instr.keyThatStays;rw[Ag9,Yb,decide_eq_true rfl];rfl
theorem Aed{o:Oper}{t tk tv:TypeId}{m k v:Operand}{m' k' v':D6}(hd:o.dst=none)(ho:o.op= .mapUpdate t m k v)(ht:P.underlying t=some (.map tk tv))(htk:P.underlying tk=some .string)
 (hm:Jj N m m'=true) (hk:Jj N k k'=true) (hv:Jj N v v'=true):Sound P N o (Abz m' k' v'):=by
 intro G0 σ0 Fr w0 st0 a w Q next E hN hr0 hw hn C2
 subst hN;obtain⟨u,bu,G,σ,st,hG,hr,h1,⟨hu1,hu2,hu3,hu4⟩,_,_⟩:=Lv hr0 hv hw;obtain⟨y,h2,hy⟩:=J8 hr hk h1;split at h2
 ·rename_i s;obtain⟨s0,cur,inv,t0,p,h3,hs,x0,hh0,Bd9,A9y,Aug⟩:=Ue hr hm h2;split at h3
  ·rename_i d C3;split at h3
   ·rename_i ks vs;split at h3
    ·rename_i r hf;split at h3
     ·rename_i t' Aof;simp only[M.wp]at h3;obtain⟨bs,Dh,hva,hnd,Aoe⟩:=show Ac5 G σ w s0 t0 (val a w0 s0)from hr.Eb s0 cur _ hs;obtain⟨mm,s',ubs,f1,f2,f3,f4,f5,f6⟩:=focus (here:=none) Dh hnd C3
      rw[Aug]at f1;obtain rfl:=Aag f1;have f2':=f2;simp only[Fe]at f2;obtain⟨b,es,clock,kc,vc,bs0,e1,hb,rfl,rfl,hks,hvs,hp,Ze,rfl⟩:=f2;injection e1 with e1
      obtain⟨n1,n0⟩:=Hw.1 f3;have Akd:∀x∈b::bs0,x ∉ bu:=fun x hx hxu=>by
       obtain⟨kk,hk'⟩:=Aoe x (f4 x hx);rw[(hu4 x hxu).2.2.1]at hk';cases hk'
      have hk0:a.eval k= .string ⟨⟨s⟩⟩:=(C7.str.1 hy).1;obtain⟨Asv,g1,g2,g3⟩:=Vu (u:=u) (v:=a.eval v) (kv:=a.eval k) hb hks hvs hp Ze hf hy hu1 hu2 n1 (Akd b (by simp)) n0 hu3 (fun x hx hx0=>Akd x (by simp[hx0]) hx)
      obtain⟨fn1,fn2⟩:=Rr hks hf;have hag:(Lt ks vs r s u).isAgg=false:=by cases r<;>rfl
      obtain⟨σ',r1⟩:=hr.Bhn (w':=Aq w b (A8i es clock r (a.eval k) (a.eval v))) (news:=bu) hs C3 Aof rfl hag hu4 (by simp[Aq]) rfl rfl rfl (fun cs ubs q1 q2 q3 hh q4=>by
       rw[Aug]at q4;simp only[A0,He]at q4;obtain⟨rfl,rfl⟩:=q4;have q5:=q1;simp only[Fe]at q5;obtain⟨b',es',Bu6,kc',vc',Bsu,e1',Sy,rfl,rfl,Bt0,Bum,hp',Bbc,rfl⟩:=q5;rw[e1]at e1';simp only[Ajg,Value.map.injEq,A0,and_true]at e1';subst e1';rw[hb]at Sy;simp only[A0,Obj.map.injEq]at Sy;obtain⟨rfl,rfl⟩:=Sy;have Bkn:∀x∈b::Bsu,x ∉ bu:=fun x hx hxu=>by
        obtain⟨kk,hk'⟩:=q3 x hx;rw[(hu4 x hxu).2.2.1]at hk';cases hk'
       obtain⟨n1',n0'⟩:=Hw.1 q2;obtain⟨Buy,g1',g2',g3'⟩:=Vu (u:=u) (v:=a.eval v) (kv:=a.eval k) hb Bt0 Bum hp' Bbc hf hy hu1 hu2 n1' (Bkn b (by simp)) n0' hu3 (fun x hx hx0=>Bkn x (by simp[hx0]) hx)
       exact⟨⟨Buy,by rw[e1];exact g1',g2',fun x hx=>(g3' x hx).imp (fun h=>by simpa using h) id⟩,fun x hx=>Qy fun e=>hx (by simp[e])⟩)
      refine Pz (w':=Aq w b (A8i es clock r (a.eval k) (a.eval v))) ?_ (by rw[hd];exact hn G σ' _ _ _ hG r1 h3)
      have A5j:(Instr.findKey tk (.string ⟨⟨s⟩⟩) es.toList).run P w= .ok (r.bind fun j=>(es.toList[j]?).map fun e=>(j,e.val)) w:=by
       simp only[Instr.findKey,Sem.run_bind,run_underlying htk,Result.andThen,fn1];rfl
      have A66:(Instr.checkKey false 10000 tk (.string ⟨⟨s⟩⟩)).run P w= .ok () w:=W5 htk false 9999;have Avj:(getObj b).run P w= .ok (.map es clock) w:=by simp[getObj,Sem.run,hb]
      have Akv:∀ob,(setObj b ob).run P w= .ok () (Aq w b ob):=fun ob=>by simp[setObj,Sem.run,hb,Aq]
      have Buj:(Instr.mapUpdate t (.map (some b)) (.string ⟨⟨s⟩⟩) (a.eval v)).run P w= .ok () (Aq w b (A8i es clock r (.string ⟨⟨s⟩⟩) (a.eval v))):=by
       unfold Instr.mapUpdate;simp only[Sem.run_bind,run_underlying ht,Result.andThen,Avj,A66,A5j];cases r with
       |none=>exact Akv _
       |some j=>
        obtain⟨_,fn3⟩:=fn2 j rfl;obtain⟨m1,q1,q2⟩:=U3 hf;obtain rfl:m1=j:=by omega
        obtain⟨q3,q4⟩:=hks.get;obtain⟨v0,q5,q6,q7⟩:=q4 m1 _ q2;rw[Ev,Ad7]at q5;obtain⟨e0,q5,rfl⟩:=q5;have hek:e0.key= .string ⟨⟨s⟩⟩:=by
         rw[J9 (show valOf false e0.key=true from q6)]at q7;simp[D8]at q7;exact q7.1
        have q8:es[m1]?=some e0:=by simpa using q5
        simp only[Option.bind_some,q5,Fq,q8,Option.getD_some,hek,Af4,Akv,Sem.run_bind,Result.andThen];rfl
      have he:a.eval m= .map (some b):=e1;simp only[execOp,ho,he,hk0,Sem.run_bind,Buj,Result.andThen];rfl
     ·exact h3.elim
    ·exact h3.elim
   ·exact h3.elim
  ·exact h3.elim
 ·exact h2.elim
theorem Aaw{o:Oper}{d:Nat}{t:TypeId}(hd:o.dst=some d)(ho:o.op= .makeMap t none):Sound P N o (Zh d):=by
 intro G σ Fr w0 st a w Q next E hN hr hw hn C2
 subst hN;obtain⟨σ',st',r1,r2⟩:=hr.Ayv (C2 d hd) (sv:=.own [] (.map [] [])) (o:=.map #[] 0) (c:=.map (some w.heap.size)) rfl (by intro _ e;cases e)
  (fun σ1 _ hb=>⟨[w.heap.size],by
    simp only[Fe,Value.cells];exact⟨_, #[],0,[],[],[],rfl,heap_alloc_new w _,rfl,rfl,rfl,⟨rfl,rfl⟩,List.Pairwise.nil,by simp,rfl⟩,rfl,by simp,by simpa using⟨0,hb⟩⟩) hw
 refine Jt (w':=w.alloc (.map #[] 0)) ?_ (by rw[hd];exact hn G σ' st' _ _ (Mem.le.refl G) r1 r2)
 simp[execOp,ho,Instr.makeMap]
def Wo(d:Nat)(x:D6)(i:Nat):M:=match x with
 | .t n=>.get n fun _ sv=>match sv with
   | .pdt s v p b=>match i with
     |0=>.Hh (d≠s) fun _=>Gj (some d) (.pd s v p) .done
     |1=>Jz d (.v (.bool b))
     |_=>.fail
   |_=>Ui d x i
 |_=>Ui d x i
theorem Adm{o:Oper}{d i:Nat}{x:Operand}{x':D6}(hd:o.dst=some d)(ho:o.op= .extract x i)(hx:Jj N x x'=true):Sound P N o (Wo d x' i):=by
 intro G σ Fr w0 st a w Q next E hN hr hw hn C2
 have h2:=Adi (P:=P) hd ho hx G σ Fr w0 st a w Q next E hN hr
 subst hN;cases x' with
 |c _=>exact h2 hw hn C2
 |Ahc _ _=>exact h2 hw hn C2
 |t n=>
  obtain⟨rfl,Agv⟩:=J0 hx;simp only[Wo,M.wp]at hw;cases hs:st[n]? with
  |none=>simp[hs]at hw
  |some cur=>
   obtain⟨ver,sv⟩:=cur;simp only[hs]at hw;have Dh:=hr.slot Agv hs;split at hw
   ·rename_i s v p b;obtain⟨c0,hc,cu,g1,g2,g3⟩:=Dh;split at hw
    ·obtain⟨Cf,hw⟩:=hw;obtain⟨σ',st',r1,r2⟩:=hr.Gj (d:=some d) (by rintro _ ⟨⟩;exact C2 d hd) (sv:=.pd s v p) (c:=c0) (fun d' hd' ver _=>by
      cases hd';refine⟨cu,by rw[B3 Cf];exact g1,g2,fun inv t e hp ha=>?_⟩
      rw[Jr (Ne.symm Cf)];exact g3 inv t e hp ha) hw
     refine Jt (w':=w) ?_ (by rw[hd];exact hn G σ' st' _ w (Mem.le.refl G) r1 r2)
     simp[execOp,ho,hc,Instr.extract]
    ·obtain⟨σ',st',r1,r2⟩:=hr.Ax2 (C2 d hd) (c:=.bool b) (C7.bool.2 rfl) hw;refine Jt (w':=w) ?_ (by rw[hd];exact hn G σ' st' _ w (Mem.le.refl G) r1 r2)
     simp[execOp,ho,hc,Instr.extract]
    ·exact hw.elim
   ·exact h2 hw hn C2
theorem Y2{y:I}{v:Value}(h:D8 G y v.cells.toList)(hv:valOf y.isAgg v=true):C7 G y v:=by
 unfold C7;cases hx:y.isAgg with
 |true=>
  rw[hx]at hv;obtain⟨a',rfl⟩:=Nr hv;rw[if_pos rfl];exact⟨a',rfl,h⟩
 |false=>
  rw[hx]at hv;rw[J9 hv]at h;rw[if_neg (by simp)]
  exact h
def Abu(d:Nat)(z:I)(ok:Bool)(x k:D6):M:=rdI k fun y=>match y with
 | .str s=>rdH x fun h cur inv t p=>match D.at p t with
   |some dd=>match dd with
    | .map ks vs=>match Lo s ks 0 with
      |some r=>match r with
       |some i=>match vs[i]? with
        |some u=>match u with
         | .it y=>match ok with
           |true=>Gj (some d) (.tup [.i y,.i (.bool true)]) .done
           |false=>Jz d (.v y)
         | .ptr _=>.Hh (d≠h) fun _=>match ok with
           |true=>Gj (some d) (.pdt h cur (p++[i]++[0]) true) .done
           |false=>Gj (some d) (.pd h cur (p++[i]++[0])) .done
         |_=>.fail
        |none=>.fail
       |none=>match ok with
        |true=>Gj (some d) (.tup [.i z,.i (.bool false)]) .done
        |false=>Jz d (.v z)
      |none=>.fail
    |_=>.fail
   |none=>.fail
 |_=>.fail
def Yn(P:Program)(tv:TypeId)(z:I):Bool:=match P.info? tv with
 |some i=>match i.zero with
  |some v=>valOf z.isAgg v&&match zI z v.cells.toList with
   |some []=>true
   |_=>false
  |none=>false
 |none=>false
theorem Aae{tv:TypeId}{z:I}(h:Yn P tv z=true):∃v,(zeroValue tv).run P w= .ok v w∧C7 G z v:=by
 unfold Yn at h;split at h
 ·rename_i i hi;split at h
  ·rename_i v hv;simp only[Ap]at h;obtain⟨h1,h2⟩:=h;split at h2
   ·rename_i h3;obtain⟨c,e,h4⟩:=A0a G z _ _ h3;rw[R2]at e;refine⟨v,by simp[zeroValue,typeInfo,hi,hv],Y2 (by rw[e];exact h4) h1⟩
   ·cases h2
  ·cases h
 ·cases h
def Ac2(P:Program)(t:TypeId)(z:I):Bool:=match P.underlying t with
 |some (.map tk tv)=>(match P.underlying tk with
  |some .string=>true
  |_=>false)&&Yn P tv z
 |_=>false
theorem Ad9{o:Oper}{d:Nat}{t:TypeId}{x k:Operand}{x' k':D6}{z:I}{ok:Bool}(hd:o.dst=some d)(ho:o.op= .lookup t x k ok)(ht:Ac2 P t z=true)
 (hx:Jj N x x'=true) (hk:Jj N k k'=true):Sound P N o (Abu d z ok x' k'):=by
 intro G σ Fr w0 st a w Q next E hN hr hw hn C2
 subst hN;unfold Ac2 at ht;split at ht
 case h_2=>cases ht
 rename_i tk tv hu;simp only[Ap]at ht;obtain⟨htk,hz⟩:=ht;split at htk
 case h_2=>cases htk
 rename_i Bet;obtain⟨zv,hz1,hz2⟩:=Aae (G:=G) (w:=w) hz;obtain⟨y,h2,hy⟩:=J8 hr hk hw;split at h2
 ·rename_i s;obtain⟨s0,cur,inv,t0,p,h3,hs,x0,hh0,Bd9,A9y,Aug⟩:=Ue hr hx h2;split at h3
  ·rename_i d0 C3;split at h3
   ·rename_i ks vs;split at h3
    ·rename_i r hf;obtain⟨bs,Dh,hva,hnd,Aoe⟩:=show Ac5 G σ w s0 t0 (val a w0 s0)from hr.Eb s0 cur _ hs;obtain⟨mm,s',ubs,f1,f2,f3,f4,f5,f6⟩:=focus (here:=none) Dh hnd C3
     rw[Aug]at f1;obtain rfl:=Aag f1;simp only[Fe]at f2;obtain⟨b,es,clock,kc,vc,bs0,e1,hb,rfl,rfl,hks,hvs,hp,Ze,rfl⟩:=f2;injection e1 with e1
     have hk0:a.eval k= .string ⟨⟨s⟩⟩:=(C7.str.1 hy).1;obtain⟨fn1,fn2⟩:=Rr hks hf;have A5j:(Instr.findKey tk (.string ⟨⟨s⟩⟩) es.toList).run P w= .ok (r.bind fun j=>(es.toList[j]?).map fun e=>(j,e.val)) w:=by
      simp only[Instr.findKey,Sem.run_bind,run_underlying Bet,Result.andThen,fn1];rfl
     have A66:∀em,(Instr.checkKey em 10000 tk (.string ⟨⟨s⟩⟩)).run P w= .ok () w:=fun em=>W5 Bet em 9999
     have Avj:(getObj b).run P w= .ok (.map es clock) w:=by simp[getObj,Sem.run,hb]
     have he:a.eval x= .map (some b):=e1;have run:∀{e:MapEntry} {i:Nat},r=some i→es.toList[i]?=some e→(execOp a.eval o).run P w= .ok (.value (if ok then .tuple #[e.val,.bool true]else e.val)) w:=by
      intro e i hri hei;subst hri;rw[Option.bind_some,hei,Fq]at A5j;simp only[execOp,ho,he,hk0,Instr.lookup,Sem.run_bind,run_underlying hu,Result.andThen,Avj,A66,A5j,Sem.run_pure]
     have Bpq:r=none→(execOp a.eval o).run P w= .ok (.value (if ok then .tuple #[zv,.bool false]else zv)) w:=by
      intro hri;subst hri;rw[Option.bind_none]at A5j;simp only[execOp,ho,he,hk0,Instr.lookup,Sem.run_bind,run_underlying hu,Result.andThen,Avj,A66,A5j,Sem.run_pure,hz1]
     split at h3
     ·rename_i i;split at h3
      ·rename_i u hvi;obtain⟨v,b1,bi,b2,q1,_,q2,q3,_⟩:=hvs.nth hvi;rw[Ev,Ad7]at q1;obtain⟨e0,q1,rfl⟩:=q1;split at h3
       ·rename_i y;simp only[Fe]at q3;have hy':=Y2 q3.1 q2;split at h3
        ·obtain⟨σ',st',r1,r2⟩:=hr.Gj (d:=some d) (by rintro _ ⟨⟩;exact C2 d hd) (sv:=.tup [.i y,.i (.bool true)]) (c:=.tuple #[e0.val,.bool true]) (fun d' _ ver _=>
          ⟨_,rfl,_,_,rfl,hy',_,_,rfl,C7.bool.2 rfl,rfl⟩) h3
         exact Jt (run rfl q1) (by rw[hd];exact hn G σ' st' _ w (Mem.le.refl G) r1 r2)
        ·obtain⟨σ',st',r1,r2⟩:=hr.Ax2 (C2 d hd) hy' h3;exact Jt (run rfl q1) (by rw[hd];exact hn G σ' st' _ w (Mem.le.refl G) r1 r2)
       ·rename_i u';obtain⟨Cf,h3⟩:=h3;have Bo4:D.at (p++[i]) t0=some (.ptr u'):=by rw[Nf C3];exact hvi
        simp only[Fe]at q3;obtain⟨g,cells,ty',bs',k1,k2,_⟩:=q3;have hev:e0.val= .pointer (some ⟨g,0,none⟩):=by
         have q2':valOf false e0.val=true:=q2;rw[J9 q2']at k1;injection k1
        have Biq:spot w (p++[i]) t0 (none,(val a w0 s0).cells.toList)=some (none,[e0.val]):=by
         rw[L5 C3 Aug (y:=.ptr u') hvi];have:es.toList[i]?=some e0:=q1;simp only[Jx,he,hb,this];rw[hev];rfl
        have hpt:PtD w t0 (val a w0 s0) (p++[i]++[0]) e0.val:=by
         refine⟨u',g,0,cells.toList,by rw[Nf Bo4];rfl,?_,hev⟩
         rw[L5 Bo4 Biq (y:=u') rfl];simp[Jx,hev,k2]
        split at h3
        ·obtain⟨σ',st',r1,r2⟩:=hr.Gj (d:=some d) (by rintro _ ⟨⟩;exact C2 d hd) (sv:=.pdt s0 cur (p++[i]++[0]) true) (c:=.tuple #[e0.val,.bool true]) (fun d' hd' ver _=>by
          cases hd';refine⟨_,rfl,_,by rw[B3 Cf];exact hs,Bz _,fun Ap9 t' e _ _=>?_⟩
          cases e;rw[Jr (Ne.symm Cf)];exact hpt) h3
         exact Jt (run rfl q1) (by rw[hd];exact hn G σ' st' _ w (Mem.le.refl G) r1 r2)
        ·obtain⟨σ',st',r1,r2⟩:=hr.Gj (d:=some d) (by rintro _ ⟨⟩;exact C2 d hd) (sv:=.pd s0 cur (p++[i]++[0])) (c:=e0.val) (fun d' hd' ver _=>by
          cases hd';refine⟨_,by rw[B3 Cf];exact hs,Bz _,fun Ap9 t' e _ _=>?_⟩
          cases e;rw[Jr (Ne.symm Cf)];exact hpt) h3
         exact Jt (run rfl q1) (by rw[hd];exact hn G σ' st' _ w (Mem.le.refl G) r1 r2)
       ·exact h3.elim
      ·exact h3.elim
     ·split at h3
      ·obtain⟨σ',st',r1,r2⟩:=hr.Gj (d:=some d) (by rintro _ ⟨⟩;exact C2 d hd) (sv:=.tup [.i z,.i (.bool false)]) (c:=.tuple #[zv,.bool false]) (fun d' _ ver _=>
        ⟨_,rfl,_,_,rfl,hz2,_,_,rfl,C7.bool.2 rfl,rfl⟩) h3
       exact Jt (Bpq rfl) (by rw[hd];exact hn G σ' st' _ w (Mem.le.refl G) r1 r2)
      ·obtain⟨σ',st',r1,r2⟩:=hr.Ax2 (C2 d hd) hz2 h3;exact Jt (Bpq rfl) (by rw[hd];exact hn G σ' st' _ w (Mem.le.refl G) r1 r2)
    ·exact h3.elim
   ·exact h3.elim
  ·exact h3.elim
 ·exact h2.elim
def Abv(d:Nat)(x:D6):M:=rdH x fun _ _ _ t p=>match D.at p t with
 |some u=>match u with
  | .map ks _=>Jz d (.v (.int .i64 ks.length))
  |_=>.fail
 |none=>.fail
def Yt(P:Program)(t:TypeId):Bool:=match P.underlying t with
 |some (.map _ _)=>true
 |_=>false
theorem Aea{o:Oper}{d:Nat}{t:TypeId}{x:Operand}{x':D6}(hd:o.dst=some d)(ho:o.op= .call {callee:=.builtin .len,args:= #[x],argTypes:= #[t]})(ht:Yt P t=true)(hx:Jj N x x'=true):Sound P N o (Abv d x'):=by
 intro G σ Fr w0 st a w Q next E hN hr hw hn C2
 subst hN;unfold Yt at ht;split at ht
 case h_2=>cases ht
 rename_i tk tv hu;obtain⟨s0,cur,inv,t0,p,h3,hs,x0,hh0,Bd9,A9y,Aug⟩:=Ue hr hx hw;split at h3
 ·rename_i d0 C3;split at h3
  ·rename_i ks vs;obtain⟨bs,Dh,hva,hnd,Aoe⟩:=show Ac5 G σ w s0 t0 (val a w0 s0)from hr.Eb s0 cur _ hs;obtain⟨mm,s',ubs,f1,f2,f3,f4,f5,f6⟩:=focus (here:=none) Dh hnd C3
   rw[Aug]at f1;obtain rfl:=Aag f1;simp only[Fe]at f2;obtain⟨b,es,clock,kc,vc,bs0,e1,hb,rfl,rfl,hks,hvs,hp,Ze,rfl⟩:=f2;injection e1 with e1
   have he:a.eval x= .map (some b):=e1;have Avj:(getObj b).run P w= .ok (.map es clock) w:=by simp[getObj,Sem.run,hb]
   have hl:es.size=ks.length:=by
    have:=hks.get.1;simpa using this.symm
   obtain⟨σ',st',r1,r2⟩:=hr.Ax2 (C2 d hd) (c:=.int .i64 (ks.length:Int)) (C7.int.2 rfl) h3;refine Jt (w':=w) ?_ (by rw[hd];exact hn G σ' st' _ w (Mem.le.refl G) r1 r2)
   simp[execOp,ho,resolve,invoke,builtin,Builtin.len_,run_underlying hu,he,Avj,Result.andThen,hl,goInt]
  ·exact h3.elim
 ·exact h3.elim
end

def Aqq(P:Program)(t:TypeId):Bool:=match P.underlying t with
 |some (.interface _)=>false
 |some _=>true
 |none=>false
def Arj(d:Option Nat)(t:TypeId)(x:D6):M:=rdI x fun u=>Gj d (.v (.ifc t u)) .done
section
variable{P:Program}{N:Nat}{G:Mem}{σ:Lab}{Fr:Mem}{w0:Base}{w:World}{st:St}{a:Act}
theorem C7.ifc{t:TypeId}{u:I}{c:Value}:C7 G (.ifc t u) c↔∃v,c= .iface t v∧C7 G u v:=by
 unfold C7;rw[if_neg (by simp[I.isAgg])]
 simp only[D8,Ajg,and_true]
theorem C7.A1v{c:Value}:C7 G .A1v c↔c= .nilIface:=by
 unfold C7;rw[if_neg (by simp[I.isAgg])]
 simp only[D8,Ajg,and_true]
theorem Ark{o:Oper}{t:TypeId}{x:Operand}{x':D6}(ho:o.op= .makeInterface t x)(ht:Aqq P t=true)(hx:Jj N x x'=true):Sound P N o (Arj o.dst t x'):=by
 intro G σ Fr w0 st a w Q next E hN hr hw hn C2
 subst hN;obtain⟨u,h1,hu⟩:=J8 hr hx hw;refine J1 hr hn C2 (C7.ifc.2 ⟨_,rfl,hu⟩) h1 ?_;unfold Aqq at ht;cases hd:P.underlying t with
 |none=>rw[hd]at ht;cases ht
 |some T=>
  rw[hd]at ht;cases T<;>first|(cases ht;done)|simp[execOp,ho,Instr.makeInterface,run_underlying hd]
def Abk(d:Nat)(x:D6):M:=A3n x X3 fun s v p _=>.Hh (d≠s) fun _=>Jz d (.bp s v p)
def X1(_:Nat)(sv:SV):Nat × SV:=match sv with
 | .own _ t=>(match t with
   | .ptr _=>(0,.pd 0 0 [])
   |_=>(0,.no))
 | .pd _ _ _=>(0,.bd 0 0 [])
 | .bp _ _ _=>(0,.bp 0 0 [])
 | .par h=>(0,.par h)
 |_=>(0,.no)
def Ac1(x:D6)(yes no:M):M:=match x with
 | .t n=>.Atf n X1 fun _ sv=>match sv with
   | .bd _ _ _=>yes
   | .par h=>.Atf h X1 fun _ sv'=>match sv' with
     | .pd _ _ _=>yes
     |_=>no
   |_=>no
 |_=>no
def Ac0(x:D6)(yes no:M):M:=match x with
 | .t n=>.Atf n X1 fun _ sv=>match sv with
   | .bp _ _ _=>yes
   | .par h=>.Atf h X1 fun _ sv'=>match sv' with
     | .bp _ _ _=>yes
     |_=>no
   |_=>no
 |_=>no
def Tk(d:Option Nat)(x:D6):M:=match x with
 | .t n=>.get n fun _ sv=>match sv with
   | .bp s v p=>.Hh (d≠some s) fun _=>Gj d (.pd s v p) .done
   | .par h=>.get h fun _ sv'=>match sv' with
     | .bp s v p=>.Hh (d≠some s) fun _=>Gj d (.pd s v p) .done
     |_=>.fail
   |_=>.fail
 |_=>.fail
theorem Ags{o:Oper}{x:D6}{m1 m2:M}(h1:Sound P N o m1)(h2:Sound P N o m2):Sound P N o (Ac1 x m1 m2):=by
 intro G σ Fr w0 st a w Q next E hN hr hw hn C2
 cases x with
 |c _=>exact h2 G σ Fr w0 st a w Q next E hN hr hw hn C2
 |Ahc _ _=>exact h2 G σ Fr w0 st a w Q next E hN hr hw hn C2
 |t n=>
  simp only[Ac1,M.wp]at hw;cases hs:st[n]? with
  |none=>rw[hs]at hw;exact hw.elim
  |some cur=>
   rw[hs]at hw;dsimp only at hw;split at hw
   ·exact h1 G σ Fr w0 st a w Q next E hN hr hw hn C2
   ·rename_i h _;simp only[M.wp]at hw;cases hs2:st[h]? with
    |none=>rw[hs2]at hw;exact hw.elim
    |some A4j=>
     rw[hs2]at hw;dsimp only at hw;split at hw
     ·exact h1 G σ Fr w0 st a w Q next E hN hr hw hn C2
     ·exact h2 G σ Fr w0 st a w Q next E hN hr hw hn C2
   ·exact h2 G σ Fr w0 st a w Q next E hN hr hw hn C2
theorem Agh{o:Oper}{x:D6}{m1 m2:M}(h1:Sound P N o m1)(h2:Sound P N o m2):Sound P N o (Ac0 x m1 m2):=by
 intro G σ Fr w0 st a w Q next E hN hr hw hn C2
 cases x with
 |c _=>exact h2 G σ Fr w0 st a w Q next E hN hr hw hn C2
 |Ahc _ _=>exact h2 G σ Fr w0 st a w Q next E hN hr hw hn C2
 |t n=>
  simp only[Ac0,M.wp]at hw;cases hs:st[n]? with
  |none=>rw[hs]at hw;exact hw.elim
  |some cur=>
   rw[hs]at hw;dsimp only at hw;split at hw
   ·exact h1 G σ Fr w0 st a w Q next E hN hr hw hn C2
   ·rename_i h _;simp only[M.wp]at hw;cases hs2:st[h]? with
    |none=>rw[hs2]at hw;exact hw.elim
    |some A4j=>
     rw[hs2]at hw;dsimp only at hw;split at hw
     ·exact h1 G σ Fr w0 st a w Q next E hN hr hw hn C2
     ·exact h2 G σ Fr w0 st a w Q next E hN hr hw hn C2
   ·exact h2 G σ Fr w0 st a w Q next E hN hr hw hn C2
theorem Adb{o:Oper}{e:TypeId}{d:Nat}{x:Operand}{x':D6}(hd:o.dst=some d)(ho:o.op= .box e x)(hx:Jj N x x'=true):Sound P N o (Abk d x'):=by
 intro G σ Fr w0 st a w Q next E hN hr hw hn C2
 subst hN;obtain⟨s,cur,inv,tr,p,u,r,v,h1,hs,hp0,hpt,C3,hf,hle⟩:=Mo hr hx hw;obtain⟨Cf,hq⟩:=h1;have hdn:=C2 d hd;have Beg:WOk G σ Fr w0 (w.alloc (.cells (a.eval x).cells e)):=hr.Fc.grow rfl rfl rfl (by simp) fun b hb=>K8 w _ b hb
 simp only[Jz,M.wp]at hq;cases hds:st[d]? with
 |none=>simp[hds]at hq
 |some old=>
  simp only[hds]at hq;obtain⟨f1,f2,f3⟩:=hr.Fc.fresh (Bz w.heap.size);have H2:WOk G ((σ.drop d).new w.heap.size (d,0)) Fr w0 (w.alloc (.cells (a.eval x).cells e)):=
   (Beg.drop d).new f1 f2 (by simp) fun b' Sy=>(Lab.Ade.1 Sy).1 rfl
  have Bue:=hpt;obtain⟨v0,b,off,cs,g1,g2,g3⟩:=hpt;have A4o:(a.eval x).cells= #[a.eval x]:=by rw[g3];rfl
  have Akd:=show Ac5 G σ w s tr (val a w0 s)from hr.Eb s cur _ hs;refine Jt (v:=.pointer (some ⟨w.heap.size,0,none⟩)) (w':=w.alloc (.cells (a.eval x).cells e)) ?_ (by
   rw[hd];refine hn G _ _ _ _ (Mem.le.refl G) (hr.put (c:=.pointer (some ⟨w.heap.size,0,none⟩)) hdn H2 (Mem.le.refl G) hds (Ej _) ?_ ?_ (fun h e=>by cases e) (by intro _ _ e;cases e)) hq
   ·intro s' hs' b k hb;have Ze:=(hr.Fc.own b _ hb).2.2;exact⟨Lab.A5o (by omega) (Lab.Ade.2 ⟨hs',hb⟩),K8 w _ b Ze⟩
   ·refine⟨w.heap.size,a.eval x,e,0,rfl,Lab.A6m,?_,_,by rw[B3 Cf];exact hs,hle,fun Ap9 t' e' _ _=>?_⟩
    ·rw[heap_alloc_new,A4o]
    ·cases e';rw[Jr (Ne.symm Cf)];exact Bue.tr Akd fun b' k hb=>⟨hb,K8 w _ b' (hr.Fc.own b' _ hb).2.2⟩)
  simp[execOp,ho,Instr.box,newVar,newRow]
theorem Y3{t:TypeId}{sz:Nat}{g:Nat}{c0:Value}{ty:TypeId}{w:World}(ht:Asu P t false sz=true)(h1:sz=1)(hg:w.heap[g]?=some (.cells #[c0] ty (0,0))):(Instr.loadAt t (.pointer (some ⟨g,0,none⟩))).run P w= .ok c0 w:=by
 subst h1;have h:=(Kd (P:=P) (cs:=[c0]) (pre:=[]) (post:=[]) ht hg (by simp) rfl).2 c0 rfl rfl
 simp only[Ak7]at h;simp[Instr.loadAt,Instr.sureAddr,asAddr,Sem.run_bind,h,Result.andThen]
theorem Z4{o:Oper}{t:TypeId}{x:Operand}{x':D6}{sz:Nat}(ho:o.op= .load t x)(hx:Jj N x x'=true)(ht:Asu P t false sz=true)(h1:sz=1):Sound P N o (Tk o.dst x'):=by
 intro G σ Fr w0 st a w Q next E hN hr hw hn C2
 subst hN;have fin:∀{n:Nat} {s v:Nat} {p:List Nat},Ait G σ w st (val a w0) n (.bp s v p) (a.eval x)→o.dst≠some s→(Gj o.dst (.pd s v p) .done).wp P Q st→o.wp P a w next E:=by
  rintro n s v p ⟨g,c0,ty,k,hc,hg1,hg2,cur,g1,g2,g3⟩ Cf hq;obtain⟨σ',st',r1,r2⟩:=hr.Gj C2 (sv:=.pd s v p) (c:=c0) (fun d' hd' ver _=>by
   refine⟨cur,by rw[B3 (by rintro rfl;exact Cf hd')];exact g1,g2,fun Ap9 t' e hp ha=>?_⟩
   rw[Jr (by rintro rfl;exact Cf hd')]
   exact g3 Ap9 t' e hp ha) hq
  refine Jt (v:=c0) (w':=w) ?_ (hn G σ' st' _ w (Mem.le.refl G) r1 r2);have:=Y3 (P:=P) ht h1 hg2;simp only[execOp,ho,hc,Sem.run_bind,this,Result.andThen,Sem.run_pure]
 cases x' with
 |c _=>exact hw.elim
 |Ahc _ _=>exact hw.elim
 |t n=>
  obtain⟨rfl,Agv⟩:=J0 hx;simp only[Tk,M.wp]at hw;cases hs:st[n]? with
  |none=>simp[hs]at hw
  |some cur=>
   obtain⟨ver,sv⟩:=cur;simp only[hs]at hw;have Dh:=hr.slot Agv hs;split at hw
   ·exact fin Dh hw.1 hw.2
   ·rename_i h;simp only[M.wp]at hw;cases hs2:st[h]? with
    |none=>simp[hs2]at hw
    |some A4j=>
     obtain⟨Bfm,sv2⟩:=A4j;simp only[hs2]at hw;split at hw
     ·have h2:=hr.Eb h Bfm _ hs2;obtain⟨hv,_⟩:=hr.As8 n ver h hs;rw[J2 (by rw[hr.n];exact Agv)]at hv
      rw[←hv]at h2;exact fin h2 hw.1 hw.2
     ·exact hw.elim
   ·exact hw.elim
end

open Go.Op
open Go.ChangeMaps (setBlock)
section
variable{P:Program}{N:Nat}{G:Mem}{σ:Lab}{Fr:Mem}{w0:Base}{w:World}{st:St}{a:Act}
end

open Go.Op
section
variable{P:Program}{N:Nat}{G:Mem}{σ:Lab}{Fr:Mem}{w0:Base}{w:World}{st:St}{a:Act}
end
end Go.Ab
