/- Lemmas -/
import Derived.Test.YtkpojedpcabojaaGreatDoorAb23
import Derived.SizedLaws
import Derived.Test.YtkpojedpcabojaaGreatDoorRows
import Derived.Lib.LaidU8T
import Derived.PinnedBridge
import Derived.LaidOnce
import Derived.LaidMore
import Derived.Test.YtkpojedpcabojaaGreatDoorCards
import Derived.Test.YtkpojedpcabojaaGreatDoorTie
import Derived.Test.YtkpojedpcabojaaGreatDoorChecked
import Derived.JoinedCond
import Derived.Lay
import Derived.SevenTiedAt
set_option linter.unusedVariables false
set_option linter.unusedSimpArgs false
namespace Go.Ab
open Go.ChangeShapes Go.Deep Go.WideShapes Go.ChangeAt Go.RowKit
def A3e(P:Program):List TypeId→List Sh→Bool
 | [],[]=>true
 |t::ts,s::l=>s.ok P t&&A3e P ts l
 |_,_=>false
section
variable{H:Type}{enc:TypeId × Value → H}{P:Program}{W W':World}
theorem Aeb{sh:Sh}{t:TypeId}{x:I}{v:Value}{G:Mem}{b0:Nat}(ho:sh.ok P t=true)(hv:Value.okWide P W .any b0 t v)(hr:D8 G x v.cells.toList)(hf:Fits sh x):C7 G x v:=by
 unfold C7;cases sh with
 |st l=>
  simp only[Sh.ok]at ho;split at ho
  ·rename_i fs ht;obtain⟨xs,rfl,_⟩:=hf;rw[if_pos (show(I.agg xs).isAgg=true from rfl)];unfold Value.okWide at hv;rw[ht]at hv;obtain⟨cs,rfl,_⟩:=hv;exact⟨cs,rfl,hr⟩
  ·cases ho
 |ar sz n e=>
  simp only[Sh.ok]at ho;split at ho
  ·rename_i m e' ht;obtain⟨xs,rfl,_⟩:=hf;rw[if_pos (show(I.arr sz xs).isAgg=true from rfl)];unfold Value.okWide at hv;rw[ht]at hv;obtain⟨cs,rfl,_⟩:=hv;exact⟨cs,rfl,hr⟩
  ·cases ho
 |_=>
  simp only[Sh.ok]at ho;split at ho<;>try(cases ho;done)
  rename_i ht;have hx:x.isAgg=false:=by
   obtain⟨_,rfl,_⟩:=hf;rfl
  rw[if_neg (by rw[hx];decide)]
  unfold Value.okWide at hv;rw[ht]at hv;cases v<;>first|exact hr|(exact absurd hv (by simp[Cell.okWide,Cell.ok,ht]))
theorem Me{b0:Nat}:∀{shs:List Sh} {ts:List TypeId} {vs:List Value} {ds:List (DataW H)} {p:List MemPlace},A3e P ts shs=true→DataW.TrodAll enc P W 0 (fun _=>true) true ts vs ds p→
 (∀(j:Nat) t v,ts[j]?=some t→vs[j]?=some v→Value.okWide P W .any b0 t v)→∃xs:List I,A9v shs xs∧xs.length=vs.length∧∀(i:Nat) x v,xs[i]?=some x→vs[i]?=some v→C7 (De W) x v
 | [],[],[],[],p,_,_,_=>⟨[],rfl,rfl,by simp⟩
 |s::shs,t::ts,v::vs,d::ds,p,ho,h,hv=>by
  simp only[A3e,Ap]at ho;obtain⟨p1,q,⟨fuel,h1⟩,h2,_⟩:=h;obtain⟨x,g1,g2⟩:=A1n (sp:=fun _=>true) s ho.1 h1
  obtain⟨xs,g3,g4,g5⟩:=Me ho.2 h2 fun j t' v' a b=>hv (j+1) t' v' a b
  refine⟨x::xs,⟨x,xs,rfl,g2,g3⟩,by simp[g4],?_⟩
  intro i x' v' a b;cases i with
  |zero=>cases a;cases b;exact Aeb ho.1 (hv 0 t v rfl rfl) g1 g2
  |succ i=>exact g5 i x' v' a b
 | [],_::_,_,_,_,ho,_,_=>by cases ho
 |_::_,[],_,_,_,ho,_,_=>by simp[A3e]at ho
 | [],[],_::_,_,_,_,h,_=>by simp[DataW.TrodAll]at h
 | [],[],[],_::_,_,_,h,_=>by simp[DataW.TrodAll]at h
 |_::_,_::_,[],_,_,_,h,_=>by simp[DataW.TrodAll]at h
 |_::_,_::_,_::_,[],_,_,h,_=>by simp[DataW.TrodAll]at h
theorem Md{sp':Nat→Bool}(hk:∀(b:Nat) (o:Obj),W.heap[b]?=some o→W'.heap[b]?=some o):∀{shs:List Sh} {ts:List TypeId} {vs:List Value} {ds:List (DataW H)} {p:List MemPlace},A3e P ts shs=true→
 DataW.TrodAll enc P W 0 (fun _=>true) true ts vs ds p→(∀q∈p,sp' q.block=true)→DataW.TrodAll enc P W' 0 sp' true ts vs ds p
 | [],[],[],[],p,_,h,_=>h
 |s::shs,t::ts,v::vs,d::ds,p,ho,h,hp=>by
  simp only[A3e,Ap]at ho;obtain⟨p1,q,⟨fuel,h1⟩,h2,rfl⟩:=h;exact⟨p1,q,⟨fuel,Hc hk fuel s ho.1 h1 fun y hy=>hp y (Aau _ hy)⟩,Md hk ho.2 h2 fun y hy=>hp y (Ac6 _ hy),rfl⟩
 | [],_::_,_,_,_,ho,_,_=>by cases ho
 |_::_,[],_,_,_,ho,_,_=>by simp[A3e]at ho
 | [],[],_::_,_,_,_,h,_=>by simp[DataW.TrodAll]at h
 | [],[],[],_::_,_,_,h,_=>by simp[DataW.TrodAll]at h
 |_::_,_::_,[],_,_,_,h,_=>by simp[DataW.TrodAll]at h
 |_::_,_::_,_::_,[],_,_,h,_=>by simp[DataW.TrodAll]at h
theorem Ad2{f:FuncId}{xs:List I}{args:Array Value}(hl:xs.length=args.toList.length)(Dh:∀(i:Nat) x v,xs[i]?=some x→args.toList[i]?=some v→C7 (De W) x v){outs:List SV}
 (h:Fn P f (xs.map SV.v) (Is (.v (.bool true)) outs)) (Bs8:Amb.p (De W)):
 Calls P f args W fun e W'=>e= .returned (.bool true)∧(∀(b:Nat) (o:Obj),W.heap[b]?=some o→W'.heap[b]?=some o)∧W'.os=W.os∧W'.output=W.output∧W.heap.size≤W'.heap.size:=by
 have:=h (De W) (fun _=>none) (fun _=>none) W args ⟨fun b o hb=>hb,fun b Gf hb=>(by cases hb),fun b b' Gf hb _=>(by cases hb),fun b o hb=>(by cases hb),rfl,rfl,rfl,Bz _,fun b o hb=>(by cases hb),Bs8⟩
  (by simp[hl]) (by
    intro i sv hi;rw[Ev]at hi;obtain⟨x,h1,rfl⟩:=Ad7.1 hi;refine⟨rfl,?_⟩;have Ze:i<args.toList.length:=by rw[←hl];exact(A7.1 h1).1
    have h2:args.toList[i]?=some (args.getD i undef):=by
     rw[Ae Ze];have Bbc:i<args.size:=by simpa using Ze
     simp[Array.getD,Bbc]
    exact Dh i x _ h1 h2)
 refine this.mono ?_;rintro e w' ⟨r,zs,c,G',σ',rfl,⟨rfl,_⟩,hG,H2,_,hr,_⟩;refine⟨?_,fun b o hb=>H2.fixed b o (hG b o hb),H2.os,H2.output,H2.size⟩
 have Hm:C7 G' (.bool true) c:=hr;rw[C7.bool]at Hm;rw[Hm]
theorem Ad4{f:Func}{s:ChangeSpec}{fresh handsOn again:Bool}{args:Array Value}{ds gs:List (DataW H)}{before:List MemPlace}{shs:List Sh}{tb:TypeId}
 (Bev:s.vars=[]) (hsp:∀ds:List (DataW H),ds.length=f.params.toList.length→s.fn H ds= {results:=[.lit (.bool true)],args:=ds}) (Aw7:f.resultTypes= #[tb]) (hb:P.underlying tb=some .bool)
 (ho:A3e P f.params.toList shs=true) (hW:DataW.Whole enc P f.params.toList s.vars false W args.toList ds gs before)
 (hk:∀(b:Nat) (o:Obj),W.heap[b]?=some o→W'.heap[b]?=some o) (hos:W'.os=W.os) (Azk:W'.output=W.output):
 s.post enc P f false fresh handsOn again W args (.bool true) W':=by
 have hW0:=hW;obtain⟨p,q,hA,hV,rfl,hz,hn⟩:=hW;rw[Bev]at hV;have hgs:gs=[]∧q=[]:=by
  cases gs with
  |nil=>exact⟨rfl,hV⟩
  |cons g gs=>exact hV.elim
 obtain⟨rfl,rfl⟩:=hgs;have hlen:ds.length=f.params.toList.length:=by
  have aux:∀(ts:List TypeId) (vs:List Value) (ds:List (DataW H)) (p:List MemPlace),DataW.TrodAll enc P W 0 (fun _=>true) true ts vs ds p→ds.length=ts.length:=by
   intro ts;induction ts with
   |nil=>intro vs ds p h;cases vs<;>cases ds<;>first|rfl|exact h.elim
   |cons t ts ih=>
    intro vs ds p h;cases vs with
    |nil=>cases ds<;>exact h.elim
    |cons v vs=>
     cases ds with
     |nil=>exact h.elim
     |cons d ds=>
      obtain⟨_,_,_,h2,_⟩:=h;simp[ih _ _ _ h2]
  exact aux _ _ _ _ hA
 have hfn:=hsp ds hlen;have hag:∀sp':Nat→Bool,(∀x∈p,sp' x.block=true)→DataW.TrodAll enc P W' 0 sp' true f.params.toList args.toList ds p:=fun sp' h=>Md hk ho hA h
 have hold:∀x∈p,x.block<W.heap.size:=fun x hx=>hW0.lt x (Aau _ hx)
 have C3:∀b,b<W.heap.size→∃o,W.heap[b]?=some o∧W'.heap[b]?=some o:=fun b Sy=>⟨_,E6 Sy,hk b _ (E6 Sy)⟩
 have hr:∀(b:Nat) (sp':Nat→Bool) (hd:Bool),DataW.TrodAll enc P W' b sp' hd f.resultTypes.toList ((Value.bool true).resultList f.resultTypes.size) [.lit (.bool true)] []:=by
  intro b sp' hd;rw[Aw7];exact trodAll_cons_mk (shut_bool hb true) trodAll_mk0
 have Bej:W.keptBut W' fun _=>False:=by
  refine⟨hos,Azk,fun i hi=>?_⟩
  obtain⟨o,h1,h2⟩:=C3 i hi;rw[h1,h2];cases o<;>simp
 refine⟨ds,[],p++[],[],p,[],hW0,?_,?_,?_,World.keptBut_mono (fun _ h=>h.elim) Bej,fun _=>?_⟩
 ·rw[R2,hfn];exact hr _ _ _
 ·rw[R2,hfn];exact hag _ fun x hx=>by simpa using hold x hx
 ·rw[R2,hfn,Bev];rfl
 ·refine⟨?_,_,[],([]++p)++[],⟨[]++p,[],trodAll_append (hag _ (fun _ _=>rfl)) (hr 0 _ _),by rw[Bev];rfl,rfl,?_,?_⟩,?_⟩
  ·intro j t r h1 h2;rw[Aw7]at h1 h2;cases j with
   |zero=>
    cases h1;have:r= .bool true:=by
     have h3:[Value.bool true][0]?=some r:=h2;simpa using h3.symm
    subst this;exact okWide_bool_mk hb _
   |succ j=>simp at h1
  ·intro b off hp;have hp':MemPlace.cell b off∈p:=by simpa using hp
   have h0:=hz b off (by simpa using hp')
   obtain⟨o,h1,h2⟩:=C3 b (hold _ hp');unfold World.frozen? at h0 ⊢;rw[h2];rw[h1]at h0;exact h0
  ·intro ha;cases ha
  ·intro x hx _;simpa using hx
end

open Go.ChangeShapes Go.Deep Go.WideShapes Go.ChangeAt Go.RowKit
section
variable{H:Type}{enc:TypeId × Value → H}{P:Program}{W:World}
theorem mapM_length{α β:Type}{f:α→Option β}:∀{l:List α} {xs:List β},l.mapM f=some xs→xs.length=l.length
 | [],xs,h=>by simp at h;subst h;rfl
 |a::l,xs,h=>by
  rw[List.mapM_cons]at h;cases hf:f a with
  |none=>simp[hf]at h
  |some y=>
   cases hl:l.mapM f with
   |none=>simp[hf,hl]at h
   |some ys=>
    simp[hf,hl]at h;subst h;simp[mapM_length hl]
theorem Ap2{b:Nat}{sp:Nat→Bool}{held:Bool}{fuel:Nat}{t e:TypeId}{a:Option Addr}{len cap:Nat}{x:DataW H × List MemPlace}(hu:P.underlying t=some (.slice e))
 (h:DataW.trod enc P W b sp held fuel t [.slice a len cap]=some x):len=0∨∃n∈x.1.weights P t,len*P.bytesOf e≤n:=by
 cases fuel with
 |zero=>simp[DataW.trod]at h
 |succ fuel=>
  cases a with
  |none=>
   cases len with
   |zero=>exact .inl rfl
   |succ n=>simp[DataW.trod,hu]at h
  |some a=>
   right;simp only[DataW.trod,hu]at h;split at h
   ·simp only[Ai7,Ad7]at h;obtain⟨es,h1,rest,h2,rfl⟩:=h;refine⟨(es.length+rest.length)*P.bytesOf e,by simp[DataW.weights,hu],Jh _ ?_⟩
    have:=mapM_length h1;simp at this;omega
   ·cases h
end
set_option maxRecDepth 100000
set_option maxHeartbeats 4000000

open Go.Proofs Go.Lib
abbrev Bps:Sh:=.st [.str,.str]
abbrev A3o:Sh:=.st [.str,.str,.bool]
theorem Hu{x:I}(h:Fits Bps x):∃s:Sp,x=s.Bx:=by
 obtain⟨_,rfl,a,_,rfl,⟨f,rfl⟩,b,_,rfl,⟨t,rfl⟩,rfl⟩:=h;exact⟨⟨f,t⟩,rfl⟩
theorem Ahq{α:Type}{sh:Sh}{sz:Nat}{f:α→I}(hf:∀x,Fits sh x→∃a,x=f a):∀xs:List I,(∀y∈xs,Fits sh y∧y.size=sz)→∃l:List α,xs=l.map f
 | [],_=>⟨[],rfl⟩
 |y::ys,h=>by
  obtain⟨l,rfl⟩:=Ahq hf ys fun z hz=>h z (B4 _ hz)
  obtain⟨s,rfl⟩:=hf y (h y (B2 ..)).1;exact⟨s::l,rfl⟩
theorem R8{W w:World}(hw:∀b o,De W b=some o→w.heap[b]?=some o){a:Addr}{v:Value}(h:W.cell? a=some v):w.cell? a=some v:=by
 unfold World.cell? at h ⊢;cases hb:W.heap[a.block]? with
 |none=>rw[hb]at h;cases h
 |some o=>rw[hw a.block o hb, ←hb];exact h
theorem Zt:Go.Proofs.YtkpojedpcabojaaGreatDoor.Rows.laid_unicode_utf8_first=firstData:=Pinned.utf8First_eq
theorem Xk:(Go.Proofs.YtkpojedpcabojaaGreatDoor.Rows.laid_unicode_utf8_acceptRanges:DataW Unit)=acceptData:=by kernel_rfl
abbrev F8:List (String × DataW Unit):=[("unicode/utf8.acceptRanges",Go.Proofs.YtkpojedpcabojaaGreatDoor.Rows.laid_unicode_utf8_acceptRanges),("unicode/utf8.first",Go.Proofs.YtkpojedpcabojaaGreatDoor.Rows.laid_unicode_utf8_first)]
theorem Adk{W:World}(hL:laidMetH Tryz.prog F8 W):Amb.p (De W):=by
 rw[MakeChecks.laidMetH_plain _ _ _ (by kernel_rfl)]at hL
 have hT:Lib.Utf8Tabs 0 1 W:=utf8Tabs_of_readsT {t5:=Bak.t5,t119:=Bak.t119,t138:=Bak.t138,t139:=Bak.t139} ⟨by kernel_rfl,by kernel_rfl,by kernel_rfl,by kernel_rfl,by kernel_rfl,by kernel_rfl,by kernel_rfl⟩
  (Zt ▸ Lib.laidMet.reads hL (.tail _ (.head _))) (Xk ▸ Lib.laidMet.reads hL (.head _))
 exact fun w hw=>⟨fun c hc=>R8 hw (hT.1 c hc),fun i hi=>⟨R8 hw (hT.2 i hi).1,R8 hw (hT.2 i hi).2⟩⟩

theorem Bar{x:I}(h:Fits A3o x):∃c:Ef,x=c.Bx:=by
 obtain⟨_,rfl,a,_,rfl,⟨k,rfl⟩,b,_,rfl,⟨v,rfl⟩,c,_,rfl,⟨g,rfl⟩,rfl⟩:=h;exact⟨⟨k,v,g⟩,rfl⟩

theorem Bfy{x:I}(h:Fits (.sl 3 A3o) x):∃l:List Ef,x= .list (l.map Ef.Bx):=by
 obtain⟨xs,rfl,hxs⟩:=h;obtain⟨l,rfl⟩:=Ahq (fun x hx=>Bar hx) xs hxs
 exact⟨l,rfl⟩
theorem Bk5{x:I}(h:Fits (.sl 1 (.sl 3 A3o)) x):∃w:List (List Ef),x= .list (w.map fun l=>I.list (l.map Ef.Bx)):=by
 obtain⟨xs,rfl,hxs⟩:=h;obtain⟨l,rfl⟩:=Ahq (f:=fun l:List Ef=>I.list (l.map Ef.Bx)) (fun x hx=>Bfy hx) xs hxs
 exact⟨l,rfl⟩

open Go.ChangeShapes Go.Deep Go.WideShapes Go.ChangeAt Go.RowKit
section
variable{H:Type}{enc:TypeId × Value → H}{P:Program}{W:World}
theorem Ao0{α β:Type}{f:α→Option β}:∀{l:List α} {xs:List β} {i:Nat} {a:α},l.mapM f=some xs→l[i]?=some a→∃y,f a=some y∧xs[i]?=some y
 | [],xs,i,a,h,hi=>by simp at hi
 |b::l,xs,i,a,h,hi=>by
  rw[List.mapM_cons]at h;cases hf:f b with
  |none=>simp[hf]at h
  |some y=>
   cases hl:l.mapM f with
   |none=>simp[hf,hl]at h
   |some ys=>
    simp[hf,hl]at h;subst h;cases i with
    |zero=>
     simp only[Fa,A0]at hi;subst hi;exact⟨y,hf,rfl⟩
    |succ i=>
     simp only[Du]at hi ⊢;exact Ao0 hl hi
theorem Aop{n:Nat}:∀{i:Nat} {ts:List TypeId} {ds:List (DataW H)} {t:TypeId} {d:DataW H},ts[i]?=some t→ds[i]?=some d→n∈d.weights P t→n∈DataW.weightsEach P ts ds
 |i,[],ds,t,d,ht,_,_=>by simp at ht
 |i,_::_,[],t,d,_,hd,_=>by simp at hd
 |0,t0::ts,d0::ds,t,d,ht,hd,hn=>by
  simp only[Fa,A0]at ht hd;subst ht hd;simp only[DataW.weightsEach,Bv];exact .inl hn
 |i+1,t0::ts,d0::ds,t,d,ht,hd,hn=>by
  simp only[Du]at ht hd;simp only[DataW.weightsEach,Bv];exact .inr (Aop ht hd hn)
theorem Bu{sp:Nat→Bool}{e:TypeId}{fs:Array Field}{f:Field}{i len cap:Nat}{ad:Option Addr}:∀{j:Nat} {ts more:List TypeId} {vs:List Value} {ds gs:List (DataW H)} {p:List MemPlace} {t:TypeId} {v:Value},
 DataW.TrodAll enc P W 0 sp true ts vs ds p→(DataW.weightsEach P (ts++more) (ds++gs)).all (· ≤reachBytes)=true→ts[j]?=some t→P.underlying t=some (.struct fs)→fs.toList[i]?=some f→P.underlying f.type=some (.slice e)→P.cellsOf f.type=1→
 vs[j]?=some v→v.cells.toList[f.offset]?=some (.slice ad len cap)→len*P.bytesOf e≤reachBytes
 |j,[],more,vs,ds,gs,p,t,v,hA,hw,ht,hu,hf,huf,hcf,hv,hc=>by simp at ht
 |j,t0::ts,more,[],ds,gs,p,t,v,hA,hw,ht,hu,hf,huf,hcf,hv,hc=>by simp at hv
 |j,t0::ts,more,v0::vs,[],gs,p,t,v,hA,hw,ht,hu,hf,huf,hcf,hv,hc=>by simp[DataW.TrodAll]at hA
 |0,t0::ts,more,v0::vs,d::ds,gs,p,t,v,hA,hw,ht,hu,hf,huf,hcf,hv,hc=>by
  simp only[Fa,A0]at ht hv;subst ht hv;obtain⟨q1,q2,⟨fuel,hd⟩,_,_⟩:=hA;cases fuel with
  |zero=>simp[DataW.trod]at hd
  |succ fuel=>
   simp only[DataW.trod,hu]at hd;split at hd
   ·simp only[Ad7]at hd;obtain⟨xs,h1,h2⟩:=hd;obtain⟨y,h3,h4⟩:=Ao0 h1 hf;have h5:(v0.cells.toList.drop f.offset).take (P.cellsOf f.type)=[.slice ad len cap]:=by
     obtain⟨hl,he⟩:=A7.1 hc;rw[hcf,Cc hl,he];rfl
    rw[h5]at h3;rcases Ap2 huf h3 with h0|⟨n,hn,hle⟩
    ·rw[h0,Nat.zero_mul];exact Cr _
    ·have hm:n∈d.weights P t0:=by
      have:d= .agg (xs.map (·.1)):=(Prod.mk.inj h2).1.symm;rw[this];simp only[DataW.weights,hu];exact Aop (i:=i) (t:=f.type) (d:=y.1) (by rw[Ev,hf];rfl) (by rw[Ev,h4];rfl) hn
     simp only[H3,DataW.weightsEach,List.all_append,Ap,Aia,decide_eq_true_eq]at hw;exact Kq hle (hw.1 n hm)
   ·cases hd
 |j+1,t0::ts,more,v0::vs,d::ds,gs,p,t,v,hA,hw,ht,hu,hf,huf,hcf,hv,hc=>by
  simp only[Du]at ht hv;obtain⟨q1,q2,_,hA',_⟩:=hA;simp only[H3,DataW.weightsEach,List.all_append,Ap]at hw;exact Bu hA' hw.2 ht hu hf huf hcf hv hc
theorem Aks{G:Mem}{l:List I}{cs:List Value}(h:D8 G (.list l) cs):∃a cap,cs=[.slice a l.length cap]:=by
 obtain⟨a,cap,h,_⟩:=h;exact⟨a,cap,h⟩
theorem Jb{G:Mem}{a b c:List I}{v:Value}(h:C7 G (.agg [.list a,.list b,.list c]) v):∃x y z p q r,v.cells.toList=[.slice x a.length p,.slice y b.length q,.slice z c.length r]:=by
 have h:D8 G (.agg [.list a,.list b,.list c]) v.cells.toList:=h.cells;obtain⟨c1,d1,e1,h1,c2,d2,e2,h2,c3,d3,e3,h3,e4⟩:=h;obtain⟨x,p,rfl⟩:=Aks h1;obtain⟨y,q,rfl⟩:=Aks h2;obtain⟨z,r,rfl⟩:=Aks h3;subst e4 e3 e2;exact⟨x,y,z,p,q,r,e1⟩
end

abbrev Bpr:Sh:=.st [.str,.int .i64,.int .i64,.str]
abbrev Aoh:Sh:=.st [.int .i64,Bps,.str,.str,.int .i64,.int .i64]
abbrev Hf:Sh:=.st [.sl 4 Bpr,.sl 7 Aoh,.sl 7 Aoh]
theorem Ar3{x:I}(h:Fits Bpr x):∃c:Cm,x=c.Bx:=by
 obtain⟨_,rfl,a,_,rfl,⟨k,rfl⟩,b,_,rfl,⟨w,rfl,_⟩,c,_,rfl,⟨r,rfl,_⟩,d,_,rfl,⟨v,rfl⟩,rfl⟩:=h;exact⟨⟨k,w,r,v⟩,rfl⟩
theorem Arn{x:I}(h:Fits Aoh x):∃c:Act,x=c.Bx:=by
 obtain⟨_,rfl,a,_,rfl,⟨k,rfl,_⟩,b,_,rfl,hb,c,_,rfl,⟨key,rfl⟩,d,_,rfl,⟨v,rfl⟩,e,_,rfl,⟨r,rfl,_⟩,f,_,rfl,⟨m,rfl,_⟩,rfl⟩:=h;obtain⟨s,rfl⟩:=Hu hb;exact⟨⟨k,s,key,v,r,m⟩,rfl⟩
theorem Anz{x:I}(h:Fits (.sl 7 Aoh) x):∃l:List Act,x= .list (l.map Act.Bx):=by
 obtain⟨xs,rfl,hxs⟩:=h;obtain⟨l,rfl⟩:=Ahq (fun x hx=>Arn hx) xs hxs
 exact⟨l,rfl⟩
theorem Ajn{x:I}(h:Fits Hf x):∃t:Txn,x=t.Bx:=by
 obtain⟨_,rfl,a,_,rfl,⟨xs,rfl,hxs⟩,b,_,rfl,hb,c,_,rfl,hc,rfl⟩:=h;obtain⟨l,rfl⟩:=Ahq (fun x hx=>Ar3 hx) xs hxs
 obtain⟨th,rfl⟩:=Anz hb;obtain⟨el,rfl⟩:=Anz hc;exact⟨⟨l,th,el⟩,rfl⟩
theorem Jv{a b c ba bb:Nat}(h1:a*ba≤reachBytes)(h2:b*bb≤reachBytes)(h3:c*bb≤reachBytes)(h4:1≤ba)(h5:1≤bb):a+b+c≤1000000000000000000:=by
 have h6:=Kq (Nat.le_mul_of_pos_right a h4) h1;have h7:=Kq (Nat.le_mul_of_pos_right b h5) h2;have h8:=Kq (Nat.le_mul_of_pos_right c h5) h3;unfold reachBytes at h6 h7 h8;omega

open Go.Proofs Go.Proofs.YtkpojedpcabojaaGreatDoor
open Go.ChangeShapes Go.WideShapes Go.ChangeAt Go.RowKit
theorem Bgc:ownKnob Tryz.prog.godebug=none:=by kernel_rfl
theorem A83(H:Type)(enc:TypeId × Value→H)(W:World)(base:Nat)(args:Array Value)(ds gs:List (DataW H))(before:List MemPlace)
 (Art:∀(j:Nat) t v,Tryz.f3.params[j]?=some t→args[j]?=some v→Value.okWide Tryz.prog W .any base t v)
 (hW:DataW.Whole enc Tryz.prog Tryz.f3.params.toList Rows.txnRunsSpec.vars false W args.toList ds gs before) (Hr:(DataW.weightsEach Tryz.prog (Tryz.f3.params.toList++Rows.txnRunsSpec.plain.varTypes Tryz.prog) (ds++gs)).all (· ≤reachBytes)=true) (hL:laidMetH Tryz.prog F8 W):
 Calls Tryz.prog 3 args W fun e W'=>∃v,e= .returned v∧Rows.txnRunsSpec.post enc Tryz.prog Tryz.f3 false true false false W args v W':=by
 have hW0:=hW;obtain⟨p,q,hA,_⟩:=hW;have ho:A3e Tryz.prog Tryz.f3.params.toList [.sl 1 (.sl 3 A3o),.int .i64,Hf]=true:=by kernel_rfl
 obtain⟨xs,h1,h2,h3⟩:=Me ho hA fun j t v a b=>Art j t v (by simpa using a) (by simpa using b)
 obtain⟨x,_,rfl,hx,y,_,rfl,hy,z,_,rfl,hz,rfl⟩:=h1;obtain⟨a,rfl⟩:=Bk5 hx;obtain⟨fl,rfl,_⟩:=hy;obtain⟨t,rfl⟩:=Ajn hz;obtain⟨v0,hv0⟩:∃v,args.toList[2]?=some v:=⟨_,Ae (by rw[←h2];simp)⟩
 obtain⟨x0,y0,z0,p0,q0,r0,hcs⟩:=Jb (a:=t.ifs.map Cm.Bx) (b:=t.th.map Act.Bx) (c:=t.el.map Act.Bx) (h3 2 _ _ rfl hv0);have b1:=Bu (j:=2) (i:=0) hA Hr (t:=26) rfl Tryz.underlying26 rfl Tryz.underlying23 (by kernel_rfl) hv0 (by rw[hcs];rfl)
 have b2:=Bu (j:=2) (i:=1) hA Hr (t:=26) rfl Tryz.underlying26 rfl Tryz.underlying24 (by kernel_rfl) hv0 (by rw[hcs];rfl)
 have b3:=Bu (j:=2) (i:=2) hA Hr (t:=26) rfl Tryz.underlying26 rfl Tryz.underlying24 (by kernel_rfl) hv0 (by rw[hcs];rfl)
 rw[Bh]at b1 b2 b3;have hb2:=Jv b1 b2 b3 (by decide+kernel) (by decide+kernel)
 refine(Ad2 h2 h3 (Bmh a fl t hb2) (Adk hL)).mono ?_;rintro e W' ⟨rfl,hk,hos,Azk,_⟩;refine⟨_,rfl,Ad4 (shs:=[.sl 1 (.sl 3 A3o),.int .i64,Hf]) (tb:=4) rfl ?_ rfl Tryz.underlying4 ho hW0 hk hos Azk⟩;intro ds hds
 match ds,hds with
 | [d0,d1,d2],_=>rfl
theorem Bav(os:Os)(started:os.Started)(H:Type)(enc:TypeId × Value→H):
 ReturnsInHanded {} Tryz.checked os 3 .any (fun w args=>(Rows.txnRunsSpec.pre enc Tryz.prog Tryz.f3 [] false w args∧laidMetH Tryz.prog F8 w)∧sizedMet enc Tryz.prog Tryz.f3 (OpenSpec.ofChange Rows.txnRunsSpec) false w args)
  (Rows.txnRunsSpec.post enc Tryz.prog Tryz.f3 false true false false):=by
 refine returnsInHanded_of_change_and (C:=Tryz.checked) (X:=fun w _=>laidMetH Tryz.prog F8 w) (fun _ _ _ hh h=>h.of_heap hh) Bgc started (by kernel_rfl) Tryz.func3
  (ChangeSpec.witness_shaped (enc:=enc) (C:=Tryz.checked) (os:=os) (X:=fun w _=>laidMetH Tryz.prog F8 w) false (World.laidAll Tryz.prog os F8) #[.slice none 0 0,.int .i64 0,.agg #[.slice none 0 0,.slice none 0 0,.slice none 0 0]] 8 (World.laidAll_os _ _ _)
    (World.shaped_of_ZipB (by kernel_rfl) (by kernel_rfl)) (by kernel_rfl) (by kernel_rfl) (by kernel_rfl)
    (by rw[MakeChecks.laidMetH_plain _ _ _ (by kernel_rfl)];exact laidMet_laidAll _ (by kernel_rfl) (by kernel_rfl))) ?_
 intro W base args ds gs before Bqh hW _ Hr hL _;exact A83 H enc W base args ds gs before Bqh hW Hr hL
theorem Bf4:Rows.TxnRunsSaid:=
 OpenClaim.holds_of_wide 3 Tryz.f3 rfl rfl rfl rfl rfl rfl rfl ⟨rfl,rfl,rfl,rfl,rfl⟩ rfl rfl rfl rfl rfl (by kernel_rfl) Tryz.func3 (by kernel_rfl)
  (of_decide_eq_true (by kernel_rfl)) (by unfold Func.isWrapper;first|(rw[if_pos (by decide+kernel)];kernel_rfl)|(rw[if_neg (by decide+kernel)];exact⟨rfl,rfl⟩))
  (fun os started H enc _=>Bav os started H enc)
end Go.Ab
