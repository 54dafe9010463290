/- Lemmas -/
import Derived.Test.YtkpojedpcabojaaDoorAb25
import Derived.Sort.Walk0
import Derived.Below
set_option linter.unusedVariables false
set_option linter.unusedSimpArgs false
namespace Go.Ab
abbrev Az:=List UInt8
theorem Kz(a b:Az):Op.bytesLess a b=decide (a<b):=Go.Proofs.bytesLess_eq a b
structure Sp where
 f:Az
 t:Az
 deriving DecidableEq
def Sp.toI(s:Sp):I:=.agg [.str s.f,.str s.t]
def SpR(s:Sp):Prop:=s.f.length≤65∧s.t.length≤65∧(s.t=[]∨s.f<s.t)
instance(s:Sp):Decidable (SpR s):=by unfold SpR;infer_instance
def Bw(s:Sp)(k:Az):Prop:=s.f≤k∧(s.t=[]∨k<s.t)
instance(s:Sp)(k:Az):Decidable (Bw s k):=by unfold Bw;infer_instance
def Keys(u:List Sp)(k:Az):Prop:=∃s∈u,Bw s k
def Sane(s:Sp):Prop:=s.t=[]∨s.f<s.t
def Canon(l:List Sp):Prop:=(∀x∈l,Sane x)∧l.Pairwise fun x y=>x.t≠[]∧x.t<y.f
theorem Sane.has{s:Sp}(h:Sane s):Bw s s.f:=⟨Std.le_refl _,h⟩
theorem Canon.tail{s:Sp}{r:List Sp}(h:Canon (s::r)):Canon r:=⟨fun x hx=>h.1 x (List.mem_cons_of_mem _ hx),(List.pairwise_cons.1 h.2).2⟩
theorem Canon.gap{s:Sp}{r:List Sp}(h:Canon (s::r)):∀x∈r,s.t≠[]∧s.t<x.f:=(List.pairwise_cons.1 h.2).1
theorem Canon.sane{s:Sp}{r:List Sp}(h:Canon (s::r)):Sane s:=h.1 s (List.mem_cons_self ..)
theorem Canon.key{s:Sp}{r:List Sp}(h:Canon (s::r)):Keys (s::r) s.f:=⟨s,List.mem_cons_self ..,h.sane.has⟩
theorem Canon.end{s:Sp}{r:List Sp}(h:Canon (s::r))(ht:s.t≠[]):¬Keys (s::r) s.t:=by
 rintro⟨x,hx,hk⟩;rcases List.mem_cons.1 hx with rfl|hx
 ·have:=hk.2
  grind
 ·have h1:=h.gap x hx;have h2:=hk.1
  grind
def Aei(a b:Az):Prop:=a≠b∧(a=[]∨(b≠[]∧b<a))
instance(a b:Az):Decidable (Aei a b):=by unfold Aei;infer_instance
structure UInv(d u:List Sp):Prop where
 canon:Canon u
 keys:∀k,Keys u k↔Keys d k
 ends:∀x∈u,(∃s∈d,x.f=s.f)∧∃s∈d,x.t=s.t
 some:d≠[]→u≠[]

def runL{α S R:Type}(step:S→α→S ⊕ R)(fin:S→R):List α→S→R
 | [],s=>fin s
 |a::r,s=>match step s a with
  | .inl s'=>runL step fin r s'
  | .inr x=>x
structure RoundE{α S R:Type}(ks:List Nat)(st0:St)(l:List α)(step:S→α→S ⊕ R)(fin:S→R)(Ans:R)(vals:Nat→S→List (Nat × SV))(inv:Nat→S→Prop)(k:Nat)(st:St):Prop where
 out:∃s',norm ks st=upd st0 (vals (k+1) s')∧inv (k+1) s'∧runL step fin (l.drop (k+1)) s'=Ans
theorem RoundE.by{α S R:Type}{ks:List Nat}{st0:St}{l:List α}{step:S→α→S ⊕ R}{fin:S→R}{Ans:R}{vals:Nat→S→List (Nat × SV)}{inv:Nat→S→Prop}{k:Nat}{st:St}
 (s':S) (h1:norm ks st=upd st0 (vals (k+1) s')) (h2:inv (k+1) s') (h3:runL step fin (l.drop (k+1)) s'=Ans):RoundE ks st0 l step fin Ans vals inv k st:=⟨s',h1,h2,h3⟩
theorem B6{α:Type}{f:α→I}{l:List α}{k:Nat}{e:α}(h:l[k]?=some e):(l.map f)[Int.toNat (k:Int)]?=some (f e):=by
 rw[Int.toNat_natCast,List.getElem?_map,h];rfl
theorem size_map{α:Type}{f:α→I}{l:List α}{n:Nat}(h:∀a,(f a).size=n):∀u∈l.map f,u.size=n:=by
 intro u hu;obtain⟨a,_,rfl⟩:=List.mem_map.1 hu;exact h a

theorem An:(∀(p:Prop) [Decidable p],(decide p=true)=p)∧(∀(p:Prop) [Decidable p],(decide p=false)=¬p)∧(∀b:Bool,((!b)=true)=(b=false))∧(∀b:Bool,((!b)=false)=(b=true))∧
 (∀b:Bool,(¬b=true)=(b=false))∧(∀b:Bool,(¬b=false)=(b=true))∧(∀a b:Int,(¬a<b)=(b≤a))∧(∀a b:Int,(¬a≤b)=(b<a))∧
 (∀(α β:Type) (f:α→β) (l:List α),(l.map f).length=l.length)∧(∀(α:Type) (l m:List α),(l++m).length=l.length+m.length)∧(∀(α:Type) (a:α) (l:List α),(a::l).length=l.length+1)∧(∀(α:Type),([]:List α).length=0)∧
 (∀(α:Type) (l:List α) (i:Nat) (a:α),(l.set i a).length=l.length)∧(∀(α:Type) (n:Nat) (a:α),(List.replicate n a).length=n)∧(∀(α:Type) (i:Nat) (l:List α),(l.take i).length=min i l.length)∧(∀(α:Type) (i:Nat) (l:List α),(l.drop i).length=l.length - i)∧
 (∀n:Nat,Int.toNat (n:Int)=n)∧maxLen=9223372036854775807:=by
 refine⟨?_,?_,?_,?_,?_,?_,?_,?_,?_,?_,?_,?_,?_,?_,?_,?_,?_,rfl⟩<;>intros<;>simp
theorem Af:(∀{α:Type} {a:α} {b c:List α},(a::b)++c=a::(b++c))∧(∀{α:Type} {b:List α},[]++b=b)∧(∀{α:Type} {a:α} {b c:List α},List.append (a::b) c=a::List.append b c)∧(∀{α:Type} {b:List α},List.append [] b=b)∧(∀{α:Type} {a:α} {b:List α},(a::b)[0]?=some a)∧(∀{α:Type} {a:α} {b:List α} {n:Nat},(a::b)[n+1]?=b[n]?)∧(∀{n:Nat},Int.toNat (n:Int)=n)∧
 (∀{α:Type} {xs:List α} {i:Nat} {a:α},(xs.set i a)[i]?=Function.const α a<$>xs[i]?)∧(∀{α β:Type} {f:α→β} {o:Option α},f<$>o=o.map f)∧(∀{α β:Type} {f:α→β} {a:α},(some a).map f=some (f a))∧(∀{α:Type} {a x:α} {b:List α},(a::b).set 0 x=x::b)∧(∀{α:Type} {a x:α} {b:List α} {n:Nat},(a::b).set (n+1) x=a::b.set n x)∧(∀{α:Type} {a b:α} {xs:List α} {n:Nat},(xs.set n a).set n b=xs.set n b)∧
 (∀{α β:Type} {a:α} {b:β},Function.const β a b=a)∧(∀{α β:Type} {f:α→β} {a:α} {l:List α},(a::l).map f=f a::l.map f)∧(∀{α β:Type} {f:α→β},([]:List α).map f=[])∧(∀{α β:Type} {f:α→β} {l:List α} {i:Nat},(l.map f)[i]?=l[i]?.map f)∧(∀{α β:Type} {f:α→β} {l:List α},(l.map f).length=l.length)∧(∀{α:Type} {l:List α} {i:Nat} {a:α},(l.set i a).length=l.length):=
 ⟨rfl,rfl,rfl,rfl,rfl,rfl,rfl,List.getElem?_set_self',rfl,rfl,rfl,rfl,List.set_set ..,rfl,rfl,rfl,List.getElem?_map ..,List.length_map ..,List.length_set ..⟩
theorem Aa:(∀a b:Az,Op.bytesLess a b=decide (a<b))∧(∀(p:Prop) [Decidable p],(decide p=true)=p)∧(∀(p:Prop) [Decidable p],(decide p=false)=¬p)∧(∀b:Bool,((!b)=true)=(b=false))∧(∀b:Bool,((!b)=false)=(b=true))∧
 (∀b:Bool,(¬b=true)=(b=false))∧(∀b:Bool,(¬b=false)=(b=true))∧(∀(α β:Type) (f:α→β) (l:List α),(l.map f).length=l.length)∧(∀n:Nat,Int.toNat (n:Int)=n)∧((false=true)=False)∧((true=false)=False):=by
 refine⟨Kz,?_,?_,?_,?_,?_,?_,?_,?_,?_,?_⟩<;>intros<;>simp
theorem Ag{x:D}{n:Nat}(h:x.size=n):∀u∈[x],u.size=n:=by
 intro u hu;rw[List.mem_singleton]at hu;subst hu;exact h
theorem A9{P:Program}{m m':M}{Q:St→Prop}{st:St}(h:m=m')(hk:m'.wq P Q st):m.wq P Q st:=h ▸ hk
theorem Ba{P:Program}{m m':M}{K:St→List Rd→Log→List Prop→Prop}{st:St}{R:List Rd}{L:Log}{F:List Prop}(h:m=m')(hk:m'.wz P K st R L F):m.wz P K st R L F:=h ▸ hk
theorem A3{v:Nat}{p:List Nat}{f:D→Option SV}{ver:Nat}{inv:Inv}{t u:D}{r:SV}{K:Nat→SV→Prop}(ha:alive v inv p=true)(hat:D.at p t=some u)(hf:f u=some r)
 (hk:Ri (Nat.min (lv inv p) ver,r) K):seeK [(eyeP v p f ver (.own inv t)).2] (fun b=>natK (eyeP v p f ver (.own inv t)).1 fun a=>K a b):=by
 simp only[eyeP,ha,hat,seen,hf];exact hk
theorem A2{v:Nat}{p:List Nat}{f:D→Option SV}{ver:Nat}{inv:Inv}{t u:D}{r:SV}{K:Nat→SV→Prop}(ha:J7 v inv p=true)(hat:D.at p t=some u)(hf:f u=some r)
 (hk:Ri (Nat.min (lv inv p) ver,r) K):seeK [(eyeH v p f ver (.own inv t)).2] (fun b=>natK (eyeH v p f ver (.own inv t)).1 fun a=>K a b):=by
 simp only[eyeH,ha,hat,seen,hf];exact hk
theorem Ax{b:Bool}{X Y:Prop}(h:b=true)(hx:b=true→X):(b=true→X)∧(b=false→Y):=⟨hx,fun h'=>by rw[h]at h';cases h'⟩
theorem Aw{b:Bool}{X Y:Prop}(h:b=false)(hy:b=false→Y):(b=true→X)∧(b=false→Y):=⟨fun h'=>(by rw[h]at h';cases h'),hy⟩

def Aej(P:Program)(n N:Nat)(rs:List Ret)(K:SV→St→Prop)(st:St):Prop:=
 (retI rs fun us=>.chk fun st'=>litK (Bn n N (st'.drop n)) fun st'=>K (G7 us) st').wp P (fun _=>False) st
def Dq(P:Program)(n N:Nat)(rs:List Ret)(K:SV→St→Prop)(st:St):Prop:=
 (retI rs fun us=>.chk fun st'=>litK (Bn n N (st'.drop n)) fun st'=>K (G7 us) st').wq P (fun _=>False) st
section
variable{P:Program}{G:Mem}{σ:Lab}{Fr:Mem}{w0:Base}{w:World}{st:St}{a:Act}
def Uq(P:Program)(fn:Func)(N:Nat)(K:SV→St→Prop)(E:St→Prop):Prop:=
 ∀{G:Mem} {σ:Lab} {Fr:Mem} {w0:Base} {B:Base} {a a':Act} {w:World} {st:St},w0.n=N→Rel G σ Fr B st a' w→Uc w0.w B.w→B.hid=a.tmps++w0.hid→B.n=fn.ntmps→Marks Fr w0.w a.defers→a.tmps.size=w0.n→E st→
  ∃v,(results fn a'.tmps).run P w= .ok v w∧∃r G' σ' st',K r st'∧G.le G'∧Rel G' σ' Fr w0 st' a w∧Ts G' σ' Fr w st' (val a w0) r v
theorem FnIn.of_code{f:FuncId}{fn:Func}{c:Code}{s:Stm}{N:Nat}{az:List Opd}{st:St}{K:SV→St→Prop}{E:St→Prop}(hf:P.funcs[f]?=some fn)(hb:fn.body=some c)
 (hc:Be P fn.ntmps c s=true) (hn:az.length≤fn.ntmps) (hE:Uq P fn N K E) (h:wpS P s noY ⟨E,noEx,E⟩ (En fn.ntmps az st)):FnIn P f N az st K:=by
 intro G σ Fr w0 a w xs hN hr ho;subst hN;refine(R7 (ro:=none) (n:=0)).1 (callsIn_of_wp_marks hf hb trivial ?_);have hxl:=Gg ho
 let cargs:=(xs.map a.eval).toArray
 let a0:Act:={tmps:=cargs++Array.replicate (fn.ntmps - cargs.size) undef,defers:=[]}
 have hcs:cargs.size=az.length:=by simp[cargs,hxl]
 have hsz:a0.tmps.size=fn.ntmps:=by simp only[a0,Array.size_append,Array.size_replicate,hcs];omega
 let pre:St:=Ff fn.ntmps st az++List.replicate (fn.ntmps - az.length) (0,SV.no)
 have hpl:pre.length=fn.ntmps:=by simp only[pre,List.length_append,D3,List.length_replicate];omega
 have hst:En fn.ntmps az st=pre++stUp fn.ntmps st:=by
  simp only[En,Q8,pre,List.append_assoc]
 have hrel:Rel G (σ.shift fn.ntmps) Fr ⟨w,fn.ntmps,a.tmps++w0.hid⟩ (pre++stUp fn.ntmps st) a0 w:=by
  have:=Rel.up (pre:=pre) (a':=a0) hr rfl (by rw[hpl,hsz]) ?_
  ·rw[hsz]at this;exact this
  ·rw[hsz];intro i ver sv hi;simp only[pre]at hi;by_cases h1:i<az.length
   ·rw[List.getElem?_append_left (by rw[D3];exact h1),Qp,List.getElem?_eq_getElem h1]at hi
    simp only[Option.map_some,Option.some.injEq,Prod.mk.injEq]at hi;obtain⟨rfl,rfl⟩:=hi;obtain⟨x,h2,h3⟩:=P4 ho (List.getElem?_eq_getElem h1);have h4:a0.tmps.getD i undef=a.eval x:=by
     simp only[a0];rw[Array.getD_eq_getD_getElem?,Array.getElem?_append_left (by rw[hcs];exact h1)]
     simp only[cargs,List.getElem?_toArray,List.getElem?_map,h2];rfl
    rw[h4];exact Sq hr h3 hpl hsz
   ·rw[List.getElem?_append_right (by rw[D3];omega),D3,List.getElem?_replicate]at hi
    split at hi
    ·simp only[Option.some.injEq,Prod.mk.injEq]at hi;obtain⟨rfl,rfl⟩:=hi;exact⟨trivial,fun hh e=>by cases e⟩
    ·cases hi
 rw[hst]at h;refine wpIn_mono (Qs (w0:=⟨w,fn.ntmps,a.tmps++w0.hid⟩) (.inl rfl) Nt hc hrel h) ?_;rintro e a' w' ⟨G',σ',Fr',st',hG,hF,hr',hq⟩;have fin:E st'→LeavesInM (Wd none) 0 P fn a'.tmps (fun e w'=>∃r c G' σ' st',e= .returned c∧K r st'∧G.le G'∧Rel G' σ' Fr w0 st' a w'∧Ts G' σ' Fr w' st' (val a w0) r c) a'.defers .returning w':=by
  intro hq;refine hr'.leave (by simp) hF (fun b o hb=>E2 hr hb) fun w2 r2=>?_
  obtain⟨v,h1,r,G2,σ2,st2,h2,h3,h4,h5⟩:=hE rfl r2 hr.based rfl rfl hr.defers hr.n hq;exact⟨v,h1,r,v,G2,σ2,st2,rfl,h2,hG.trans h3,h4,h5⟩
 cases e with
 |normal=>exact fin hq
 |ret=>exact fin hq
 |_=>exact hq.elim
theorem Zj{fn:Func}{N:Nat}{rs:List Ret}{K:SV→St→Prop}(hr:B1 P fn.ntmps fn.results.toList rs=true):Uq P fn N K (Aej P fn.ntmps N rs K):=by
 intro G σ Fr w0 B a a' w st hN hrel hBw hBh hBn had han hq;subst hN;obtain⟨us,cs,G2,σ2,st2,q1,q2,q3,q4,q5⟩:=Ly hrel (by rw[hBn];exact hr) hq
 have hlcs:=RepTup.one q5;have hresM:(fn.results.mapM (resV a'.tmps)).run P w= .ok cs.toArray w:=by
  rw[Array.mapM_eq_mapM_toList,Sem.run_map,q4];rfl
 have hd:=q2.down hBw hBh hBn had han;have hresV:∃v,(results fn a'.tmps).run P w= .ok v w∧Ts G2 (σ2.unshift fn.ntmps) Fr w (Bn fn.ntmps w0.n (st2.drop fn.ntmps)) (val a w0) (G7 us) v:=by
  rw[Ft,Sem.run_bind,hresM]
  match us,cs,q5,hlcs with
  | [],[],_,_=>exact⟨.tuple #[],by simp[Result.andThen],[], #[],rfl,rfl,rfl⟩
  | [u],[v],h5,_=>
    obtain⟨c',d',e',h6,_⟩:=h5;cases e';exact⟨v,by simp[Result.andThen],h6⟩
  |u::u'::us,v::v'::cs,h5,_=>
   exact⟨.tuple (v::v'::cs).toArray,by simp[Result.andThen],u::u'::us,_,rfl,rfl,S5 _ _ _ _ h5⟩
 obtain⟨v,h1,h2⟩:=hresV;exact⟨v,h1,_,G2,_,_,Bo (K:=fun st'=>K (G7 us) st') q3,q1,hd,h2⟩
theorem U4{n N:Nat}{rs:List Ret}{K:SV→St→Prop}{st:St}(h:Dq P n N rs K st):Aej P n N rs K st:=M.wq_wp h
theorem InlWp.of_body{f:FuncId}{fn:Func}{c:Code}{s:Stm}{rs:List Ret}{n N:Nat}{az:List Opd}{st:St}{K:SV→St→Prop}(hf:P.funcs[f]?=some fn)(hb:fn.body=some c)(hN:fn.ntmps=n)
 (hc:Be P n c s=true) (hr:B1 P n fn.results.toList rs=true) (hn:az.length≤n)
 (h:litK (En n az st) fun st=>F7 P s noY ⟨Dq P n N rs K,noEx,Dq P n N rs K⟩ st):InlWp P f N az st K:=by
 subst hN;exact⟨FnIn.of_code hf hb hc hn (Zj hr) (Ny (Q:=⟨Dq P fn.ntmps N rs K,noEx,Dq P fn.ntmps N rs K⟩) Fx (fun _ h=>U4 h) (fun _ _ h=>h) (fun _ h=>U4 h)
  (Bo (K:=fun st=>F7 P s noY ⟨Dq P fn.ntmps N rs K,noEx,Dq P fn.ntmps N rs K⟩ st) h))⟩
end

def retD:List Ret→(List D→M)→M
 | [],k=>k []
 | .t n::r,k=>M6 (.t n) fun u=>retD r fun us=>k (u::us)
 | .cell n agg sz::r,k=>.get n fun ver sv=>match sv with
   | .own _ t=>match t with
     | .ptr u=>.need (u.isAgg=agg∧u.size=sz) fun _=>.set n (ver+1) .no (retD r fun us=>k (u::us))
     |_=>.fail
   |_=>.fail
def resD:List D→SV
 | [u]=>match u with
   | .it x=>.v x
   |u=>.own [] u
 |us=>.tupd us
def FinD(P:Program)(N:Nat)(rs:List Ret)(args:List SV)(R:SV→List SV→Prop)(st:St):Prop:=
 (retD rs fun us=>.chk fun st'=>Done (R (resD us) (Bi N st' 0 args)) (Bi N st' 0 args)).wp P (fun _=>False) st
def Ud(P:Program)(N:Nat)(rs:List Ret)(args:List SV)(R:SV→List SV→Prop)(st:St):Prop:=
 (retD rs fun us=>.chk fun st'=>Done (R (resD us) (Bi N st' 0 args)) (Bi N st' 0 args)).wq P (fun _=>False) st
def wqFD(P:Program)(N:Nat)(s:Stm)(rs:List Ret)(args:List SV)(R:SV→List SV→Prop):Prop:=
 litK (entry N args) fun st=>F7 P s noY ⟨Ud P N rs args R,noEx,Ud P N rs args R⟩ st
section
variable{P:Program}{N:Nat}{G:Mem}{σ:Lab}{Fr:Mem}{w0:Base}{w:World}{st:St}{a:Act}
theorem Qe{Q:St→Prop}:∀{rs:List Ret} {rv:List ResultVar} {k:List D→M} {G:Mem} {σ:Lab} {st:St},Rel G σ Fr w0 st a w→B1 P w0.n rv rs=true→(retD rs k).wp P Q st→
 ∃us cs bs G' σ' st',G.le G'∧Rel G' σ' Fr w0 st' a w∧(k us).wp P Q st'∧(rv.mapM (resV a.tmps)).run P w= .ok cs w∧RepVs G' w us cs bs∧bs.Nodup∧
  (∀b∈bs,G' b=none∧Fr b=none∧σ' b=none∧b<w.heap.size)∧(∀b∈bs,σ b≠none)∧∀b,σ b=none→G b=none→σ' b=none∧G' b=none
 | [],[],k,G,σ,st,hr,_,hq=>⟨[],[],[],G,σ,st,Mem.le.refl G,hr,hq,by simp,by simp[RepVs],List.nodup_nil,by simp,by simp,fun _ h1 h2=>⟨h1,h2⟩⟩
 | .t n::rs,.tmp m::rv,k,G,σ,st,hr,ho,hq=>by
   simp only[B1,Bool.and_eq_true,beq_iff_eq,decide_eq_true_eq]at ho;obtain⟨⟨rfl,h1⟩,h2⟩:=ho;obtain⟨u,b1,G1,σ1,st1,g1,g2,g3,g4,g5,g6⟩:=Lv (x:=.tmp m) hr (by simp[Jj,h1]) hq
   obtain⟨us,cs,bs,G2,σ2,st2,q1,q2,q3,q4,q5,q6,q7,q8,q9⟩:=Qe g2 h2 g3;obtain⟨f1,f2,f3,f4⟩:=g4.later q1 q9;refine⟨u::us,a.tmps.getD m undef::cs,b1++bs,G2,σ2,st2,g1.trans q1,q2,q3,?_,?_,?_,?_,?_,?_⟩
   ·simp only[List.mapM_cons,resV,Sem.run_bind,Sem.run_pure,Result.andThen,q4]
   ·simp only[RepVs];exact⟨_,cs,b1,bs,rfl,rfl,f2,f1,q5⟩
   ·rw[List.nodup_append];refine⟨f3,q6,fun x hx y hy e=>?_⟩
    subst e;exact q8 x hy (g4.2.2.2 x hx).2.2.1
   ·intro b hb;rcases List.mem_append.1 hb with hb|hb
    ·exact f4 b hb
    ·exact q7 b hb
   ·intro b hb hn;rcases List.mem_append.1 hb with hb'|hb'
    ·exact g5 b hb' hn
    ·by_cases hG:G b=none
     ·exact q8 b hb' (g6 b hn hG).1
     ·obtain⟨o,hob⟩:=Option.ne_none_iff_exists'.1 hG;have:=g1 b o hob;have:=q1 b o this;rw[(q7 b hb').1]at this;cases this
   ·intro b k1 k2;obtain⟨k3,k4⟩:=g6 b k1 k2;exact q9 b k3 k4
 | .cell n agg sz::rs,.cell m t::rv,k,G,σ,st,hr,ho,hq=>by
   simp only[B1,Bool.and_eq_true,beq_iff_eq,decide_eq_true_eq]at ho;obtain⟨⟨⟨rfl,h1⟩,ht⟩,h2⟩:=ho;simp only[retD,M.wp]at hq;cases hs:st[m]? with
   |none=>simp[hs]at hq
   |some cur=>
    obtain⟨ver,sv⟩:=cur;simp only[hs]at hq;split at hq
    ·rename_i inv tr;split at hq
     ·rename_i u;obtain⟨⟨rfl,rfl⟩,hq⟩:=hq;have hown:OwnD G σ w m (.ptr u) (a.eval (.tmp m)):=hr.slot h1 hs;obtain⟨bs0,r1,r2,r3,r4⟩:=hown;rw[J9 r2]at r1;simp only[RepD]at r1;obtain⟨b,cells,ty,bu,e1,e2,e3,rfl⟩:=r1;injection e1 with e1
      have hdrop:∀x∈b::bu,σ.drop m x=none:=fun x hx=>by
       obtain⟨kk,hk⟩:=r4 x hx;simp[Lab.drop,hk]
      obtain⟨us,cs,bs,G2,σ2,st2,q1,q2,q3,q4,q5,q6,q7,q8,q9⟩:=Qe (hr.drop hs (Nat.lt_succ_self ver)) h2 hq;have hf0:∀x∈bu,G x=none∧Fr x=none∧σ.drop m x=none∧x<w.heap.size:=fun x hx=>by
       obtain⟨kk,hk⟩:=r4 x (by simp[hx])
       obtain⟨k1,k2,k3⟩:=hr.wok.own x _ hk;exact⟨k1,k2,hdrop x (by simp[hx]),k3⟩
      have hlen:=RepD.length e3;have hone:=RepD.one e3;obtain⟨v,hl,hvc,hva⟩:=Sv (P:=P) (w:=w) (t:=t) (agg:=u.isAgg) (b:=b) (off:=0) (bl:=cells) (pre:=[]) (cs:=cells.toList) (post:=[]) (by rw[hlen];exact ht) (by
       intro hag;rw[hlen];cases u<;>first|rfl|(rename_i x;cases x<;>first|rfl|cases hag)|cases hag) e2 (by simp) rfl hone
      have hev:a.tmps.getD m undef= .pointer (some ⟨b,0,none⟩):=e1;refine⟨u::us,v::cs,bu++bs,G2,σ2,st2,q1,q2,q3,?_,?_,?_,?_,?_,?_⟩
      ·simp only[List.mapM_cons,resV,hev,asAddr,Sem.run_bind,Sem.run_pure,Result.andThen,hl,q4]
      ·simp only[RepVs];exact⟨v,cs,bu,bs,rfl,rfl,hva,by rw[hvc];exact e3.tr q1 fun _ _=>rfl,q5⟩
      ·rw[List.nodup_append];refine⟨(List.nodup_cons.1 r3).2,q6,fun x hx y hy e=>?_⟩
       subst e;exact q8 x hy (hf0 x hx).2.2.1
      ·intro x hx;rcases List.mem_append.1 hx with hx|hx
       ·obtain⟨k1,k2,k3,k4⟩:=hf0 x hx;obtain⟨k5,k6⟩:=q9 x k3 k1;exact⟨k6,k2,k5,k4⟩
       ·exact q7 x hx
      ·intro x hx hn;rcases List.mem_append.1 hx with hx|hx
       ·obtain⟨kk,hk⟩:=r4 x (by simp[hx])
        rw[hn]at hk;cases hk
       ·refine q8 x hx ?_;simp[Lab.drop,hn]
      ·intro x k1 k2;exact q9 x (by simp[Lab.drop,k1]) k2
     ·exact hq.elim
    ·exact hq.elim
 | [],_::_,_,_,_,_,_,ho,_=>by simp[B1]at ho
 | .t _::_,[],_,_,_,_,_,ho,_=>by simp[B1]at ho
 | .cell _ _ _::_,[],_,_,_,_,_,ho,_=>by simp[B1]at ho
 | .t _::_,.cell _ _::_,_,_,_,_,_,ho,_=>by simp[B1]at ho
 | .cell _ _ _::_,.tmp _::_,_,_,_,_,_,ho,_=>by simp[B1]at ho
theorem Abg{fn:Func}{rs:List Ret}{args:List SV}{Post:SV→List SV→Prop}(hr:B1 P fn.ntmps fn.results.toList rs=true):Ends P fn args Post (FinD P fn.ntmps rs args Post):=by
 intro G Fr w cargs a w' G' σ' st hlen hn hG hr' hq
 let B:Base:=⟨w,fn.ntmps,cargs⟩
 obtain⟨us,cs,bs,G2,σ2,st2,q1,q2,⟨q3,q3'⟩,q4,q5,q6,q7,q8,q9⟩:=Qe hr' hr hq;have q3':=Gm q3';have hresM:(fn.results.mapM (resV a.tmps)).run P w'= .ok cs.toArray w':=by
  rw[Array.mapM_eq_mapM_toList,Sem.run_map,q4];rfl
 let σ3:Lab:=(σ2.unshift fn.ntmps).adopt args.length 0 bs
 have hun:∀{b s k},σ2.unshift fn.ntmps b=some (s,k)→σ2 b=some (fn.ntmps+s,k):=by
  intro b s k hb;unfold Lab.unshift at hb;split at hb
  ·rename_i s' k' h1;split at hb
   ·rename_i hle;simp only[Option.some.injEq,Prod.mk.injEq]at hb;obtain⟨rfl,rfl⟩:=hb;rw[h1,show fn.ntmps+(s' - fn.ntmps)=s' by omega]
   ·cases hb
  ·cases hb
 have hok2:WOk G2 (σ2.unshift fn.ntmps) Fr ⟨w,0, #[]⟩ w':=by
  refine⟨q2.wok.fixed,?_,?_,q2.wok.frame,q2.wok.os,q2.wok.tape,q2.wok.output,q2.wok.size,q2.wok.apart,q2.wok.amb⟩
  ·rintro b ⟨s,k⟩ hb;exact q2.wok.own b _ (hun hb)
  ·rintro b b' ⟨s,k⟩ hb hb';exact q2.wok.inj b b' _ (hun hb) (hun hb')
 let σ2':Lab:=fun b=>match σ2.unshift fn.ntmps b with
  |some (s,k)=>if s<args.length then some (s,k)else none
  |none=>none
 have hle:∀{b lab},σ2' b=some lab→σ2.unshift fn.ntmps b=some lab∧lab.1<args.length:=by
  intro b lab hb;simp only[σ2']at hb;split at hb
  ·rename_i s k h1;split at hb
   ·rename_i hlt;cases hb;exact⟨h1,hlt⟩
   ·cases hb
  ·cases hb
 have hok3:WOk G2 σ2' Fr ⟨w,0, #[]⟩ w':=⟨hok2.fixed,fun b lab hb=>hok2.own b lab (hle hb).1,fun b b' lab hb hb'=>hok2.inj b b' lab (hle hb).1 (hle hb').1,hok2.frame,hok2.os,hok2.tape,hok2.output,hok2.size,hok2.apart,hok2.amb⟩
 have hok4:WOk G2 (σ2'.adopt args.length 0 bs) Fr ⟨w,0, #[]⟩ w':=hok3.adopt (fun b k hb=>absurd (hle hb).2 (Nat.lt_irrefl _)) fun b hb=>⟨(q7 b hb).1,(q7 b hb).2.1,(q7 b hb).2.2.2⟩
 have hlabs:∀b∈bs,∃k,(σ2'.adopt args.length 0 bs) b=some (args.length,k):=fun b hb=>⟨_,Lab.adopt_new hb⟩
 have hresV:∃v,(results fn a.tmps).run P w'= .ok v w'∧(resD us).root=none∧RepOwn G2 (σ2'.adopt args.length 0 bs) w' args.length (resD us) v:=by
  rw[Ft,Sem.run_bind,hresM]
  match us,cs,q5,hlabs with
  | [],[],h5,hl=> 
    simp only[RepVs]at h5;exact⟨.tuple #[],by simp[Result.andThen],rfl, #[],bs,rfl,by simp[RepVs,h5.2],q6,hl⟩
  | [u],cs,h5,hl=>
    simp only[RepVs]at h5;obtain⟨v,_,b1,_,rfl,rfl,hva,hrv,rfl,rfl⟩:=h5;refine⟨v,by simp[Result.andThen],?_⟩
    cases u with
    |it x=>
     refine⟨rfl,?_⟩;show RepV G2 x v;simp only[RepD]at hrv;simp only[D.isAgg]at hva;unfold RepV;cases hx:x.isAgg with
     |true=>
      rw[hx]at hva;obtain⟨a',rfl⟩:=Nr hva;rw[if_pos rfl];exact⟨a',rfl,hrv.1⟩
     |false=>
      rw[hx]at hva;rw[J9 hva]at hrv;rw[if_neg (by simp)]
      exact hrv.1
    |_=>exact⟨rfl,b1,hrv,hva,by simpa using q6,fun b hb=>hl b (by simpa using hb)⟩
  |u::u'::us,cs,h5,hl=>
   have h5':=h5;simp only[RepVs]at h5;obtain⟨v,_,_,_,rfl,_,_,_,v',_,_,_,rfl,_⟩:=h5;exact⟨.tuple (v::v'::_).toArray,by simp[Result.andThen],rfl,_,bs,rfl,h5',q6,hl⟩
 obtain⟨v,hv1,hv0,hv2⟩:=hresV;refine⟨v,hv1,resD us,Bi fn.ntmps st2 0 args,v,G2,_,rfl,q3,hG.trans q1,hok4,hv0,hv2,Ea args 0,?_⟩;intro i sv hi;refine⟨q3' sv (List.mem_of_getElem? hi),?_⟩;rw[C8]at hi;cases harg:args[i]? with
 |none=>simp[harg]at hi
 |some sv0=>
  have hil:i<args.length:=(List.getElem?_eq_some_iff.1 harg).1;simp only[harg,Option.map_some,Option.some.injEq,Nat.zero_add]at hi;split at hi
  ·cases hst:st2[fn.ntmps+i]? with
   |none=>simp only[hst]at hi;subst hi;trivial
   |some cur=>
    obtain⟨ver,sv1⟩:=cur;simp only[hst]at hi;subst hi;have hrep:=q2.slots _ _ _ hst;have hroot:=q3' sv1.clean (by
     apply List.mem_of_getElem? (i:=i);rw[C8,harg];simp only[Option.map_some,Nat.zero_add,hst];rename_i hl;rw[if_pos hl])
    rw[K2]at hroot;rw[RepSV.own hroot]at hrep;have hval:val a B (fn.ntmps+i)=cargs.getD i undef:=by
     unfold val;rw[Array.getD_eq_getD_getElem?,Array.getElem?_append_right (by rw[q2.n];exact Nat.le_add_right _ _),q2.n,Array.getD_eq_getD_getElem?]
     simp[B]
    rw[hval]at hrep;rw[My];refine RepOwn.tr hrep (Mem.le.refl G2) fun b k hb=>⟨?_,rfl⟩
    rw[Lab.adopt_old]
    ·simp only[σ2',Lab.unshift,hb];simp[hil]
    ·intro hm;rw[(q7 b hm).2.2.1]at hb;cases hb
  ·subst hi;trivial
theorem Fn.of_bodyD{f:FuncId}{fn:Func}{c:Code}{s:Stm}{rs:List Ret}{args:List SV}{Post:SV→List SV→Prop}{N:Nat}(hf:P.funcs[f]?=some fn)(hb:fn.body=some c)(hN:fn.ntmps=N)
 (hc:Be P N c s=true) (hr:B1 P N fn.results.toList rs=true) (hn:args.length≤N) (h:wqFD P N s rs args Post):Fn P f args Post:=by
 subst hN;refine Fn.of_code hf hb hc hn (Abg hr) ?_;have h:=Bo h;exact Ny (Q:=⟨Ud P fn.ntmps rs args Post,noEx,Ud P fn.ntmps rs args Post⟩) (Q':=⟨FinD P fn.ntmps rs args Post,noEx,FinD P fn.ntmps rs args Post⟩) Fx (fun st h=>M.wq_wp h) (fun _ _ h=>h) (fun st h=>M.wq_wp h) h
end

mutual
def Frz:D→D→Prop
 |d,.it y=>d.toI=some y
 | .st l,.st l'=>Frzs l l'
 | .vec e sz l,.vec e' sz' l'=>e=e'∧sz=sz'∧Frzs l l'
 | .ptr d,.ptr d'=>Frz d d'
 |_,_=>False
def Frzs:List D→List D→Prop
 | [],[]=>True
 |d::l,d'::l'=>Frz d d'∧Frzs l l'
 |_,_=>False
end
theorem P2:∀{l l':List D},Frzs l l'→l'.length=l.length
 | [],[],_=>rfl
 |d::l,d'::l',h=>by simp only[Frzs]at h;simp[P2 h.2]
 | [],_::_,h=>by simp[Frzs]at h
 |_::_,[],h=>by simp[Frzs]at h
mutual
theorem frz_shape:∀{d d':D},Frz d d'→d'.size=d.size∧d'.isAgg=d.isAgg
 |d,.it y,h=>by simp only[Frz]at h;exact toI_shape h
 | .st l,.st l',h=>by simp only[Frz]at h;exact⟨frzs_shape h,rfl⟩
 | .vec e sz l,.vec e' sz' l',h=>⟨rfl,rfl⟩
 | .ptr d,.ptr d',h=>⟨rfl,rfl⟩
 | .it _,.st _,h=>by simp[Frz]at h
 | .it _,.vec _ _ _,h=>by simp[Frz]at h
 | .it _,.ptr _,h=>by simp[Frz]at h
 | .it _,.map _ _,h=>by simp[Frz]at h
 | .st _,.vec _ _ _,h=>by simp[Frz]at h
 | .st _,.ptr _,h=>by simp[Frz]at h
 | .st _,.map _ _,h=>by simp[Frz]at h
 | .vec _ _ _,.st _,h=>by simp[Frz]at h
 | .vec _ _ _,.ptr _,h=>by simp[Frz]at h
 | .vec _ _ _,.map _ _,h=>by simp[Frz]at h
 | .ptr _,.st _,h=>by simp[Frz]at h
 | .ptr _,.vec _ _ _,h=>by simp[Frz]at h
 | .ptr _,.map _ _,h=>by simp[Frz]at h
 | .map _ _,.st _,h=>by simp[Frz]at h
 | .map _ _,.vec _ _ _,h=>by simp[Frz]at h
 | .map _ _,.ptr _,h=>by simp[Frz]at h
 | .map _ _,.map _ _,h=>by simp[Frz]at h
theorem frzs_shape:∀{l l':List D},Frzs l l'→dsizes l'=dsizes l
 | [],[],_=>rfl
 |d::l,d'::l',h=>by simp only[Frzs]at h;simp[dsizes,(frz_shape h.1).1,frzs_shape h.2]
 | [],_::_,h=>by simp[Frzs]at h
 |_::_,[],h=>by simp[Frzs]at h
end
theorem Sy{sz:Nat}:∀{l l':List D},Frzs l l'→(∀x∈l,x.size=sz)→∀x∈l',x.size=sz
 | [],[],_,_=>by simp
 |d::l,d'::l',h,hs=>by
  simp only[Frzs]at h;intro x hx;rcases List.mem_cons.1 hx with rfl|hx
  ·rw[(frz_shape h.1).1];exact hs d (List.mem_cons_self ..)
  ·exact Sy h.2 (fun y hy=>hs y (List.mem_cons_of_mem _ hy)) x hx
 | [],_::_,h,_=>by simp[Frzs]at h
 |_::_,[],h,_=>by simp[Frzs]at h
mutual
theorem Frz.rep{G:Mem}{w:World}:∀{d d':D} {cs:List Value} {bs:List Nat},Frz d d'→RepD G w d cs bs→bs.Nodup→
 ∃bs':List Nat,bs'.Sublist bs∧∀G':Mem,G.le G'→(∀b∈bs,b ∉ bs'→G' b=w.heap[b]?)→RepD G' w d' cs bs'
 |d,.it y,cs,bs,h,hr,hn=>by
  simp only[Frz]at h;refine⟨[],by simp,fun G' hG hb=>?_⟩
  simp only[RepD];exact⟨RepD.toI hG hr h fun b hb1=>hb b hb1 (by simp),trivial⟩
 | .st l,.st l',cs,bs,h,hr,hn=>by
   simp only[Frz]at h;simp only[RepD]at hr;obtain⟨bs',h1,h2⟩:=Frzs.rep h hr hn;exact⟨bs',h1,fun G' hG hb=>by simp only[RepD];exact h2 G' hG hb⟩
 | .vec e sz l,.vec e' sz' l',cs,bs,h,hr,hn=>by
   simp only[Frz]at h;obtain⟨rfl,rfl,h⟩:=h;simp only[RepD]at hr;rcases hr with⟨rfl,rfl,rfl⟩|⟨g,off,cap,cur,xs,b0,rfl,h1,h1',h2,h3,h4,h5,h6,h7,rfl⟩
   ·have:l'=[]:=by have:=P2 h;simpa using this
    subst this;exact⟨[],by simp,fun G' hG hb=>by simp[RepD]⟩
   ·obtain⟨bs',k1,k2⟩:=Frzs.rep h h6 (List.nodup_cons.1 hn).2;have hlen:=P2 h;refine⟨g::bs',by simpa using k1,fun G' hG hb=>?_⟩
    simp only[RepD];refine .inr ⟨g,off,cap,cur,xs,bs',by rw[hlen],h1,h1',by omega,h3,h4,by rw[hlen];exact h5,k2 G' hG fun b hb1 hb2=>?_,Sy h h7,rfl⟩
    refine hb b (by simp[hb1]) fun hb3=>?_
    rcases List.mem_cons.1 hb3 with rfl|hb3
    ·exact(List.nodup_cons.1 hn).1 hb1
    ·exact hb2 hb3
 | .ptr d,.ptr d',cs,bs,h,hr,hn=>by
   simp only[Frz]at h;simp only[RepD]at hr;obtain⟨g,cells,ty,b0,rfl,h1,h2,rfl⟩:=hr;obtain⟨bs',k1,k2⟩:=Frz.rep h h2 (List.nodup_cons.1 hn).2;refine⟨g::bs',by simpa using k1,fun G' hG hb=>?_⟩
   simp only[RepD];refine⟨g,cells,ty,bs',rfl,h1,k2 G' hG fun b hb1 hb2=>?_,rfl⟩
   refine hb b (by simp[hb1]) fun hb3=>?_
   rcases List.mem_cons.1 hb3 with rfl|hb3
   ·exact(List.nodup_cons.1 hn).1 hb1
   ·exact hb2 hb3
 | .it _,.st _,_,_,h,_,_=>by simp[Frz]at h
 | .it _,.vec _ _ _,_,_,h,_,_=>by simp[Frz]at h
 | .it _,.ptr _,_,_,h,_,_=>by simp[Frz]at h
 | .it _,.map _ _,_,_,h,_,_=>by simp[Frz]at h
 | .st _,.vec _ _ _,_,_,h,_,_=>by simp[Frz]at h
 | .st _,.ptr _,_,_,h,_,_=>by simp[Frz]at h
 | .st _,.map _ _,_,_,h,_,_=>by simp[Frz]at h
 | .vec _ _ _,.st _,_,_,h,_,_=>by simp[Frz]at h
 | .vec _ _ _,.ptr _,_,_,h,_,_=>by simp[Frz]at h
 | .vec _ _ _,.map _ _,_,_,h,_,_=>by simp[Frz]at h
 | .ptr _,.st _,_,_,h,_,_=>by simp[Frz]at h
 | .ptr _,.vec _ _ _,_,_,h,_,_=>by simp[Frz]at h
 | .ptr _,.map _ _,_,_,h,_,_=>by simp[Frz]at h
 | .map _ _,.st _,_,_,h,_,_=>by simp[Frz]at h
 | .map _ _,.vec _ _ _,_,_,h,_,_=>by simp[Frz]at h
 | .map _ _,.ptr _,_,_,h,_,_=>by simp[Frz]at h
 | .map _ _,.map _ _,_,_,h,_,_=>by simp[Frz]at h
theorem Frzs.rep{G:Mem}{w:World}:∀{l l':List D} {cs:List Value} {bs:List Nat},Frzs l l'→RepDs G w l cs bs→bs.Nodup→
 ∃bs':List Nat,bs'.Sublist bs∧∀G':Mem,G.le G'→(∀b∈bs,b ∉ bs'→G' b=w.heap[b]?)→RepDs G' w l' cs bs'
 | [],[],cs,bs,_,hr,_=>by
   simp only[RepDs]at hr;obtain⟨rfl,rfl⟩:=hr;exact⟨[],by simp,fun G' hG hb=>by simp[RepDs]⟩
 |d::l,d'::l',cs,bs,h,hr,hn=>by
  simp only[Frzs]at h;simp only[RepDs]at hr;obtain⟨c,c',b,b',rfl,rfl,h1,h2⟩:=hr;rw[List.nodup_append]at hn;obtain⟨n1,n2,n3⟩:=hn;obtain⟨bs1,k1,k2⟩:=Frz.rep h.1 h1 n1;obtain⟨bs2,k3,k4⟩:=Frzs.rep h.2 h2 n2;refine⟨bs1++bs2,List.Sublist.append k1 k3,fun G' hG hb=>?_⟩
  simp only[RepDs];refine⟨c,c',bs1,bs2,rfl,rfl,k2 G' hG fun x hx1 hx2=>?_,k4 G' hG fun x hx1 hx2=>?_⟩
  ·refine hb x (by simp[hx1]) fun hx3=>?_
   rcases List.mem_append.1 hx3 with hx3|hx3
   ·exact hx2 hx3
   ·exact n3 x hx1 x (k3.subset hx3) rfl
  ·refine hb x (by simp[hx1]) fun hx3=>?_
   rcases List.mem_append.1 hx3 with hx3|hx3
   ·exact n3 x (k1.subset hx3) x hx1 rfl
   ·exact hx2 hx3
 | [],_::_,_,_,h,_,_=>by simp[Frzs]at h
 |_::_,[],_,_,h,_,_=>by simp[Frzs]at h
end
theorem Fn.part{P:Program}{f:FuncId}{args:List SV}{Post Post':SV→List SV→Prop}(h:Fn P f args Post)(hP:∀r az,Post r az→∃inv d d',r= .own inv d∧Frz d d'∧Post' (.own [] d') az):Fn P f args Post':=by
 intro G σ Fr w cargs hok hsz hin;refine(h G σ Fr w cargs hok hsz hin).mono ?_;rintro e w' ⟨r,az,c,G1,σ1,rfl,hp,hG,hok1,hroot,hrep,hlen,has⟩;obtain⟨inv,d,d',rfl,hfr,hp'⟩:=hP r az hp;obtain⟨bs,h1,h2,h3,h4⟩:=(show OwnD G1 σ1 w' args.length d c from hrep);obtain⟨bs',k1,k2⟩:=hfr.rep h1 h3
 let G2:Mem:=fun b=>if b∈bs∧b ∉ bs' then w'.heap[b]? else G1 b
 let σ2:Lab:=fun b=>if b∈bs∧b ∉ bs' then none else σ1 b
 have hle:G1.le G2:=by
  intro b o hb;simp only[G2];split
  ·rename_i hc;obtain⟨k,hk⟩:=h4 b hc.1;rw[(hok1.own b _ hk).1]at hb;cases hb
  ·exact hb
 have hσ2:∀b lab,σ2 b=some lab→σ1 b=some lab∧¬(b∈bs∧b ∉ bs'):=by
  intro b lab hb;simp only[σ2]at hb;split at hb
  ·cases hb
  ·rename_i hc;exact⟨hb,hc⟩
 have hok2:WOk G2 σ2 Fr ⟨w,0, #[]⟩ w':=by
  refine⟨?_,?_,?_,hok1.frame,hok1.os,hok1.tape,hok1.output,hok1.size,?_,Amb.mono hle hok1.amb⟩
  ·intro b o hb;simp only[G2]at hb;split at hb
   ·exact hb
   ·exact hok1.fixed b o hb
  ·intro b lab hb;obtain⟨q1,q2⟩:=hσ2 b lab hb;obtain⟨q3,q4,q5⟩:=hok1.own b lab q1;refine⟨?_,q4,q5⟩;simp only[G2];rw[if_neg q2];exact q3
  ·intro b b' lab hb hb';exact hok1.inj b b' lab (hσ2 b lab hb).1 (hσ2 b' lab hb').1
  ·intro b o hb;simp only[G2];split
   ·rename_i hc;obtain⟨k,hk⟩:=h4 b hc.1;rw[(hok1.own b _ hk).2.1]at hb;cases hb
   ·exact hok1.apart b o hb
 refine⟨.own [] d',az,c,G2,σ2,rfl,hp',hG.trans hle,hok2,rfl,?_,hlen,?_⟩
 ·refine⟨bs',k2 G2 hle fun b q1 q2=>?_,by rw[(frz_shape hfr).2];exact h2,h3.sublist k1,fun b hb=>?_⟩
  ·simp only[G2];rw[if_pos ⟨q1,q2⟩]
  ·obtain⟨k,hk⟩:=h4 b (k1.subset hb);refine⟨k,?_⟩;simp only[σ2];rw[if_neg (fun hc=>hc.2 hb)]
   exact hk
 ·intro i sv hi;obtain⟨q1,q2⟩:=has i sv hi;refine⟨q1,RepOwn.tr q2 hle fun b k hb=>⟨?_,rfl⟩⟩
  have hil:i<args.length:=by
   have:=(List.getElem?_eq_some_iff.1 hi).1;omega
  simp only[σ2];rw[if_neg]
  ·exact hb
  ·rintro⟨hc,_⟩;obtain⟨k',hk'⟩:=h4 b hc;rw[hb]at hk';cases hk';exact Nat.lt_irrefl _ hil

section
variable{P:Program}
def KeysC(P:Program)(f F:FuncId)(T:TypeId):Prop:=
 ∀(mb:Option Nat) (W:World),Calls P f #[.map mb] W fun e w'=>e= .returned (.func (.func F) #[] #[.pointer (some ⟨W.heap.size,0,none⟩)])∧w'=W.alloc (.cells #[.map mb] T)
theorem Ad0{f F:FuncId}{T:TypeId}{N n:Nat}{st:St}{K:SV→St→Prop}(hC:KeysC P f F T)
 (hq:(rdH (.t n) fun s cur _ t p=>match D.at p t with
   |some u=>match u with
    | .map _ _=>.chk fun st=>K (.kcl F s cur p) st
    |_=>.fail
   |none=>.fail).wq P (fun _=>False) st):InlWp P f N [.t n] st K:=by
 refine⟨fun G σ Fr w0 a w xs hN hr ho=>?_⟩
 subst hN
 match xs,ho with
 |x::y::r,ho=>cases y<;>simp[inOk]at ho
 | [x],ho=>
   simp only[inOk,Bool.and_true]at ho;obtain⟨s,cur,inv,t,p,h3,hs,hHd⟩:=Ue hr ho (M.wq_wp hq);split at h3
   ·rename_i u hat;split at h3
    ·rename_i ks vs;obtain⟨bs,hrep,hva,hnd,hlab⟩:=show OwnD G σ w s t (val a w0 s)from hr.slots s cur _ hs;obtain⟨mm,s',ubs,f1,f2,f3,f4,f5,f6⟩:=focus (here:=none) hrep hnd hat
     have hHd0:=hHd;obtain⟨x0,hh0,hat0,hhead,hspot⟩:=hHd0;rw[hspot]at f1;obtain rfl:=Option.some.inj f1;simp only[RepD]at f2;obtain⟨b,es,clock,kc,vc,bs0,e1, -⟩:=f2;injection e1 with e1
     have he:a.eval x= .map (some b):=e1;have harr:([x].map a.eval).toArray= #[.map (some b)]:=by simp[he]
     rw[harr];refine(hC (some b) w).mono ?_;rintro e w' ⟨rfl,rfl⟩;obtain⟨k1,k2,k3⟩:=hr.wok.fresh (Nat.le_refl w.heap.size);have hr1:Rel G σ Fr w0 st a (w.alloc (.cells #[.map (some b)] T)):=hr.turned (World.grownBy_alloc _ _ none) (by intro b e;cases e)
     refine⟨.kcl F s cur p,_,G,σ,st,rfl,h3,Mem.le.refl G,hr1,w.heap.size,.map (some b),T,rfl,⟨k1,k2,k3,by simp⟩,heap_alloc_new w _,_,hs,Nat.le_refl _,fun inv' t' e _=>?_⟩
     cases e;rw[←he];exact hHd.tr (show OwnD G σ w s t (val a w0 s)from hr.slots s cur _ hs) fun b' k hb=>⟨hb,K8 w _ b' (hr.wok.own b' _ hb).2.2⟩
    ·exact h3.elim
   ·exact h3.elim
end

open Go.RowKit
def Dc(l:List (List UInt8)):List (List UInt8):=l.mergeSort fun x y=>decide (x≤y)
def strV:I→List UInt8
 | .str s=>s
 |_=>[]
def Gq(l:List I):List I:=(Dc (l.map strV)).map I.str
theorem Acr(l:List (List UInt8)):Gq (l.map I.str)=(Dc l).map I.str:=by
 unfold Gq;rw[List.map_map,show(strV ∘ I.str)=id from rfl,List.map_id]
section
variable{P:Program}
def SortedC(P:Program)(f F:FuncId)(E:TypeId):Prop:=
 ∀(g b:Nat) (es:Array MapEntry) (clock:Nat) (ss:List (List UInt8)) (W:World),W.cell? ⟨g,0,none⟩=some (.map (some b))→W.heap[b]?=some (.map es clock)→es.toList.map (·.key)=ss.map (fun s=>Value.string ⟨⟨s⟩⟩)→ss.Nodup→
  (es.toList.map (·.born)).Pairwise (· < ·)→(∀e∈es.toList,e.born<clock)→ss.length≤1000000→(∀s∈ss,s.length≤maxLen)→g<W.heap.size→
  Calls P f #[.func (.func F) #[] #[.pointer (some ⟨g,0,none⟩)]] W fun e w'=>∃v,e= .returned v∧w'.ownsRow W.heap.size E 1 v ss.length ((Dc ss).map fun s=>Value.string ⟨⟨s⟩⟩)∧Below W.heap.size W w'
variable{G:Mem}{σ:Lab}{Fr:Mem}{w0:Base}{w:World}{st:St}{a:Act}
theorem Rel.fixNew{g:Nat}{o:Obj}(h:Rel G σ Fr w0 st a w)(hG:G g=none)(hF:Fr g=none)(hS:σ g=none)(ho:w.heap[g]?=some o):G.le (G.upd g o)∧Rel (G.upd g o) σ Fr w0 st a w:=by
 have hle:G.le (G.upd g o):=fun b x hb=>by
  rw[Mem.upd_ne (by rintro rfl;rw[hG]at hb;cases hb)]
  exact hb
 refine⟨hle,⟨⟨?_,?_,h.wok.inj,h.wok.frame,h.wok.os,h.wok.tape,h.wok.output,h.wok.size,?_,?_⟩,h.defers,h.n,h.len,fun s ver sv hs=>(h.slots s ver sv hs).keep hle (fun s' b k hb=>⟨hb,rfl⟩) h.slots,h.pars⟩⟩
 ·intro b x hb;by_cases e:b=g
  ·subst e;rw[Mem.upd_same]at hb;cases hb;exact ho
  ·rw[Mem.upd_ne e]at hb;exact h.wok.fixed b x hb
 ·intro b lab hb;have:=h.wok.own b lab hb;rw[Mem.upd_ne (by rintro rfl;rw[hS]at hb;cases hb)]
  exact this
 ·intro b x hb;rw[Mem.upd_ne (by rintro rfl;rw[hF]at hb;cases hb)]
  exact h.wok.apart b x hb
 ·exact Amb.mono hle h.wok.amb
def rdK(n:Nat)(F:FuncId)(k:List I→M):M:=.get n fun _ sv=>match sv with
 | .kcl F' s v p=>.get s fun _ sv'=>match sv' with
   | .own inv t=>.need (F'=F∧J7 v inv p=true) fun _=>match D.at p t with
     |some u=>match u with
      | .map ks _=>.need (∀x∈ks,∃s,x= .str s) fun _=>k ks
      |_=>.fail
     |none=>.fail
   |_=>.fail
 |_=>.fail
theorem Abs{ks:List I}:∀{kc:List Value},RepKs G ks kc→(∀x∈ks,∃s,x= .str s)→kc=(ks.map strV).map (fun s=>Value.string ⟨⟨s⟩⟩)∧∀s∈ks.map strV,s.length≤maxLen:=by
 induction ks with
 |nil=>
  intro kc h _;simp only[RepKs]at h;subst h;exact⟨rfl,by simp⟩
 |cons x ks ih=>
  intro kc h hs;simp only[RepKs]at h;obtain⟨v,c',rfl,hv,hr,h2⟩:=h;obtain⟨s,rfl⟩:=hs x (by simp)
  obtain⟨h3,h4⟩:=ih h2 fun y hy=>hs y (by simp[hy])
  have h5:=J9 (c:=v) hv;rw[h5]at hr;simp only[RepI,List.cons.injEq,and_true]at hr;obtain⟨rfl,hl⟩:=hr;refine⟨by rw[h3];rfl,?_⟩
  intro s' hs';simp only[List.map_cons,List.mem_cons]at hs';rcases hs' with rfl|hs'
  ·exact hl
  ·exact h4 s' hs'
theorem S8{G:Mem}:∀(l:List (List UInt8)),(∀s∈l,s.length≤maxLen)→RepIs G (l.map I.str) (l.map fun s=>Value.string ⟨⟨s⟩⟩)
 | [],_=>by simp[RepIs]
 |s::l,h=>by
  simp only[List.map_cons,RepIs];exact⟨[_],_,rfl,by simp only[RepI,true_and];exact h s (by simp),S8 l fun x hx=>h x (by simp[hx])⟩
theorem Zo{f F:FuncId}{E:TypeId}{N n:Nat}{st:St}{K:SV→St→Prop}(hC:SortedC P f F E)
 (hq:(rdK n F fun ks=>.need (ks.length≤1000000∧(ks.map strV).Nodup) fun _=>.chk fun st=>K (.v (.list (Gq ks))) st).wq P (fun _=>False) st):InlWp P f N [.t n] st K:=by
 refine⟨fun G σ Fr w0 a w xs hN hr ho=>?_⟩
 subst hN
 match xs,ho with
 |x::y::r,ho=>cases y<;>simp[inOk]at ho
 | [x],ho=>
   simp only[inOk,Bool.and_true]at ho;obtain⟨rfl,hlt⟩:=J0 ho
   replace hq:=M.wq_wp hq
   simp only[rdK,M.wp]at hq;cases hn:st[n]? with
   |none=>simp[hn]at hq
   |some cur=>
    obtain⟨vn,sv⟩:=cur;simp only[hn]at hq;cases sv with
    |kcl F' s v p=>
     simp only[M.wp]at hq;cases hs:st[s]? with
     |none=>simp[hs]at hq
     |some cur'=>
      obtain⟨vs,sv'⟩:=cur';simp only[hs]at hq;cases sv' with
      |own inv t=>
       simp only[M.wp]at hq;obtain⟨⟨rfl,hal⟩,hq⟩:=hq;cases hat:D.at p t with
       |none=>rw[hat]at hq;exact hq.elim
       |some u=>
        rw[hat]at hq;cases u with
        |map ks vl=>
         obtain⟨hks,⟨hkl,hknd⟩,hK⟩:=hq;obtain⟨g,c0,ty,kk,hc,hg1,hg2,cur2,g1,g2,g3⟩:=hr.slot hlt hn;rw[hs]at g1;cases g1;have hHd:=g3 inv t rfl hal;obtain⟨bs,hrep,hva,hnd,hlab⟩:=show OwnD G σ w s t (val a w0 s)from hr.slots s _ _ hs;obtain⟨mm,s',ubs,f1,f2,f3,f4,f5,f6⟩:=focus (here:=none) hrep hnd hat
         obtain⟨x0,hh0,hat0,hhead,hspot⟩:=hHd;rw[hspot]at f1;obtain rfl:=Option.some.inj f1;simp only[RepD]at f2;obtain⟨b,es,clock,kc,vc,bs0,e1,e2,e3,e4,e5,e6,e7,e8,e9⟩:=f2;injection e1 with e1
         subst e1;obtain⟨k1,k2⟩:=Abs e5 hks;have hgl:=(hr.wok.own g _ hg1).2.2;have hcell:w.cell? ⟨g,0,none⟩=some (.map (some b)):=by
          simp[World.cell?,hg2]
         have harr:([Operand.tmp n].map a.eval).toArray= #[.func (.func F') #[] #[.pointer (some ⟨g,0,none⟩)]]:=by simp[hc]
         rw[harr];refine(hC g b es clock (ks.map strV) w hcell e2 (by rw[e3,k1]) hknd e7 e8 (by simpa using hkl) k2 hgl).mono ?_
         rintro e w' ⟨v',rfl,hrow,hb⟩;have hgr:w.grownBy w' none:=⟨hb.os,hb.tape,hb.output,hb.size,fun k hk _=>hb.block k hk⟩
         have hr1:Rel G σ Fr w0 st a w':=hr.turned hgr (by intro b e;cases e)
         have hlen:(Dc (ks.map strV)).length=ks.length:=by unfold Dc;rw[List.length_mergeSort,List.length_map]
         have hst:∀s∈Dc (ks.map strV),s.length≤maxLen:=fun s hs=>k2 s ((List.mergeSort_perm ..).mem_iff.1 hs)
         obtain⟨r1,r2⟩:=hrow;rcases r2 with⟨rfl,hz⟩|⟨gb,cap,cur,rfl,q1,q2,q3,q4,q5,q6⟩
         ·have hks0:ks=[]:=by
           have:(ks.map strV).length=0:=hz;exact List.eq_nil_of_length_eq_zero (by simpa using this)
          refine⟨_,_,G,σ,st,rfl,hK,Mem.le.refl G,hr1,?_⟩;subst hks0;show RepV G (.list (Gq [])) _;have:Gq []=[]:=by simp[Gq,Dc]
          rw[this];unfold RepV;rw[if_neg (by simp[I.isAgg])]
          unfold RepI;exact⟨none,0,rfl,Nat.le_refl _,Nat.zero_le _,.inl rfl⟩
         ·obtain⟨z1,z2,z3⟩:=hr.wok.fresh q1;obtain⟨hle,hr2⟩:=hr1.fixNew z1 z2 z3 q2;refine⟨_,_,_,σ,st,rfl,hK,hle,hr2,?_⟩;show RepV _ (.list (Gq ks)) _;simp only[RepV,I.isAgg,RepI,Bool.false_eq_true,if_false];have hsl:(Gq ks).length=(ks.map strV).length:=by unfold Gq;rw[List.length_map,hlen,List.length_map]
          refine⟨some ⟨gb,0,none⟩,cap,by rw[hsl],by rw[hsl];exact q3,q4,.inr ⟨gb,0,cur,E,(0,0),1,rfl,Mem.upd_same,?_,?_,?_⟩⟩
          ·intro y hy;obtain⟨s,_,rfl⟩:=List.mem_map.1 hy;rfl
          ·rw[hsl];omega
          ·rw[hsl,List.drop_zero,q6];exact S8 _ hst
        |_=>exact hq.elim
      |_=>exact hq.elim
    |_=>exact hq.elim
end

open Go.RowKit
section
variable{P:Program}
def OfC(P:Program)(f F:FuncId)(T1 T2:TypeId):Prop:=
 ∀(v1 v2:Value) (W:World),v1.oneCell'=true→v2.oneCell'=true→Calls P f #[v1,v2] W fun e w'=>e= .returned (.func (.func F) #[] #[.pointer (some ⟨W.heap.size+1,0,none⟩),.pointer (some ⟨W.heap.size,0,none⟩)])∧w'=(W.alloc (.cells #[v1] T1)).alloc (.cells #[v2] T2)
theorem Abo{f F:FuncId}{T1 T2:TypeId}{N n m:Nat}{st:St}{K:SV→St→Prop}(hC:OfC P f F T1 T2)
 (hq:(rdDP (.t n) X3 fun s v p _=>rdI (.t m) fun x=>.need (x.isAgg=false) fun _=>.chk fun st=>K (.ocl F x s v p) st).wq P (fun _=>False) st):InlWp P f N [.t n,.t m] st K:=by
 refine⟨fun G σ Fr w0 a w xs hN hr ho=>?_⟩
 subst hN
 match xs,ho with
 | [],ho=>simp[inOk]at ho
 | [x],ho=>simp[inOk]at ho
 |x::y::z::r,ho=>simp[inOk]at ho
 | [x,y],ho=>
   simp only[inOk,Bool.and_true,Bool.and_eq_true]at ho;obtain⟨s,cur,inv,tr,p,u,r,v,h1,hs,hp0,hpt,hat,hf,hle⟩:=Mo hr ho.1 (M.wq_wp hq);obtain⟨i,h2,hi⟩:=J8 hr ho.2 h1;obtain⟨hag,hK⟩:=h2;have harr:([x,y].map a.eval).toArray= #[a.eval x,a.eval y]:=by simp
   rw[harr];have hpt0:=hpt;obtain⟨v0,b,off,cs,g1,g2,g3⟩:=hpt0;have hy:RepI G i [a.eval y]:=by
    unfold RepV at hi;rw[hag]at hi;exact hi
   refine(hC (a.eval x) (a.eval y) w (by rw[g3];rfl) (RepI.one i _ hy _ (by simp))).mono ?_
   rintro e w' ⟨rfl,rfl⟩;have hr1:Rel G σ Fr w0 st a (w.alloc (.cells #[a.eval x] T1)):=hr.turned (World.grownBy_alloc _ _ none) (by intro b e;cases e)
   obtain⟨k1,k2,k3⟩:=hr.wok.fresh (Nat.le_refl w.heap.size);obtain⟨j1,j2,j3⟩:=hr1.wok.fresh (Nat.le_refl _);have hr2:Rel G σ Fr w0 st a ((w.alloc (.cells #[a.eval x] T1)).alloc (.cells #[a.eval y] T2)):=hr1.turned (World.grownBy_alloc _ _ none) (by intro b e;cases e)
   have hsz:(w.alloc (.cells #[a.eval x] T1)).heap.size=w.heap.size+1:=by simp
   rw[hsz]at j1 j2 j3;have hnew:=heap_alloc_new (w.alloc (.cells #[a.eval x] T1)) (.cells #[a.eval y] T2);rw[hsz]at hnew;refine⟨.ocl F i s v p,_,G,σ,st,rfl,hK,Mem.le.refl G,hr2,w.heap.size+1, #[a.eval y],T2,⟨j1,j2,j3,by simp⟩,hnew,hy,w.heap.size,a.eval x,T1,⟨rfl,by omega⟩,⟨k1,k2,k3,by simp;omega⟩,?_,_,hs,hle,fun inv' t' e' _ _=>?_⟩
   ·rw[K8 _ _ _ (by rw[hsz];omega)]
    exact heap_alloc_new w _
   ·cases e';refine hpt.tr (show OwnD G σ w s tr (val a w0 s)from hr.slots s cur _ hs) fun b' k hb=>⟨hb,?_⟩
    have hlt:=(hr.wok.own b' _ hb).2.2;rw[K8 _ _ b' (by rw[hsz];omega)]
    exact K8 w _ b' hlt
end

def FinP(n N m1 m2:Nat)(K:SV→St→Prop)(st:St):Prop:=look st m1 fun _ sv=>look st m2 fun _ sv2=>match sv2 with
 | .v (.bool b)=>match sv with
   | .pd s ver p=>n≤s∧litK (Bn n N (st.drop n)) fun st'=>K (.pdt (s - n) ver p b) st'
   | .own _ t=>litK (Bn n N (st.drop n)) fun st'=>K (.tupd [t,.it (.bool b)]) st'
   |_=>False
 |_=>False
section
variable{P:Program}
theorem Adu{fn:Func}{N m1 m2:Nat}{K:SV→St→Prop}(hr:fn.results= #[.tmp m1,.tmp m2])(h1:m1<fn.ntmps)(h2:m2<fn.ntmps):Uq P fn N K (FinP fn.ntmps N m1 m2 K):=by
 intro G σ Fr w0 B a a' w st hN hrel hBw hBh hBn had han hq;subst hN;obtain⟨⟨v1,sv1⟩,k1,hq⟩:=Ca hq;obtain⟨⟨v2,sv2⟩,k2,hq⟩:=Ca hq;have hd:=hrel.down hBw hBh hBn had han;have hsz:a'.tmps.size=fn.ntmps:=by rw[hrel.n,hBn]
 have e1:=hrel.slot (by rw[hBn];exact h1) k1
 have e2:=hrel.slot (by rw[hBn];exact h2) k2
 have hres:(results fn a'.tmps).run P w= .ok (.tuple #[a'.eval (.tmp m1),a'.eval (.tmp m2)]) w:=by
  rw[Ft,Sem.run_bind,hr,Array.mapM_eq_mapM_toList,Sem.run_map];simp[resV,Result.andThen,Act.eval,Array.getD_eq_getD_getElem?]
 have valH:∀i,val a' B (i+fn.ntmps)=val a w0 i:=by
  intro i;unfold val;rw[Array.getD_eq_getD_getElem?,Array.getElem?_append_right (by omega),hsz,Nat.add_sub_cancel,hBh,Array.getD_eq_getD_getElem?]
 have hlen:fn.ntmps≤st.length:=by have:=hrel.len;omega
 obtain⟨b,rfl⟩:∃b,sv2= .v (.bool b):=by
  cases sv2 with
  |v x=>cases x with
   |bool b=>exact⟨b,rfl⟩
   |_=>exact hq.elim
  |_=>exact hq.elim
 have e2:a'.eval (.tmp m2)= .bool b:=by
  have:RepV G (.bool b) (a'.eval (.tmp m2)):=e2;rwa [RepV.bool]at this
 rw[e2]at hres;cases sv1 with
 |pd s ver p=>
  obtain⟨hle,hq⟩:=hq;have hq:=Bo (K:=fun st'=>K (.pdt (s - fn.ntmps) ver p b) st') hq
  refine⟨_,hres,_,G,_,_,hq,Mem.le.refl G,hd,?_⟩;refine⟨_,rfl,?_⟩;have:=RepSV.down (G:=G) (σ:=σ) (w:=w) (st':=st) (vv:=val a w0) (vv':=val a' B) (N:=w0.n) (s:=0) (sv:=.pd s ver p) (c:=a'.eval (.tmp m1)) valH e1 hlen;simp only[SV.down,if_pos hle]at this;exact this
 |own inv t=>
  have hq:=Bo (K:=fun st'=>K (.tupd [t,.it (.bool b)]) st') hq
  refine⟨_,hres,_,G,_,_,hq,Mem.le.refl G,hd,?_⟩;obtain⟨bs,q1,q2,q3,q4⟩:=(show OwnD G σ w m1 t (a'.eval (.tmp m1))from e1);refine⟨_,rfl,bs,q1,q2,q3,fun x hx=>?_⟩
  obtain⟨k,hk⟩:=q4 x hx;obtain⟨j1,j2,j3⟩:=hrel.wok.own x _ hk;refine⟨j1,j2,?_,j3⟩;unfold Lab.unshift;rw[hk];simp only;rw[if_neg (by omega)]
 |_=>exact hq.elim
theorem InlWp.of_bodyP{f:FuncId}{fn:Func}{c:Code}{s:Stm}{n N m1 m2:Nat}{az:List Opd}{st:St}{K:SV→St→Prop}(hf:P.funcs[f]?=some fn)(hb:fn.body=some c)(hN:fn.ntmps=n)
 (hc:Be P n c s=true) (hr:fn.results= #[.tmp m1,.tmp m2]) (h1:m1<n) (h2:m2<n) (hn:az.length≤n)
 (h:litK (En n az st) fun st=>F7 P s noY ⟨FinP n N m1 m2 K,noEx,FinP n N m1 m2 K⟩ st):InlWp P f N az st K:=by
 subst hN;exact⟨FnIn.of_code hf hb hc hn (Adu hr h1 h2) (Ny (Q:=⟨FinP fn.ntmps N m1 m2 K,noEx,FinP fn.ntmps N m1 m2 K⟩) Fx (fun _ h=>h) (fun _ _ h=>h) (fun _ h=>h)
  (Bo (K:=fun st=>F7 P s noY ⟨FinP fn.ntmps N m1 m2 K,noEx,FinP fn.ntmps N m1 m2 K⟩ st) h))⟩
end
end Go.Ab
