/- Lemmas -/
import Derived.Test.YtmfdopkcaeokeaaAb21
import Derived.Sort.Walk0
set_option linter.unusedVariables false
set_option linter.unusedSimpArgs false
namespace Go.Ab
abbrev Str:=List UInt8
theorem Aa3 (a b:Str):Op.bytesLess a b=decide (a<b):=Go.Proofs.bytesLess_eq a b
structure Sp where
 f:Str
 t:Str
 deriving DecidableEq
def Sp.toI (s:Sp):I:=.agg [.str s.f,.str s.t]
def SpR (s:Sp):Prop:=s.f.length≤65∧s.t.length≤65∧(s.t=[]∨s.f<s.t)
instance (s:Sp):Decidable (SpR s):=by unfold SpR;infer_instance
def SpH (s:Sp) (k:Str):Prop:=s.f≤k∧(s.t=[]∨k<s.t)
instance (s:Sp) (k:Str):Decidable (SpH s k):=by unfold SpH;infer_instance
def Keys (u:List Sp) (k:Str):Prop:=∃s∈u,SpH s k
def Sane (s:Sp):Prop:=s.t=[]∨s.f<s.t
def Canon (l:List Sp):Prop:=(∀x∈l,Sane x)∧l.Pairwise fun x y=>x.t≠[]∧x.t<y.f
theorem Sane.has {s:Sp} (h:Sane s):SpH s s.f:=⟨Std.le_refl _,h⟩
theorem Canon.tail {s:Sp} {r:List Sp} (h:Canon (s::r)):Canon r:=⟨fun x hx=>h.1 x (List.mem_cons_of_mem _ hx),(List.pairwise_cons.1 h.2).2⟩
theorem Canon.gap {s:Sp} {r:List Sp} (h:Canon (s::r)):∀x∈r,s.t≠[]∧s.t<x.f:=(List.pairwise_cons.1 h.2).1
theorem Canon.sane {s:Sp} {r:List Sp} (h:Canon (s::r)):Sane s:=h.1 s (List.mem_cons_self ..)
theorem Canon.key {s:Sp} {r:List Sp} (h:Canon (s::r)):Keys (s::r) s.f:=⟨s,List.mem_cons_self ..,h.sane.has⟩
theorem Canon.end {s:Sp} {r:List Sp} (h:Canon (s::r)) (ht:s.t≠[]):¬Keys (s::r) s.t:=by
 rintro⟨x,hx,hk⟩
 rcases List.mem_cons.1 hx with rfl|hx
 ·have:=hk.2
  grind
 ·have h1:=h.gap x hx
  have h2:=hk.1
  grind
def Abo (a b:Str):Prop:=a≠b∧(a=[]∨(b≠[]∧b<a))
instance (a b:Str):Decidable (Abo a b):=by unfold Abo;infer_instance
structure UInv (d u:List Sp):Prop where
 canon:Canon u
 keys:∀k,Keys u k↔Keys d k
 ends:∀x∈u,(∃s∈d,x.f=s.f)∧∃s∈d,x.t=s.t
 some:d≠[]→u≠[]

def runL {α S R:Type} (step:S→α→S ⊕ R) (fin:S→R):List α→S→R
 | [],s=>fin s
 |a::r,s=>match step s a with
  | .inl s'=>runL step fin r s'
  | .inr x=>x
structure RoundE {α S R:Type} (ks:List Nat) (st0:St) (l:List α) (step:S→α→S ⊕ R) (fin:S→R) (Ans:R) (vals:Nat→S→List (Nat × SV)) (inv:Nat→S→Prop) (k:Nat) (st:St):Prop where
 out:∃s',norm ks st=upd st0 (vals (k+1) s')∧inv (k+1) s'∧runL step fin (l.drop (k+1)) s'=Ans
theorem RoundE.by {α S R:Type} {ks:List Nat} {st0:St} {l:List α} {step:S→α→S ⊕ R} {fin:S→R} {Ans:R} {vals:Nat→S→List (Nat × SV)} {inv:Nat→S→Prop} {k:Nat} {st:St}
 (s':S) (h1:norm ks st=upd st0 (vals (k+1) s')) (h2:inv (k+1) s') (h3:runL step fin (l.drop (k+1)) s'=Ans):RoundE ks st0 l step fin Ans vals inv k st:=⟨s',h1,h2,h3⟩
theorem Ab6 {α:Type} {f:α→I} {l:List α} {k:Nat} {e:α} (h:l[k]?=some e):(l.map f)[Int.toNat (k:Int)]?=some (f e):=by
 rw[Int.toNat_natCast,List.getElem?_map,h]
 rfl
theorem size_map {α:Type} {f:α→I} {l:List α} {n:Nat} (h:∀a,(f a).size=n):∀u∈l.map f,u.size=n:=by
 intro u hu
 obtain⟨a,_,rfl⟩:=List.mem_map.1 hu
 exact h a
theorem Ai {x:I} {n:Nat} (h:x.size=n):∀u∈[x],u.size=n:=by
 intro u hu
 rw[List.mem_singleton]at hu
 subst hu
 exact h

theorem Aj:(∀(p:Prop) [Decidable p],(decide p=true)=p)∧(∀(p:Prop) [Decidable p],(decide p=false)=¬p)∧(∀b:Bool,((!b)=true)=(b=false))∧(∀b:Bool,((!b)=false)=(b=true))∧
 (∀b:Bool,(¬b=true)=(b=false))∧(∀b:Bool,(¬b=false)=(b=true))∧(∀a b:Int,(¬a<b)=(b≤a))∧(∀a b:Int,(¬a≤b)=(b<a))∧
 (∀(α β:Type) (f:α→β) (l:List α),(l.map f).length=l.length)∧(∀(α:Type) (l m:List α),(l++m).length=l.length+m.length)∧(∀(α:Type) (a:α) (l:List α),(a::l).length=l.length+1)∧(∀(α:Type),([]:List α).length=0)∧
 (∀(α:Type) (l:List α) (i:Nat) (a:α),(l.set i a).length=l.length)∧(∀(α:Type) (n:Nat) (a:α),(List.replicate n a).length=n)∧(∀(α:Type) (i:Nat) (l:List α),(l.take i).length=min i l.length)∧(∀(α:Type) (i:Nat) (l:List α),(l.drop i).length=l.length - i)∧
 (∀n:Nat,Int.toNat (n:Int)=n)∧maxLen=9223372036854775807:=by
 refine⟨?_,?_,?_,?_,?_,?_,?_,?_,?_,?_,?_,?_,?_,?_,?_,?_,?_,rfl⟩<;>intros<;>simp
theorem Aa:(∀a b:Str,Op.bytesLess a b=decide (a<b))∧(∀(p:Prop) [Decidable p],(decide p=true)=p)∧(∀(p:Prop) [Decidable p],(decide p=false)=¬p)∧(∀b:Bool,((!b)=true)=(b=false))∧(∀b:Bool,((!b)=false)=(b=true))∧
 (∀b:Bool,(¬b=true)=(b=false))∧(∀b:Bool,(¬b=false)=(b=true))∧(∀(α β:Type) (f:α→β) (l:List α),(l.map f).length=l.length)∧(∀n:Nat,Int.toNat (n:Int)=n):=by
 refine⟨Aa3,?_,?_,?_,?_,?_,?_,?_,?_⟩<;>intros<;>simp
theorem Ae {α:Type} {f:α→D} {l:List α} {n:Nat} (h:∀a,(f a).size=n):∀u∈l.map f,u.size=n:=by
 intro u hu
 obtain⟨a,_,rfl⟩:=List.mem_map.1 hu
 exact h a
theorem Af {x:D} {n:Nat} (h:x.size=n):∀u∈[x],u.size=n:=by
 intro u hu
 rw[List.mem_singleton]at hu
 subst hu
 exact h
theorem Ad {α:Type} {f:α→I} {l:List α} {n:Nat} (h:∀a,(f a).size=n):∀u∈(l.map f).map D.it,u.size=n:=by
 intro u hu
 obtain⟨x,hx,rfl⟩:=List.mem_map.1 hu
 obtain⟨a,_,rfl⟩:=List.mem_map.1 hx
 exact h a
theorem Abf {α β:Type} {f:α→β} {l:List α} {k:Nat} {e:α} (h:l[k]?=some e):(l.map f)[Int.toNat (k:Int)]?=some (f e):=by
 rw[Int.toNat_natCast,List.getElem?_map,h]
 rfl
theorem Abg {α β:Type} {f:α→β} {l:List α} {k:Nat} {e:α} (h:l[k]?=some e):(l.map f)[k]?=some (f e):=by
 rw[List.getElem?_map,h]
 rfl
theorem Hn {P:Program} {m m':M} {Q:St→Prop} {st:St} (h:m=m') (hk:m'.wq P Q st):m.wq P Q st:=h ▸ hk
theorem Ho {P:Program} {m m':M} {K:St→List Rd→Log→List Prop→Prop} {st:St} {R:List Rd} {L:Log} {F:List Prop} (h:m=m') (hk:m'.wz P K st R L F):m.wz P K st R L F:=h ▸ hk
theorem D1 {v:Nat} {p:List Nat} {f:D→Option SV} {ver:Nat} {inv:Inv} {t u:D} {r:SV} {K:Nat→SV→Prop} (ha:alive v inv p=true) (hat:D.at p t=some u) (hf:f u=some r)
 (hk:P3 (Nat.min (lv inv p) ver,r) K):seeK [(eyeP v p f ver (.own inv t)).2] (fun b=>natK (eyeP v p f ver (.own inv t)).1 fun a=>K a b):=by
 simp only[eyeP,ha,hat,seen,hf]
 exact hk
theorem D0 {v:Nat} {p:List Nat} {f:D→Option SV} {ver:Nat} {inv:Inv} {t u:D} {r:SV} {K:Nat→SV→Prop} (ha:A5 v inv p=true) (hat:D.at p t=some u) (hf:f u=some r)
 (hk:P3 (Nat.min (lv inv p) ver,r) K):seeK [(eyeH v p f ver (.own inv t)).2] (fun b=>natK (eyeH v p f ver (.own inv t)).1 fun a=>K a b):=by
 simp only[eyeH,ha,hat,seen,hf]
 exact hk
theorem Ar {b:Bool} {X Y:Prop} (h:b=true) (hx:b=true→X):(b=true→X)∧(b=false→Y):=⟨hx,fun h'=>by rw[h]at h';cases h'⟩
theorem Aq {b:Bool} {X Y:Prop} (h:b=false) (hy:b=false→Y):(b=true→X)∧(b=false→Y):=⟨fun h'=>(by rw[h]at h';cases h'),hy⟩

def Abp (P:Program) (n N:Nat) (rs:List Ret) (K:SV→St→Prop) (st:St):Prop:=
 (retI rs fun us=>.chk fun st'=>litK (A9 n N (st'.drop n)) fun st'=>K (C8 us) st').wp P (fun _=>False) st
def F8 (P:Program) (n N:Nat) (rs:List Ret) (K:SV→St→Prop) (st:St):Prop:=
 (retI rs fun us=>.chk fun st'=>litK (A9 n N (st'.drop n)) fun st'=>K (C8 us) st').wq P (fun _=>False) st
section
variable{P:Program}{G:Mem}{σ:Lab}{Fr:Mem}{w0:Base}{w:World}{st:St}{a:Act}
def Yy (P:Program) (fn:Func) (N:Nat) (K:SV→St→Prop) (E:St→Prop):Prop:=
 ∀{G:Mem} {σ:Lab} {Fr:Mem} {w0:Base} {B:Base} {a a':Act} {w:World} {st:St},w0.n=N→Rel G σ Fr B st a' w→Sn w0.w B.w→B.hid=a.tmps++w0.hid→B.n=fn.ntmps→Marks Fr w0.w a.defers→a.tmps.size=w0.n→E st→
  ∃v,(results fn a'.tmps).run P w= .ok v w∧∃r G' σ' st',K r st'∧G.le G'∧Rel G' σ' Fr w0 st' a w∧Lt G' σ' Fr w st' (val a w0) r v
theorem FnIn.of_code {f:FuncId} {fn:Func} {c:Code} {s:Stm} {N:Nat} {az:List Opd} {st:St} {K:SV→St→Prop} {E:St→Prop} (hf:P.funcs[f]?=some fn) (hb:fn.body=some c)
 (hc:A4 P fn.ntmps c s=true) (hn:az.length≤fn.ntmps) (hE:Yy P fn N K E) (h:wpS P s noY ⟨E,noEx,E⟩ (Lv fn.ntmps az st)):FnIn P f N az st K:=by
 intro G σ Fr w0 a w xs hN hr ho
 subst hN
 refine(Jn (ro:=none) (n:=0)).1 (callsIn_of_wp_marks hf hb trivial ?_)
 have hxl:=E6 ho
 let cargs:=(xs.map a.eval).toArray
 let a0:Act:={tmps:=cargs++Array.replicate (fn.ntmps - cargs.size) undef,defers:=[]}
 have hcs:cargs.size=az.length:=by simp[cargs,hxl]
 have hsz:a0.tmps.size=fn.ntmps:=by simp only[a0,Array.size_append,Array.size_replicate,hcs];omega
 let pre:St:=Ea fn.ntmps st az++List.replicate (fn.ntmps - az.length) (0,SV.no)
 have hpl:pre.length=fn.ntmps:=by simp only[pre,List.length_append,Cx,List.length_replicate];omega
 have hst:Lv fn.ntmps az st=pre++stUp fn.ntmps st:=by
  simp only[Lv,Pt,pre,List.append_assoc]
 have hrel:Rel G (σ.shift fn.ntmps) Fr ⟨w,fn.ntmps,a.tmps++w0.hid⟩ (pre++stUp fn.ntmps st) a0 w:=by
  have:=Rel.up (pre:=pre) (a':=a0) hr rfl (by rw[hpl,hsz]) ?_
  ·rw[hsz]at this;exact this
  ·rw[hsz]
   intro i ver sv hi
   simp only[pre]at hi
   by_cases h1:i<az.length
   ·rw[List.getElem?_append_left (by rw[Cx];exact h1),N7,List.getElem?_eq_getElem h1]at hi
    simp only[Option.map_some,Option.some.injEq,Prod.mk.injEq]at hi
    obtain⟨rfl,rfl⟩:=hi
    obtain⟨x,h2,h3⟩:=Nc ho (List.getElem?_eq_getElem h1)
    have h4:a0.tmps.getD i undef=a.eval x:=by
     simp only[a0]
     rw[Array.getD_eq_getD_getElem?,Array.getElem?_append_left (by rw[hcs];exact h1)]
     simp only[cargs,List.getElem?_toArray,List.getElem?_map,h2]
     rfl
    rw[h4]
    exact Q7 hr h3 hpl hsz
   ·rw[List.getElem?_append_right (by rw[Cx];omega),Cx,List.getElem?_replicate]at hi
    split at hi
    ·simp only[Option.some.injEq,Prod.mk.injEq]at hi
     obtain⟨rfl,rfl⟩:=hi
     exact⟨trivial,fun hh e=>by cases e⟩
    ·cases hi
 rw[hst]at h
 refine wpIn_mono (Pa (w0:=⟨w,fn.ntmps,a.tmps++w0.hid⟩) (.inl rfl) D8 hc hrel h) ?_
 rintro e a' w' ⟨G',σ',Fr',st',hG,hF,hr',hq⟩
 have fin:E st'→LeavesInM (Wd none) 0 P fn a'.tmps (fun e w'=>∃r c G' σ' st',e= .returned c∧K r st'∧G.le G'∧Rel G' σ' Fr w0 st' a w'∧Lt G' σ' Fr w' st' (val a w0) r c) a'.defers .returning w':=by
  intro hq
  refine hr'.leave (by simp) hF (fun b o hb=>Dw hr hb) fun w2 r2=>?_
  obtain⟨v,h1,r,G2,σ2,st2,h2,h3,h4,h5⟩:=hE rfl r2 hr.based rfl rfl hr.defers hr.n hq
  exact⟨v,h1,r,v,G2,σ2,st2,rfl,h2,hG.trans h3,h4,h5⟩
 cases e with
 |normal=>exact fin hq
 |ret=>exact fin hq
 |_=>exact hq.elim
theorem Xf {fn:Func} {N:Nat} {rs:List Ret} {K:SV→St→Prop} (hr:Bi P fn.ntmps fn.results.toList rs=true):Yy P fn N K (Abp P fn.ntmps N rs K):=by
 intro G σ Fr w0 B a a' w st hN hrel hBw hBh hBn had han hq
 subst hN
 obtain⟨us,cs,G2,σ2,st2,q1,q2,q3,q4,q5⟩:=Kb hrel (by rw[hBn];exact hr) hq
 have hlcs:=RepTup.one q5
 have hresM:(fn.results.mapM (resV a'.tmps)).run P w= .ok cs.toArray w:=by
  rw[Array.mapM_eq_mapM_toList,Sem.run_map,q4]
  rfl
 have hd:=q2.down hBw hBh hBn had han
 have hresV:∃v,(results fn a'.tmps).run P w= .ok v w∧Lt G2 (σ2.unshift fn.ntmps) Fr w (A9 fn.ntmps w0.n (st2.drop fn.ntmps)) (val a w0) (C8 us) v:=by
  rw[Ft,Sem.run_bind,hresM]
  match us,cs,q5,hlcs with
  | [],[],_,_=>exact⟨.tuple #[],by simp[Result.andThen],[], #[],rfl,rfl,rfl⟩
  | [u],[v],h5,_=>
    obtain⟨c',d',e',h6,_⟩:=h5
    cases e'
    exact⟨v,by simp[Result.andThen],h6⟩
  |u::u'::us,v::v'::cs,h5,_=>
   exact⟨.tuple (v::v'::cs).toArray,by simp[Result.andThen],u::u'::us,_,rfl,rfl,Ka _ _ _ _ h5⟩
 obtain⟨v,h1,h2⟩:=hresV
 exact⟨v,h1,_,G2,_,_,Bg (K:=fun st'=>K (C8 us) st') q3,q1,hd,h2⟩
theorem Td {n N:Nat} {rs:List Ret} {K:SV→St→Prop} {st:St} (h:F8 P n N rs K st):Abp P n N rs K st:=M.wq_wp h
theorem InlWp.of_body {f:FuncId} {fn:Func} {c:Code} {s:Stm} {rs:List Ret} {n N:Nat} {az:List Opd} {st:St} {K:SV→St→Prop} (hf:P.funcs[f]?=some fn) (hb:fn.body=some c) (hN:fn.ntmps=n)
 (hc:A4 P n c s=true) (hr:Bi P n fn.results.toList rs=true) (hn:az.length≤n)
 (h:litK (Lv n az st) fun st=>Bq P s noY ⟨F8 P n N rs K,noEx,F8 P n N rs K⟩ st):InlWp P f N az st K:=by
 subst hN
 exact⟨FnIn.of_code hf hb hc hn (Xf hr) (Qs (Q:=⟨F8 P fn.ntmps N rs K,noEx,F8 P fn.ntmps N rs K⟩) Fk (fun _ h=>Td h) (fun _ _ h=>h) (fun _ h=>Td h)
  (Bg (K:=fun st=>Bq P s noY ⟨F8 P fn.ntmps N rs K,noEx,F8 P fn.ntmps N rs K⟩ st) h))⟩
end

def retD:List Ret→(List D→M)→M
 | [],k=>k []
 | .t n::r,k=>C9 (.t n) fun u=>retD r fun us=>k (u::us)
 | .cell n agg sz::r,k=>.get n fun ver sv=>match sv with
   | .own _ t=>match t with
     | .ptr u=>.need (u.isAgg=agg∧u.size=sz) fun _=>.set n (ver+1) .no (retD r fun us=>k (u::us))
     |_=>.fail
   |_=>.fail
def resD:List D→SV
 | [u]=>match u with
   | .it x=>.v x
   |u=>.own [] u
 |us=>.tupd us
def FinD (P:Program) (N:Nat) (rs:List Ret) (args:List SV) (R:SV→List SV→Prop) (st:St):Prop:=
 (retD rs fun us=>.chk fun st'=>Done (R (resD us) (A6 N st' 0 args)) (A6 N st' 0 args)).wp P (fun _=>False) st
def Sq (P:Program) (N:Nat) (rs:List Ret) (args:List SV) (R:SV→List SV→Prop) (st:St):Prop:=
 (retD rs fun us=>.chk fun st'=>Done (R (resD us) (A6 N st' 0 args)) (A6 N st' 0 args)).wq P (fun _=>False) st
def wqFD (P:Program) (N:Nat) (s:Stm) (rs:List Ret) (args:List SV) (R:SV→List SV→Prop):Prop:=
 litK (entry N args) fun st=>Bq P s noY ⟨Sq P N rs args R,noEx,Sq P N rs args R⟩ st
section
variable{P:Program}{N:Nat}{G:Mem}{σ:Lab}{Fr:Mem}{w0:Base}{w:World}{st:St}{a:Act}
theorem Ns {Q:St→Prop}:∀{rs:List Ret} {rv:List ResultVar} {k:List D→M} {G:Mem} {σ:Lab} {st:St},Rel G σ Fr w0 st a w→Bi P w0.n rv rs=true→(retD rs k).wp P Q st→
 ∃us cs bs G' σ' st',G.le G'∧Rel G' σ' Fr w0 st' a w∧(k us).wp P Q st'∧(rv.mapM (resV a.tmps)).run P w= .ok cs w∧RepVs G' w us cs bs∧bs.Nodup∧
  (∀b∈bs,G' b=none∧Fr b=none∧σ' b=none∧b<w.heap.size)∧(∀b∈bs,σ b≠none)∧∀b,σ b=none→G b=none→σ' b=none∧G' b=none
 | [],[],k,G,σ,st,hr,_,hq=>⟨[],[],[],G,σ,st,Mem.le.refl G,hr,hq,by simp,by simp[RepVs],List.nodup_nil,by simp,by simp,fun _ h1 h2=>⟨h1,h2⟩⟩
 | .t n::rs,.tmp m::rv,k,G,σ,st,hr,ho,hq=>by
   simp only[Bi,Bool.and_eq_true,beq_iff_eq,decide_eq_true_eq]at ho
   obtain⟨⟨rfl,h1⟩,h2⟩:=ho
   obtain⟨u,b1,G1,σ1,st1,g1,g2,g3,g4,g5,g6⟩:=B2 (x:=.tmp m) hr (by simp[Ac,h1]) hq
   obtain⟨us,cs,bs,G2,σ2,st2,q1,q2,q3,q4,q5,q6,q7,q8,q9⟩:=Ns g2 h2 g3
   obtain⟨f1,f2,f3,f4⟩:=g4.later q1 q9
   refine⟨u::us,a.tmps.getD m undef::cs,b1++bs,G2,σ2,st2,g1.trans q1,q2,q3,?_,?_,?_,?_,?_,?_⟩
   ·simp only[List.mapM_cons,resV,Sem.run_bind,Sem.run_pure,Result.andThen,q4]
   ·simp only[RepVs]
    exact⟨_,cs,b1,bs,rfl,rfl,f2,f1,q5⟩
   ·rw[List.nodup_append]
    refine⟨f3,q6,fun x hx y hy e=>?_⟩
    subst e
    exact q8 x hy (g4.2.2.2 x hx).2.2.1
   ·intro b hb
    rcases List.mem_append.1 hb with hb|hb
    ·exact f4 b hb
    ·exact q7 b hb
   ·intro b hb hn
    rcases List.mem_append.1 hb with hb'|hb'
    ·exact g5 b hb' hn
    ·by_cases hG:G b=none
     ·exact q8 b hb' (g6 b hn hG).1
     ·obtain⟨o,hob⟩:=Option.ne_none_iff_exists'.1 hG
      have:=g1 b o hob
      have:=q1 b o this
      rw[(q7 b hb').1]at this
      cases this
   ·intro b k1 k2
    obtain⟨k3,k4⟩:=g6 b k1 k2
    exact q9 b k3 k4
 | .cell n agg sz::rs,.cell m t::rv,k,G,σ,st,hr,ho,hq=>by
   simp only[Bi,Bool.and_eq_true,beq_iff_eq,decide_eq_true_eq]at ho
   obtain⟨⟨⟨rfl,h1⟩,ht⟩,h2⟩:=ho
   simp only[retD,M.wp]at hq
   cases hs:st[m]? with
   |none=>simp[hs]at hq
   |some cur=>
    obtain⟨ver,sv⟩:=cur
    simp only[hs]at hq
    split at hq
    ·rename_i inv tr
     split at hq
     ·rename_i u
      obtain⟨⟨rfl,rfl⟩,hq⟩:=hq
      have hown:OwnD G σ w m (.ptr u) (a.eval (.tmp m)):=hr.slot h1 hs
      obtain⟨bs0,r1,r2,r3,r4⟩:=hown
      rw[A7 r2]at r1
      simp only[RepD]at r1
      obtain⟨b,cells,ty,bu,e1,e2,e3,rfl⟩:=r1
      injection e1 with e1
      have hdrop:∀x∈b::bu,σ.drop m x=none:=fun x hx=>by
       obtain⟨kk,hk⟩:=r4 x hx
       simp[Lab.drop,hk]
      obtain⟨us,cs,bs,G2,σ2,st2,q1,q2,q3,q4,q5,q6,q7,q8,q9⟩:=Ns (hr.drop hs (Nat.lt_succ_self ver)) h2 hq
      have hf0:∀x∈bu,G x=none∧Fr x=none∧σ.drop m x=none∧x<w.heap.size:=fun x hx=>by
       obtain⟨kk,hk⟩:=r4 x (by simp[hx])
       obtain⟨k1,k2,k3⟩:=hr.wok.own x _ hk
       exact⟨k1,k2,hdrop x (by simp[hx]),k3⟩
      have hlen:=RepD.length e3
      have hone:=RepD.one e3
      obtain⟨v,hl,hvc,hva⟩:=J2 (P:=P) (w:=w) (t:=t) (agg:=u.isAgg) (b:=b) (off:=0) (bl:=cells) (pre:=[]) (cs:=cells.toList) (post:=[]) (by rw[hlen];exact ht) (by
       intro hag
       rw[hlen]
       cases u<;>first|rfl|(rename_i x;cases x<;>first|rfl|cases hag)|cases hag) e2 (by simp) rfl hone
      have hev:a.tmps.getD m undef= .pointer (some ⟨b,0,none⟩):=e1
      refine⟨u::us,v::cs,bu++bs,G2,σ2,st2,q1,q2,q3,?_,?_,?_,?_,?_,?_⟩
      ·simp only[List.mapM_cons,resV,hev,asAddr,Sem.run_bind,Sem.run_pure,Result.andThen,hl,q4]
      ·simp only[RepVs]
       exact⟨v,cs,bu,bs,rfl,rfl,hva,by rw[hvc];exact e3.tr q1 fun _ _=>rfl,q5⟩
      ·rw[List.nodup_append]
       refine⟨(List.nodup_cons.1 r3).2,q6,fun x hx y hy e=>?_⟩
       subst e
       exact q8 x hy (hf0 x hx).2.2.1
      ·intro x hx
       rcases List.mem_append.1 hx with hx|hx
       ·obtain⟨k1,k2,k3,k4⟩:=hf0 x hx
        obtain⟨k5,k6⟩:=q9 x k3 k1
        exact⟨k6,k2,k5,k4⟩
       ·exact q7 x hx
      ·intro x hx hn
       rcases List.mem_append.1 hx with hx|hx
       ·obtain⟨kk,hk⟩:=r4 x (by simp[hx])
        rw[hn]at hk;cases hk
       ·refine q8 x hx ?_
        simp[Lab.drop,hn]
      ·intro x k1 k2
       exact q9 x (by simp[Lab.drop,k1]) k2
     ·exact hq.elim
    ·exact hq.elim
 | [],_::_,_,_,_,_,_,ho,_=>by simp[Bi]at ho
 | .t _::_,[],_,_,_,_,_,ho,_=>by simp[Bi]at ho
 | .cell _ _ _::_,[],_,_,_,_,_,ho,_=>by simp[Bi]at ho
 | .t _::_,.cell _ _::_,_,_,_,_,_,ho,_=>by simp[Bi]at ho
 | .cell _ _ _::_,.tmp _::_,_,_,_,_,_,ho,_=>by simp[Bi]at ho
theorem Y6 {fn:Func} {rs:List Ret} {args:List SV} {Post:SV→List SV→Prop} (hr:Bi P fn.ntmps fn.results.toList rs=true):Ends P fn args Post (FinD P fn.ntmps rs args Post):=by
 intro G Fr w cargs a w' G' σ' st hlen hn hG hr' hq
 let B:Base:=⟨w,fn.ntmps,cargs⟩
 obtain⟨us,cs,bs,G2,σ2,st2,q1,q2,⟨q3,q3'⟩,q4,q5,q6,q7,q8,q9⟩:=Ns hr' hr hq
 have q3':=Fb q3'
 have hresM:(fn.results.mapM (resV a.tmps)).run P w'= .ok cs.toArray w':=by
  rw[Array.mapM_eq_mapM_toList,Sem.run_map,q4]
  rfl
 let σ3:Lab:=(σ2.unshift fn.ntmps).adopt args.length 0 bs
 have hun:∀{b s k},σ2.unshift fn.ntmps b=some (s,k)→σ2 b=some (fn.ntmps+s,k):=by
  intro b s k hb
  unfold Lab.unshift at hb
  split at hb
  ·rename_i s' k' h1
   split at hb
   ·rename_i hle
    simp only[Option.some.injEq,Prod.mk.injEq]at hb
    obtain⟨rfl,rfl⟩:=hb
    rw[h1,show fn.ntmps+(s' - fn.ntmps)=s' by omega]
   ·cases hb
  ·cases hb
 have hok2:WOk G2 (σ2.unshift fn.ntmps) Fr ⟨w,0, #[]⟩ w':=by
  refine⟨q2.wok.fixed,?_,?_,q2.wok.frame,q2.wok.os,q2.wok.tape,q2.wok.output,q2.wok.size,q2.wok.apart,q2.wok.amb⟩
  ·rintro b ⟨s,k⟩ hb
   exact q2.wok.own b _ (hun hb)
  ·rintro b b' ⟨s,k⟩ hb hb'
   exact q2.wok.inj b b' _ (hun hb) (hun hb')
 let σ2':Lab:=fun b=>match σ2.unshift fn.ntmps b with
  |some (s,k)=>if s<args.length then some (s,k)else none
  |none=>none
 have hle:∀{b lab},σ2' b=some lab→σ2.unshift fn.ntmps b=some lab∧lab.1<args.length:=by
  intro b lab hb
  simp only[σ2']at hb
  split at hb
  ·rename_i s k h1
   split at hb
   ·rename_i hlt;cases hb;exact⟨h1,hlt⟩
   ·cases hb
  ·cases hb
 have hok3:WOk G2 σ2' Fr ⟨w,0, #[]⟩ w':=⟨hok2.fixed,fun b lab hb=>hok2.own b lab (hle hb).1,fun b b' lab hb hb'=>hok2.inj b b' lab (hle hb).1 (hle hb').1,hok2.frame,hok2.os,hok2.tape,hok2.output,hok2.size,hok2.apart,hok2.amb⟩
 have hok4:WOk G2 (σ2'.adopt args.length 0 bs) Fr ⟨w,0, #[]⟩ w':=hok3.adopt (fun b k hb=>absurd (hle hb).2 (Nat.lt_irrefl _)) fun b hb=>⟨(q7 b hb).1,(q7 b hb).2.1,(q7 b hb).2.2.2⟩
 have hlabs:∀b∈bs,∃k,(σ2'.adopt args.length 0 bs) b=some (args.length,k):=fun b hb=>⟨_,Lab.adopt_new hb⟩
 have hresV:∃v,(results fn a.tmps).run P w'= .ok v w'∧(resD us).root=none∧RepOwn G2 (σ2'.adopt args.length 0 bs) w' args.length (resD us) v:=by
  rw[Ft,Sem.run_bind,hresM]
  match us,cs,q5,hlabs with
  | [],[],h5,hl=> 
    simp only[RepVs]at h5
    exact⟨.tuple #[],by simp[Result.andThen],rfl, #[],bs,rfl,by simp[RepVs,h5.2],q6,hl⟩
  | [u],cs,h5,hl=>
    simp only[RepVs]at h5
    obtain⟨v,_,b1,_,rfl,rfl,hva,hrv,rfl,rfl⟩:=h5
    refine⟨v,by simp[Result.andThen],?_⟩
    cases u with
    |it x=>
     refine⟨rfl,?_⟩
     show RepV G2 x v
     simp only[RepD]at hrv
     simp only[D.isAgg]at hva
     unfold RepV
     cases hx:x.isAgg with
     |true=>
      rw[hx]at hva
      obtain⟨a',rfl⟩:=Ct hva
      rw[if_pos rfl]
      exact⟨a',rfl,hrv.1⟩
     |false=>
      rw[hx]at hva
      rw[A7 hva]at hrv
      rw[if_neg (by simp)]
      exact hrv.1
    |_=>exact⟨rfl,b1,hrv,hva,by simpa using q6,fun b hb=>hl b (by simpa using hb)⟩
  |u::u'::us,cs,h5,hl=>
   have h5':=h5
   simp only[RepVs]at h5
   obtain⟨v,_,_,_,rfl,_,_,_,v',_,_,_,rfl,_⟩:=h5
   exact⟨.tuple (v::v'::_).toArray,by simp[Result.andThen],rfl,_,bs,rfl,h5',q6,hl⟩
 obtain⟨v,hv1,hv0,hv2⟩:=hresV
 refine⟨v,hv1,resD us,A6 fn.ntmps st2 0 args,v,G2,_,rfl,q3,hG.trans q1,hok4,hv0,hv2,C7 args 0,?_⟩
 intro i sv hi
 refine⟨q3' sv (List.mem_of_getElem? hi),?_⟩
 rw[Cf]at hi
 cases harg:args[i]? with
 |none=>simp[harg]at hi
 |some sv0=>
  have hil:i<args.length:=(List.getElem?_eq_some_iff.1 harg).1
  simp only[harg,Option.map_some,Option.some.injEq,Nat.zero_add]at hi
  split at hi
  ·cases hst:st2[fn.ntmps+i]? with
   |none=>simp only[hst]at hi;subst hi;trivial
   |some cur=>
    obtain⟨ver,sv1⟩:=cur
    simp only[hst]at hi
    subst hi
    have hrep:=q2.slots _ _ _ hst
    have hroot:=q3' sv1.clean (by
     apply List.mem_of_getElem? (i:=i)
     rw[Cf,harg]
     simp only[Option.map_some,Nat.zero_add,hst]
     rename_i hl
     rw[if_pos hl])
    rw[Jo]at hroot
    rw[RepSV.own hroot]at hrep
    have hval:val a B (fn.ntmps+i)=cargs.getD i undef:=by
     unfold val
     rw[Array.getD_eq_getD_getElem?,Array.getElem?_append_right (by rw[q2.n];exact Nat.le_add_right _ _),q2.n,Array.getD_eq_getD_getElem?]
     simp[B]
    rw[hval]at hrep
    rw[Kv]
    refine RepOwn.tr hrep (Mem.le.refl G2) fun b k hb=>⟨?_,rfl⟩
    rw[Lab.adopt_old]
    ·simp only[σ2',Lab.unshift,hb]
     simp[hil]
    ·intro hm
     rw[(q7 b hm).2.2.1]at hb
     cases hb
  ·subst hi;trivial
theorem Fn.of_bodyD {f:FuncId} {fn:Func} {c:Code} {s:Stm} {rs:List Ret} {args:List SV} {Post:SV→List SV→Prop} {N:Nat} (hf:P.funcs[f]?=some fn) (hb:fn.body=some c) (hN:fn.ntmps=N)
 (hc:A4 P N c s=true) (hr:Bi P N fn.results.toList rs=true) (hn:args.length≤N) (h:wqFD P N s rs args Post):Fn P f args Post:=by
 subst hN
 refine Fn.of_code hf hb hc hn (Y6 hr) ?_
 have h:=Bg h
 exact Qs (Q:=⟨Sq P fn.ntmps rs args Post,noEx,Sq P fn.ntmps rs args Post⟩) (Q':=⟨FinD P fn.ntmps rs args Post,noEx,FinD P fn.ntmps rs args Post⟩) Fk (fun st h=>M.wq_wp h) (fun _ _ h=>h) (fun st h=>M.wq_wp h) h
end

def Pg:SV→Option SV
 | .own _ t=>match t.toI with
   |some y=>some (.v y)
   |none=>none
 | .tupd l=>match toIs l with
   |some r=>some (.tup (r.map F.i))
   |none=>none
 | .v x=>some (.v x)
 |_=>none
theorem Wc {G:Mem} {y:I} {v:Value} (h:RepI G y v.cells.toList) (hv:valOf y.isAgg v=true):RepV G y v:=by
 unfold RepV
 cases hx:y.isAgg with
 |true=>
  rw[hx]at hv
  obtain⟨a',rfl⟩:=Ct hv
  rw[if_pos rfl]
  exact⟨a',rfl,h⟩
 |false=>
  rw[hx]at hv
  rw[A7 hv]at h
  rw[if_neg (by simp)]
  exact h
theorem Rq {G G':Mem} {σ:Lab} {w:World} {s:Nat} (hG:G.le G'):∀{l:List D} {r:List I} {cs:List Value} {bs:List Nat} {j:Nat},RepVs G w l cs bs→toIs l=some r→(∀b∈bs,G' b=w.heap[b]?)→RepTup G' σ w s j (r.map F.i) cs
 | [],r,cs,bs,j,h,hr,_=>by
   simp only[toIs,Option.some.injEq]at hr
   subst hr
   simp only[RepVs]at h
   simp[RepTup,h.1]
 |d::l,r,cs,bs,j,h,hr,hb=>by
  simp only[toIs]at hr
  split at hr
  ·rename_i x hx
   split at hr
   ·rename_i r' hr'
    cases hr
    simp only[RepVs]at h
    obtain⟨v,c',b,b',rfl,rfl,hv,h1,h2⟩:=h
    simp only[List.map_cons,RepTup]
    refine⟨v,c',rfl,Wc (RepD.toI hG h1 hx fun b hb'=>hb b (by simp[hb'])) ?_,Rq hG h2 hr' fun b hb'=>hb b (by simp[hb'])⟩
    rw[(toI_shape hx).2];exact hv
   ·cases hr
  ·cases hr
theorem Fn.frz {P:Program} {f:FuncId} {args:List SV} {Post Post':SV→List SV→Prop} (h:Fn P f args Post) (hP:∀r az,Post r az→∃r',Pg r=some r'∧Post' r' az):Fn P f args Post':=by
 intro G σ Fr w cargs hok hsz hin
 refine(h G σ Fr w cargs hok hsz hin).mono ?_
 rintro e w' ⟨r,az,c,G1,σ1,rfl,hp,hG,hok1,hroot,hrep,hlen,has⟩
 obtain⟨r',hfr,hp'⟩:=hP r az hp
 let G2:Mem:=fun b=>match σ1 b with
  |some (s,_)=>if s=args.length then w'.heap[b]? else G1 b
  |none=>G1 b
 let σ2:Lab:=fun b=>match σ1 b with
  |some (s,k)=>if s=args.length then none else some (s,k)
  |none=>none
 have hG2n:∀b k,σ1 b=some (args.length,k)→G2 b=w'.heap[b]?:=by
  intro b k hb
  simp only[G2,hb,if_true]
 have hG2o:∀b,(∀k,σ1 b≠some (args.length,k))→G2 b=G1 b:=by
  intro b hb
  simp only[G2]
  split
  ·rename_i s k hs
   split
   ·rename_i hsn;subst hsn;exact absurd hs (hb k)
   ·rfl
  ·rfl
 have hle:G1.le G2:=by
  intro b o hb
  rw[hG2o b]
  ·exact hb
  ·intro k hk
   rw[(hok1.own b _ hk).1]at hb
   cases hb
 have hσ2:∀b s k,σ2 b=some (s,k)→σ1 b=some (s,k)∧s≠args.length:=by
  intro b s k hb
  simp only[σ2]at hb
  split at hb
  ·rename_i s' k' hs
   split at hb
   ·cases hb
   ·rename_i hne;cases hb;exact⟨hs,hne⟩
  ·cases hb
 have hok2:WOk G2 σ2 Fr ⟨w,0, #[]⟩ w':=by
  refine⟨?_,?_,?_,hok1.frame,hok1.os,hok1.tape,hok1.output,hok1.size,?_,Amb.mono hle hok1.amb⟩
  ·intro b o hb
   by_cases hk:∃k,σ1 b=some (args.length,k)
   ·obtain⟨k,hk⟩:=hk
    rw[hG2n b k hk]at hb;exact hb
   ·rw[hG2o b (fun k hk'=>hk ⟨k,hk'⟩)]at hb
    exact hok1.fixed b o hb
  ·rintro b ⟨s,k⟩ hb
   obtain⟨h1,h2⟩:=hσ2 b s k hb
   obtain⟨h3,h4,h5⟩:=hok1.own b _ h1
   refine⟨?_,h4,h5⟩
   rw[hG2o b (fun k' hk'=>?_)]
   ·exact h3
   ·rw[h1]at hk';cases hk';exact h2 rfl
  ·rintro b b' ⟨s,k⟩ hb hb'
   exact hok1.inj b b' _ (hσ2 b s k hb).1 (hσ2 b' s k hb').1
  ·intro b o hb
   by_cases hk:∃k,σ1 b=some (args.length,k)
   ·obtain⟨k,hk⟩:=hk
    rw[(hok1.own b _ hk).2.1]at hb;cases hb
   ·rw[hG2o b (fun k hk'=>hk ⟨k,hk'⟩)]
    exact hok1.apart b o hb
 have hasn:∀i sv,az[i]?=some sv→sv.root=none∧RepOwn G2 σ2 w' i sv (cargs.getD i undef):=by
  intro i sv hi
  obtain⟨h1,h2⟩:=has i sv hi
  refine⟨h1,RepOwn.tr h2 hle fun b k hb=>⟨?_,rfl⟩⟩
  have hil:i<args.length:=by
   have:=(List.getElem?_eq_some_iff.1 hi).1
   omega
  simp only[σ2,hb]
  rw[if_neg (by omega)]
 refine⟨r',az,c,G2,σ2,rfl,hp',hG.trans hle,hok2,?_,?_,hlen,hasn⟩
 ·unfold Pg at hfr
  split at hfr
  ·split at hfr
   ·cases hfr;rfl
   ·cases hfr
  ·split at hfr
   ·cases hfr;rfl
   ·cases hfr
  ·cases hfr;rfl
  ·cases hfr
 ·unfold Pg at hfr
  split at hfr
  ·rename_i inv t
   split at hfr
   ·rename_i y hy
    cases hfr
    obtain⟨bs,h1,h2,h3,h4⟩:=(show OwnD G1 σ1 w' args.length t c from hrep)
    refine Wc (RepD.toI hle h1 hy fun b hb=>?_) (by rw[(toI_shape hy).2];exact h2)
    obtain⟨k,hk⟩:=h4 b hb
    exact hG2n b k hk
   ·cases hfr
  ·rename_i l
   split at hfr
   ·rename_i r0 hr0
    cases hfr
    obtain⟨a,bs,h0,h1,h3,h4⟩:=(show OwnT G1 σ1 w' args.length l c from hrep)
    refine⟨a,h0,Rq hle h1 hr0 fun b hb=>?_⟩
    obtain⟨k,hk⟩:=h4 b hb
    exact hG2n b k hk
   ·cases hfr
  ·cases hfr
   exact RepV.mono hle hrep
  ·cases hfr

mutual
def Frz:D→D→Prop
 |d,.it y=>d.toI=some y
 | .st l,.st l'=>Frzs l l'
 | .vec e sz l,.vec e' sz' l'=>e=e'∧sz=sz'∧Frzs l l'
 | .ptr d,.ptr d'=>Frz d d'
 |_,_=>False
def Frzs:List D→List D→Prop
 | [],[]=>True
 |d::l,d'::l'=>Frz d d'∧Frzs l l'
 |_,_=>False
end
theorem Na:∀{l l':List D},Frzs l l'→l'.length=l.length
 | [],[],_=>rfl
 |d::l,d'::l',h=>by simp only[Frzs]at h;simp[Na h.2]
 | [],_::_,h=>by simp[Frzs]at h
 |_::_,[],h=>by simp[Frzs]at h
mutual
theorem frz_shape:∀{d d':D},Frz d d'→d'.size=d.size∧d'.isAgg=d.isAgg
 |d,.it y,h=>by simp only[Frz]at h;exact toI_shape h
 | .st l,.st l',h=>by simp only[Frz]at h;exact⟨frzs_shape h,rfl⟩
 | .vec e sz l,.vec e' sz' l',h=>⟨rfl,rfl⟩
 | .ptr d,.ptr d',h=>⟨rfl,rfl⟩
 | .it _,.st _,h=>by simp[Frz]at h
 | .it _,.vec _ _ _,h=>by simp[Frz]at h
 | .it _,.ptr _,h=>by simp[Frz]at h
 | .it _,.map _ _,h=>by simp[Frz]at h
 | .st _,.vec _ _ _,h=>by simp[Frz]at h
 | .st _,.ptr _,h=>by simp[Frz]at h
 | .st _,.map _ _,h=>by simp[Frz]at h
 | .vec _ _ _,.st _,h=>by simp[Frz]at h
 | .vec _ _ _,.ptr _,h=>by simp[Frz]at h
 | .vec _ _ _,.map _ _,h=>by simp[Frz]at h
 | .ptr _,.st _,h=>by simp[Frz]at h
 | .ptr _,.vec _ _ _,h=>by simp[Frz]at h
 | .ptr _,.map _ _,h=>by simp[Frz]at h
 | .map _ _,.st _,h=>by simp[Frz]at h
 | .map _ _,.vec _ _ _,h=>by simp[Frz]at h
 | .map _ _,.ptr _,h=>by simp[Frz]at h
 | .map _ _,.map _ _,h=>by simp[Frz]at h
theorem frzs_shape:∀{l l':List D},Frzs l l'→dsizes l'=dsizes l
 | [],[],_=>rfl
 |d::l,d'::l',h=>by simp only[Frzs]at h;simp[dsizes,(frz_shape h.1).1,frzs_shape h.2]
 | [],_::_,h=>by simp[Frzs]at h
 |_::_,[],h=>by simp[Frzs]at h
end
theorem Rg {sz:Nat}:∀{l l':List D},Frzs l l'→(∀x∈l,x.size=sz)→∀x∈l',x.size=sz
 | [],[],_,_=>by simp
 |d::l,d'::l',h,hs=>by
  simp only[Frzs]at h
  intro x hx
  rcases List.mem_cons.1 hx with rfl|hx
  ·rw[(frz_shape h.1).1];exact hs d (List.mem_cons_self ..)
  ·exact Rg h.2 (fun y hy=>hs y (List.mem_cons_of_mem _ hy)) x hx
 | [],_::_,h,_=>by simp[Frzs]at h
 |_::_,[],h,_=>by simp[Frzs]at h
mutual
theorem Frz.rep {G:Mem} {w:World}:∀{d d':D} {cs:List Value} {bs:List Nat},Frz d d'→RepD G w d cs bs→bs.Nodup→
 ∃bs':List Nat,bs'.Sublist bs∧∀G':Mem,G.le G'→(∀b∈bs,b ∉ bs'→G' b=w.heap[b]?)→RepD G' w d' cs bs'
 |d,.it y,cs,bs,h,hr,hn=>by
  simp only[Frz]at h
  refine⟨[],by simp,fun G' hG hb=>?_⟩
  simp only[RepD]
  exact⟨RepD.toI hG hr h fun b hb1=>hb b hb1 (by simp),trivial⟩
 | .st l,.st l',cs,bs,h,hr,hn=>by
   simp only[Frz]at h
   simp only[RepD]at hr
   obtain⟨bs',h1,h2⟩:=Frzs.rep h hr hn
   exact⟨bs',h1,fun G' hG hb=>by simp only[RepD];exact h2 G' hG hb⟩
 | .vec e sz l,.vec e' sz' l',cs,bs,h,hr,hn=>by
   simp only[Frz]at h
   obtain⟨rfl,rfl,h⟩:=h
   simp only[RepD]at hr
   rcases hr with⟨rfl,rfl,rfl⟩|⟨g,off,cap,cur,xs,b0,rfl,h1,h1',h2,h3,h4,h5,h6,h7,rfl⟩
   ·have:l'=[]:=by have:=Na h;simpa using this
    subst this
    exact⟨[],by simp,fun G' hG hb=>by simp[RepD]⟩
   ·obtain⟨bs',k1,k2⟩:=Frzs.rep h h6 (List.nodup_cons.1 hn).2
    have hlen:=Na h
    refine⟨g::bs',by simpa using k1,fun G' hG hb=>?_⟩
    simp only[RepD]
    refine .inr ⟨g,off,cap,cur,xs,bs',by rw[hlen],h1,h1',by omega,h3,h4,by rw[hlen];exact h5,k2 G' hG fun b hb1 hb2=>?_,Rg h h7,rfl⟩
    refine hb b (by simp[hb1]) fun hb3=>?_
    rcases List.mem_cons.1 hb3 with rfl|hb3
    ·exact(List.nodup_cons.1 hn).1 hb1
    ·exact hb2 hb3
 | .ptr d,.ptr d',cs,bs,h,hr,hn=>by
   simp only[Frz]at h
   simp only[RepD]at hr
   obtain⟨g,cells,ty,b0,rfl,h1,h2,rfl⟩:=hr
   obtain⟨bs',k1,k2⟩:=Frz.rep h h2 (List.nodup_cons.1 hn).2
   refine⟨g::bs',by simpa using k1,fun G' hG hb=>?_⟩
   simp only[RepD]
   refine⟨g,cells,ty,bs',rfl,h1,k2 G' hG fun b hb1 hb2=>?_,rfl⟩
   refine hb b (by simp[hb1]) fun hb3=>?_
   rcases List.mem_cons.1 hb3 with rfl|hb3
   ·exact(List.nodup_cons.1 hn).1 hb1
   ·exact hb2 hb3
 | .it _,.st _,_,_,h,_,_=>by simp[Frz]at h
 | .it _,.vec _ _ _,_,_,h,_,_=>by simp[Frz]at h
 | .it _,.ptr _,_,_,h,_,_=>by simp[Frz]at h
 | .it _,.map _ _,_,_,h,_,_=>by simp[Frz]at h
 | .st _,.vec _ _ _,_,_,h,_,_=>by simp[Frz]at h
 | .st _,.ptr _,_,_,h,_,_=>by simp[Frz]at h
 | .st _,.map _ _,_,_,h,_,_=>by simp[Frz]at h
 | .vec _ _ _,.st _,_,_,h,_,_=>by simp[Frz]at h
 | .vec _ _ _,.ptr _,_,_,h,_,_=>by simp[Frz]at h
 | .vec _ _ _,.map _ _,_,_,h,_,_=>by simp[Frz]at h
 | .ptr _,.st _,_,_,h,_,_=>by simp[Frz]at h
 | .ptr _,.vec _ _ _,_,_,h,_,_=>by simp[Frz]at h
 | .ptr _,.map _ _,_,_,h,_,_=>by simp[Frz]at h
 | .map _ _,.st _,_,_,h,_,_=>by simp[Frz]at h
 | .map _ _,.vec _ _ _,_,_,h,_,_=>by simp[Frz]at h
 | .map _ _,.ptr _,_,_,h,_,_=>by simp[Frz]at h
 | .map _ _,.map _ _,_,_,h,_,_=>by simp[Frz]at h
theorem Frzs.rep {G:Mem} {w:World}:∀{l l':List D} {cs:List Value} {bs:List Nat},Frzs l l'→RepDs G w l cs bs→bs.Nodup→
 ∃bs':List Nat,bs'.Sublist bs∧∀G':Mem,G.le G'→(∀b∈bs,b ∉ bs'→G' b=w.heap[b]?)→RepDs G' w l' cs bs'
 | [],[],cs,bs,_,hr,_=>by
   simp only[RepDs]at hr
   obtain⟨rfl,rfl⟩:=hr
   exact⟨[],by simp,fun G' hG hb=>by simp[RepDs]⟩
 |d::l,d'::l',cs,bs,h,hr,hn=>by
  simp only[Frzs]at h
  simp only[RepDs]at hr
  obtain⟨c,c',b,b',rfl,rfl,h1,h2⟩:=hr
  rw[List.nodup_append]at hn
  obtain⟨n1,n2,n3⟩:=hn
  obtain⟨bs1,k1,k2⟩:=Frz.rep h.1 h1 n1
  obtain⟨bs2,k3,k4⟩:=Frzs.rep h.2 h2 n2
  refine⟨bs1++bs2,List.Sublist.append k1 k3,fun G' hG hb=>?_⟩
  simp only[RepDs]
  refine⟨c,c',bs1,bs2,rfl,rfl,k2 G' hG fun x hx1 hx2=>?_,k4 G' hG fun x hx1 hx2=>?_⟩
  ·refine hb x (by simp[hx1]) fun hx3=>?_
   rcases List.mem_append.1 hx3 with hx3|hx3
   ·exact hx2 hx3
   ·exact n3 x hx1 x (k3.subset hx3) rfl
  ·refine hb x (by simp[hx1]) fun hx3=>?_
   rcases List.mem_append.1 hx3 with hx3|hx3
   ·exact n3 x (k1.subset hx3) x hx1 rfl
   ·exact hx2 hx3
 | [],_::_,_,_,h,_,_=>by simp[Frzs]at h
 |_::_,[],_,_,h,_,_=>by simp[Frzs]at h
end
theorem Fn.part {P:Program} {f:FuncId} {args:List SV} {Post Post':SV→List SV→Prop} (h:Fn P f args Post) (hP:∀r az,Post r az→∃inv d d',r= .own inv d∧Frz d d'∧Post' (.own [] d') az):Fn P f args Post':=by
 intro G σ Fr w cargs hok hsz hin
 refine(h G σ Fr w cargs hok hsz hin).mono ?_
 rintro e w' ⟨r,az,c,G1,σ1,rfl,hp,hG,hok1,hroot,hrep,hlen,has⟩
 obtain⟨inv,d,d',rfl,hfr,hp'⟩:=hP r az hp
 obtain⟨bs,h1,h2,h3,h4⟩:=(show OwnD G1 σ1 w' args.length d c from hrep)
 obtain⟨bs',k1,k2⟩:=hfr.rep h1 h3
 let G2:Mem:=fun b=>if b∈bs∧b ∉ bs' then w'.heap[b]? else G1 b
 let σ2:Lab:=fun b=>if b∈bs∧b ∉ bs' then none else σ1 b
 have hle:G1.le G2:=by
  intro b o hb
  simp only[G2]
  split
  ·rename_i hc
   obtain⟨k,hk⟩:=h4 b hc.1
   rw[(hok1.own b _ hk).1]at hb
   cases hb
  ·exact hb
 have hσ2:∀b lab,σ2 b=some lab→σ1 b=some lab∧¬(b∈bs∧b ∉ bs'):=by
  intro b lab hb
  simp only[σ2]at hb
  split at hb
  ·cases hb
  ·rename_i hc;exact⟨hb,hc⟩
 have hok2:WOk G2 σ2 Fr ⟨w,0, #[]⟩ w':=by
  refine⟨?_,?_,?_,hok1.frame,hok1.os,hok1.tape,hok1.output,hok1.size,?_,Amb.mono hle hok1.amb⟩
  ·intro b o hb
   simp only[G2]at hb
   split at hb
   ·exact hb
   ·exact hok1.fixed b o hb
  ·intro b lab hb
   obtain⟨q1,q2⟩:=hσ2 b lab hb
   obtain⟨q3,q4,q5⟩:=hok1.own b lab q1
   refine⟨?_,q4,q5⟩
   simp only[G2]
   rw[if_neg q2]
   exact q3
  ·intro b b' lab hb hb'
   exact hok1.inj b b' lab (hσ2 b lab hb).1 (hσ2 b' lab hb').1
  ·intro b o hb
   simp only[G2]
   split
   ·rename_i hc
    obtain⟨k,hk⟩:=h4 b hc.1
    rw[(hok1.own b _ hk).2.1]at hb
    cases hb
   ·exact hok1.apart b o hb
 refine⟨.own [] d',az,c,G2,σ2,rfl,hp',hG.trans hle,hok2,rfl,?_,hlen,?_⟩
 ·refine⟨bs',k2 G2 hle fun b q1 q2=>?_,by rw[(frz_shape hfr).2];exact h2,h3.sublist k1,fun b hb=>?_⟩
  ·simp only[G2]
   rw[if_pos ⟨q1,q2⟩]
  ·obtain⟨k,hk⟩:=h4 b (k1.subset hb)
   refine⟨k,?_⟩
   simp only[σ2]
   rw[if_neg (fun hc=>hc.2 hb)]
   exact hk
 ·intro i sv hi
  obtain⟨q1,q2⟩:=has i sv hi
  refine⟨q1,RepOwn.tr q2 hle fun b k hb=>⟨?_,rfl⟩⟩
  have hil:i<args.length:=by
   have:=(List.getElem?_eq_some_iff.1 hi).1
   omega
  simp only[σ2]
  rw[if_neg]
  ·exact hb
  ·rintro⟨hc,_⟩
   obtain⟨k',hk'⟩:=h4 b hc
   rw[hb]at hk'
   cases hk'
   exact Nat.lt_irrefl _ hil

abbrev Pq:=(Nat × SV) × (Nat × SV)
def Lu (c:Nat × (Nat × SV)):List Rd→List Pq
 | []=>[]
 | .all _::r=>Lu c r
 | .prj i f o::r=>match Nat.beq i c.1 with
   |true=>(f c.2.1 c.2.2,o)::Lu c r
   |false=>Lu c r
def Pe:Log→List Rd→List Pq
 | [],_=>[]
 |c::L,R=>Lu c R++Pe L R
def M9 (rd:Rd):List Rec→List Pq
 | []=>[]
 |e::r=>Pe e.L [rd]++M9 rd r
def badP:Pq:=((0,.no),(1,.no))
abbrev Eqs (l:List Pq):Prop:=∀p∈l,p.1=p.2
theorem Eqs.of:∀{l:List Pq},l.map Prod.fst=l.map Prod.snd→Eqs l
 | [],_=>by intro p hp;cases hp
 |q::l,h=>by
  simp only[List.map_cons,List.cons.injEq]at h
  intro p hp
  rcases List.mem_cons.1 hp with rfl|hp
  ·exact h.1
  ·exact Eqs.of h.2 p hp
theorem Hf {c:Nat × (Nat × SV)}:∀{R:List Rd},Eqs (Lu c R)→Jt c R
 | [],_=>trivial
 | .all _::r,h=>Hf (R:=r) h
 | .prj i f o::r,h=>by
   simp only[Lu]at h
   simp only[Jt]
   cases hb:Nat.beq i c.1 with
   |true=>
    rw[hb]at h
    exact⟨h _ (List.mem_cons_self ..),Hf (R:=r) fun p hp=>h p (List.mem_cons_of_mem _ hp)⟩
   |false=>
    rw[hb]at h
    exact⟨trivial,Hf (R:=r) h⟩
theorem Js:∀{L:Log} {R:List Rd},Eqs (Pe L R)→Ci L R
 | [],_,_=>trivial
 |c::L,R,h=>⟨Hf fun p hp=>h p (List.mem_append_left _ hp),Js fun p hp=>h p (List.mem_append_right _ hp)⟩
def okC (d e:Rec):Bool:=B4 (slots d.L) (slots e.L)&&B4 (slots d.L) (fulls e.R)&&B4 (slots e.L) (fulls d.R)
def P0 (d:Rec) (m:Nat):Nat→List Rec→Bool
 |n+1,e::r=>(m.testBit n||okC d e)&&P0 d m n r
 |_,_=>true
def okV (n:Nat) (rp:List Rec):List Rec→List Nat→Bool
 | [],_=>true
 |d::r,m::ms=>P0 d m n rp&&okV (n+1) (d::rp) r ms
 |_::_,[]=>false
def Gi (d:Rec) (m:Nat):Nat→List Rec→List Pq
 |n+1,e::r=>match m.testBit n with
  |true=>Gi d m n r
  |false=>Pe d.L e.R++Gi d m n r
 |_,_=>[]
def Su (n:Nat) (rp:List Rec):List Rec→List Nat→List Pq
 | [],_=>[]
 |d::r,m::ms=>Gi d m n rp++Su (n+1) (d::rp) r ms
 |_::_,[]=>[]
def offV (y m:Nat):Nat→List Rec→Bool
 |n+1,e::r=>(m.testBit n|| !(slots e.L).contains y)&&offV y m n r
 |_,_=>true
def Er (st0:St) (n:Nat) (rp:List Rec) (m:Nat):List Rd→List Pq
 | []=>[]
 | .all _::r=>Er st0 n rp m r
 | .prj y f o::r=>match offV y m n rp with
   |true=>Er st0 n rp m r
   |false=>(match st0[y]? with
    |some c=>(f c.1 c.2,o)
    |none=>badP)::(M9 (.prj y f o) rp++Er st0 n rp m r)
def Ss (st0:St) (n:Nat) (rp:List Rec):List Rec→List Nat→List Pq
 | [],_=>[]
 |d::r,m::ms=>Er st0 n rp m d.R++Ss st0 (n+1) (d::rp) r ms
 |_::_,[]=>[]
theorem P1 {d e:Rec} {m:Nat}:∀{l:List Rec} {k:Nat},Eh d m k (l++[e])=(Eh d m k l&&(m.testBit (k+l.length)||okC d e))
 | [],k=>by simp[Eh,okC]
 |x::l,k=>by
  simp only[List.cons_append,Eh,List.length_cons]
  rw[P1 (l:=l) (k:=k+1),show k+1+l.length=k+(l.length+1)by omega]
  simp only[Bool.and_assoc]
theorem Rj {d:Rec} {m:Nat}:∀{rp:List Rec},P0 d m rp.length rp=Eh d m 0 rp.reverse
 | []=>rfl
 |e::r=>by
  simp only[List.length_cons,P0,List.reverse_cons]
  rw[P1,Rj (rp:=r),Nat.zero_add,List.length_reverse,Bool.and_comm]
theorem Zn:∀{ds rp:List Rec} {ms:List Nat},okV rp.length rp ds ms=Fa rp.reverse ds ms
 | [],_,_=>by simp[okV,Fa]
 |_::_,_,[]=>rfl
 |d::r,rp,m::ms=>by
  simp only[okV,Fa]
  rw[Rj, ←List.reverse_cons, ←Zn (rp:=d::rp)]
  rfl
theorem Gk {d e:Rec} {m:Nat}:∀{l:List Rec} {k:Nat},C1 d m k l→(m.testBit (k+l.length)=false→Ci d.L e.R)→C1 d m k (l++[e])
 | [],k,_,h=>by
   simp only[List.nil_append,C1]
   refine⟨?_,trivial⟩
   cases hb:m.testBit k with
   |true=>trivial
   |false=>exact h hb
 |x::l,k,h1,h2=>by
  simp only[List.cons_append,C1]at h1 ⊢
  exact⟨h1.1,Gk h1.2 fun hb=>h2 (by rwa [List.length_cons,show k+(l.length+1)=k+1+l.length by omega])⟩
theorem Gj {d:Rec} {m:Nat}:∀{rp:List Rec},Eqs (Gi d m rp.length rp)→C1 d m 0 rp.reverse
 | [],_=>trivial
 |e::r,h=>by
  simp only[List.length_cons,Gi]at h
  rw[List.reverse_cons]
  cases hb:m.testBit r.length with
  |true=>
   rw[hb]at h
   exact Gk (Gj (rp:=r) h) fun hb'=>by rw[Nat.zero_add,List.length_reverse,hb]at hb';cases hb'
  |false=>
   rw[hb]at h
   exact Gk (Gj (rp:=r) fun p hp=>h p (List.mem_append_right _ hp)) fun _=>Js fun p hp=>h p (List.mem_append_left _ hp)
theorem Rf:∀{ds rp:List Rec} {ms:List Nat},okV rp.length rp ds ms=true→Eqs (Su rp.length rp ds ms)→F0 rp.reverse ds ms
 | [],_,_,_,_=>trivial
 |_::_,_,[],h,_=>by cases h
 |d::r,rp,m::ms,hk,h=>by
  simp only[okV,Bool.and_eq_true]at hk
  refine⟨Gj fun p hp=>h p (List.mem_append_left _ hp),?_⟩
  rw[←List.reverse_cons]
  exact Rf (rp:=d::rp) hk.2 fun p hp=>h p (List.mem_append_right _ hp)
theorem La {y m:Nat} {e:Rec}:∀{l:List Rec} {k:Nat},Bx y m k (l++[e])=(Bx y m k l&&(m.testBit (k+l.length)|| !(slots e.L).contains y))
 | [],k=>by simp[Bx]
 |x::l,k=>by
  simp only[List.cons_append,Bx,List.length_cons]
  rw[La (l:=l) (k:=k+1),show k+1+l.length=k+(l.length+1)by omega]
  simp only[Bool.and_assoc]
theorem Wa {y m:Nat}:∀{rp:List Rec},offV y m rp.length rp=Bx y m 0 rp.reverse
 | []=>rfl
 |e::r=>by
  simp only[List.length_cons,offV,List.reverse_cons]
  rw[La,Wa (rp:=r),Nat.zero_add,List.length_reverse,Bool.and_comm]
theorem K1 {rd:Rd} {e:Rec}:∀{l:List Rec},Dj rd l→Ci e.L [rd]→Dj rd (l++[e])
 | [],_,h=>⟨h,trivial⟩
 |x::l,h1,h2=>⟨h1.1,K1 h1.2 h2⟩
theorem K0 {rd:Rd}:∀{rp:List Rec},Eqs (M9 rd rp)→Dj rd rp.reverse
 | [],_=>trivial
 |e::r,h=>by
  rw[List.reverse_cons]
  exact K1 (K0 fun p hp=>h p (List.mem_append_right _ hp)) (Js fun p hp=>h p (List.mem_append_left _ hp))
theorem Eb {st0:St} {rp:List Rec} {m:Nat}:∀{R:List Rd},Eqs (Er st0 rp.length rp m R)→Dh st0 rp.reverse m R
 | [],_=>trivial
 | .all _::r,h=>Eb (R:=r) h
 | .prj y f o::r,h=>by
   simp only[Er,Wa]at h
   simp only[Dh]
   cases hb:Bx y m 0 rp.reverse with
   |true=>
    rw[hb]at h
    exact⟨trivial,Eb (R:=r) h⟩
   |false=>
    rw[hb]at h
    have h1:=h _ (List.mem_cons_self ..)
    refine⟨⟨?_,K0 fun p hp=>h p (List.mem_cons_of_mem _ (List.mem_append_left _ hp))⟩,Eb fun p hp=>h p (List.mem_cons_of_mem _ (List.mem_append_right _ hp))⟩
    cases hs:st0[y]? with
    |some c=>rw[hs]at h1;exact h1
    |none=>rw[hs]at h1;simp[badP]at h1
theorem Q8 {st0:St}:∀{ds rp:List Rec} {ms:List Nat},okV rp.length rp ds ms=true→Eqs (Ss st0 rp.length rp ds ms)→Fz st0 rp.reverse ds ms
 | [],_,_,_,_=>trivial
 |_::_,_,[],h,_=>by cases h
 |d::r,rp,m::ms,hk,h=>by
  simp only[okV,Bool.and_eq_true]at hk
  refine⟨Eb fun p hp=>h p (List.mem_append_left _ hp),?_⟩
  rw[←List.reverse_cons]
  exact Q8 (rp:=d::rp) hk.2 fun p hp=>h p (List.mem_append_right _ hp)
theorem Drawn.mkV {st0:St} {ms:List Nat} {Q:St→Prop} {ds:List Rec} {st:St} (h:okV 0 [] ds ms=true) (h2:(Su 0 [] ds ms).map Prod.fst=(Su 0 [] ds ms).map Prod.snd)
 (h3:(Ss st0 0 [] ds ms).map Prod.fst=(Ss st0 0 [] ds ms).map Prod.snd) (hq:(∀d∈ds,∀p∈d.F,p)→Q st):Drawn st0 ms Q ds st:=
 ⟨by rw[←show okV 0 [] ds ms=Fa [] ds ms from Zn (rp:=[])];exact h,Rf (rp:=[]) h (Eqs.of h2),Q8 (rp:=[]) h (Eqs.of h3),hq⟩

section
variable{P:Program}
end
end Go.Ab
