/- Lemmas -/
import Derived.Test.YtkpojedpcabojaaGreatDoorAb21
import Derived.Sort.Walk0
import Derived.Below
set_option linter.unusedVariables false
set_option linter.unusedSimpArgs false
namespace Go.Ab
abbrev Az:=List UInt8
theorem Kz(a b:Az):Op.bytesLess a b=decide (a<b):=Go.Proofs.bytesLess_eq a b
structure Sp where
 f:Az
 t:Az
 deriving DecidableEq
def Sp.Bx(s:Sp):I:=.agg [.str s.f,.str s.t]
def SpR(s:Sp):Prop:=s.f.length≤65∧s.t.length≤65∧(s.t=[]∨s.f<s.t)
instance(s:Sp):Decidable (SpR s):=by unfold SpR;infer_instance
def Bw(s:Sp)(k:Az):Prop:=s.f≤k∧(s.t=[]∨k<s.t)
instance(s:Sp)(k:Az):Decidable (Bw s k):=by unfold Bw;infer_instance
def Keys(u:List Sp)(k:Az):Prop:=∃s∈u,Bw s k
def Byw(s:Sp):Prop:=s.t=[]∨s.f<s.t
def Canon(l:List Sp):Prop:=(∀x∈l,Byw x)∧l.Pairwise fun x y=>x.t≠[]∧x.t<y.f
theorem Byw.has{s:Sp}(h:Byw s):Bw s s.f:=⟨Std.le_refl _,h⟩
theorem Canon.tail{s:Sp}{r:List Sp}(h:Canon (s::r)):Canon r:=⟨fun x hx=>h.1 x (B4 _ hx),(Gr.1 h.2).2⟩
theorem Canon.gap{s:Sp}{r:List Sp}(h:Canon (s::r)):∀x∈r,s.t≠[]∧s.t<x.f:=(Gr.1 h.2).1
theorem Canon.Buw{s:Sp}{r:List Sp}(h:Canon (s::r)):Byw s:=h.1 s (B2 ..)
theorem Canon.key{s:Sp}{r:List Sp}(h:Canon (s::r)):Keys (s::r) s.f:=⟨s,B2 ..,h.Buw.has⟩
theorem Canon.end{s:Sp}{r:List Sp}(h:Canon (s::r))(ht:s.t≠[]):¬Keys (s::r) s.t:=by
 rintro⟨x,hx,hk⟩;rcases Bg.1 hx with rfl|hx
 ·have:=hk.2
  grind
 ·have h1:=h.gap x hx;have h2:=hk.1
  grind
def Aei(a b:Az):Prop:=a≠b∧(a=[]∨(b≠[]∧b<a))
instance(a b:Az):Decidable (Aei a b):=by unfold Aei;infer_instance
structure Byx(d u:List Sp):Prop where
 canon:Canon u
 keys:∀k,Keys u k↔Keys d k
 ends:∀x∈u,(∃s∈d,x.f=s.f)∧∃s∈d,x.t=s.t
 some:d≠[]→u≠[]

def Buu{α S R:Type}(step:S→α→S ⊕ R)(fin:S→R):List α→S→R
 | [],s=>fin s
 |a::r,s=>match step s a with
  | .inl s'=>Buu step fin r s'
  | .inr x=>x
structure Bfr{α S R:Type}(ks:List Nat)(st0:St)(l:List α)(step:S→α→S ⊕ R)(fin:S→R)(Ans:R)(Azq:Nat→S→List (Nat × SV))(inv:Nat→S→Prop)(k:Nat)(st:St):Prop where
 out:∃s',norm ks st=Cx st0 (Azq (k+1) s')∧inv (k+1) s'∧Buu step fin (l.drop (k+1)) s'=Ans
theorem Bfr.by{α S R:Type}{ks:List Nat}{st0:St}{l:List α}{step:S→α→S ⊕ R}{fin:S→R}{Ans:R}{Azq:Nat→S→List (Nat × SV)}{inv:Nat→S→Prop}{k:Nat}{st:St}
 (s':S) (h1:norm ks st=Cx st0 (Azq (k+1) s')) (h2:inv (k+1) s') (h3:Buu step fin (l.drop (k+1)) s'=Ans):Bfr ks st0 l step fin Ans Azq inv k st:=⟨s',h1,h2,h3⟩
theorem B6{α:Type}{f:α→I}{l:List α}{k:Nat}{e:α}(h:l[k]?=some e):(l.map f)[Int.toNat (k:Int)]?=some (f e):=by
 rw[Anj,Ev,h];rfl
theorem size_map{α:Type}{f:α→I}{l:List α}{n:Nat}(h:∀a,(f a).size=n):∀u∈l.map f,u.size=n:=by
 intro u hu;obtain⟨a,_,rfl⟩:=X4.1 hu;exact h a

theorem An:(∀(p:Prop) [Decidable p],(decide p=true)=p)∧(∀(p:Prop) [Decidable p],(decide p=false)=¬p)∧(∀b:Bool,((!b)=true)=(b=false))∧(∀b:Bool,((!b)=false)=(b=true))∧
 (∀b:Bool,(¬b=true)=(b=false))∧(∀b:Bool,(¬b=false)=(b=true))∧(∀a b:Int,(¬a<b)=(b≤a))∧(∀a b:Int,(¬a≤b)=(b<a))∧
 (∀(α β:Type) (f:α→β) (l:List α),(l.map f).length=l.length)∧(∀(α:Type) (l m:List α),(l++m).length=l.length+m.length)∧(∀(α:Type) (a:α) (l:List α),(a::l).length=l.length+1)∧(∀(α:Type),([]:List α).length=0)∧
 (∀(α:Type) (l:List α) (i:Nat) (a:α),(l.set i a).length=l.length)∧(∀(α:Type) (n:Nat) (a:α),(List.replicate n a).length=n)∧(∀(α:Type) (i:Nat) (l:List α),(l.take i).length=min i l.length)∧(∀(α:Type) (i:Nat) (l:List α),(l.drop i).length=l.length - i)∧
 (∀n:Nat,Int.toNat (n:Int)=n)∧maxLen=9223372036854775807:=by
 refine⟨?_,?_,?_,?_,?_,?_,?_,?_,?_,?_,?_,?_,?_,?_,?_,?_,?_,rfl⟩<;>intros<;>simp
theorem Af:(∀{α:Type} {a:α} {b c:List α},(a::b)++c=a::(b++c))∧(∀{α:Type} {b:List α},[]++b=b)∧(∀{α:Type} {a:α} {b c:List α},List.append (a::b) c=a::List.append b c)∧(∀{α:Type} {b:List α},List.append [] b=b)∧(∀{α:Type} {a:α} {b:List α},(a::b)[0]?=some a)∧(∀{α:Type} {a:α} {b:List α} {n:Nat},(a::b)[n+1]?=b[n]?)∧(∀{n:Nat},Int.toNat (n:Int)=n)∧
 (∀{α:Type} {xs:List α} {i:Nat} {a:α},(xs.set i a)[i]?=Function.const α a<$>xs[i]?)∧(∀{α β:Type} {f:α→β} {o:Option α},f<$>o=o.map f)∧(∀{α β:Type} {f:α→β} {a:α},(some a).map f=some (f a))∧(∀{α:Type} {a x:α} {b:List α},(a::b).set 0 x=x::b)∧(∀{α:Type} {a x:α} {b:List α} {n:Nat},(a::b).set (n+1) x=a::b.set n x)∧(∀{α:Type} {a b:α} {xs:List α} {n:Nat},(xs.set n a).set n b=xs.set n b)∧
 (∀{α β:Type} {a:α} {b:β},Function.const β a b=a)∧(∀{α β:Type} {f:α→β} {a:α} {l:List α},(a::l).map f=f a::l.map f)∧(∀{α β:Type} {f:α→β},([]:List α).map f=[])∧(∀{α β:Type} {f:α→β} {l:List α} {i:Nat},(l.map f)[i]?=l[i]?.map f)∧(∀{α β:Type} {f:α→β} {l:List α},(l.map f).length=l.length)∧(∀{α:Type} {l:List α} {i:Nat} {a:α},(l.set i a).length=l.length):=
 ⟨rfl,rfl,rfl,rfl,rfl,rfl,rfl,List.getElem?_set_self',rfl,rfl,rfl,rfl,Ame ..,rfl,rfl,rfl,Ev ..,Bh ..,List.length_set ..⟩
theorem zRL:(∀{α:Type} {a:α} {s t:List α},a∈s++t↔a∈s∨a∈t)∧(∀{α:Type} {a b:α} {l:List α},a∈b::l↔a=b∨a∈l)∧(∀{α:Type} {a:α},¬a∈([]:List α))∧(∀p:Prop,(p∨False)=p)∧(∀p:Prop,(False∨p)=p)∧(∀{a b c:Prop},(a∨b)∨c↔a∨b∨c)∧(∀{α:Type} {p q:α→Prop} {a':α},(∀a,a=a'∨q a→p a)↔p a'∧∀a,q a→p a)∧(∀{α:Type} {p:α→Prop} {a':α},(∀a,a=a'→p a)↔p a')∧(∀p:Prop,(False→p)=True)∧(∀α:Type,(α→True)=True)∧(∀p:Prop,(p→True)=True)∧(∀p:Prop,(p∧True)=p)∧(∀p:Prop,(True∧p)=p):=⟨List.mem_append,List.mem_cons,List.not_mem_nil,or_false,false_or,or_assoc,forall_eq_or_imp,forall_eq,false_implies,fun α=>implies_true α,fun p=>implies_true p,and_true,true_and⟩
theorem Aa:(∀a b:Az,Op.bytesLess a b=decide (a<b))∧(∀(p:Prop) [Decidable p],(decide p=true)=p)∧(∀(p:Prop) [Decidable p],(decide p=false)=¬p)∧(∀b:Bool,((!b)=true)=(b=false))∧(∀b:Bool,((!b)=false)=(b=true))∧
 (∀b:Bool,(¬b=true)=(b=false))∧(∀b:Bool,(¬b=false)=(b=true))∧(∀(α β:Type) (f:α→β) (l:List α),(l.map f).length=l.length)∧(∀n:Nat,Int.toNat (n:Int)=n)∧((false=true)=False)∧((true=false)=False):=by
 refine⟨Kz,?_,?_,?_,?_,?_,?_,?_,?_,?_,?_⟩<;>intros<;>simp
theorem Ag{x:D}{n:Nat}(h:x.size=n):∀u∈[x],u.size=n:=by
 intro u hu;rw[Jd]at hu;subst hu;exact h
theorem A9{P:Program}{m m':M}{Q:St→Prop}{st:St}(h:m=m')(hk:m'.wq P Q st):m.wq P Q st:=h ▸ hk
theorem Ba{P:Program}{m m':M}{K:St→List Rd→Log→List Prop→Prop}{st:St}{R:List Rd}{L:Log}{F:List Prop}(h:m=m')(hk:m'.wz P K st R L F):m.wz P K st R L F:=h ▸ hk
theorem A3{v:Nat}{p:List Nat}{f:D→Option SV}{ver:Nat}{inv:Inv}{t u:D}{r:SV}{K:Nat→SV→Prop}(ha:alive v inv p=true)(C3:D.at p t=some u)(hf:f u=some r)
 (hk:Ri (Nat.min (lv inv p) ver,r) K):Bb9 [(Baq v p f ver (.own inv t)).2] (fun b=>Bb1 (Baq v p f ver (.own inv t)).1 fun a=>K a b):=by
 simp only[Baq,ha,C3,seen,hf];exact hk
theorem A2{v:Nat}{p:List Nat}{f:D→Option SV}{ver:Nat}{inv:Inv}{t u:D}{r:SV}{K:Nat→SV→Prop}(ha:J7 v inv p=true)(C3:D.at p t=some u)(hf:f u=some r)
 (hk:Ri (Nat.min (lv inv p) ver,r) K):Bb9 [(Bap v p f ver (.own inv t)).2] (fun b=>Bb1 (Bap v p f ver (.own inv t)).1 fun a=>K a b):=by
 simp only[Bap,ha,C3,seen,hf];exact hk
theorem Ax{b:Bool}{X Y:Prop}(h:b=true)(hx:b=true→X):(b=true→X)∧(b=false→Y):=⟨hx,fun h'=>by rw[h]at h';cases h'⟩
theorem Aw{b:Bool}{X Y:Prop}(h:b=false)(hy:b=false→Y):(b=true→X)∧(b=false→Y):=⟨fun h'=>(by rw[h]at h';cases h'),hy⟩

def Aej(P:Program)(n N:Nat)(rs:List Ret)(K:SV→St→Prop)(st:St):Prop:=
 (A1z rs fun us=>.chk fun st'=>As1 (Bn n N (st'.drop n)) fun st'=>K (G7 us) st').wp P (fun _=>False) st
def Dq(P:Program)(n N:Nat)(rs:List Ret)(K:SV→St→Prop)(st:St):Prop:=
 (A1z rs fun us=>.chk fun st'=>As1 (Bn n N (st'.drop n)) fun st'=>K (G7 us) st').wq P (fun _=>False) st
section
variable{P:Program}{G:Mem}{σ:Lab}{Fr:Mem}{w0:Base}{w:World}{st:St}{a:Act}
def Uq(P:Program)(fn:Func)(N:Nat)(K:SV→St→Prop)(E:St→Prop):Prop:=
 ∀{G:Mem} {σ:Lab} {Fr:Mem} {w0:Base} {B:Base} {a a':Act} {w:World} {st:St},w0.n=N→Rel G σ Fr B st a' w→Uc w0.w B.w→B.hid=a.tmps++w0.hid→B.n=fn.ntmps→Marks Fr w0.w a.defers→a.tmps.size=w0.n→E st→
  ∃v,(results fn a'.tmps).run P w= .ok v w∧∃r G' σ' st',K r st'∧G.le G'∧Rel G' σ' Fr w0 st' a w∧Ts G' σ' Fr w st' (val a w0) r v
theorem A99.Az8{f:FuncId}{fn:Func}{c:Code}{s:Stm}{N:Nat}{az:List D6}{st:St}{K:SV→St→Prop}{E:St→Prop}(hf:P.funcs[f]?=some fn)(hb:fn.body=some c)
 (hc:Be P fn.ntmps c s=true) (hn:az.length≤fn.ntmps) (hE:Uq P fn N K E) (h:wpS P s noY ⟨E,Atg,E⟩ (En fn.ntmps az st)):A99 P f N az st K:=by
 intro G σ Fr w0 a w xs hN hr ho;subst hN;refine(R7 (ro:=none) (n:=0)).1 (callsIn_of_wp_marks hf hb trivial ?_);have hxl:=Gg ho
 let Ahz:=(xs.map a.eval).toArray
 let a0:Act:={tmps:=Ahz++Array.replicate (fn.ntmps - Ahz.size) undef,defers:=[]}
 have hcs:Ahz.size=az.length:=by simp[Ahz,hxl]
 have Hr:a0.tmps.size=fn.ntmps:=by simp only[a0,Array.size_append,Array.size_replicate,hcs];omega
 let pre:St:=Ff fn.ntmps st az++List.replicate (fn.ntmps - az.length) (0,SV.no)
 have hpl:pre.length=fn.ntmps:=by simp only[pre,Hq,D3,An1];omega
 have hst:En fn.ntmps az st=pre++Ast fn.ntmps st:=by
  simp only[En,Q8,pre,Df]
 have Aw6:Rel G (σ.shift fn.ntmps) Fr ⟨w,fn.ntmps,a.tmps++w0.hid⟩ (pre++Ast fn.ntmps st) a0 w:=by
  have:=Rel.up (pre:=pre) (a':=a0) hr rfl (by rw[hpl,Hr]) ?_
  ·rw[Hr]at this;exact this
  ·rw[Hr];intro i ver sv hi;simp only[pre]at hi;by_cases h1:i<az.length
   ·rw[Fi (by rw[D3];exact h1),Qp,Ae h1]at hi
    simp only[Fq,A0,He]at hi;obtain⟨rfl,rfl⟩:=hi;obtain⟨x,h2,h3⟩:=P4 ho (Ae h1);have h4:a0.tmps.getD i undef=a.eval x:=by
     simp only[a0];rw[Bt,Aez (by rw[hcs];exact h1)]
     simp only[Ahz,List.getElem?_toArray,Ev,h2];rfl
    rw[h4];exact Sq hr h3 hpl Hr
   ·rw[G4 (by rw[D3];omega),D3,Amo]at hi
    split at hi
    ·simp only[A0,He]at hi;obtain⟨rfl,rfl⟩:=hi;exact⟨trivial,fun hh e=>by cases e⟩
    ·cases hi
 rw[hst]at h;refine wpIn_mono (Qs (w0:=⟨w,fn.ntmps,a.tmps++w0.hid⟩) (.inl rfl) Nt hc Aw6 h) ?_;rintro e a' w' ⟨G',σ',Fr',st',hG,hF,Hm,hq⟩;have fin:E st'→LeavesInM (Wd none) 0 P fn a'.tmps (fun e w'=>∃r c G' σ' st',e= .returned c∧K r st'∧G.le G'∧Rel G' σ' Fr w0 st' a w'∧Ts G' σ' Fr w' st' (val a w0) r c) a'.defers .returning w':=by
  intro hq;refine Hm.leave (by simp) hF (fun b o hb=>E2 hr hb) fun w2 r2=>?_
  obtain⟨v,h1,r,G2,σ2,st2,h2,h3,h4,h5⟩:=hE rfl r2 hr.Bd0 rfl rfl hr.defers hr.n hq;exact⟨v,h1,r,v,G2,σ2,st2,rfl,h2,hG.trans h3,h4,h5⟩
 cases e with
 |normal=>exact fin hq
 |ret=>exact fin hq
 |_=>exact hq.elim
theorem Zj{fn:Func}{N:Nat}{rs:List Ret}{K:SV→St→Prop}(hr:B1 P fn.ntmps fn.results.toList rs=true):Uq P fn N K (Aej P fn.ntmps N rs K):=by
 intro G σ Fr w0 B a a' w st hN Aw6 hBw hBh hBn had han hq;subst hN;obtain⟨us,cs,G2,σ2,st2,q1,q2,q3,q4,q5⟩:=Ly Aw6 (by rw[hBn];exact hr) hq
 have Big:=Aki.one q5;have A25:(fn.results.mapM (Ax0 a'.tmps)).run P w= .ok cs.toArray w:=by
  rw[Ak1,Sem.run_map,q4];rfl
 have hd:=q2.down hBw hBh hBn had han;have A7i:∃v,(results fn a'.tmps).run P w= .ok v w∧Ts G2 (σ2.Amk fn.ntmps) Fr w (Bn fn.ntmps w0.n (st2.drop fn.ntmps)) (val a w0) (G7 us) v:=by
  rw[Ft,Sem.run_bind,A25]
  match us,cs,q5,Big with
  | [],[],_,_=>exact⟨.tuple #[],by simp[Result.andThen],[], #[],rfl,rfl,rfl⟩
  | [u],[v],h5,_=>
    obtain⟨c',d',e',h6,_⟩:=h5;cases e';exact⟨v,by simp[Result.andThen],h6⟩
  |u::u'::us,v::v'::cs,h5,_=>
   exact⟨.tuple (v::v'::cs).toArray,by simp[Result.andThen],u::u'::us,_,rfl,rfl,S5 _ _ _ _ h5⟩
 obtain⟨v,h1,h2⟩:=A7i;exact⟨v,h1,_,G2,_,_,Bo (K:=fun st'=>K (G7 us) st') q3,q1,hd,h2⟩
theorem U4{n N:Nat}{rs:List Ret}{K:SV→St→Prop}{st:St}(h:Dq P n N rs K st):Aej P n N rs K st:=M.At1 h
theorem Aqw.A2n{f:FuncId}{fn:Func}{c:Code}{s:Stm}{rs:List Ret}{n N:Nat}{az:List D6}{st:St}{K:SV→St→Prop}(hf:P.funcs[f]?=some fn)(hb:fn.body=some c)(hN:fn.ntmps=n)
 (hc:Be P n c s=true) (hr:B1 P n fn.results.toList rs=true) (hn:az.length≤n)
 (h:As1 (En n az st) fun st=>F7 P s noY ⟨Dq P n N rs K,Atg,Dq P n N rs K⟩ st):Aqw P f N az st K:=by
 subst hN;exact⟨A99.Az8 hf hb hc hn (Zj hr) (Ny (Q:=⟨Dq P fn.ntmps N rs K,Atg,Dq P fn.ntmps N rs K⟩) Fx (fun _ h=>U4 h) (fun _ _ h=>h) (fun _ h=>U4 h)
  (Bo (K:=fun st=>F7 P s noY ⟨Dq P fn.ntmps N rs K,Atg,Dq P fn.ntmps N rs K⟩ st) h))⟩
end

def A8k:List Ret→(List D→M)→M
 | [],k=>k []
 | .t n::r,k=>M6 (.t n) fun u=>A8k r fun us=>k (u::us)
 | .cell n agg sz::r,k=>.get n fun ver sv=>match sv with
   | .own _ t=>match t with
     | .ptr u=>.Hh (u.isAgg=agg∧u.size=sz) fun _=>.set n (ver+1) .no (A8k r fun us=>k (u::us))
     |_=>.fail
   |_=>.fail
def Bb8:List D→SV
 | [u]=>match u with
   | .it x=>.v x
   |u=>.own [] u
 |us=>.Ati us
def Bhs(P:Program)(N:Nat)(rs:List Ret)(args:List SV)(R:SV→List SV→Prop)(st:St):Prop:=
 (A8k rs fun us=>.chk fun st'=>Am1 (R (Bb8 us) (Bi N st' 0 args)) (Bi N st' 0 args)).wp P (fun _=>False) st
def Ud(P:Program)(N:Nat)(rs:List Ret)(args:List SV)(R:SV→List SV→Prop)(st:St):Prop:=
 (A8k rs fun us=>.chk fun st'=>Am1 (R (Bb8 us) (Bi N st' 0 args)) (Bi N st' 0 args)).wq P (fun _=>False) st
def Bp0(P:Program)(N:Nat)(s:Stm)(rs:List Ret)(args:List SV)(R:SV→List SV→Prop):Prop:=
 As1 (entry N args) fun st=>F7 P s noY ⟨Ud P N rs args R,Atg,Ud P N rs args R⟩ st
section
variable{P:Program}{N:Nat}{G:Mem}{σ:Lab}{Fr:Mem}{w0:Base}{w:World}{st:St}{a:Act}
theorem Qe{Q:St→Prop}:∀{rs:List Ret} {rv:List ResultVar} {k:List D→M} {G:Mem} {σ:Lab} {st:St},Rel G σ Fr w0 st a w→B1 P w0.n rv rs=true→(A8k rs k).wp P Q st→
 ∃us cs bs G' σ' st',G.le G'∧Rel G' σ' Fr w0 st' a w∧(k us).wp P Q st'∧(rv.mapM (Ax0 a.tmps)).run P w= .ok cs w∧Aiz G' w us cs bs∧bs.Nodup∧
  (∀b∈bs,G' b=none∧Fr b=none∧σ' b=none∧b<w.heap.size)∧(∀b∈bs,σ b≠none)∧∀b,σ b=none→G b=none→σ' b=none∧G' b=none
 | [],[],k,G,σ,st,hr,_,hq=>⟨[],[],[],G,σ,st,Mem.le.refl G,hr,hq,by simp,by simp[Aiz],Ach,by simp,by simp,fun _ h1 h2=>⟨h1,h2⟩⟩
 | .t n::rs,.tmp m::rv,k,G,σ,st,hr,ho,hq=>by
   simp only[B1,Ap,beq_iff_eq,decide_eq_true_eq]at ho;obtain⟨⟨rfl,h1⟩,h2⟩:=ho;obtain⟨u,b1,G1,σ1,st1,g1,g2,g3,g4,g5,g6⟩:=Lv (x:=.tmp m) hr (by simp[Jj,h1]) hq
   obtain⟨us,cs,bs,G2,σ2,st2,q1,q2,q3,q4,q5,q6,q7,q8,q9⟩:=Qe g2 h2 g3;obtain⟨f1,f2,f3,f4⟩:=g4.later q1 q9;refine⟨u::us,a.tmps.getD m undef::cs,b1++bs,G2,σ2,st2,g1.trans q1,q2,q3,?_,?_,?_,?_,?_,?_⟩
   ·simp only[List.mapM_cons,Ax0,Sem.run_bind,Sem.run_pure,Result.andThen,q4]
   ·simp only[Aiz];exact⟨_,cs,b1,bs,rfl,rfl,f2,f1,q5⟩
   ·rw[Hb];refine⟨f3,q6,fun x hx y hy e=>?_⟩
    subst e;exact q8 x hy (g4.2.2.2 x hx).2.2.1
   ·intro b hb;rcases Bv.1 hb with hb|hb
    ·exact f4 b hb
    ·exact q7 b hb
   ·intro b hb hn;rcases Bv.1 hb with Sy|Sy
    ·exact g5 b Sy hn
    ·by_cases hG:G b=none
     ·exact q8 b Sy (g6 b hn hG).1
     ·obtain⟨o,hob⟩:=Option.ne_none_iff_exists'.1 hG;have:=g1 b o hob;have:=q1 b o this;rw[(q7 b Sy).1]at this;cases this
   ·intro b k1 k2;obtain⟨k3,k4⟩:=g6 b k1 k2;exact q9 b k3 k4
 | .cell n agg sz::rs,.cell m t::rv,k,G,σ,st,hr,ho,hq=>by
   simp only[B1,Ap,beq_iff_eq,decide_eq_true_eq]at ho;obtain⟨⟨⟨rfl,h1⟩,ht⟩,h2⟩:=ho;simp only[A8k,M.wp]at hq;cases hs:st[m]? with
   |none=>simp[hs]at hq
   |some cur=>
    obtain⟨ver,sv⟩:=cur;simp only[hs]at hq;split at hq
    ·rename_i inv tr;split at hq
     ·rename_i u;obtain⟨⟨rfl,rfl⟩,hq⟩:=hq;have Akd:Ac5 G σ w m (.ptr u) (a.eval (.tmp m)):=hr.slot h1 hs;obtain⟨bs0,r1,r2,r3,r4⟩:=Akd;rw[J9 r2]at r1;simp only[Fe]at r1;obtain⟨b,cells,ty,bu,e1,e2,e3,rfl⟩:=r1;injection e1 with e1
      have Bee:∀x∈b::bu,σ.drop m x=none:=fun x hx=>by
       obtain⟨kk,hk⟩:=r4 x hx;simp[Lab.drop,hk]
      obtain⟨us,cs,bs,G2,σ2,st2,q1,q2,q3,q4,q5,q6,q7,q8,q9⟩:=Qe (hr.drop hs (Ej ver)) h2 hq;have hf0:∀x∈bu,G x=none∧Fr x=none∧σ.drop m x=none∧x<w.heap.size:=fun x hx=>by
       obtain⟨kk,hk⟩:=r4 x (by simp[hx])
       obtain⟨k1,k2,k3⟩:=hr.Fc.own x _ hk;exact⟨k1,k2,Bee x (by simp[hx]),k3⟩
      have hlen:=Fe.length e3;have A0o:=Fe.one e3;obtain⟨v,hl,hvc,hva⟩:=Sv (P:=P) (w:=w) (t:=t) (agg:=u.isAgg) (b:=b) (off:=0) (bl:=cells) (pre:=[]) (cs:=cells.toList) (post:=[]) (by rw[hlen];exact ht) (by
       intro hag;rw[hlen];cases u<;>first|rfl|(rename_i x;cases x<;>first|rfl|cases hag)|cases hag) e2 (by simp) rfl A0o
      have hev:a.tmps.getD m undef= .pointer (some ⟨b,0,none⟩):=e1;refine⟨u::us,v::cs,bu++bs,G2,σ2,st2,q1,q2,q3,?_,?_,?_,?_,?_,?_⟩
      ·simp only[List.mapM_cons,Ax0,hev,asAddr,Sem.run_bind,Sem.run_pure,Result.andThen,hl,q4]
      ·simp only[Aiz];exact⟨v,cs,bu,bs,rfl,rfl,hva,by rw[hvc];exact e3.tr q1 fun _ _=>rfl,q5⟩
      ·rw[Hb];refine⟨(Hw.1 r3).2,q6,fun x hx y hy e=>?_⟩
       subst e;exact q8 x hy (hf0 x hx).2.2.1
      ·intro x hx;rcases Bv.1 hx with hx|hx
       ·obtain⟨k1,k2,k3,k4⟩:=hf0 x hx;obtain⟨k5,k6⟩:=q9 x k3 k1;exact⟨k6,k2,k5,k4⟩
       ·exact q7 x hx
      ·intro x hx hn;rcases Bv.1 hx with hx|hx
       ·obtain⟨kk,hk⟩:=r4 x (by simp[hx])
        rw[hn]at hk;cases hk
       ·refine q8 x hx ?_;simp[Lab.drop,hn]
      ·intro x k1 k2;exact q9 x (by simp[Lab.drop,k1]) k2
     ·exact hq.elim
    ·exact hq.elim
 | [],_::_,_,_,_,_,_,ho,_=>by simp[B1]at ho
 | .t _::_,[],_,_,_,_,_,ho,_=>by simp[B1]at ho
 | .cell _ _ _::_,[],_,_,_,_,_,ho,_=>by simp[B1]at ho
 | .t _::_,.cell _ _::_,_,_,_,_,_,ho,_=>by simp[B1]at ho
 | .cell _ _ _::_,.tmp _::_,_,_,_,_,_,ho,_=>by simp[B1]at ho
theorem Abg{fn:Func}{rs:List Ret}{args:List SV}{Ad3:SV→List SV→Prop}(hr:B1 P fn.ntmps fn.results.toList rs=true):Ends P fn args Ad3 (Bhs P fn.ntmps rs args Ad3):=by
 intro G Fr w Ahz a w' G' σ' st hlen hn hG Hm hq
 let B:Base:=⟨w,fn.ntmps,Ahz⟩
 obtain⟨us,cs,bs,G2,σ2,st2,q1,q2,⟨q3,q3'⟩,q4,q5,q6,q7,q8,q9⟩:=Qe Hm hr hq;have q3':=Gm q3';have A25:(fn.results.mapM (Ax0 a.tmps)).run P w'= .ok cs.toArray w':=by
  rw[Ak1,Sem.run_map,q4];rfl
 let σ3:Lab:=(σ2.Amk fn.ntmps).Anp args.length 0 bs
 have hun:∀{b s k},σ2.Amk fn.ntmps b=some (s,k)→σ2 b=some (fn.ntmps+s,k):=by
  intro b s k hb;unfold Lab.Amk at hb;split at hb
  ·rename_i s' k' h1;split at hb
   ·rename_i hle;simp only[A0,He]at hb;obtain⟨rfl,rfl⟩:=hb;rw[h1,show fn.ntmps+(s' - fn.ntmps)=s' by omega]
   ·cases hb
  ·cases hb
 have Awm:WOk G2 (σ2.Amk fn.ntmps) Fr ⟨w,0, #[]⟩ w':=by
  refine⟨q2.Fc.fixed,?_,?_,q2.Fc.frame,q2.Fc.os,q2.Fc.tape,q2.Fc.output,q2.Fc.size,q2.Fc.apart,q2.Fc.amb⟩
  ·rintro b ⟨s,k⟩ hb;exact q2.Fc.own b _ (hun hb)
  ·rintro b b' ⟨s,k⟩ hb Sy;exact q2.Fc.inj b b' _ (hun hb) (hun Sy)
 let σ2':Lab:=fun b=>match σ2.Amk fn.ntmps b with
  |some (s,k)=>if s<args.length then some (s,k)else none
  |none=>none
 have hle:∀{b Gf},σ2' b=some Gf→σ2.Amk fn.ntmps b=some Gf∧Gf.1<args.length:=by
  intro b Gf hb;simp only[σ2']at hb;split at hb
  ·rename_i s k h1;split at hb
   ·rename_i Ze;cases hb;exact⟨h1,Ze⟩
   ·cases hb
  ·cases hb
 have Bij:WOk G2 σ2' Fr ⟨w,0, #[]⟩ w':=⟨Awm.fixed,fun b Gf hb=>Awm.own b Gf (hle hb).1,fun b b' Gf hb Sy=>Awm.inj b b' Gf (hle hb).1 (hle Sy).1,Awm.frame,Awm.os,Awm.tape,Awm.output,Awm.size,Awm.apart,Awm.amb⟩
 have Bt8:WOk G2 (σ2'.Anp args.length 0 bs) Fr ⟨w,0, #[]⟩ w':=Bij.Anp (fun b k hb=>absurd (hle hb).2 (Nat.lt_irrefl _)) fun b hb=>⟨(q7 b hb).1,(q7 b hb).2.1,(q7 b hb).2.2.2⟩
 have Bp9:∀b∈bs,∃k,(σ2'.Anp args.length 0 bs) b=some (args.length,k):=fun b hb=>⟨_,Lab.Asm hb⟩
 have A7i:∃v,(results fn a.tmps).run P w'= .ok v w'∧(Bb8 us).root=none∧Ab1 G2 (σ2'.Anp args.length 0 bs) w' args.length (Bb8 us) v:=by
  rw[Ft,Sem.run_bind,A25]
  match us,cs,q5,Bp9 with
  | [],[],h5,hl=> 
    simp only[Aiz]at h5;exact⟨.tuple #[],by simp[Result.andThen],rfl, #[],bs,rfl,by simp[Aiz,h5.2],q6,hl⟩
  | [u],cs,h5,hl=>
    simp only[Aiz]at h5;obtain⟨v,_,b1,_,rfl,rfl,hva,hrv,rfl,rfl⟩:=h5;refine⟨v,by simp[Result.andThen],?_⟩
    cases u with
    |it x=>
     refine⟨rfl,?_⟩;show C7 G2 x v;simp only[Fe]at hrv;simp only[D.isAgg]at hva;unfold C7;cases hx:x.isAgg with
     |true=>
      rw[hx]at hva;obtain⟨a',rfl⟩:=Nr hva;rw[if_pos rfl];exact⟨a',rfl,hrv.1⟩
     |false=>
      rw[hx]at hva;rw[J9 hva]at hrv;rw[if_neg (by simp)]
      exact hrv.1
    |_=>exact⟨rfl,b1,hrv,hva,by simpa using q6,fun b hb=>hl b (by simpa using hb)⟩
  |u::u'::us,cs,h5,hl=>
   have h5':=h5;simp only[Aiz]at h5;obtain⟨v,_,_,_,rfl,_,_,_,v',_,_,_,rfl,_⟩:=h5;exact⟨.tuple (v::v'::_).toArray,by simp[Result.andThen],rfl,_,bs,rfl,h5',q6,hl⟩
 obtain⟨v,hv1,hv0,hv2⟩:=A7i;refine⟨v,hv1,Bb8 us,Bi fn.ntmps st2 0 args,v,G2,_,rfl,q3,hG.trans q1,Bt8,hv0,hv2,Ea args 0,?_⟩;intro i sv hi;refine⟨q3' sv (Cb hi),?_⟩;rw[C8]at hi;cases Ays:args[i]? with
 |none=>simp[Ays]at hi
 |some sv0=>
  have hil:i<args.length:=(A7.1 Ays).1;simp only[Ays,Fq,A0,E3]at hi;split at hi
  ·cases hst:st2[fn.ntmps+i]? with
   |none=>simp only[hst]at hi;subst hi;trivial
   |some cur=>
    obtain⟨ver,sv1⟩:=cur;simp only[hst]at hi;subst hi;have Dh:=q2.Eb _ _ _ hst;have Asb:=q3' sv1.clean (by
     apply Cb (i:=i);rw[C8,Ays];simp only[Fq,E3,hst];rename_i hl;rw[if_pos hl])
    rw[K2]at Asb;rw[Ait.own Asb]at Dh;have Art:val a B (fn.ntmps+i)=Ahz.getD i undef:=by
     unfold val;rw[Bt,Aah (by rw[q2.n];exact Nat.le_add_right _ _),q2.n,Bt]
     simp[B]
    rw[Art]at Dh;rw[My];refine Ab1.tr Dh (Mem.le.refl G2) fun b k hb=>⟨?_,rfl⟩
    rw[Lab.Asn]
    ·simp only[σ2',Lab.Amk,hb];simp[hil]
    ·intro hm;rw[(q7 b hm).2.2.1]at hb;cases hb
  ·subst hi;trivial
theorem Fn.Bi5{f:FuncId}{fn:Func}{c:Code}{s:Stm}{rs:List Ret}{args:List SV}{Ad3:SV→List SV→Prop}{N:Nat}(hf:P.funcs[f]?=some fn)(hb:fn.body=some c)(hN:fn.ntmps=N)
 (hc:Be P N c s=true) (hr:B1 P N fn.results.toList rs=true) (hn:args.length≤N) (h:Bp0 P N s rs args Ad3):Fn P f args Ad3:=by
 subst hN;refine Fn.Az8 hf hb hc hn (Abg hr) ?_;have h:=Bo h;exact Ny (Q:=⟨Ud P fn.ntmps rs args Ad3,Atg,Ud P fn.ntmps rs args Ad3⟩) (Q':=⟨Bhs P fn.ntmps rs args Ad3,Atg,Bhs P fn.ntmps rs args Ad3⟩) Fx (fun st h=>M.At1 h) (fun _ _ h=>h) (fun st h=>M.At1 h) h
end

section
variable{P:Program}
def A2z(P:Program)(f F:FuncId)(T:TypeId):Prop:=
 ∀(mb:Option Nat) (W:World),Calls P f #[.map mb] W fun e w'=>e= .returned (.func (.func F) #[] #[.pointer (some ⟨W.heap.size,0,none⟩)])∧w'=W.alloc (.cells #[.map mb] T)
theorem Ad0{f F:FuncId}{T:TypeId}{N n:Nat}{st:St}{K:SV→St→Prop}(hC:A2z P f F T)
 (hq:(rdH (.t n) fun s cur _ t p=>match D.at p t with
   |some u=>match u with
    | .map _ _=>.chk fun st=>K (.kcl F s cur p) st
    |_=>.fail
   |none=>.fail).wq P (fun _=>False) st):Aqw P f N [.t n] st K:=by
 refine⟨fun G σ Fr w0 a w xs hN hr ho=>?_⟩
 subst hN
 match xs,ho with
 |x::y::r,ho=>cases y<;>simp[As0]at ho
 | [x],ho=>
   simp only[As0,Bool.and_true]at ho;obtain⟨s,cur,inv,t,p,h3,hs,hHd⟩:=Ue hr ho (M.At1 hq);split at h3
   ·rename_i u C3;split at h3
    ·rename_i ks vs;obtain⟨bs,Dh,hva,hnd,Aoe⟩:=show Ac5 G σ w s t (val a w0 s)from hr.Eb s cur _ hs;obtain⟨mm,s',ubs,f1,f2,f3,f4,f5,f6⟩:=focus (here:=none) Dh hnd C3
     have Bs3:=hHd;obtain⟨x0,hh0,Bd9,A9y,Aug⟩:=Bs3;rw[Aug]at f1;obtain rfl:=Aag f1;simp only[Fe]at f2;obtain⟨b,es,clock,kc,vc,bs0,e1, -⟩:=f2;injection e1 with e1
     have he:a.eval x= .map (some b):=e1;have Azi:([x].map a.eval).toArray= #[.map (some b)]:=by simp[he]
     rw[Azi];refine(hC (some b) w).mono ?_;rintro e w' ⟨rfl,rfl⟩;obtain⟨k1,k2,k3⟩:=hr.Fc.fresh (Bz w.heap.size);have hr1:Rel G σ Fr w0 st a (w.alloc (.cells #[.map (some b)] T)):=hr.A5e (World.grownBy_alloc _ _ none) (by intro b e;cases e)
     refine⟨.kcl F s cur p,_,G,σ,st,rfl,h3,Mem.le.refl G,hr1,w.heap.size,.map (some b),T,rfl,⟨k1,k2,k3,by simp⟩,heap_alloc_new w _,_,hs,Bz _,fun Ap9 t' e _=>?_⟩
     cases e;rw[←he];exact hHd.tr (show Ac5 G σ w s t (val a w0 s)from hr.Eb s cur _ hs) fun b' k hb=>⟨hb,K8 w _ b' (hr.Fc.own b' _ hb).2.2⟩
    ·exact h3.elim
   ·exact h3.elim
end

open Go.RowKit
def Dc(l:List (List UInt8)):List (List UInt8):=l.mergeSort fun x y=>decide (x≤y)
def Azp:I→List UInt8
 | .str s=>s
 |_=>[]
def Gq(l:List I):List I:=(Dc (l.map Azp)).map I.str
theorem Acr(l:List (List UInt8)):Gq (l.map I.str)=(Dc l).map I.str:=by
 unfold Gq;rw[List.map_map,show(Azp ∘ I.str)=id from rfl,List.map_id]
section
variable{P:Program}
def Aym(P:Program)(f F:FuncId)(E:TypeId):Prop:=
 ∀(g b:Nat) (es:Array MapEntry) (clock:Nat) (ss:List (List UInt8)) (W:World),W.cell? ⟨g,0,none⟩=some (.map (some b))→W.heap[b]?=some (.map es clock)→es.toList.map (·.key)=ss.map (fun s=>Value.string ⟨⟨s⟩⟩)→ss.Nodup→
  (es.toList.map (·.born)).Pairwise (· < ·)→(∀e∈es.toList,e.born<clock)→ss.length≤1000000→(∀s∈ss,s.length≤maxLen)→g<W.heap.size→
  Calls P f #[.func (.func F) #[] #[.pointer (some ⟨g,0,none⟩)]] W fun e w'=>∃v,e= .returned v∧w'.ownsRow W.heap.size E 1 v ss.length ((Dc ss).map fun s=>Value.string ⟨⟨s⟩⟩)∧Below W.heap.size W w'
variable{G:Mem}{σ:Lab}{Fr:Mem}{w0:Base}{w:World}{st:St}{a:Act}
theorem Rel.Bmt{g:Nat}{o:Obj}(h:Rel G σ Fr w0 st a w)(hG:G g=none)(hF:Fr g=none)(hS:σ g=none)(ho:w.heap[g]?=some o):G.le (G.Cx g o)∧Rel (G.Cx g o) σ Fr w0 st a w:=by
 have hle:G.le (G.Cx g o):=fun b x hb=>by
  rw[Mem.Auk (by rintro rfl;rw[hG]at hb;cases hb)]
  exact hb
 refine⟨hle,⟨⟨?_,?_,h.Fc.inj,h.Fc.frame,h.Fc.os,h.Fc.tape,h.Fc.output,h.Fc.size,?_,?_⟩,h.defers,h.n,h.len,fun s ver sv hs=>(h.Eb s ver sv hs).Asq hle (fun s' b k hb=>⟨hb,rfl⟩) h.Eb,h.As8⟩⟩
 ·intro b x hb;by_cases e:b=g
  ·subst e;rw[Mem.Awa]at hb;cases hb;exact ho
  ·rw[Mem.Auk e]at hb;exact h.Fc.fixed b x hb
 ·intro b Gf hb;have:=h.Fc.own b Gf hb;rw[Mem.Auk (by rintro rfl;rw[hS]at hb;cases hb)]
  exact this
 ·intro b x hb;rw[Mem.Auk (by rintro rfl;rw[hF]at hb;cases hb)]
  exact h.Fc.apart b x hb
 ·exact Amb.mono hle h.Fc.amb
def rdK(n:Nat)(F:FuncId)(k:List I→M):M:=.get n fun _ sv=>match sv with
 | .kcl F' s v p=>.get s fun _ sv'=>match sv' with
   | .own inv t=>.Hh (F'=F∧J7 v inv p=true) fun _=>match D.at p t with
     |some u=>match u with
      | .map ks _=>.Hh (∀x∈ks,∃s,x= .str s) fun _=>k ks
      |_=>.fail
     |none=>.fail
   |_=>.fail
 |_=>.fail
theorem Abs{ks:List I}:∀{kc:List Value},Aos G ks kc→(∀x∈ks,∃s,x= .str s)→kc=(ks.map Azp).map (fun s=>Value.string ⟨⟨s⟩⟩)∧∀s∈ks.map Azp,s.length≤maxLen:=by
 induction ks with
 |nil=>
  intro kc h _;simp only[Aos]at h;subst h;exact⟨rfl,by simp⟩
 |cons x ks ih=>
  intro kc h hs;simp only[Aos]at h;obtain⟨v,c',rfl,hv,hr,h2⟩:=h;obtain⟨s,rfl⟩:=hs x (by simp)
  obtain⟨h3,h4⟩:=ih h2 fun y hy=>hs y (by simp[hy])
  have h5:=J9 (c:=v) hv;rw[h5]at hr;simp only[D8,Ajg,and_true]at hr;obtain⟨rfl,hl⟩:=hr;refine⟨by rw[h3];rfl,?_⟩
  intro s' hs';simp only[Cy,Bg]at hs';rcases hs' with rfl|hs'
  ·exact hl
  ·exact h4 s' hs'
theorem S8{G:Mem}:∀(l:List (List UInt8)),(∀s∈l,s.length≤maxLen)→F9 G (l.map I.str) (l.map fun s=>Value.string ⟨⟨s⟩⟩)
 | [],_=>by simp[F9]
 |s::l,h=>by
  simp only[Cy,F9];exact⟨[_],_,rfl,by simp only[D8,true_and];exact h s (by simp),S8 l fun x hx=>h x (by simp[hx])⟩
theorem Zo{f F:FuncId}{E:TypeId}{N n:Nat}{st:St}{K:SV→St→Prop}(hC:Aym P f F E)
 (hq:(rdK n F fun ks=>.Hh (ks.length≤1000000∧(ks.map Azp).Nodup) fun _=>.chk fun st=>K (.v (.list (Gq ks))) st).wq P (fun _=>False) st):Aqw P f N [.t n] st K:=by
 refine⟨fun G σ Fr w0 a w xs hN hr ho=>?_⟩
 subst hN
 match xs,ho with
 |x::y::r,ho=>cases y<;>simp[As0]at ho
 | [x],ho=>
   simp only[As0,Bool.and_true]at ho;obtain⟨rfl,Ze⟩:=J0 ho
   replace hq:=M.At1 hq
   simp only[rdK,M.wp]at hq;cases hn:st[n]? with
   |none=>simp[hn]at hq
   |some cur=>
    obtain⟨vn,sv⟩:=cur;simp only[hn]at hq;cases sv with
    |kcl F' s v p=>
     simp only[M.wp]at hq;cases hs:st[s]? with
     |none=>simp[hs]at hq
     |some Amr=>
      obtain⟨vs,sv'⟩:=Amr;simp only[hs]at hq;cases sv' with
      |own inv t=>
       simp only[M.wp]at hq;obtain⟨⟨rfl,hal⟩,hq⟩:=hq;cases C3:D.at p t with
       |none=>rw[C3]at hq;exact hq.elim
       |some u=>
        rw[C3]at hq;cases u with
        |map ks vl=>
         obtain⟨hks,⟨hkl,Btz⟩,hK⟩:=hq;obtain⟨g,c0,ty,kk,hc,hg1,hg2,A4j,g1,g2,g3⟩:=hr.slot Ze hn;rw[hs]at g1;cases g1;have hHd:=g3 inv t rfl hal;obtain⟨bs,Dh,hva,hnd,Aoe⟩:=show Ac5 G σ w s t (val a w0 s)from hr.Eb s _ _ hs;obtain⟨mm,s',ubs,f1,f2,f3,f4,f5,f6⟩:=focus (here:=none) Dh hnd C3
         obtain⟨x0,hh0,Bd9,A9y,Aug⟩:=hHd;rw[Aug]at f1;obtain rfl:=Aag f1;simp only[Fe]at f2;obtain⟨b,es,clock,kc,vc,bs0,e1,e2,e3,e4,e5,e6,e7,e8,e9⟩:=f2;injection e1 with e1
         subst e1;obtain⟨k1,k2⟩:=Abs e5 hks;have hgl:=(hr.Fc.own g _ hg1).2.2;have Auv:w.cell? ⟨g,0,none⟩=some (.map (some b)):=by
          simp[World.cell?,hg2]
         have Azi:([Operand.tmp n].map a.eval).toArray= #[.func (.func F') #[] #[.pointer (some ⟨g,0,none⟩)]]:=by simp[hc]
         rw[Azi];refine(hC g b es clock (ks.map Azp) w Auv e2 (by rw[e3,k1]) Btz e7 e8 (by simpa using hkl) k2 hgl).mono ?_
         rintro e w' ⟨v',rfl,Ars,hb⟩;have hgr:w.grownBy w' none:=⟨hb.os,hb.tape,hb.output,hb.size,fun k hk _=>hb.block k hk⟩
         have hr1:Rel G σ Fr w0 st a w':=hr.A5e hgr (by intro b e;cases e)
         have hlen:(Dc (ks.map Azp)).length=ks.length:=by unfold Dc;rw[List.length_mergeSort,Bh]
         have hst:∀s∈Dc (ks.map Azp),s.length≤maxLen:=fun s hs=>k2 s ((Aor ..).mem_iff.1 hs)
         obtain⟨r1,r2⟩:=Ars;rcases r2 with⟨rfl,hz⟩|⟨gb,cap,cur,rfl,q1,q2,q3,q4,q5,q6⟩
         ·have Bt1:ks=[]:=by
           have:(ks.map Azp).length=0:=hz;exact Aby (by simpa using this)
          refine⟨_,_,G,σ,st,rfl,hK,Mem.le.refl G,hr1,?_⟩;subst Bt1;show C7 G (.list (Gq [])) _;have:Gq []=[]:=by simp[Gq,Dc]
          rw[this];unfold C7;rw[if_neg (by simp[I.isAgg])]
          unfold D8;exact⟨none,0,rfl,Bz _,Cr _,.inl rfl⟩
         ·obtain⟨z1,z2,z3⟩:=hr.Fc.fresh q1;obtain⟨hle,hr2⟩:=hr1.Bmt z1 z2 z3 q2;refine⟨_,_,_,σ,st,rfl,hK,hle,hr2,?_⟩;show C7 _ (.list (Gq ks)) _;simp only[C7,I.isAgg,D8,Ado,if_false];have hsl:(Gq ks).length=(ks.map Azp).length:=by unfold Gq;rw[Bh,hlen,Bh]
          refine⟨some ⟨gb,0,none⟩,cap,by rw[hsl],by rw[hsl];exact q3,q4,.inr ⟨gb,0,cur,E,(0,0),1,rfl,Mem.Awa,?_,?_,?_⟩⟩
          ·intro y hy;obtain⟨s,_,rfl⟩:=X4.1 hy;rfl
          ·rw[hsl];omega
          ·rw[hsl,List.drop_zero,q6];exact S8 _ hst
        |_=>exact hq.elim
      |_=>exact hq.elim
    |_=>exact hq.elim
end

open Go.RowKit
section
variable{P:Program}
def OfC(P:Program)(f F:FuncId)(T1 T2:TypeId):Prop:=
 ∀(v1 v2:Value) (W:World),v1.oneCell'=true→v2.oneCell'=true→Calls P f #[v1,v2] W fun e w'=>e= .returned (.func (.func F) #[] #[.pointer (some ⟨W.heap.size+1,0,none⟩),.pointer (some ⟨W.heap.size,0,none⟩)])∧w'=(W.alloc (.cells #[v1] T1)).alloc (.cells #[v2] T2)
theorem Abo{f F:FuncId}{T1 T2:TypeId}{N n m:Nat}{st:St}{K:SV→St→Prop}(hC:OfC P f F T1 T2)
 (hq:(A3n (.t n) X3 fun s v p _=>rdI (.t m) fun x=>.Hh (x.isAgg=false) fun _=>.chk fun st=>K (.ocl F x s v p) st).wq P (fun _=>False) st):Aqw P f N [.t n,.t m] st K:=by
 refine⟨fun G σ Fr w0 a w xs hN hr ho=>?_⟩
 subst hN
 match xs,ho with
 | [],ho=>simp[As0]at ho
 | [x],ho=>simp[As0]at ho
 |x::y::z::r,ho=>simp[As0]at ho
 | [x,y],ho=>
   simp only[As0,Bool.and_true,Ap]at ho;obtain⟨s,cur,inv,tr,p,u,r,v,h1,hs,hp0,hpt,C3,hf,hle⟩:=Mo hr ho.1 (M.At1 hq);obtain⟨i,h2,hi⟩:=J8 hr ho.2 h1;obtain⟨hag,hK⟩:=h2;have Azi:([x,y].map a.eval).toArray= #[a.eval x,a.eval y]:=by simp
   rw[Azi];have Bud:=hpt;obtain⟨v0,b,off,cs,g1,g2,g3⟩:=Bud;have hy:D8 G i [a.eval y]:=by
    unfold C7 at hi;rw[hag]at hi;exact hi
   refine(hC (a.eval x) (a.eval y) w (by rw[g3];rfl) (D8.one i _ hy _ (by simp))).mono ?_
   rintro e w' ⟨rfl,rfl⟩;have hr1:Rel G σ Fr w0 st a (w.alloc (.cells #[a.eval x] T1)):=hr.A5e (World.grownBy_alloc _ _ none) (by intro b e;cases e)
   obtain⟨k1,k2,k3⟩:=hr.Fc.fresh (Bz w.heap.size);obtain⟨j1,j2,j3⟩:=hr1.Fc.fresh (Bz _);have hr2:Rel G σ Fr w0 st a ((w.alloc (.cells #[a.eval x] T1)).alloc (.cells #[a.eval y] T2)):=hr1.A5e (World.grownBy_alloc _ _ none) (by intro b e;cases e)
   have Hr:(w.alloc (.cells #[a.eval x] T1)).heap.size=w.heap.size+1:=by simp
   rw[Hr]at j1 j2 j3;have Ak3:=heap_alloc_new (w.alloc (.cells #[a.eval x] T1)) (.cells #[a.eval y] T2);rw[Hr]at Ak3;refine⟨.ocl F i s v p,_,G,σ,st,rfl,hK,Mem.le.refl G,hr2,w.heap.size+1, #[a.eval y],T2,⟨j1,j2,j3,by simp⟩,Ak3,hy,w.heap.size,a.eval x,T1,⟨rfl,by omega⟩,⟨k1,k2,k3,by simp;omega⟩,?_,_,hs,hle,fun Ap9 t' e' _ _=>?_⟩
   ·rw[K8 _ _ _ (by rw[Hr];omega)]
    exact heap_alloc_new w _
   ·cases e';refine hpt.tr (show Ac5 G σ w s tr (val a w0 s)from hr.Eb s cur _ hs) fun b' k hb=>⟨hb,?_⟩
    have Ze:=(hr.Fc.own b' _ hb).2.2;rw[K8 _ _ b' (by rw[Hr];omega)]
    exact K8 w _ b' Ze
end

def A2y(n N m1 m2:Nat)(K:SV→St→Prop)(st:St):Prop:=look st m1 fun _ sv=>look st m2 fun _ sv2=>match sv2 with
 | .v (.bool b)=>match sv with
   | .pd s ver p=>n≤s∧As1 (Bn n N (st.drop n)) fun st'=>K (.pdt (s - n) ver p b) st'
   | .own _ t=>As1 (Bn n N (st.drop n)) fun st'=>K (.Ati [t,.it (.bool b)]) st'
   |_=>False
 |_=>False
section
variable{P:Program}
theorem Adu{fn:Func}{N m1 m2:Nat}{K:SV→St→Prop}(hr:fn.results= #[.tmp m1,.tmp m2])(h1:m1<fn.ntmps)(h2:m2<fn.ntmps):Uq P fn N K (A2y fn.ntmps N m1 m2 K):=by
 intro G σ Fr w0 B a a' w st hN Aw6 hBw hBh hBn had han hq;subst hN;obtain⟨⟨v1,sv1⟩,k1,hq⟩:=Ca hq;obtain⟨⟨v2,sv2⟩,k2,hq⟩:=Ca hq;have hd:=Aw6.down hBw hBh hBn had han;have Hr:a'.tmps.size=fn.ntmps:=by rw[Aw6.n,hBn]
 have e1:=Aw6.slot (by rw[hBn];exact h1) k1
 have e2:=Aw6.slot (by rw[hBn];exact h2) k2
 have Aw7:(results fn a'.tmps).run P w= .ok (.tuple #[a'.eval (.tmp m1),a'.eval (.tmp m2)]) w:=by
  rw[Ft,Sem.run_bind,hr,Ak1,Sem.run_map];simp[Ax0,Result.andThen,Act.eval,Bt]
 have Aup:∀i,val a' B (i+fn.ntmps)=val a w0 i:=by
  intro i;unfold val;rw[Bt,Aah (by omega),Hr,Amh,hBh,Bt]
 have hlen:fn.ntmps≤st.length:=by have:=Aw6.len;omega
 obtain⟨b,rfl⟩:∃b,sv2= .v (.bool b):=by
  cases sv2 with
  |v x=>cases x with
   |bool b=>exact⟨b,rfl⟩
   |_=>exact hq.elim
  |_=>exact hq.elim
 have e2:a'.eval (.tmp m2)= .bool b:=by
  have:C7 G (.bool b) (a'.eval (.tmp m2)):=e2;rwa [C7.bool]at this
 rw[e2]at Aw7;cases sv1 with
 |pd s ver p=>
  obtain⟨hle,hq⟩:=hq;have hq:=Bo (K:=fun st'=>K (.pdt (s - fn.ntmps) ver p b) st') hq
  refine⟨_,Aw7,_,G,_,_,hq,Mem.le.refl G,hd,?_⟩;refine⟨_,rfl,?_⟩;have:=Ait.down (G:=G) (σ:=σ) (w:=w) (st':=st) (vv:=val a w0) (vv':=val a' B) (N:=w0.n) (s:=0) (sv:=.pd s ver p) (c:=a'.eval (.tmp m1)) Aup e1 hlen;simp only[SV.down,if_pos hle]at this;exact this
 |own inv t=>
  have hq:=Bo (K:=fun st'=>K (.Ati [t,.it (.bool b)]) st') hq
  refine⟨_,Aw7,_,G,_,_,hq,Mem.le.refl G,hd,?_⟩;obtain⟨bs,q1,q2,q3,q4⟩:=(show Ac5 G σ w m1 t (a'.eval (.tmp m1))from e1);refine⟨_,rfl,bs,q1,q2,q3,fun x hx=>?_⟩
  obtain⟨k,hk⟩:=q4 x hx;obtain⟨j1,j2,j3⟩:=Aw6.Fc.own x _ hk;refine⟨j1,j2,?_,j3⟩;unfold Lab.Amk;rw[hk];simp only;rw[if_neg (by omega)]
 |_=>exact hq.elim
theorem Aqw.Bi6{f:FuncId}{fn:Func}{c:Code}{s:Stm}{n N m1 m2:Nat}{az:List D6}{st:St}{K:SV→St→Prop}(hf:P.funcs[f]?=some fn)(hb:fn.body=some c)(hN:fn.ntmps=n)
 (hc:Be P n c s=true) (hr:fn.results= #[.tmp m1,.tmp m2]) (h1:m1<n) (h2:m2<n) (hn:az.length≤n)
 (h:As1 (En n az st) fun st=>F7 P s noY ⟨A2y n N m1 m2 K,Atg,A2y n N m1 m2 K⟩ st):Aqw P f N az st K:=by
 subst hN;exact⟨A99.Az8 hf hb hc hn (Adu hr h1 h2) (Ny (Q:=⟨A2y fn.ntmps N m1 m2 K,Atg,A2y fn.ntmps N m1 m2 K⟩) Fx (fun _ h=>h) (fun _ _ h=>h) (fun _ h=>h)
  (Bo (K:=fun st=>F7 P s noY ⟨A2y fn.ntmps N m1 m2 K,Atg,A2y fn.ntmps N m1 m2 K⟩ st) h))⟩
end
end Go.Ab
