/- Lemmas -/
import Derived.Test.YtkpojedpcabojaaGreatDoorAb21
import Derived.Sort.Walk0
import Derived.Below
set_option linter.unusedVariables false
set_option linter.unusedSimpArgs false
namespace Go.Ab
abbrev A1:=List UInt8
theorem Kq(a b:A1):Op.bytesLess a b=decide (a<b):=Go.Proofs.bytesLess_eq a b
structure Sp where
 f:A1
 t:A1
 deriving DecidableEq
def Sp.Ap(s:Sp):I:=.agg [.str s.f,.str s.t]
def Wo(s:Sp):Prop:=s.f.length≤65∧s.t.length≤65∧(s.t=[]∨s.f<s.t)
instance(s:Sp):Decidable (Wo s):=by unfold Wo;infer_instance
def R8(s:Sp)(k:A1):Prop:=s.f≤k∧(s.t=[]∨k<s.t)
instance(s:Sp)(k:A1):Decidable (R8 s k):=by unfold R8;infer_instance
def Keys(u:List Sp)(k:A1):Prop:=∃s∈u,R8 s k
def A9c(s:Sp):Prop:=s.t=[]∨s.f<s.t
def Canon(l:List Sp):Prop:=(∀x∈l,A9c x)∧l.Pairwise fun x y=>x.t≠[]∧x.t<y.f
theorem A9c.has{s:Sp}(h:A9c s):R8 s s.f:=⟨Std.le_refl _,h⟩
theorem Canon.tail{s:Sp}{r:List Sp}(h:Canon (s::r)):Canon r:=⟨fun x hx=>h.1 x (Au _ hx),(B1.1 h.2).2⟩
theorem Canon.gap{s:Sp}{r:List Sp}(h:Canon (s::r)):∀x∈r,s.t≠[]∧s.t<x.f:=(B1.1 h.2).1
theorem Canon.Bx3{s:Sp}{r:List Sp}(h:Canon (s::r)):A9c s:=h.1 s (Ar ..)
theorem Canon.key{s:Sp}{r:List Sp}(h:Canon (s::r)):Keys (s::r) s.f:=⟨s,Ar ..,h.Bx3.has⟩
theorem Canon.end{s:Sp}{r:List Sp}(h:Canon (s::r))(ht:s.t≠[]):¬Keys (s::r) s.t:=by
 rintro⟨x,hx,hk⟩;rcases Ah.1 hx with rfl|hx
 ·have:=hk.2
  grind
 ·have h1:=h.gap x hx;have h2:=hk.1
  grind
def Bkq(a b:A1):Prop:=a≠b∧(a=[]∨(b≠[]∧b<a))
instance(a b:A1):Decidable (Bkq a b):=by unfold Bkq;infer_instance
structure B1x(d u:List Sp):Prop where
 canon:Canon u
 keys:∀k,Keys u k↔Keys d k
 ends:∀x∈u,(∃s∈d,x.f=s.f)∧∃s∈d,x.t=s.t
 some:d≠[]→u≠[]

def Bj5{α S R:Type}(step:S→α→S ⊕ R)(fin:S→R):List α→S→R
 | [],s=>fin s
 |a::r,s=>match step s a with
  | .inl s'=>Bj5 step fin r s'
  | .inr x=>x
structure Bc7{α S R:Type}(ks:List Nat)(st0:St)(l:List α)(step:S→α→S ⊕ R)(fin:S→R)(Ans:R)(Aan:Nat→S→List (Nat × SV))(inv:Nat→S→Prop)(k:Nat)(st:St):Prop where
 out:∃s',norm ks st=Dy st0 (Aan (k+1) s')∧inv (k+1) s'∧Bj5 step fin (l.drop (k+1)) s'=Ans
theorem Bc7.by{α S R:Type}{ks:List Nat}{st0:St}{l:List α}{step:S→α→S ⊕ R}{fin:S→R}{Ans:R}{Aan:Nat→S→List (Nat × SV)}{inv:Nat→S→Prop}{k:Nat}{st:St}
 (s':S) (h1:norm ks st=Dy st0 (Aan (k+1) s')) (h2:inv (k+1) s') (h3:Bj5 step fin (l.drop (k+1)) s'=Ans):Bc7 ks st0 l step fin Ans Aan inv k st:=⟨s',h1,h2,h3⟩
theorem Be{α:Type}{f:α→I}{l:List α}{k:Nat}{e:α}(h:l[k]?=some e):(l.map f)[Int.toNat (k:Int)]?=some (f e):=by
 rw[Hq,B2,h];rfl
theorem size_map{α:Type}{f:α→I}{l:List α}{n:Nat}(h:∀a,(f a).size=n):∀u∈l.map f,u.size=n:=by
 intro u hu;obtain⟨a,_,rfl⟩:=Cs.1 hu;exact h a

theorem Eu:(∀(p:Prop) [Decidable p],(decide p=true)=p)∧(∀(p:Prop) [Decidable p],(decide p=false)=¬p)∧(∀b:Bool,((!b)=true)=(b=false))∧(∀b:Bool,((!b)=false)=(b=true))∧
 (∀b:Bool,(¬b=true)=(b=false))∧(∀b:Bool,(¬b=false)=(b=true))∧(∀a b:Int,(¬a<b)=(b≤a))∧(∀a b:Int,(¬a≤b)=(b<a))∧
 (∀(α β:Type) (f:α→β) (l:List α),(l.map f).length=l.length)∧(∀(α:Type) (l m:List α),(l++m).length=l.length+m.length)∧(∀(α:Type) (a:α) (l:List α),(a::l).length=l.length+1)∧(∀(α:Type),([]:List α).length=0)∧
 (∀(α:Type) (l:List α) (i:Nat) (a:α),(l.set i a).length=l.length)∧(∀(α:Type) (n:Nat) (a:α),(List.replicate n a).length=n)∧(∀(α:Type) (i:Nat) (l:List α),(l.take i).length=min i l.length)∧(∀(α:Type) (i:Nat) (l:List α),(l.drop i).length=l.length - i)∧
 (∀n:Nat,Int.toNat (n:Int)=n)∧maxLen=9223372036854775807:=by
 refine⟨?_,?_,?_,?_,?_,?_,?_,?_,?_,?_,?_,?_,?_,?_,?_,?_,?_,rfl⟩<;>intros<;>simp
theorem Dq:(∀{α:Type} {a:α} {b c:List α},(a::b)++c=a::(b++c))∧(∀{α:Type} {b:List α},[]++b=b)∧(∀{α:Type} {a:α} {b c:List α},List.append (a::b) c=a::List.append b c)∧(∀{α:Type} {b:List α},List.append [] b=b)∧(∀{α:Type} {a:α} {b:List α},(a::b)[0]?=some a)∧(∀{α:Type} {a:α} {b:List α} {n:Nat},(a::b)[n+1]?=b[n]?)∧(∀{n:Nat},Int.toNat (n:Int)=n)∧
 (∀{α:Type} {xs:List α} {i:Nat} {a:α},(xs.set i a)[i]?=Function.const α a<$>xs[i]?)∧(∀{α β:Type} {f:α→β} {o:Option α},f<$>o=o.map f)∧(∀{α β:Type} {f:α→β} {a:α},(some a).map f=some (f a))∧(∀{α:Type} {a x:α} {b:List α},(a::b).set 0 x=x::b)∧(∀{α:Type} {a x:α} {b:List α} {n:Nat},(a::b).set (n+1) x=a::b.set n x)∧(∀{α:Type} {a b:α} {xs:List α} {n:Nat},(xs.set n a).set n b=xs.set n b)∧
 (∀{α β:Type} {a:α} {b:β},Function.const β a b=a)∧(∀{α β:Type} {f:α→β} {a:α} {l:List α},(a::l).map f=f a::l.map f)∧(∀{α β:Type} {f:α→β},([]:List α).map f=[])∧(∀{α β:Type} {f:α→β} {l:List α} {i:Nat},(l.map f)[i]?=l[i]?.map f)∧(∀{α β:Type} {f:α→β} {l:List α},(l.map f).length=l.length)∧(∀{α:Type} {l:List α} {i:Nat} {a:α},(l.set i a).length=l.length):=
 ⟨rfl,rfl,rfl,rfl,rfl,rfl,rfl,List.getElem?_set_self',rfl,rfl,rfl,rfl,Gj ..,rfl,rfl,rfl,B2 ..,An ..,List.length_set ..⟩
theorem zRL:(∀{α:Type} {a:α} {s t:List α},a∈s++t↔a∈s∨a∈t)∧(∀{α:Type} {a b:α} {l:List α},a∈b::l↔a=b∨a∈l)∧(∀{α:Type} {a:α},¬a∈([]:List α))∧(∀p:Prop,(p∨False)=p)∧(∀p:Prop,(False∨p)=p)∧(∀{a b c:Prop},(a∨b)∨c↔a∨b∨c)∧(∀{α:Type} {p q:α→Prop} {a':α},(∀a,a=a'∨q a→p a)↔p a'∧∀a,q a→p a)∧(∀{α:Type} {p:α→Prop} {a':α},(∀a,a=a'→p a)↔p a')∧(∀p:Prop,(False→p)=True)∧(∀α:Type,(α→True)=True)∧(∀p:Prop,(p→True)=True)∧(∀p:Prop,(p∧True)=p)∧(∀p:Prop,(True∧p)=p):=⟨List.mem_append,List.mem_cons,List.not_mem_nil,or_false,false_or,or_assoc,forall_eq_or_imp,forall_eq,false_implies,fun α=>implies_true α,fun p=>implies_true p,and_true,true_and⟩
theorem Am:(∀a b:A1,Op.bytesLess a b=decide (a<b))∧(∀(p:Prop) [Decidable p],(decide p=true)=p)∧(∀(p:Prop) [Decidable p],(decide p=false)=¬p)∧(∀b:Bool,((!b)=true)=(b=false))∧(∀b:Bool,((!b)=false)=(b=true))∧
 (∀b:Bool,(¬b=true)=(b=false))∧(∀b:Bool,(¬b=false)=(b=true))∧(∀(α β:Type) (f:α→β) (l:List α),(l.map f).length=l.length)∧(∀n:Nat,Int.toNat (n:Int)=n)∧((false=true)=False)∧((true=false)=False):=by
 refine⟨Kq,?_,?_,?_,?_,?_,?_,?_,?_,?_,?_⟩<;>intros<;>simp
theorem Jm{x:D}{n:Nat}(h:x.size=n):∀u∈[x],u.size=n:=by
 intro u hu;rw[Cx]at hu;subst hu;exact h
theorem Ed{P:Program}{m m':M}{Q:St→Prop}{st:St}(h:m=m')(hk:m'.wq P Q st):m.wq P Q st:=h ▸ hk
theorem L1{P:Program}{m m':M}{K:St→List Rd→Log→List Prop→Prop}{st:St}{R:List Rd}{L:Log}{F:List Prop}(h:m=m')(hk:m'.wz P K st R L F):m.wz P K st R L F:=h ▸ hk
theorem Dh{v:Nat}{p:List Nat}{f:D→Option SV}{ver:Nat}{inv:Inv}{t u:D}{r:SV}{K:Nat→SV→Prop}(ha:alive v inv p=true)(Dd:D.at p t=some u)(hf:f u=some r)
 (hk:Auo (Nat.min (lv inv p) ver,r) K):A38 [(A1i v p f ver (.own inv t)).2] (fun b=>A3j (A1i v p f ver (.own inv t)).1 fun a=>K a b):=by
 simp only[A1i,ha,Dd,seen,hf];exact hk
theorem Aox{v:Nat}{p:List Nat}{f:D→Option SV}{ver:Nat}{inv:Inv}{t u:D}{r:SV}{K:Nat→SV→Prop}(ha:Hv v inv p=true)(Dd:D.at p t=some u)(hf:f u=some r)
 (hk:Auo (Nat.min (lv inv p) ver,r) K):A38 [(A1h v p f ver (.own inv t)).2] (fun b=>A3j (A1h v p f ver (.own inv t)).1 fun a=>K a b):=by
 simp only[A1h,ha,Dd,seen,hf];exact hk
theorem Bv{b:Bool}{X Y:Prop}(h:b=true)(hx:b=true→X):(b=true→X)∧(b=false→Y):=⟨hx,fun h'=>by rw[h]at h';cases h'⟩
theorem Bq{b:Bool}{X Y:Prop}(h:b=false)(hy:b=false→Y):(b=true→X)∧(b=false→Y):=⟨fun h'=>(by rw[h]at h';cases h'),hy⟩

def Bks(P:Program)(n N:Nat)(rs:List Rr)(K:SV→St→Prop)(st:St):Prop:=
 (Afy rs fun us=>.K8 fun st'=>M5 (H8 n N (st'.drop n)) fun st'=>K (Aba us) st').wp P (fun _=>False) st
def Rq(P:Program)(n N:Nat)(rs:List Rr)(K:SV→St→Prop)(st:St):Prop:=
 (Afy rs fun us=>.K8 fun st'=>M5 (H8 n N (st'.drop n)) fun st'=>K (Aba us) st').wq P (fun _=>False) st
section
variable{P:Program}{G:Mem}{σ:Lab}{Fr:Mem}{w0:Base}{w:World}{st:St}{a:Act}
def A0p(P:Program)(fn:Func)(N:Nat)(K:SV→St→Prop)(E:St→Prop):Prop:=
 ∀{G:Mem} {σ:Lab} {Fr:Mem} {w0:Base} {B:Base} {a a':Act} {w:World} {st:St},w0.n=N→Rel G σ Fr B st a' w→Azz w0.w B.w→B.Lk=a.tmps++w0.Lk→B.n=fn.ntmps→Marks Fr w0.w a.defers→a.tmps.size=w0.n→E st→
  ∃v,(results fn a'.tmps).run P w= .ok v w∧∃r G' σ' st',K r st'∧G.le G'∧Rel G' σ' Fr w0 st' a w∧Ahs G' σ' Fr w st' (val a w0) r v
theorem A0s.Abs{f:FuncId}{fn:Func}{c:Code}{s:Ee}{N:Nat}{az:List Bh}{st:St}{K:SV→St→Prop}{E:St→Prop}(hf:P.funcs[f]?=some fn)(hb:fn.body=some c)
 (hc:Gy P fn.ntmps c s=true) (hn:az.length≤fn.ntmps) (hE:A0p P fn N K E) (h:wpS P s Lu ⟨E,Pe,E⟩ (Ub fn.ntmps az st)):A0s P f N az st K:=by
 intro G σ Fr w0 a w xs hN hr ho;subst hN;refine(Ahw (ro:=none) (n:=0)).1 (callsIn_of_wp_marks hf hb trivial ?_);have hxl:=Y7 ho
 let Fj:=(xs.map a.eval).toArray
 let a0:Act:={tmps:=Fj++Array.replicate (fn.ntmps - Fj.size) undef,defers:=[]}
 have Kr:Fj.size=az.length:=by simp[Fj,hxl]
 have Cq:a0.tmps.size=fn.ntmps:=by simp only[a0,Array.size_append,Array.size_replicate,Kr];omega
 let pre:St:=Wt fn.ntmps st az++List.replicate (fn.ntmps - az.length) (0,SV.no)
 have Ju:pre.length=fn.ntmps:=by simp only[pre,Cw,Sr,Je];omega
 have Ga:Ub fn.ntmps az st=pre++Mo fn.ntmps st:=by
  simp only[Ub,Aue,pre,A8]
 have Vz:Rel G (σ.shift fn.ntmps) Fr ⟨w,fn.ntmps,a.tmps++w0.Lk⟩ (pre++Mo fn.ntmps st) a0 w:=by
  have:=Rel.up (pre:=pre) (a':=a0) hr rfl (by rw[Ju,Cq]) ?_
  ·rw[Cq]at this;exact this
  ·rw[Cq];intro i ver sv hi;simp only[pre]at hi;by_cases h1:i<az.length
   ·rw[B0 (by rw[Sr];exact h1),Asp,Ac h1]at hi
    simp only[Bx,Af,B6]at hi;obtain⟨rfl,rfl⟩:=hi;obtain⟨x,h2,h3⟩:=Arh ho (Ac h1);have h4:a0.tmps.getD i undef=a.eval x:=by
     simp only[a0];rw[Aq,D4 (by rw[Kr];exact h1)]
     simp only[Fj,List.getElem?_toArray,B2,h2];rfl
    rw[h4];exact Aw4 hr h3 Ju Cq
   ·rw[Cf (by rw[Sr];omega),Sr,Gs]at hi
    split at hi
    ·simp only[Af,B6]at hi;obtain⟨rfl,rfl⟩:=hi;exact⟨trivial,fun hh e=>by cases e⟩
    ·cases hi
 rw[Ga]at h;refine wpIn_mono (Ast (w0:=⟨w,fn.ntmps,a.tmps++w0.Lk⟩) (.inl rfl) Wm hc Vz h) ?_;rintro e a' w' ⟨G',σ',H2,st',hG,hF,D2,hq⟩;have fin:E st'→LeavesInM (Wd none) 0 P fn a'.tmps (fun e w'=>∃r c G' σ' st',e= .returned c∧K r st'∧G.le G'∧Rel G' σ' Fr w0 st' a w'∧Ahs G' σ' Fr w' st' (val a w0) r c) a'.defers .returning w':=by
  intro hq;refine D2.leave (by simp) hF (fun b o hb=>Vw hr hb) fun w2 r2=>?_
  obtain⟨v,h1,r,G2,σ2,st2,h2,h3,h4,h5⟩:=hE rfl r2 hr.A9i rfl rfl hr.defers hr.n hq;exact⟨v,h1,r,v,G2,σ2,st2,rfl,h2,hG.trans h3,h4,h5⟩
 cases e with
 |normal=>exact fin hq
 |ret=>exact fin hq
 |_=>exact hq.elim
theorem A9t{fn:Func}{N:Nat}{rs:List Rr}{K:SV→St→Prop}(hr:K3 P fn.ntmps fn.results.toList rs=true):A0p P fn N K (Bks P fn.ntmps N rs K):=by
 intro G σ Fr w0 B a a' w st hN Vz hBw hBh hBn had han hq;subst hN;obtain⟨us,cs,G2,σ2,st2,q1,q2,q3,q4,q5⟩:=Ajg Vz (by rw[hBn];exact hr) hq
 have Biu:=F3.one q5;have Aig:(fn.results.mapM (Xm a'.tmps)).run P w= .ok cs.toArray w:=by
  rw[Gd,Sem.run_map,q4];rfl
 have hd:=q2.down hBw hBh hBn had han;have Att:∃v,(results fn a'.tmps).run P w= .ok v w∧Ahs G2 (σ2.Gr fn.ntmps) Fr w (H8 fn.ntmps w0.n (st2.drop fn.ntmps)) (val a w0) (Aba us) v:=by
  rw[Xn,Sem.run_bind,Aig]
  match us,cs,q5,Biu with
  | [],[],_,_=>exact⟨.tuple #[],by simp[Result.andThen],[], #[],rfl,rfl,rfl⟩
  | [u],[v],h5,_=>
    obtain⟨c',d',e',h6,_⟩:=h5;cases e';exact⟨v,by simp[Result.andThen],h6⟩
  |u::u'::us,v::v'::cs,h5,_=>
   exact⟨.tuple (v::v'::cs).toArray,by simp[Result.andThen],u::u'::us,_,rfl,rfl,Ajf _ _ _ _ h5⟩
 obtain⟨v,h1,h2⟩:=Att;exact⟨v,h1,_,G2,_,_,Jo (K:=fun st'=>K (Aba us) st') q3,q1,hd,h2⟩
theorem A1k{n N:Nat}{rs:List Rr}{K:SV→St→Prop}{st:St}(h:Rq P n N rs K st):Bks P n N rs K st:=M.Ps h
theorem Ky.Agy{f:FuncId}{fn:Func}{c:Code}{s:Ee}{rs:List Rr}{n N:Nat}{az:List Bh}{st:St}{K:SV→St→Prop}(hf:P.funcs[f]?=some fn)(hb:fn.body=some c)(hN:fn.ntmps=n)
 (hc:Gy P n c s=true) (hr:K3 P n fn.results.toList rs=true) (hn:az.length≤n)
 (h:M5 (Ub n az st) fun st=>Mc P s Lu ⟨Rq P n N rs K,Pe,Rq P n N rs K⟩ st):Ky P f N az st K:=by
 subst hN;exact⟨A0s.Abs hf hb hc hn (A9t hr) (Aor (Q:=⟨Rq P fn.ntmps N rs K,Pe,Rq P fn.ntmps N rs K⟩) Xw (fun _ h=>A1k h) (fun _ _ h=>h) (fun _ h=>A1k h)
  (Jo (K:=fun st=>Mc P s Lu ⟨Rq P fn.ntmps N rs K,Pe,Rq P fn.ntmps N rs K⟩ st) h))⟩
end

section
variable{P:Program}
def Aht(P:Program)(f F:FuncId)(T:TypeId):Prop:=
 ∀(mb:Option Nat) (W:World),Calls P f #[.map mb] W fun e w'=>e= .returned (.func (.func F) #[] #[.pointer (some ⟨W.heap.size,0,none⟩)])∧w'=W.alloc (.cells #[.map mb] T)
theorem A21{f F:FuncId}{T:TypeId}{N n:Nat}{st:St}{K:SV→St→Prop}(hC:Aht P f F T)
 (hq:(rdH (.t n) fun s cur _ t p=>match D.at p t with
   |some u=>match u with
    | .map _ _=>.K8 fun st=>K (.Qg F s cur p) st
    |_=>.fail
   |none=>.fail).wq P (fun _=>False) st):Ky P f N [.t n] st K:=by
 refine⟨fun G σ Fr w0 a w xs hN hr ho=>?_⟩
 subst hN
 match xs,ho with
 |x::y::r,ho=>cases y<;>simp[Lo]at ho
 | [x],ho=>
   simp only[Lo,Bool.and_true]at ho;obtain⟨s,cur,inv,t,p,h3,hs,hHd⟩:=Abu hr ho (M.Ps hq);split at h3
   ·rename_i u Dd;split at h3
    ·rename_i ks vs;obtain⟨bs,Ba,H7,F5,Jj⟩:=show Dr G σ w s t (val a w0 s)from hr.Bj s cur _ hs;obtain⟨mm,s',Fw,f1,f2,f3,f4,f5,f6⟩:=focus (here:=none) Ba F5 Dd
     have Bv6:=hHd;obtain⟨x0,hh0,Av6,Ao2,L0⟩:=Bv6;rw[L0]at f1;obtain rfl:=Cy f1;simp only[Bp]at f2;obtain⟨b,es,clock,kc,vc,Ss,e1, -⟩:=f2;injection e1 with e1
     have he:a.eval x= .map (some b):=e1;have W3:([x].map a.eval).toArray= #[.map (some b)]:=by simp[he]
     rw[W3];refine(hC (some b) w).mono ?_;rintro e w' ⟨rfl,rfl⟩;obtain⟨k1,k2,k3⟩:=hr.Bz.fresh (Ay w.heap.size);have Hr:Rel G σ Fr w0 st a (w.alloc (.cells #[.map (some b)] T)):=hr.Adf (World.grownBy_alloc _ _ none) (by intro b e;cases e)
     refine⟨.Qg F s cur p,_,G,σ,st,rfl,h3,Mem.le.refl G,Hr,w.heap.size,.map (some b),T,rfl,⟨k1,k2,k3,by simp⟩,heap_alloc_new w _,_,hs,Ay _,fun Kj t' e _=>?_⟩
     cases e;rw[←he];exact hHd.tr (show Dr G σ w s t (val a w0 s)from hr.Bj s cur _ hs) fun b' k hb=>⟨hb,M3 w _ b' (hr.Bz.own b' _ hb).2.2⟩
    ·exact h3.elim
   ·exact h3.elim
end

open Go.RowKit
def Fz(l:List (List UInt8)):List (List UInt8):=l.mergeSort fun x y=>decide (x≤y)
def Aam:I→List UInt8
 | .str s=>s
 |_=>[]
def Xr(l:List I):List I:=(Fz (l.map Aam)).map I.str
theorem Ayu(l:List (List UInt8)):Xr (l.map I.str)=(Fz l).map I.str:=by
 unfold Xr;rw[List.map_map,show(Aam ∘ I.str)=id from rfl,List.map_id]
section
variable{P:Program}
def Yg(P:Program)(f F:FuncId)(E:TypeId):Prop:=
 ∀(g b:Nat) (es:Array MapEntry) (clock:Nat) (ss:List (List UInt8)) (W:World),W.cell? ⟨g,0,none⟩=some (.map (some b))→W.heap[b]?=some (.map es clock)→es.toList.map (·.key)=ss.map (fun s=>Value.string ⟨⟨s⟩⟩)→ss.Nodup→
  (es.toList.map (·.born)).Pairwise (· < ·)→(∀e∈es.toList,e.born<clock)→ss.length≤1000000→(∀s∈ss,s.length≤maxLen)→g<W.heap.size→
  Calls P f #[.func (.func F) #[] #[.pointer (some ⟨g,0,none⟩)]] W fun e w'=>∃v,e= .returned v∧w'.ownsRow W.heap.size E 1 v ss.length ((Fz ss).map fun s=>Value.string ⟨⟨s⟩⟩)∧Below W.heap.size W w'
variable{G:Mem}{σ:Lab}{Fr:Mem}{w0:Base}{w:World}{st:St}{a:Act}
theorem Rel.Bpd{g:Nat}{o:Obj}(h:Rel G σ Fr w0 st a w)(hG:G g=none)(hF:Fr g=none)(hS:σ g=none)(ho:w.heap[g]?=some o):G.le (G.Dy g o)∧Rel (G.Dy g o) σ Fr w0 st a w:=by
 have hle:G.le (G.Dy g o):=fun b x hb=>by
  rw[Mem.Q7 (by rintro rfl;rw[hG]at hb;cases hb)]
  exact hb
 refine⟨hle,⟨⟨?_,?_,h.Bz.inj,h.Bz.frame,h.Bz.os,h.Bz.tape,h.Bz.output,h.Bz.size,?_,?_⟩,h.defers,h.n,h.len,fun s ver sv hs=>(h.Bj s ver sv hs).Mk hle (fun s' b k hb=>⟨hb,rfl⟩) h.Bj,h.Nv⟩⟩
 ·intro b x hb;by_cases e:b=g
  ·subst e;rw[Mem.T5]at hb;cases hb;exact ho
  ·rw[Mem.Q7 e]at hb;exact h.Bz.fixed b x hb
 ·intro b Ca hb;have:=h.Bz.own b Ca hb;rw[Mem.Q7 (by rintro rfl;rw[hS]at hb;cases hb)]
  exact this
 ·intro b x hb;rw[Mem.Q7 (by rintro rfl;rw[hF]at hb;cases hb)]
  exact h.Bz.apart b x hb
 ·exact Amb.mono hle h.Bz.Mv
def rdK(n:Nat)(F:FuncId)(k:List I→M):M:=.get n fun _ sv=>match sv with
 | .Qg F' s v p=>.get s fun _ Ek=>match Ek with
   | .own inv t=>.Co (F'=F∧Hv v inv p=true) fun _=>match D.at p t with
     |some u=>match u with
      | .map ks _=>.Co (∀x∈ks,∃s,x= .str s) fun _=>k ks
      |_=>.fail
     |none=>.fail
   |_=>.fail
 |_=>.fail
theorem Bfo{ks:List I}:∀{kc:List Value},J2 G ks kc→(∀x∈ks,∃s,x= .str s)→kc=(ks.map Aam).map (fun s=>Value.string ⟨⟨s⟩⟩)∧∀s∈ks.map Aam,s.length≤maxLen:=by
 induction ks with
 |nil=>
  intro kc h _;simp only[J2]at h;subst h;exact⟨rfl,by simp⟩
 |cons x ks ih=>
  intro kc h hs;simp only[J2]at h;obtain⟨v,c',rfl,hv,hr,h2⟩:=h;obtain⟨s,rfl⟩:=hs x (by simp)
  obtain⟨h3,h4⟩:=ih h2 fun y hy=>hs y (by simp[hy])
  have h5:=G7 (c:=v) hv;rw[h5]at hr;simp only[Bi,Em,and_true]at hr;obtain⟨rfl,hl⟩:=hr;refine⟨by rw[h3];rfl,?_⟩
  intro s' Hf;simp only[A0,Ah]at Hf;rcases Hf with rfl|Hf
  ·exact hl
  ·exact h4 s' Hf
theorem Ayd{G:Mem}:∀(l:List (List UInt8)),(∀s∈l,s.length≤maxLen)→B4 G (l.map I.str) (l.map fun s=>Value.string ⟨⟨s⟩⟩)
 | [],_=>by simp[B4]
 |s::l,h=>by
  simp only[A0,B4];exact⟨[_],_,rfl,by simp only[Bi,true_and];exact h s (by simp),Ayd l fun x hx=>h x (by simp[hx])⟩
theorem At3{f F:FuncId}{E:TypeId}{N n:Nat}{st:St}{K:SV→St→Prop}(hC:Yg P f F E)
 (hq:(rdK n F fun ks=>.Co (ks.length≤1000000∧(ks.map Aam).Nodup) fun _=>.K8 fun st=>K (.v (.list (Xr ks))) st).wq P (fun _=>False) st):Ky P f N [.t n] st K:=by
 refine⟨fun G σ Fr w0 a w xs hN hr ho=>?_⟩
 subst hN
 match xs,ho with
 |x::y::r,ho=>cases y<;>simp[Lo]at ho
 | [x],ho=>
   simp only[Lo,Bool.and_true]at ho;obtain⟨rfl,Di⟩:=Gb ho
   replace hq:=M.Ps hq
   simp only[rdK,M.wp]at hq;cases hn:st[n]? with
   |none=>simp[hn]at hq
   |some cur=>
    obtain⟨vn,sv⟩:=cur;simp only[hn]at hq;cases sv with
    |Qg F' s v p=>
     simp only[M.wp]at hq;cases hs:st[s]? with
     |none=>simp[hs]at hq
     |some Gu=>
      obtain⟨vs,Ek⟩:=Gu;simp only[hs]at hq;cases Ek with
      |own inv t=>
       simp only[M.wp]at hq;obtain⟨⟨rfl,X7⟩,hq⟩:=hq;cases Dd:D.at p t with
       |none=>rw[Dd]at hq;exact hq.elim
       |some u=>
        rw[Dd]at hq;cases u with
        |map ks vl=>
         obtain⟨Pw,⟨L8,Bw4⟩,hK⟩:=hq;obtain⟨g,c0,ty,kk,hc,Le,Kh,Amj,g1,g2,g3⟩:=hr.slot Di hn;rw[hs]at g1;cases g1;have hHd:=g3 inv t rfl X7;obtain⟨bs,Ba,H7,F5,Jj⟩:=show Dr G σ w s t (val a w0 s)from hr.Bj s _ _ hs;obtain⟨mm,s',Fw,f1,f2,f3,f4,f5,f6⟩:=focus (here:=none) Ba F5 Dd
         obtain⟨x0,hh0,Av6,Ao2,L0⟩:=hHd;rw[L0]at f1;obtain rfl:=Cy f1;simp only[Bp]at f2;obtain⟨b,es,clock,kc,vc,Ss,e1,e2,e3,e4,e5,e6,e7,e8,e9⟩:=f2;injection e1 with e1
         subst e1;obtain⟨k1,k2⟩:=Bfo e5 Pw;have hgl:=(hr.Bz.own g _ Le).2.2;have Rj:w.cell? ⟨g,0,none⟩=some (.map (some b)):=by
          simp[World.cell?,Kh]
         have W3:([Operand.tmp n].map a.eval).toArray= #[.func (.func F') #[] #[.pointer (some ⟨g,0,none⟩)]]:=by simp[hc]
         rw[W3];refine(hC g b es clock (ks.map Aam) w Rj e2 (by rw[e3,k1]) Bw4 e7 e8 (by simpa using L8) k2 hgl).mono ?_
         rintro e w' ⟨v',rfl,Kc,hb⟩;have Qv:w.grownBy w' none:=⟨hb.os,hb.tape,hb.output,hb.size,fun k hk _=>hb.block k hk⟩
         have Hr:Rel G σ Fr w0 st a w':=hr.Adf Qv (by intro b e;cases e)
         have hlen:(Fz (ks.map Aam)).length=ks.length:=by unfold Fz;rw[List.length_mergeSort,An]
         have Ga:∀s∈Fz (ks.map Aam),s.length≤maxLen:=fun s hs=>k2 s ((Hy ..).mem_iff.1 hs)
         obtain⟨r1,r2⟩:=Kc;rcases r2 with⟨rfl,hz⟩|⟨gb,cap,cur,rfl,q1,q2,q3,q4,q5,q6⟩
         ·have Bw5:ks=[]:=by
           have:(ks.map Aam).length=0:=hz;exact Dg (by simpa using this)
          refine⟨_,_,G,σ,st,rfl,hK,Mem.le.refl G,Hr,?_⟩;subst Bw5;show Bb G (.list (Xr [])) _;have:Xr []=[]:=by simp[Xr,Fz]
          rw[this];unfold Bb;rw[if_neg (by simp[I.isAgg])]
          unfold Bi;exact⟨none,0,rfl,Ay _,A3 _,.inl rfl⟩
         ·obtain⟨z1,z2,z3⟩:=hr.Bz.fresh q1;obtain⟨hle,Kn⟩:=Hr.Bpd z1 z2 z3 q2;refine⟨_,_,_,σ,st,rfl,hK,hle,Kn,?_⟩;show Bb _ (.list (Xr ks)) _;simp only[Bb,I.isAgg,Bi,D0,if_false];have hsl:(Xr ks).length=(ks.map Aam).length:=by unfold Xr;rw[An,hlen,An]
          refine⟨some ⟨gb,0,none⟩,cap,by rw[hsl],by rw[hsl];exact q3,q4,.inr ⟨gb,0,cur,E,(0,0),1,rfl,Mem.T5,?_,?_,?_⟩⟩
          ·intro y hy;obtain⟨s,_,rfl⟩:=Cs.1 hy;rfl
          ·rw[hsl];omega
          ·rw[hsl,List.drop_zero,q6];exact Ayd _ Ga
        |_=>exact hq.elim
      |_=>exact hq.elim
    |_=>exact hq.elim
end

abbrev ti(n:Int):I:=.int .i64 n
structure Bt where
 rev:Int
 made:Int
 val:A1
 gone:Bool
 deriving DecidableEq,Inhabited
def Bt.Ap(v:Bt):I:=.agg [ti v.rev,ti v.made,.str v.val,.bool v.gone]
structure C0 where
 at_:A1
 vs:List Bt
 deriving DecidableEq,Inhabited
def C0.Ap(h:C0):I:=.agg [.str h.at_,.list (h.vs.map Bt.Ap)]
structure Ef where
 rev:Int
 floor:Int
 bytes:Int
 keys:Int
 Jk:Int
 deriving DecidableEq,Inhabited
def Ef.Ap(t:Ef):I:=.agg [ti t.rev,ti t.floor,ti t.bytes,ti t.keys,ti t.Jk]
structure A6 where
 sp:List (A1 × Ef)
 l:List C0
 deriving DecidableEq,Inhabited
structure Ce where
 key:A1
 val:A1
 gone:Bool
 deriving DecidableEq,Inhabited
def Ce.Ap(c:Ce):I:=.agg [.str c.key,.str c.val,.bool c.gone]
structure Pr where
 key:A1
 val:A1
 made:Int
 rev:Int
 deriving DecidableEq,Inhabited
def Pr.Ap(p:Pr):I:=.agg [.str p.key,.str p.val,ti p.made,ti p.rev]
structure Kv where
 key:A1
 vs:List Bt
 deriving DecidableEq,Inhabited
def Kv.Ap(h:Kv):I:=.agg [.str h.key,.list (h.vs.map Bt.Ap)]
structure Cv where
 name:A1
 rev:Int
 floor:Int
 keys:List Kv
 deriving DecidableEq,Inhabited
def Cv.Ap(p:Cv):I:=.agg [.str p.name,ti p.rev,ti p.floor,.list (p.keys.map Kv.Ap)]
theorem Bt.size(v:Bt):v.Ap.size=4:=rfl
theorem C0.size(h:C0):h.Ap.size=2:=rfl
theorem Ce.size(h:Ce):h.Ap.size=3:=rfl
theorem Kv.size(h:Kv):h.Ap.size=2:=rfl
theorem Cv.size(h:Cv):h.Ap.size=4:=rfl
theorem Pr.size(h:Pr):h.Ap.size=4:=rfl
def Cp(n k:A1):A1:=UInt8.ofNat (n.length % 256)::n++k
def Cz:A1→A1 × A1 × Bool
 | []=>([],[],false)
 |c::r=>if r.length<c.toNat then([],[],false)else(r.take c.toNat,r.drop c.toNat,true)
theorem D3{n k:A1}(h:n.length<256):Cz (Cp n k)=(n,k,true):=by
 unfold Cp Cz;have h1:(UInt8.ofNat (n.length % 256)).toNat=n.length:=by
  rw[UInt8.toNat_ofNat'];omega
 simp only[C4,h1,Cw];rw[if_neg (by omega),Gt,Jy]
def Ur(lt:Nat→Bool):Nat→Nat→Nat→Nat
 |0,i,_=>i
 |f+1,i,j=>if i<j then(if lt ((i+j) / 2)then Ur lt f ((i+j) / 2+1) j else Ur lt f i ((i+j) / 2))else i
theorem Ahv(lt:Nat→Bool):∀f i j,i≤j→i≤Ur lt f i j∧Ur lt f i j≤j
 |0,i,j,h=>⟨Ay _,h⟩
 |f+1,i,j,h=>by
  unfold Ur;split
  ·split
   ·have:=Ahv lt f ((i+j) / 2+1) j (by omega);omega
   ·have:=Ahv lt f i ((i+j) / 2) (by omega);omega
  ·omega
def Gm{α:Type}(lt:α→Bool)(l:List α):Nat:=Ur (fun h=>(l[h]?).any lt) l.length 0 l.length
def U6{α:Type}(lt eq:α→Bool)(l:List α):Bool:=(l[Gm lt l]?).any eq
theorem Wx{α:Type}(lt:α→Bool)(l:List α):Gm lt l≤l.length:=(Ahv _ _ _ _ (A3 _)).2
theorem Ww{α:Type}{lt eq:α→Bool}{l:List α}(h:U6 lt eq l=true):∃x,l[Gm lt l]?=some x∧eq x=true:=by
 unfold U6 at h;cases hx:l[Gm lt l]? with
 |none=>rw[hx]at h;cases h
 |some x=>rw[hx]at h;exact⟨x,rfl,by simpa using h⟩
theorem Bfx{i j:Nat}(h:i+j≤9223372036854775807):IntKind.i64.wrap (Bbp .u64 (IntKind.u64.wrap (IntKind.i64.wrap ((i:Int)+(j:Int)))) 1)=(((i+j) / 2:Nat):Int):=by
 have h1:IntKind.i64.wrap ((i:Int)+(j:Int))=((i+j:Nat):Int):=by rw[IntKind.wrap_i64];omega
 have h2:IntKind.u64.wrap ((i+j:Nat):Int)=((i+j:Nat):Int):=by simp[IntKind.wrap,IntKind.bits,IntKind.signed];omega
 rw[h1,h2];have h3:Bbp .u64 ((i+j:Nat):Int) 1=(((i+j) / 2:Nat):Int):=(show Int.fdiv ((i+j:Nat):Int) ((2:Nat):Int)=_ from(Int.ofNat_fdiv _ _).symm);rw[h3,IntKind.wrap_i64];omega

def Aws:List Rr→(List D→M)→M
 | [],k=>k []
 | .t n::r,k=>Um (.t n) fun u=>Aws r fun us=>k (u::us)
 | .cell n agg sz::r,k=>.get n fun ver sv=>match sv with
   | .own _ t=>match t with
     | .ptr u=>.Co (u.isAgg=agg∧u.size=sz) fun _=>.set n (ver+1) .no (Aws r fun us=>k (u::us))
     |_=>.fail
   |_=>.fail
def A33:List D→SV
 | [u]=>match u with
   | .it x=>.v x
   |u=>.own [] u
 |us=>.Mp us
def Bhe(P:Program)(N:Nat)(rs:List Rr)(args:List SV)(R:SV→List SV→Prop)(st:St):Prop:=
 (Aws rs fun us=>.K8 fun st'=>Gg (R (A33 us) (Hz N st' 0 args)) (Hz N st' 0 args)).wp P (fun _=>False) st
def Az0(P:Program)(N:Nat)(rs:List Rr)(args:List SV)(R:SV→List SV→Prop)(st:St):Prop:=
 (Aws rs fun us=>.K8 fun st'=>Gg (R (A33 us) (Hz N st' 0 args)) (Hz N st' 0 args)).wq P (fun _=>False) st
def Bs0(P:Program)(N:Nat)(s:Ee)(rs:List Rr)(args:List SV)(R:SV→List SV→Prop):Prop:=
 M5 (entry N args) fun st=>Mc P s Lu ⟨Az0 P N rs args R,Pe,Az0 P N rs args R⟩ st
section
variable{P:Program}{N:Nat}{G:Mem}{σ:Lab}{Fr:Mem}{w0:Base}{w:World}{st:St}{a:Act}
theorem Ar0{Q:St→Prop}:∀{rs:List Rr} {rv:List ResultVar} {k:List D→M} {G:Mem} {σ:Lab} {st:St},Rel G σ Fr w0 st a w→K3 P w0.n rv rs=true→(Aws rs k).wp P Q st→
 ∃us cs bs G' σ' st',G.le G'∧Rel G' σ' Fr w0 st' a w∧(k us).wp P Q st'∧(rv.mapM (Xm a.tmps)).run P w= .ok cs w∧Ff G' w us cs bs∧bs.Nodup∧
  (∀b∈bs,G' b=none∧Fr b=none∧σ' b=none∧b<w.heap.size)∧(∀b∈bs,σ b≠none)∧∀b,σ b=none→G b=none→σ' b=none∧G' b=none
 | [],[],k,G,σ,st,hr,_,hq=>⟨[],[],[],G,σ,st,Mem.le.refl G,hr,hq,by simp,by simp[Ff],Dn,by simp,by simp,fun _ h1 h2=>⟨h1,h2⟩⟩
 | .t n::rs,.tmp m::rv,k,G,σ,st,hr,ho,hq=>by
   simp only[K3,Ad,beq_iff_eq,decide_eq_true_eq]at ho;obtain⟨⟨rfl,h1⟩,h2⟩:=ho;obtain⟨u,b1,G1,σ1,st1,g1,g2,g3,g4,g5,g6⟩:=Q4 (x:=.tmp m) hr (by simp[Bu,h1]) hq
   obtain⟨us,cs,bs,G2,σ2,st2,q1,q2,q3,q4,q5,q6,q7,q8,q9⟩:=Ar0 g2 h2 g3;obtain⟨f1,f2,f3,f4⟩:=g4.later q1 q9;refine⟨u::us,a.tmps.getD m undef::cs,b1++bs,G2,σ2,st2,g1.trans q1,q2,q3,?_,?_,?_,?_,?_,?_⟩
   ·simp only[List.mapM_cons,Xm,Sem.run_bind,Sem.run_pure,Result.andThen,q4]
   ·simp only[Ff];exact⟨_,cs,b1,bs,rfl,rfl,f2,f1,q5⟩
   ·rw[Cb];refine⟨f3,q6,fun x hx y hy e=>?_⟩
    subst e;exact q8 x hy (g4.2.2.2 x hx).2.2.1
   ·intro b hb;rcases Aj.1 hb with hb|hb
    ·exact f4 b hb
    ·exact q7 b hb
   ·intro b hb hn;rcases Aj.1 hb with Dc|Dc
    ·exact g5 b Dc hn
    ·by_cases hG:G b=none
     ·exact q8 b Dc (g6 b hn hG).1
     ·obtain⟨o,hob⟩:=Option.ne_none_iff_exists'.1 hG;have:=g1 b o hob;have:=q1 b o this;rw[(q7 b Dc).1]at this;cases this
   ·intro b k1 k2;obtain⟨k3,k4⟩:=g6 b k1 k2;exact q9 b k3 k4
 | .cell n agg sz::rs,.cell m t::rv,k,G,σ,st,hr,ho,hq=>by
   simp only[K3,Ad,beq_iff_eq,decide_eq_true_eq]at ho;obtain⟨⟨⟨rfl,h1⟩,ht⟩,h2⟩:=ho;simp only[Aws,M.wp]at hq;cases hs:st[m]? with
   |none=>simp[hs]at hq
   |some cur=>
    obtain⟨ver,sv⟩:=cur;simp only[hs]at hq;split at hq
    ·rename_i inv tr;split at hq
     ·rename_i u;obtain⟨⟨rfl,rfl⟩,hq⟩:=hq;have Fm:Dr G σ w m (.ptr u) (a.eval (.tmp m)):=hr.slot h1 hs;obtain⟨Ss,r1,r2,r3,r4⟩:=Fm;rw[G7 r2]at r1;simp only[Bp]at r1;obtain⟨b,cells,ty,bu,e1,e2,e3,rfl⟩:=r1;injection e1 with e1
      have A95:∀x∈b::bu,σ.drop m x=none:=fun x hx=>by
       obtain⟨kk,hk⟩:=r4 x hx;simp[Lab.drop,hk]
      obtain⟨us,cs,bs,G2,σ2,st2,q1,q2,q3,q4,q5,q6,q7,q8,q9⟩:=Ar0 (hr.drop hs (Bk ver)) h2 hq;have hf0:∀x∈bu,G x=none∧Fr x=none∧σ.drop m x=none∧x<w.heap.size:=fun x hx=>by
       obtain⟨kk,hk⟩:=r4 x (by simp[hx])
       obtain⟨k1,k2,k3⟩:=hr.Bz.own x _ hk;exact⟨k1,k2,A95 x (by simp[hx]),k3⟩
      have hlen:=Bp.length e3;have Acj:=Bp.one e3;obtain⟨v,hl,hvc,H7⟩:=Aiu (P:=P) (w:=w) (t:=t) (agg:=u.isAgg) (b:=b) (off:=0) (bl:=cells) (pre:=[]) (cs:=cells.toList) (post:=[]) (by rw[hlen];exact ht) (by
       intro Jg;rw[hlen];cases u<;>first|rfl|(rename_i x;cases x<;>first|rfl|cases Jg)|cases Jg) e2 (by simp) rfl Acj
      have hev:a.tmps.getD m undef= .pointer (some ⟨b,0,none⟩):=e1;refine⟨u::us,v::cs,bu++bs,G2,σ2,st2,q1,q2,q3,?_,?_,?_,?_,?_,?_⟩
      ·simp only[List.mapM_cons,Xm,hev,asAddr,Sem.run_bind,Sem.run_pure,Result.andThen,hl,q4]
      ·simp only[Ff];exact⟨v,cs,bu,bs,rfl,rfl,H7,by rw[hvc];exact e3.tr q1 fun _ _=>rfl,q5⟩
      ·rw[Cb];refine⟨(Bs.1 r3).2,q6,fun x hx y hy e=>?_⟩
       subst e;exact q8 x hy (hf0 x hx).2.2.1
      ·intro x hx;rcases Aj.1 hx with hx|hx
       ·obtain⟨k1,k2,k3,k4⟩:=hf0 x hx;obtain⟨k5,k6⟩:=q9 x k3 k1;exact⟨k6,k2,k5,k4⟩
       ·exact q7 x hx
      ·intro x hx hn;rcases Aj.1 hx with hx|hx
       ·obtain⟨kk,hk⟩:=r4 x (by simp[hx])
        rw[hn]at hk;cases hk
       ·refine q8 x hx ?_;simp[Lab.drop,hn]
      ·intro x k1 k2;exact q9 x (by simp[Lab.drop,k1]) k2
     ·exact hq.elim
    ·exact hq.elim
 | [],_::_,_,_,_,_,_,ho,_=>by simp[K3]at ho
 | .t _::_,[],_,_,_,_,_,ho,_=>by simp[K3]at ho
 | .cell _ _ _::_,[],_,_,_,_,_,ho,_=>by simp[K3]at ho
 | .t _::_,.cell _ _::_,_,_,_,_,_,ho,_=>by simp[K3]at ho
 | .cell _ _ _::_,.tmp _::_,_,_,_,_,_,ho,_=>by simp[K3]at ho
theorem Bdo{fn:Func}{rs:List Rr}{args:List SV}{D8:SV→List SV→Prop}(hr:K3 P fn.ntmps fn.results.toList rs=true):Ends P fn args D8 (Bhe P fn.ntmps rs args D8):=by
 intro G Fr w Fj a w' G' σ' st hlen hn hG D2 hq
 let B:Base:=⟨w,fn.ntmps,Fj⟩
 obtain⟨us,cs,bs,G2,σ2,st2,q1,q2,⟨q3,q3'⟩,q4,q5,q6,q7,q8,q9⟩:=Ar0 D2 hr hq;have q3':=Ze q3';have Aig:(fn.results.mapM (Xm a.tmps)).run P w'= .ok cs.toArray w':=by
  rw[Gd,Sem.run_map,q4];rfl
 let σ3:Lab:=(σ2.Gr fn.ntmps).H3 args.length 0 bs
 have Xa:∀{b s k},σ2.Gr fn.ntmps b=some (s,k)→σ2 b=some (fn.ntmps+s,k):=by
  intro b s k hb;unfold Lab.Gr at hb;split at hb
  ·rename_i s' k' h1;split at hb
   ·rename_i hle;simp only[Af,B6]at hb;obtain⟨rfl,rfl⟩:=hb;rw[h1,show fn.ntmps+(s' - fn.ntmps)=s' by omega]
   ·cases hb
  ·cases hb
 have Rx:Gc G2 (σ2.Gr fn.ntmps) Fr ⟨w,0, #[]⟩ w':=by
  refine⟨q2.Bz.fixed,?_,?_,q2.Bz.frame,q2.Bz.os,q2.Bz.tape,q2.Bz.output,q2.Bz.size,q2.Bz.apart,q2.Bz.Mv⟩
  ·rintro b ⟨s,k⟩ hb;exact q2.Bz.own b _ (Xa hb)
  ·rintro b b' ⟨s,k⟩ hb Dc;exact q2.Bz.inj b b' _ (Xa hb) (Xa Dc)
 let σ2':Lab:=fun b=>match σ2.Gr fn.ntmps b with
  |some (s,k)=>if s<args.length then some (s,k)else none
  |none=>none
 have hle:∀{b Ca},σ2' b=some Ca→σ2.Gr fn.ntmps b=some Ca∧Ca.1<args.length:=by
  intro b Ca hb;simp only[σ2']at hb;split at hb
  ·rename_i s k h1;split at hb
   ·rename_i Di;cases hb;exact⟨h1,Di⟩
   ·cases hb
  ·cases hb
 have Bix:Gc G2 σ2' Fr ⟨w,0, #[]⟩ w':=⟨Rx.fixed,fun b Ca hb=>Rx.own b Ca (hle hb).1,fun b b' Ca hb Dc=>Rx.inj b b' Ca (hle hb).1 (hle Dc).1,Rx.frame,Rx.os,Rx.tape,Rx.output,Rx.size,Rx.apart,Rx.Mv⟩
 have Bxa:Gc G2 (σ2'.H3 args.length 0 bs) Fr ⟨w,0, #[]⟩ w':=Bix.H3 (fun b k hb=>absurd (hle hb).2 (Nat.lt_irrefl _)) fun b hb=>⟨(q7 b hb).1,(q7 b hb).2.1,(q7 b hb).2.2.2⟩
 have Btd:∀b∈bs,∃k,(σ2'.H3 args.length 0 bs) b=some (args.length,k):=fun b hb=>⟨_,Lab.Me hb⟩
 have Att:∃v,(results fn a.tmps).run P w'= .ok v w'∧(A33 us).root=none∧Dx G2 (σ2'.H3 args.length 0 bs) w' args.length (A33 us) v:=by
  rw[Xn,Sem.run_bind,Aig]
  match us,cs,q5,Btd with
  | [],[],h5,hl=> 
    simp only[Ff]at h5;exact⟨.tuple #[],by simp[Result.andThen],rfl, #[],bs,rfl,by simp[Ff,h5.2],q6,hl⟩
  | [u],cs,h5,hl=>
    simp only[Ff]at h5;obtain⟨v,_,b1,_,rfl,rfl,H7,Ti,rfl,rfl⟩:=h5;refine⟨v,by simp[Result.andThen],?_⟩
    cases u with
    |it x=>
     refine⟨rfl,?_⟩;show Bb G2 x v;simp only[Bp]at Ti;simp only[D.isAgg]at H7;unfold Bb;cases hx:x.isAgg with
     |true=>
      rw[hx]at H7;obtain⟨a',rfl⟩:=Wk H7;rw[if_pos rfl];exact⟨a',rfl,Ti.1⟩
     |false=>
      rw[hx]at H7;rw[G7 H7]at Ti;rw[if_neg (by simp)]
      exact Ti.1
    |_=>exact⟨rfl,b1,Ti,H7,by simpa using q6,fun b hb=>hl b (by simpa using hb)⟩
  |u::u'::us,cs,h5,hl=>
   have h5':=h5;simp only[Ff]at h5;obtain⟨v,_,_,_,rfl,_,_,_,v',_,_,_,rfl,_⟩:=h5;exact⟨.tuple (v::v'::_).toArray,by simp[Result.andThen],rfl,_,bs,rfl,h5',q6,hl⟩
 obtain⟨v,Mi,hv0,hv2⟩:=Att;refine⟨v,Mi,A33 us,Hz fn.ntmps st2 0 args,v,G2,_,rfl,q3,hG.trans q1,Bxa,hv0,hv2,Tk args 0,?_⟩;intro i sv hi;refine⟨q3' sv (Aw hi),?_⟩;rw[P9]at hi;cases Yq:args[i]? with
 |none=>simp[Yq]at hi
 |some Vi=>
  have Pv:i<args.length:=(Ak.1 Yq).1;simp only[Yq,Bx,Af,Bm]at hi;split at hi
  ·cases Ga:st2[fn.ntmps+i]? with
   |none=>simp only[Ga]at hi;subst hi;trivial
   |some cur=>
    obtain⟨ver,sv1⟩:=cur;simp only[Ga]at hi;subst hi;have Ba:=q2.Bj _ _ _ Ga;have Ly:=q3' sv1.clean (by
     apply Aw (i:=i);rw[P9,Yq];simp only[Bx,Bm,Ga];rename_i hl;rw[if_pos hl])
    rw[Ahx]at Ly;rw[Fa.own Ly]at Ba;have L2:val a B (fn.ntmps+i)=Fj.getD i undef:=by
     unfold val;rw[Aq,Dm (by rw[q2.n];exact Nat.le_add_right _ _),q2.n,Aq]
     simp[B]
    rw[L2]at Ba;rw[Amh];refine Dx.tr Ba (Mem.le.refl G2) fun b k hb=>⟨?_,rfl⟩
    rw[Lab.Mf]
    ·simp only[σ2',Lab.Gr,hb];simp[Pv]
    ·intro hm;rw[(q7 b hm).2.2.1]at hb;cases hb
  ·subst hi;trivial
theorem Fn.Bjv{f:FuncId}{fn:Func}{c:Code}{s:Ee}{rs:List Rr}{args:List SV}{D8:SV→List SV→Prop}{N:Nat}(hf:P.funcs[f]?=some fn)(hb:fn.body=some c)(hN:fn.ntmps=N)
 (hc:Gy P N c s=true) (hr:K3 P N fn.results.toList rs=true) (hn:args.length≤N) (h:Bs0 P N s rs args D8):Fn P f args D8:=by
 subst hN;refine Fn.Abs hf hb hc hn (Bdo hr) ?_;have h:=Jo h;exact Aor (Q:=⟨Az0 P fn.ntmps rs args D8,Pe,Az0 P fn.ntmps rs args D8⟩) (Q':=⟨Bhe P fn.ntmps rs args D8,Pe,Bhe P fn.ntmps rs args D8⟩) Xw (fun st h=>M.Ps h) (fun _ _ h=>h) (fun st h=>M.Ps h) h
end

mutual
def Kk:D→D→Prop
 |d,.it y=>d.Ap=some y
 | .st l,.st l'=>P5 l l'
 | .vec e sz l,.vec e' Ex l'=>e=e'∧sz=Ex∧P5 l l'
 | .ptr d,.ptr d'=>Kk d d'
 |_,_=>False
def P5:List D→List D→Prop
 | [],[]=>True
 |d::l,d'::l'=>Kk d d'∧P5 l l'
 |_,_=>False
end
theorem Aq5:∀{l l':List D},P5 l l'→l'.length=l.length
 | [],[],_=>rfl
 |d::l,d'::l',h=>by simp only[P5]at h;simp[Aq5 h.2]
 | [],_::_,h=>by simp[P5]at h
 |_::_,[],h=>by simp[P5]at h
mutual
theorem Amt:∀{d d':D},Kk d d'→d'.size=d.size∧d'.isAgg=d.isAgg
 |d,.it y,h=>by simp only[Kk]at h;exact Q6 h
 | .st l,.st l',h=>by simp only[Kk]at h;exact⟨As8 h,rfl⟩
 | .vec e sz l,.vec e' Ex l',h=>⟨rfl,rfl⟩
 | .ptr d,.ptr d',h=>⟨rfl,rfl⟩
 | .it _,.st _,h=>by simp[Kk]at h
 | .it _,.vec _ _ _,h=>by simp[Kk]at h
 | .it _,.ptr _,h=>by simp[Kk]at h
 | .it _,.map _ _,h=>by simp[Kk]at h
 | .st _,.vec _ _ _,h=>by simp[Kk]at h
 | .st _,.ptr _,h=>by simp[Kk]at h
 | .st _,.map _ _,h=>by simp[Kk]at h
 | .vec _ _ _,.st _,h=>by simp[Kk]at h
 | .vec _ _ _,.ptr _,h=>by simp[Kk]at h
 | .vec _ _ _,.map _ _,h=>by simp[Kk]at h
 | .ptr _,.st _,h=>by simp[Kk]at h
 | .ptr _,.vec _ _ _,h=>by simp[Kk]at h
 | .ptr _,.map _ _,h=>by simp[Kk]at h
 | .map _ _,.st _,h=>by simp[Kk]at h
 | .map _ _,.vec _ _ _,h=>by simp[Kk]at h
 | .map _ _,.ptr _,h=>by simp[Kk]at h
 | .map _ _,.map _ _,h=>by simp[Kk]at h
theorem As8:∀{l l':List D},P5 l l'→D7 l'=D7 l
 | [],[],_=>rfl
 |d::l,d'::l',h=>by simp only[P5]at h;simp[D7,(Amt h.1).1,As8 h.2]
 | [],_::_,h=>by simp[P5]at h
 |_::_,[],h=>by simp[P5]at h
end
theorem Axk{sz:Nat}:∀{l l':List D},P5 l l'→(∀x∈l,x.size=sz)→∀x∈l',x.size=sz
 | [],[],_,_=>by simp
 |d::l,d'::l',h,hs=>by
  simp only[P5]at h;intro x hx;rcases Ah.1 hx with rfl|hx
  ·rw[(Amt h.1).1];exact hs d (Ar ..)
  ·exact Axk h.2 (fun y hy=>hs y (Au _ hy)) x hx
 | [],_::_,h,_=>by simp[P5]at h
 |_::_,[],h,_=>by simp[P5]at h
mutual
theorem Kk.rep{G:Mem}{w:World}:∀{d d':D} {cs:List Value} {bs:List Nat},Kk d d'→Bp G w d cs bs→bs.Nodup→
 ∃Et:List Nat,Et.Sublist bs∧∀G':Mem,G.le G'→(∀b∈bs,b ∉ Et→G' b=w.heap[b]?)→Bp G' w d' cs Et
 |d,.it y,cs,bs,h,hr,hn=>by
  simp only[Kk]at h;refine⟨[],by simp,fun G' hG hb=>?_⟩
  simp only[Bp];exact⟨Bp.Ap hG hr h fun b Jx=>hb b Jx (by simp),trivial⟩
 | .st l,.st l',cs,bs,h,hr,hn=>by
   simp only[Kk]at h;simp only[Bp]at hr;obtain⟨Et,h1,h2⟩:=P5.rep h hr hn;exact⟨Et,h1,fun G' hG hb=>by simp only[Bp];exact h2 G' hG hb⟩
 | .vec e sz l,.vec e' Ex l',cs,bs,h,hr,hn=>by
   simp only[Kk]at h;obtain⟨rfl,rfl,h⟩:=h;simp only[Bp]at hr;rcases hr with⟨rfl,rfl,rfl⟩|⟨g,off,cap,cur,xs,b0,rfl,h1,h1',h2,h3,h4,h5,h6,h7,rfl⟩
   ·have:l'=[]:=by have:=Aq5 h;simpa using this
    subst this;exact⟨[],by simp,fun G' hG hb=>by simp[Bp]⟩
   ·obtain⟨Et,k1,k2⟩:=P5.rep h h6 (Bs.1 hn).2;have hlen:=Aq5 h;refine⟨g::Et,by simpa using k1,fun G' hG hb=>?_⟩
    simp only[Bp];refine .inr ⟨g,off,cap,cur,xs,Et,by rw[hlen],h1,h1',by omega,h3,h4,by rw[hlen];exact h5,k2 G' hG fun b Jx Ku=>?_,Axk h h7,rfl⟩
    refine hb b (by simp[Jx]) fun Nq=>?_
    rcases Ah.1 Nq with rfl|Nq
    ·exact(Bs.1 hn).1 Jx
    ·exact Ku Nq
 | .ptr d,.ptr d',cs,bs,h,hr,hn=>by
   simp only[Kk]at h;simp only[Bp]at hr;obtain⟨g,cells,ty,b0,rfl,h1,h2,rfl⟩:=hr;obtain⟨Et,k1,k2⟩:=Kk.rep h h2 (Bs.1 hn).2;refine⟨g::Et,by simpa using k1,fun G' hG hb=>?_⟩
   simp only[Bp];refine⟨g,cells,ty,Et,rfl,h1,k2 G' hG fun b Jx Ku=>?_,rfl⟩
   refine hb b (by simp[Jx]) fun Nq=>?_
   rcases Ah.1 Nq with rfl|Nq
   ·exact(Bs.1 hn).1 Jx
   ·exact Ku Nq
 | .it _,.st _,_,_,h,_,_=>by simp[Kk]at h
 | .it _,.vec _ _ _,_,_,h,_,_=>by simp[Kk]at h
 | .it _,.ptr _,_,_,h,_,_=>by simp[Kk]at h
 | .it _,.map _ _,_,_,h,_,_=>by simp[Kk]at h
 | .st _,.vec _ _ _,_,_,h,_,_=>by simp[Kk]at h
 | .st _,.ptr _,_,_,h,_,_=>by simp[Kk]at h
 | .st _,.map _ _,_,_,h,_,_=>by simp[Kk]at h
 | .vec _ _ _,.st _,_,_,h,_,_=>by simp[Kk]at h
 | .vec _ _ _,.ptr _,_,_,h,_,_=>by simp[Kk]at h
 | .vec _ _ _,.map _ _,_,_,h,_,_=>by simp[Kk]at h
 | .ptr _,.st _,_,_,h,_,_=>by simp[Kk]at h
 | .ptr _,.vec _ _ _,_,_,h,_,_=>by simp[Kk]at h
 | .ptr _,.map _ _,_,_,h,_,_=>by simp[Kk]at h
 | .map _ _,.st _,_,_,h,_,_=>by simp[Kk]at h
 | .map _ _,.vec _ _ _,_,_,h,_,_=>by simp[Kk]at h
 | .map _ _,.ptr _,_,_,h,_,_=>by simp[Kk]at h
 | .map _ _,.map _ _,_,_,h,_,_=>by simp[Kk]at h
theorem P5.rep{G:Mem}{w:World}:∀{l l':List D} {cs:List Value} {bs:List Nat},P5 l l'→Ct G w l cs bs→bs.Nodup→
 ∃Et:List Nat,Et.Sublist bs∧∀G':Mem,G.le G'→(∀b∈bs,b ∉ Et→G' b=w.heap[b]?)→Ct G' w l' cs Et
 | [],[],cs,bs,_,hr,_=>by
   simp only[Ct]at hr;obtain⟨rfl,rfl⟩:=hr;exact⟨[],by simp,fun G' hG hb=>by simp[Ct]⟩
 |d::l,d'::l',cs,bs,h,hr,hn=>by
  simp only[P5]at h;simp only[Ct]at hr;obtain⟨c,c',b,b',rfl,rfl,h1,h2⟩:=hr;rw[Cb]at hn;obtain⟨n1,n2,n3⟩:=hn;obtain⟨bs1,k1,k2⟩:=Kk.rep h.1 h1 n1;obtain⟨bs2,k3,k4⟩:=P5.rep h.2 h2 n2;refine⟨bs1++bs2,List.Sublist.append k1 k3,fun G' hG hb=>?_⟩
  simp only[Ct];refine⟨c,c',bs1,bs2,rfl,rfl,k2 G' hG fun x hx1 hx2=>?_,k4 G' hG fun x hx1 hx2=>?_⟩
  ·refine hb x (by simp[hx1]) fun hx3=>?_
   rcases Aj.1 hx3 with hx3|hx3
   ·exact hx2 hx3
   ·exact n3 x hx1 x (k3.subset hx3) rfl
  ·refine hb x (by simp[hx1]) fun hx3=>?_
   rcases Aj.1 hx3 with hx3|hx3
   ·exact n3 x (k1.subset hx3) x hx1 rfl
   ·exact hx2 hx3
 | [],_::_,_,_,h,_,_=>by simp[P5]at h
 |_::_,[],_,_,h,_,_=>by simp[P5]at h
end
theorem Fn.part{P:Program}{f:FuncId}{args:List SV}{D8 Bkv:SV→List SV→Prop}(h:Fn P f args D8)(hP:∀r az,D8 r az→∃inv d d',r= .own inv d∧Kk d d'∧Bkv (.own [] d') az):Fn P f args Bkv:=by
 intro G σ Fr w Fj Dj Cq hin;refine(h G σ Fr w Fj Dj Cq hin).mono ?_;rintro e w' ⟨r,az,c,G1,σ1,rfl,hp,hG,Aad,Ly,Ba,hlen,has⟩;obtain⟨inv,d,d',rfl,Va,hp'⟩:=hP r az hp;obtain⟨bs,h1,h2,h3,h4⟩:=(show Dr G1 σ1 w' args.length d c from Ba);obtain⟨Et,k1,k2⟩:=Va.rep h1 h3
 let G2:Mem:=fun b=>if b∈bs∧b ∉ Et then w'.heap[b]? else G1 b
 let σ2:Lab:=fun b=>if b∈bs∧b ∉ Et then none else σ1 b
 have hle:G1.le G2:=by
  intro b o hb;simp only[G2];split
  ·rename_i hc;obtain⟨k,hk⟩:=h4 b hc.1;rw[(Aad.own b _ hk).1]at hb;cases hb
  ·exact hb
 have hσ2:∀b Ca,σ2 b=some Ca→σ1 b=some Ca∧¬(b∈bs∧b ∉ Et):=by
  intro b Ca hb;simp only[σ2]at hb;split at hb
  ·cases hb
  ·rename_i hc;exact⟨hb,hc⟩
 have Rx:Gc G2 σ2 Fr ⟨w,0, #[]⟩ w':=by
  refine⟨?_,?_,?_,Aad.frame,Aad.os,Aad.tape,Aad.output,Aad.size,?_,Amb.mono hle Aad.Mv⟩
  ·intro b o hb;simp only[G2]at hb;split at hb
   ·exact hb
   ·exact Aad.fixed b o hb
  ·intro b Ca hb;obtain⟨q1,q2⟩:=hσ2 b Ca hb;obtain⟨q3,q4,q5⟩:=Aad.own b Ca q1;refine⟨?_,q4,q5⟩;simp only[G2];rw[if_neg q2];exact q3
  ·intro b b' Ca hb Dc;exact Aad.inj b b' Ca (hσ2 b Ca hb).1 (hσ2 b' Ca Dc).1
  ·intro b o hb;simp only[G2];split
   ·rename_i hc;obtain⟨k,hk⟩:=h4 b hc.1;rw[(Aad.own b _ hk).2.1]at hb;cases hb
   ·exact Aad.apart b o hb
 refine⟨.own [] d',az,c,G2,σ2,rfl,hp',hG.trans hle,Rx,rfl,?_,hlen,?_⟩
 ·refine⟨Et,k2 G2 hle fun b q1 q2=>?_,by rw[(Amt Va).2];exact h2,h3.sublist k1,fun b hb=>?_⟩
  ·simp only[G2];rw[if_pos ⟨q1,q2⟩]
  ·obtain⟨k,hk⟩:=h4 b (k1.subset hb);refine⟨k,?_⟩;simp only[σ2];rw[if_neg (fun hc=>hc.2 hb)]
   exact hk
 ·intro i sv hi;obtain⟨q1,q2⟩:=has i sv hi;refine⟨q1,Dx.tr q2 hle fun b k hb=>⟨?_,rfl⟩⟩
  have Pv:i<args.length:=by
   have:=(Ak.1 hi).1;omega
  simp only[σ2];rw[if_neg]
  ·exact hb
  ·rintro⟨hc,_⟩;obtain⟨k',Jn⟩:=h4 b hc;rw[hb]at Jn;cases Jn;exact Nat.lt_irrefl _ Pv

open Go.RowKit
section
variable{P:Program}
def OfC(P:Program)(f F:FuncId)(T1 T2:TypeId):Prop:=
 ∀(v1 v2:Value) (W:World),v1.oneCell'=true→v2.oneCell'=true→Calls P f #[v1,v2] W fun e w'=>e= .returned (.func (.func F) #[] #[.pointer (some ⟨W.heap.size+1,0,none⟩),.pointer (some ⟨W.heap.size,0,none⟩)])∧w'=(W.alloc (.cells #[v1] T1)).alloc (.cells #[v2] T2)
theorem A22{f F:FuncId}{T1 T2:TypeId}{N n m:Nat}{st:St}{K:SV→St→Prop}(hC:OfC P f F T1 T2)
 (hq:(Aje (.t n) Ba4 fun s v p _=>Qi (.t m) fun x=>.Co (x.isAgg=false) fun _=>.K8 fun st=>K (.Px F x s v p) st).wq P (fun _=>False) st):Ky P f N [.t n,.t m] st K:=by
 refine⟨fun G σ Fr w0 a w xs hN hr ho=>?_⟩
 subst hN
 match xs,ho with
 | [],ho=>simp[Lo]at ho
 | [x],ho=>simp[Lo]at ho
 |x::y::z::r,ho=>simp[Lo]at ho
 | [x,y],ho=>
   simp only[Lo,Bool.and_true,Ad]at ho;obtain⟨s,cur,inv,tr,p,u,r,v,h1,hs,hp0,Pj,Dd,hf,hle⟩:=V1 hr ho.1 (M.Ps hq);obtain⟨i,h2,hi⟩:=Hs hr ho.2 h1;obtain⟨Jg,hK⟩:=h2;have W3:([x,y].map a.eval).toArray= #[a.eval x,a.eval y]:=by simp
   rw[W3];have Bxe:=Pj;obtain⟨v0,b,off,cs,g1,g2,g3⟩:=Bxe;have hy:Bi G i [a.eval y]:=by
    unfold Bb at hi;rw[Jg]at hi;exact hi
   refine(hC (a.eval x) (a.eval y) w (by rw[g3];rfl) (Bi.one i _ hy _ (by simp))).mono ?_
   rintro e w' ⟨rfl,rfl⟩;have Hr:Rel G σ Fr w0 st a (w.alloc (.cells #[a.eval x] T1)):=hr.Adf (World.grownBy_alloc _ _ none) (by intro b e;cases e)
   obtain⟨k1,k2,k3⟩:=hr.Bz.fresh (Ay w.heap.size);obtain⟨j1,j2,j3⟩:=Hr.Bz.fresh (Ay _);have Kn:Rel G σ Fr w0 st a ((w.alloc (.cells #[a.eval x] T1)).alloc (.cells #[a.eval y] T2)):=Hr.Adf (World.grownBy_alloc _ _ none) (by intro b e;cases e)
   have Cq:(w.alloc (.cells #[a.eval x] T1)).heap.size=w.heap.size+1:=by simp
   rw[Cq]at j1 j2 j3;have Ge:=heap_alloc_new (w.alloc (.cells #[a.eval x] T1)) (.cells #[a.eval y] T2);rw[Cq]at Ge;refine⟨.Px F i s v p,_,G,σ,st,rfl,hK,Mem.le.refl G,Kn,w.heap.size+1, #[a.eval y],T2,⟨j1,j2,j3,by simp⟩,Ge,hy,w.heap.size,a.eval x,T1,⟨rfl,by omega⟩,⟨k1,k2,k3,by simp;omega⟩,?_,_,hs,hle,fun Kj t' e' _ _=>?_⟩
   ·rw[M3 _ _ _ (by rw[Cq];omega)]
    exact heap_alloc_new w _
   ·cases e';refine Pj.tr (show Dr G σ w s tr (val a w0 s)from hr.Bj s cur _ hs) fun b' k hb=>⟨hb,?_⟩
    have Di:=(hr.Bz.own b' _ hb).2.2;rw[M3 _ _ b' (by rw[Cq];omega)]
    exact M3 w _ b' Di
end
end Go.Ab
