/- Lemmas -/
import Derived.WalkKit
import Derived.Maps.AppendAt
set_option linter.unusedVariables false
set_option linter.unusedSimpArgs false
namespace Go.Ab
inductive I where
 |Nz
 |int (k:IntKind) (n:Int)
 |bool (b:Bool)
 |str (s:List UInt8)
 |agg (l:List I)
 |arr (sz:Nat) (l:List I)
 |list (l:List I)
 |fn (f:FuncId)
 |Yp (f:FuncId) (Lw:List I)
 |Ajy
 |Zm
 |Ajz
 |ifc (t:TypeId) (x:I)
 deriving Inhabited
mutual
def I.size:I→Nat
 | .agg l=>Ck l
 | .arr sz l=>sz*l.length
 |_=>1
def Ck:List I→Nat
 | []=>0
 |x::l=>x.size+Ck l
end
def I.isAgg:I→Bool
 | .agg _| .arr _ _=>true
 |_=>false
abbrev Mem:=Nat→Option Obj
mutual
def A1(G:Mem):I→List Value→Prop
 | .Nz,cs=>∃c:Value,cs=[c]∧c.oneCell'=true
 | .int k n,cs=>cs=[.int k n]
 | .bool b,cs=>cs=[.bool b]
 | .str s,cs=>cs=[.string ⟨⟨s⟩⟩]∧s.length≤maxLen
 | .agg l,cs=>A0 G l cs
 | .arr sz l,cs=>A0 G l cs∧∀x∈l,x.size=sz
 | .list l,cs=>∃a cap,cs=[.slice a l.length cap]∧l.length≤cap∧cap≤maxLen∧
  (l=[]∨∃b off bl ty fz sz,a=some ⟨b,off,none⟩∧G b=some (.cells bl ty fz)∧(∀x∈l,x.size=sz)∧
    off+l.length*sz≤bl.size∧A0 G l ((bl.toList.drop off).take (l.length*sz)))
 | .fn f,cs=>cs=[.func (.func f) #[] #[]]
 | .Yp f Lw,cs=>∃ps:List Value,cs=[.func (.func f) #[] ps.toArray]∧E3 G Lw ps
 | .Ajy,cs=>cs=[.nilIface]
 | .Zm,cs=>cs=[.pointer none]
 | .Ajz,cs=>cs=[.map none]
 | .ifc t x,cs=>∃c:Value,cs=[.iface t c]∧(if x.isAgg then ∃a,c= .agg a∧A1 G x a.toList else A1 G x [c])
def A0(G:Mem):List I→List Value→Prop
 | [],cs=>cs=[]
 |x::l,cs=>∃c d,cs=c++d∧A1 G x c∧A0 G l d
def E3(G:Mem):List I→List Value→Prop
 | [],ps=>ps=[]
 |x::l,ps=>∃p r b off bl ty fz pre cs post,ps=p::r∧p= .pointer (some ⟨b,off,none⟩)∧G b=some (.cells bl ty fz)∧bl.toList=pre++cs++post∧pre.length=off∧A1 G x cs∧E3 G l r
end
def Mem.le(G G':Mem):Prop:=∀b o,G b=some o→G' b=some o
theorem Mem.le.refl(G:Mem):G.le G:=fun _ _ h=>h
theorem Mem.le.trans{A B C:Mem}(h:A.le B)(k:B.le C):A.le C:=fun b o x=>k b o (h b o x)
mutual
theorem A1.mono{G G':Mem}(hG:G.le G'):∀(x:I) (cs:List Value),A1 G x cs→A1 G' x cs
 | .Nz,_,h=>by simpa only[A1]using h
 | .int _ _,_,h=>by simpa only[A1]using h
 | .bool _,_,h=>by simpa only[A1]using h
 | .str _,_,h=>by simpa only[A1]using h
 | .fn _,_,h=>by simpa only[A1]using h
 | .Yp _ Lw,_,h=>by
   simp only[A1]at h ⊢;obtain⟨ps,hc,h⟩:=h;exact⟨ps,hc,E3.mono hG Lw ps h⟩
 | .Ajy,_,h=>by simpa only[A1]using h
 | .Zm,_,h=>by simpa only[A1]using h
 | .Ajz,_,h=>by simpa only[A1]using h
 | .agg l,cs,h=>by
   simp only[A1]at h ⊢;exact A0.mono hG l cs h
 | .arr _ l,cs,h=>by
   simp only[A1]at h ⊢;exact⟨A0.mono hG l cs h.1,h.2⟩
 | .list l,cs,h=>by
   simp only[A1]at h ⊢;obtain⟨a,cap,h1,h2,h3,h4⟩:=h;refine⟨a,cap,h1,h2,h3,?_⟩;rcases h4 with h4|⟨b,off,bl,ty,fz,sz,ha,hg,hs,ho,hr⟩
   ·exact .inl h4
   ·exact .inr ⟨b,off,bl,ty,fz,sz,ha,hG _ _ hg,hs,ho,A0.mono hG l _ hr⟩
 | .ifc t x,cs,h=>by
   simp only[A1]at h ⊢;obtain⟨c,hc,h⟩:=h;refine⟨c,hc,?_⟩;split
   ·rename_i hx;rw[if_pos hx]at h;obtain⟨a,ha,h⟩:=h;exact⟨a,ha,A1.mono hG x _ h⟩
   ·rename_i hx;rw[if_neg hx]at h;exact A1.mono hG x _ h
theorem A0.mono{G G':Mem}(hG:G.le G'):∀(l:List I) (cs:List Value),A0 G l cs→A0 G' l cs
 | [],_,h=>by simpa only[A0]using h
 |x::l,cs,h=>by
  simp only[A0]at h ⊢;obtain⟨c,d,e,h1,h2⟩:=h;exact⟨c,d,e,A1.mono hG x c h1,A0.mono hG l d h2⟩
theorem E3.mono{G G':Mem}(hG:G.le G'):∀(l:List I) (ps:List Value),E3 G l ps→E3 G' l ps
 | [],_,h=>by simpa only[E3]using h
 |x::l,ps,h=>by
  simp only[E3]at h ⊢;obtain⟨p,r,b,off,bl,ty,fz,pre,cs,post,h1,h2,h3,h4,h5,h6,h7⟩:=h;exact⟨p,r,b,off,bl,ty,fz,pre,cs,post,h1,h2,hG _ _ h3,h4,h5,A1.mono hG x _ h6,E3.mono hG l r h7⟩
end
theorem Dc{sz:Nat}:∀{l:List I},(∀x∈l,x.size=sz)→Ck l=l.length*sz
 | [],_=>by simp[Ck]
 |x::l,h=>by
  have h1:=h x (List.mem_cons_self ..);have h2:=Dc (l:=l) fun y hy=>h y (List.mem_cons_of_mem _ hy)
  simp only[Ck,h1,h2,List.length_cons,Nat.add_mul,Nat.one_mul];omega
mutual
theorem A1.length{G:Mem}:∀(x:I) (cs:List Value),A1 G x cs→cs.length=x.size
 | .Nz,_,h=>by
   simp only[A1]at h;obtain⟨c,h,_⟩:=h;simp[h,I.size]
 | .int _ _,_,h=>by simp only[A1]at h;simp[h,I.size]
 | .bool _,_,h=>by simp only[A1]at h;simp[h,I.size]
 | .str _,_,h=>by simp only[A1]at h;simp[h.1,I.size]
 | .fn _,_,h=>by simp only[A1]at h;simp[h,I.size]
 | .Yp _ _,_,h=>by
   simp only[A1]at h;obtain⟨ps,hc,_⟩:=h;simp[hc,I.size]
 | .Ajy,_,h=>by simp only[A1]at h;simp[h,I.size]
 | .Zm,_,h=>by simp only[A1]at h;simp[h,I.size]
 | .Ajz,_,h=>by simp only[A1]at h;simp[h,I.size]
 | .agg l,cs,h=>by
   simp only[A1]at h;simpa[I.size]using A0.length l cs h
 | .arr sz l,cs,h=>by
   simp only[A1]at h;have:=A0.length l cs h.1;rw[Dc h.2]at this;simp[I.size,this,Nat.mul_comm]
 | .list l,cs,h=>by
   simp only[A1]at h;obtain⟨a,cap,h1,_⟩:=h;simp[h1,I.size]
 | .ifc t x,cs,h=>by
   simp only[A1]at h;obtain⟨c,hc,h⟩:=h;simp[hc,I.size]
theorem A0.length{G:Mem}:∀(l:List I) (cs:List Value),A0 G l cs→cs.length=Ck l
 | [],_,h=>by simp only[A0]at h;simp[h,Ck]
 |x::l,cs,h=>by
  simp only[A0]at h;obtain⟨c,d,e,h1,h2⟩:=h;have:=A1.length x c h1;have:=A0.length l d h2;simp[e,Ck, *]
end
mutual
theorem A1.one{G:Mem}:∀(x:I) (cs:List Value),A1 G x cs→∀c∈cs,c.oneCell'=true
 | .Nz,_,h=>by
   simp only[A1]at h;obtain⟨c,h,k⟩:=h;simp[h,k]
 | .int _ _,_,h=>by simp only[A1]at h;simp[h,Value.oneCell']
 | .bool _,_,h=>by simp only[A1]at h;simp[h,Value.oneCell']
 | .str _,_,h=>by simp only[A1]at h;simp[h.1,Value.oneCell']
 | .fn _,_,h=>by simp only[A1]at h;simp[h,Value.oneCell']
 | .Yp _ _,_,h=>by
   simp only[A1]at h;obtain⟨ps,hc,_⟩:=h;simp[hc,Value.oneCell']
 | .Ajy,_,h=>by simp only[A1]at h;simp[h,Value.oneCell']
 | .Zm,_,h=>by simp only[A1]at h;simp[h,Value.oneCell']
 | .Ajz,_,h=>by simp only[A1]at h;simp[h,Value.oneCell']
 | .agg l,cs,h=>by
   simp only[A1]at h;exact A0.one l cs h
 | .arr sz l,cs,h=>by
   simp only[A1]at h;exact A0.one l cs h.1
 | .list l,cs,h=>by
   simp only[A1]at h;obtain⟨a,cap,h1,_⟩:=h;simp[h1,Value.oneCell']
 | .ifc t x,cs,h=>by
   simp only[A1]at h;obtain⟨c,hc,h⟩:=h;simp[hc,Value.oneCell']
theorem A0.one{G:Mem}:∀(l:List I) (cs:List Value),A0 G l cs→∀c∈cs,c.oneCell'=true
 | [],_,h=>by simp only[A0]at h;simp[h]
 |x::l,cs,h=>by
  simp only[A0]at h;obtain⟨c,d,e,h1,h2⟩:=h;have h3:=A1.one x c h1;have h4:=A0.one l d h2;intro v hv;subst e;rcases List.mem_append.1 hv with hv|hv
  ·exact h3 v hv
  ·exact h4 v hv
end
def I.sub:I→List Nat→Option (Nat × I)
 |x,[]=>some (0,x)
 | .agg l,i::r=>match l[i]? with
   |some y=>match y.sub r with
    |some (o,u)=>some (Ck (l.take i)+o,u)
    |none=>none
   |none=>none
 | .arr sz l,i::r=>match l[i]? with
   |some y=>match y.sub r with
    |some (o,u)=>some (i*sz+o,u)
    |none=>none
   |none=>none
 |_,_::_=>none
theorem A0.nth{G:Mem}:∀{l:List I} {cs:List Value} (i:Nat) {y:I},A0 G l cs→l[i]?=some y→
 ∃c1 c c2,cs=c1++c++c2∧c1.length=Ck (l.take i)∧A1 G y c∧(∀y' c',A1 G y' c'→A0 G (l.set i y') (c1++c'++c2))
 | [],_,i,y,_,h=>by simp at h
 |x::l,cs,0,y,h,hy=>by
  simp only[A0]at h;obtain⟨c,d,e,h1,h2⟩:=h;simp only[List.getElem?_cons_zero,Option.some.injEq]at hy;subst hy;refine⟨[],c,d,by simpa using e,by simp[Ck],h1,?_⟩
  intro y' c' H2;simp only[List.set_cons_zero,A0,List.nil_append];exact⟨c',d,rfl,H2,h2⟩
 |x::l,cs,i+1,y,h,hy=>by
  simp only[A0]at h;obtain⟨c,d,e,h1,h2⟩:=h;simp only[List.getElem?_cons_succ]at hy;obtain⟨c1,cc,c2,e2,hl,hr,Cs⟩:=A0.nth i h2 hy;have K9:=A1.length x c h1;refine⟨c++c1,cc,c2,by simp[e,e2],by simp[Ck,K9,hl],hr,?_⟩
  intro y' c' H2;simp only[List.set_cons_succ,A0];exact⟨c,c1++c'++c2,by simp,h1,Cs y' c' H2⟩
theorem A1.sub{G:Mem}:∀(r:List Nat) {x:I} {cs:List Value} {o:Nat} {u:I},A1 G x cs→x.sub r=some (o,u)→
 ∃c1 c c2,cs=c1++c++c2∧c1.length=o∧A1 G u c:=by
 intro r;induction r with
 |nil=>
  intro x cs o u h hs;simp only[I.sub]at hs;have:(0,x)=(o,u):=by cases x<;>simpa[I.sub]using hs
  cases this;exact⟨[],cs,[],by simp,rfl,h⟩
 |cons i r ih=>
  intro x cs o u h hs;cases x with
  |agg l=>
   simp only[I.sub]at hs;simp only[A1]at h;cases hy:l[i]? with
   |none=>simp[hy]at hs
   |some y=>
    simp only[hy]at hs;cases hk:y.sub r with
    |none=>simp[hk]at hs
    |some p=>
     obtain⟨o',u'⟩:=p;simp only[hk,Option.some.injEq,Prod.mk.injEq]at hs;obtain⟨rfl,rfl⟩:=hs;obtain⟨c1,c,c2,e,hl,hr,_⟩:=A0.nth i h hy;obtain⟨d1,d,d2,e',hl',Ci⟩:=ih hr hk;exact⟨c1++d1,d,d2++c2,by simp[e,e'],by simp[hl,hl'],Ci⟩
  |arr sz l=>
   simp only[I.sub]at hs;simp only[A1]at h;cases hy:l[i]? with
   |none=>simp[hy]at hs
   |some y=>
    simp only[hy]at hs;cases hk:y.sub r with
    |none=>simp[hk]at hs
    |some p=>
     obtain⟨o',u'⟩:=p;simp only[hk,Option.some.injEq,Prod.mk.injEq]at hs;obtain⟨rfl,rfl⟩:=hs;obtain⟨c1,c,c2,e,hl,hr,_⟩:=A0.nth i h.1 hy;obtain⟨d1,d,d2,e',hl',Ci⟩:=ih hr hk;have hi:i<l.length:=(List.getElem?_eq_some_iff.1 hy).1;refine⟨c1++d1,d,d2++c2,by simp[e,e'],?_,Ci⟩
     have:Ck (l.take i)=i*sz:=by
      rw[Dc (sz:=sz) fun z hz=>h.2 z (List.mem_of_mem_take hz),List.length_take,Nat.min_eq_left (Nat.le_of_lt hi)]
     simp[hl,hl',this]
  |_=>simp[I.sub]at hs
def I.put:I→List Nat→I→I
 |_,[],u=>u
 | .agg l,i::r,u=>match l[i]? with
   |some y=>.agg (l.set i (y.put r u))
   |none=>.agg l
 | .arr sz l,i::r,u=>match l[i]? with
   |some y=>.arr sz (l.set i (y.put r u))
   |none=>.arr sz l
 |x,_::_,_=>x
theorem Au4{l:List I}{i:Nat}{y y':I}(h:l[i]?=some y)(hs:y'.size=y.size):Ck (l.set i y')=Ck l:=by
 induction l generalizing i with
 |nil=>simp at h
 |cons x l ih=>
  cases i with
  |zero=>
   simp only[List.getElem?_cons_zero,Option.some.injEq]at h;subst h;simp[Ck,hs]
  |succ i=>
   simp only[List.getElem?_cons_succ]at h;simp[Ck,ih h]
theorem I.A0k:∀(r:List Nat) {x:I} {o:Nat} {u u':I},x.sub r=some (o,u)→u'.size=u.size→(x.put r u').size=x.size:=by
 intro r;induction r with
 |nil=>
  intro x o u u' hs hu;have:(0,x)=(o,u):=by cases x<;>simpa[I.sub]using hs
  cases this;cases x<;>simpa[I.put]using hu
 |cons i r ih=>
  intro x o u u' hs hu;cases x with
  |agg l=>
   simp only[I.sub]at hs;cases hy:l[i]? with
   |none=>simp[hy]at hs
   |some y=>
    simp only[hy]at hs;cases hk:y.sub r with
    |none=>simp[hk]at hs
    |some p=>
     obtain⟨o',u1⟩:=p;simp only[hk,Option.some.injEq,Prod.mk.injEq]at hs;obtain⟨rfl,rfl⟩:=hs;simp only[I.put,hy,I.size];exact Au4 hy (ih hk hu)
  |arr sz l=>
   simp only[I.sub]at hs;cases hy:l[i]? with
   |none=>simp[hy]at hs
   |some y=>simp[I.put,hy,I.size]
  |_=>simp[I.sub]at hs
theorem A1.put{G:Mem}:∀(r:List Nat) {x:I} {cs:List Value} {o:Nat} {u:I},A1 G x cs→x.sub r=some (o,u)→
 ∃c1 c c2,cs=c1++c++c2∧c1.length=o∧A1 G u c∧(∀u' c',u'.size=u.size→A1 G u' c'→A1 G (x.put r u') (c1++c'++c2)):=by
 intro r;induction r with
 |nil=>
  intro x cs o u h hs;have:(0,x)=(o,u):=by cases x<;>simpa[I.sub]using hs
  cases this;refine⟨[],cs,[],by simp,rfl,h,?_⟩
  intro u' c' _ hu;cases x<;>simpa[I.put]using hu
 |cons i r ih=>
  intro x cs o u h hs;cases x with
  |agg l=>
   simp only[I.sub]at hs;simp only[A1]at h;cases hy:l[i]? with
   |none=>simp[hy]at hs
   |some y=>
    simp only[hy]at hs;cases hk:y.sub r with
    |none=>simp[hk]at hs
    |some p=>
     obtain⟨o',u'⟩:=p;simp only[hk,Option.some.injEq,Prod.mk.injEq]at hs;obtain⟨rfl,rfl⟩:=hs;obtain⟨c1,c,c2,e,hl,hr,Cs⟩:=A0.nth i h hy;obtain⟨d1,d,d2,e',hl',Ci,Fe⟩:=ih hr hk;refine⟨c1++d1,d,d2++c2,by simp[e,e'],by simp[hl,hl'],Ci,?_⟩
     intro v cv hv W4;have:=Cs _ _ (Fe v cv hv W4);simp only[I.put,hy,A1];simpa using this
  |arr sz l=>
   simp only[I.sub]at hs;simp only[A1]at h;cases hy:l[i]? with
   |none=>simp[hy]at hs
   |some y=>
    simp only[hy]at hs;cases hk:y.sub r with
    |none=>simp[hk]at hs
    |some p=>
     obtain⟨o',u'⟩:=p;simp only[hk,Option.some.injEq,Prod.mk.injEq]at hs;obtain⟨rfl,rfl⟩:=hs;obtain⟨c1,c,c2,e,hl,hr,Cs⟩:=A0.nth i h.1 hy;obtain⟨d1,d,d2,e',hl',Ci,Fe⟩:=ih hr hk;have hi:i<l.length:=(List.getElem?_eq_some_iff.1 hy).1;have Bk:Ck (l.take i)=i*sz:=by
      rw[Dc (sz:=sz) fun z hz=>h.2 z (List.mem_of_mem_take hz),List.length_take,Nat.min_eq_left (Nat.le_of_lt hi)]
     refine⟨c1++d1,d,d2++c2,by simp[e,e'],by simp[hl,hl',Bk],Ci,?_⟩
     intro v cv hv W4;have:=Cs _ _ (Fe v cv hv W4);simp only[I.put,hy,A1];refine⟨by simpa using this,?_⟩
     intro z hz;rcases List.mem_or_eq_of_mem_set hz with hz|hz
     ·exact h.2 z hz
     ·subst hz;rw[I.A0k r hk hv];exact h.2 y (List.mem_of_getElem? hy)
  |_=>simp[I.sub]at hs
def Aq(G:Mem)(x:I)(c:Value):Prop:=if x.isAgg then ∃a,c= .agg a∧A1 G x a.toList else A1 G x [c]
theorem Aq.mono{G G':Mem}(hG:G.le G'){x:I}{c:Value}(h:Aq G x c):Aq G' x c:=by
 unfold Aq at*;split
 ·rename_i hx;rw[if_pos hx]at h;obtain⟨a,ha,h⟩:=h;exact⟨a,ha,A1.mono hG x _ h⟩
 ·rename_i hx;rw[if_neg hx]at h;exact A1.mono hG x _ h
theorem Aq.cells{G:Mem}{x:I}{c:Value}(h:Aq G x c):A1 G x c.cells.toList:=by
 unfold Aq at h;split at h
 ·obtain⟨a,rfl,h⟩:=h;simpa[Value.cells]using h
 ·have Sd:=A1.one x _ h c (by simp)
  cases c<;>simp_all [Value.cells,Value.oneCell']
theorem A0.append{G:Mem}:∀{l m:List I} {cs ds:List Value},A0 G l cs→A0 G m ds→A0 G (l++m) (cs++ds)
 | [],m,cs,ds,h,k=>by simp only[A0]at h;subst h;simpa using k
 |x::l,m,cs,ds,h,k=>by
  simp only[A0]at h;obtain⟨c,d,e,h1,h2⟩:=h;simp only[List.cons_append,A0];exact⟨c,d++ds,by simp[e],h1,A0.append h2 k⟩
theorem A0.split{G:Mem}:∀{l m:List I} {cs:List Value},A0 G (l++m) cs→∃c d,cs=c++d∧A0 G l c∧A0 G m d
 | [],m,cs,h=>⟨[],cs,by simp,by simp[A0],by simpa using h⟩
 |x::l,m,cs,h=>by
  simp only[List.cons_append,A0]at h;obtain⟨c,d,e,h1,h2⟩:=h;obtain⟨c',d',e',h3,h4⟩:=A0.split h2;refine⟨c++c',d',by simp[e,e'],?_,h4⟩
  simp only[A0];exact⟨c,c',rfl,h1,h3⟩
end Go.Ab
