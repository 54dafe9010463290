/- Lemmas -/
import Derived.WalkKit
import Derived.Maps.AppendAt
set_option linter.unusedVariables false
set_option linter.unusedSimpArgs false
namespace Go.Ab
inductive I where
 |und
 |int (k:IntKind) (n:Int)
 |bool (b:Bool)
 |str (s:List UInt8)
 |agg (l:List I)
 |arr (sz:Nat) (l:List I)
 |list (l:List I)
 |fn (f:FuncId)
 |clo (f:FuncId) (caps:List I)
 |nili
 |nilp
 |nilm
 |ifc (t:TypeId) (x:I)
 deriving Inhabited
mutual
def I.size:I→Nat
 | .agg l=>sizes l
 | .arr sz l=>sz*l.length
 |_=>1
def sizes:List I→Nat
 | []=>0
 |x::l=>x.size+sizes l
end
def I.isAgg:I→Bool
 | .agg _| .arr _ _=>true
 |_=>false
abbrev Mem:=Nat→Option Obj
mutual
def RepI(G:Mem):I→List Value→Prop
 | .und,cs=>∃c:Value,cs=[c]∧c.oneCell'=true
 | .int k n,cs=>cs=[.int k n]
 | .bool b,cs=>cs=[.bool b]
 | .str s,cs=>cs=[.string ⟨⟨s⟩⟩]∧s.length≤maxLen
 | .agg l,cs=>RepIs G l cs
 | .arr sz l,cs=>RepIs G l cs∧∀x∈l,x.size=sz
 | .list l,cs=>∃a cap,cs=[.slice a l.length cap]∧l.length≤cap∧cap≤maxLen∧
  (l=[]∨∃b off bl ty fz sz,a=some ⟨b,off,none⟩∧G b=some (.cells bl ty fz)∧(∀x∈l,x.size=sz)∧
    off+l.length*sz≤bl.size∧RepIs G l ((bl.toList.drop off).take (l.length*sz)))
 | .fn f,cs=>cs=[.func (.func f) #[] #[]]
 | .clo f caps,cs=>∃ps:List Value,cs=[.func (.func f) #[] ps.toArray]∧RepPs G caps ps
 | .nili,cs=>cs=[.nilIface]
 | .nilp,cs=>cs=[.pointer none]
 | .nilm,cs=>cs=[.map none]
 | .ifc t x,cs=>∃c:Value,cs=[.iface t c]∧(if x.isAgg then ∃a,c= .agg a∧RepI G x a.toList else RepI G x [c])
def RepIs(G:Mem):List I→List Value→Prop
 | [],cs=>cs=[]
 |x::l,cs=>∃c d,cs=c++d∧RepI G x c∧RepIs G l d
def RepPs(G:Mem):List I→List Value→Prop
 | [],ps=>ps=[]
 |x::l,ps=>∃p r b off bl ty fz pre cs post,ps=p::r∧p= .pointer (some ⟨b,off,none⟩)∧G b=some (.cells bl ty fz)∧bl.toList=pre++cs++post∧pre.length=off∧RepI G x cs∧RepPs G l r
end
def Mem.le(G G':Mem):Prop:=∀b o,G b=some o→G' b=some o
theorem Mem.le.refl(G:Mem):G.le G:=fun _ _ h=>h
theorem Mem.le.trans{A B C:Mem}(h:A.le B)(k:B.le C):A.le C:=fun b o x=>k b o (h b o x)
mutual
theorem RepI.mono{G G':Mem}(hG:G.le G'):∀(x:I) (cs:List Value),RepI G x cs→RepI G' x cs
 | .und,_,h=>by simpa only[RepI]using h
 | .int _ _,_,h=>by simpa only[RepI]using h
 | .bool _,_,h=>by simpa only[RepI]using h
 | .str _,_,h=>by simpa only[RepI]using h
 | .fn _,_,h=>by simpa only[RepI]using h
 | .clo _ caps,_,h=>by
   simp only[RepI]at h ⊢;obtain⟨ps,hc,h⟩:=h;exact⟨ps,hc,RepPs.mono hG caps ps h⟩
 | .nili,_,h=>by simpa only[RepI]using h
 | .nilp,_,h=>by simpa only[RepI]using h
 | .nilm,_,h=>by simpa only[RepI]using h
 | .agg l,cs,h=>by
   simp only[RepI]at h ⊢;exact RepIs.mono hG l cs h
 | .arr _ l,cs,h=>by
   simp only[RepI]at h ⊢;exact⟨RepIs.mono hG l cs h.1,h.2⟩
 | .list l,cs,h=>by
   simp only[RepI]at h ⊢;obtain⟨a,cap,h1,h2,h3,h4⟩:=h;refine⟨a,cap,h1,h2,h3,?_⟩;rcases h4 with h4|⟨b,off,bl,ty,fz,sz,ha,hg,hs,ho,hr⟩
   ·exact .inl h4
   ·exact .inr ⟨b,off,bl,ty,fz,sz,ha,hG _ _ hg,hs,ho,RepIs.mono hG l _ hr⟩
 | .ifc t x,cs,h=>by
   simp only[RepI]at h ⊢;obtain⟨c,hc,h⟩:=h;refine⟨c,hc,?_⟩;split
   ·rename_i hx;rw[if_pos hx]at h;obtain⟨a,ha,h⟩:=h;exact⟨a,ha,RepI.mono hG x _ h⟩
   ·rename_i hx;rw[if_neg hx]at h;exact RepI.mono hG x _ h
theorem RepIs.mono{G G':Mem}(hG:G.le G'):∀(l:List I) (cs:List Value),RepIs G l cs→RepIs G' l cs
 | [],_,h=>by simpa only[RepIs]using h
 |x::l,cs,h=>by
  simp only[RepIs]at h ⊢;obtain⟨c,d,e,h1,h2⟩:=h;exact⟨c,d,e,RepI.mono hG x c h1,RepIs.mono hG l d h2⟩
theorem RepPs.mono{G G':Mem}(hG:G.le G'):∀(l:List I) (ps:List Value),RepPs G l ps→RepPs G' l ps
 | [],_,h=>by simpa only[RepPs]using h
 |x::l,ps,h=>by
  simp only[RepPs]at h ⊢;obtain⟨p,r,b,off,bl,ty,fz,pre,cs,post,h1,h2,h3,h4,h5,h6,h7⟩:=h;exact⟨p,r,b,off,bl,ty,fz,pre,cs,post,h1,h2,hG _ _ h3,h4,h5,RepI.mono hG x _ h6,RepPs.mono hG l r h7⟩
end
theorem J3{sz:Nat}:∀{l:List I},(∀x∈l,x.size=sz)→sizes l=l.length*sz
 | [],_=>by simp[sizes]
 |x::l,h=>by
  have h1:=h x (List.mem_cons_self ..);have h2:=J3 (l:=l) fun y hy=>h y (List.mem_cons_of_mem _ hy)
  simp only[sizes,h1,h2,List.length_cons,Nat.add_mul,Nat.one_mul];omega
mutual
theorem RepI.length{G:Mem}:∀(x:I) (cs:List Value),RepI G x cs→cs.length=x.size
 | .und,_,h=>by
   simp only[RepI]at h;obtain⟨c,h,_⟩:=h;simp[h,I.size]
 | .int _ _,_,h=>by simp only[RepI]at h;simp[h,I.size]
 | .bool _,_,h=>by simp only[RepI]at h;simp[h,I.size]
 | .str _,_,h=>by simp only[RepI]at h;simp[h.1,I.size]
 | .fn _,_,h=>by simp only[RepI]at h;simp[h,I.size]
 | .clo _ _,_,h=>by
   simp only[RepI]at h;obtain⟨ps,hc,_⟩:=h;simp[hc,I.size]
 | .nili,_,h=>by simp only[RepI]at h;simp[h,I.size]
 | .nilp,_,h=>by simp only[RepI]at h;simp[h,I.size]
 | .nilm,_,h=>by simp only[RepI]at h;simp[h,I.size]
 | .agg l,cs,h=>by
   simp only[RepI]at h;simpa[I.size]using RepIs.length l cs h
 | .arr sz l,cs,h=>by
   simp only[RepI]at h;have:=RepIs.length l cs h.1;rw[J3 h.2]at this;simp[I.size,this,Nat.mul_comm]
 | .list l,cs,h=>by
   simp only[RepI]at h;obtain⟨a,cap,h1,_⟩:=h;simp[h1,I.size]
 | .ifc t x,cs,h=>by
   simp only[RepI]at h;obtain⟨c,hc,h⟩:=h;simp[hc,I.size]
theorem RepIs.length{G:Mem}:∀(l:List I) (cs:List Value),RepIs G l cs→cs.length=sizes l
 | [],_,h=>by simp only[RepIs]at h;simp[h,sizes]
 |x::l,cs,h=>by
  simp only[RepIs]at h;obtain⟨c,d,e,h1,h2⟩:=h;have:=RepI.length x c h1;have:=RepIs.length l d h2;simp[e,sizes, *]
end
mutual
theorem RepI.one{G:Mem}:∀(x:I) (cs:List Value),RepI G x cs→∀c∈cs,c.oneCell'=true
 | .und,_,h=>by
   simp only[RepI]at h;obtain⟨c,h,k⟩:=h;simp[h,k]
 | .int _ _,_,h=>by simp only[RepI]at h;simp[h,Value.oneCell']
 | .bool _,_,h=>by simp only[RepI]at h;simp[h,Value.oneCell']
 | .str _,_,h=>by simp only[RepI]at h;simp[h.1,Value.oneCell']
 | .fn _,_,h=>by simp only[RepI]at h;simp[h,Value.oneCell']
 | .clo _ _,_,h=>by
   simp only[RepI]at h;obtain⟨ps,hc,_⟩:=h;simp[hc,Value.oneCell']
 | .nili,_,h=>by simp only[RepI]at h;simp[h,Value.oneCell']
 | .nilp,_,h=>by simp only[RepI]at h;simp[h,Value.oneCell']
 | .nilm,_,h=>by simp only[RepI]at h;simp[h,Value.oneCell']
 | .agg l,cs,h=>by
   simp only[RepI]at h;exact RepIs.one l cs h
 | .arr sz l,cs,h=>by
   simp only[RepI]at h;exact RepIs.one l cs h.1
 | .list l,cs,h=>by
   simp only[RepI]at h;obtain⟨a,cap,h1,_⟩:=h;simp[h1,Value.oneCell']
 | .ifc t x,cs,h=>by
   simp only[RepI]at h;obtain⟨c,hc,h⟩:=h;simp[hc,Value.oneCell']
theorem RepIs.one{G:Mem}:∀(l:List I) (cs:List Value),RepIs G l cs→∀c∈cs,c.oneCell'=true
 | [],_,h=>by simp only[RepIs]at h;simp[h]
 |x::l,cs,h=>by
  simp only[RepIs]at h;obtain⟨c,d,e,h1,h2⟩:=h;have h3:=RepI.one x c h1;have h4:=RepIs.one l d h2;intro v hv;subst e;rcases List.mem_append.1 hv with hv|hv
  ·exact h3 v hv
  ·exact h4 v hv
end
def I.sub:I→List Nat→Option (Nat × I)
 |x,[]=>some (0,x)
 | .agg l,i::r=>match l[i]? with
   |some y=>match y.sub r with
    |some (o,u)=>some (sizes (l.take i)+o,u)
    |none=>none
   |none=>none
 | .arr sz l,i::r=>match l[i]? with
   |some y=>match y.sub r with
    |some (o,u)=>some (i*sz+o,u)
    |none=>none
   |none=>none
 |_,_::_=>none
theorem RepIs.nth{G:Mem}:∀{l:List I} {cs:List Value} (i:Nat) {y:I},RepIs G l cs→l[i]?=some y→
 ∃c1 c c2,cs=c1++c++c2∧c1.length=sizes (l.take i)∧RepI G y c∧(∀y' c',RepI G y' c'→RepIs G (l.set i y') (c1++c'++c2))
 | [],_,i,y,_,h=>by simp at h
 |x::l,cs,0,y,h,hy=>by
  simp only[RepIs]at h;obtain⟨c,d,e,h1,h2⟩:=h;simp only[List.getElem?_cons_zero,Option.some.injEq]at hy;subst hy;refine⟨[],c,d,by simpa using e,by simp[sizes],h1,?_⟩
  intro y' c' hy';simp only[List.set_cons_zero,RepIs,List.nil_append];exact⟨c',d,rfl,hy',h2⟩
 |x::l,cs,i+1,y,h,hy=>by
  simp only[RepIs]at h;obtain⟨c,d,e,h1,h2⟩:=h;simp only[List.getElem?_cons_succ]at hy;obtain⟨c1,cc,c2,e2,hl,hr,hset⟩:=RepIs.nth i h2 hy;have hlc:=RepI.length x c h1;refine⟨c++c1,cc,c2,by simp[e,e2],by simp[sizes,hlc,hl],hr,?_⟩
  intro y' c' hy';simp only[List.set_cons_succ,RepIs];exact⟨c,c1++c'++c2,by simp,h1,hset y' c' hy'⟩
theorem RepI.sub{G:Mem}:∀(r:List Nat) {x:I} {cs:List Value} {o:Nat} {u:I},RepI G x cs→x.sub r=some (o,u)→
 ∃c1 c c2,cs=c1++c++c2∧c1.length=o∧RepI G u c:=by
 intro r;induction r with
 |nil=>
  intro x cs o u h hs;simp only[I.sub]at hs;have:(0,x)=(o,u):=by cases x<;>simpa[I.sub]using hs
  cases this;exact⟨[],cs,[],by simp,rfl,h⟩
 |cons i r ih=>
  intro x cs o u h hs;cases x with
  |agg l=>
   simp only[I.sub]at hs;simp only[RepI]at h;cases hy:l[i]? with
   |none=>simp[hy]at hs
   |some y=>
    simp only[hy]at hs;cases hk:y.sub r with
    |none=>simp[hk]at hs
    |some p=>
     obtain⟨o',u'⟩:=p;simp only[hk,Option.some.injEq,Prod.mk.injEq]at hs;obtain⟨rfl,rfl⟩:=hs;obtain⟨c1,c,c2,e,hl,hr,_⟩:=RepIs.nth i h hy;obtain⟨d1,d,d2,e',hl',hr'⟩:=ih hr hk;exact⟨c1++d1,d,d2++c2,by simp[e,e'],by simp[hl,hl'],hr'⟩
  |arr sz l=>
   simp only[I.sub]at hs;simp only[RepI]at h;cases hy:l[i]? with
   |none=>simp[hy]at hs
   |some y=>
    simp only[hy]at hs;cases hk:y.sub r with
    |none=>simp[hk]at hs
    |some p=>
     obtain⟨o',u'⟩:=p;simp only[hk,Option.some.injEq,Prod.mk.injEq]at hs;obtain⟨rfl,rfl⟩:=hs;obtain⟨c1,c,c2,e,hl,hr,_⟩:=RepIs.nth i h.1 hy;obtain⟨d1,d,d2,e',hl',hr'⟩:=ih hr hk;have hi:i<l.length:=(List.getElem?_eq_some_iff.1 hy).1;refine⟨c1++d1,d,d2++c2,by simp[e,e'],?_,hr'⟩
     have:sizes (l.take i)=i*sz:=by
      rw[J3 (sz:=sz) fun z hz=>h.2 z (List.mem_of_mem_take hz),List.length_take,Nat.min_eq_left (Nat.le_of_lt hi)]
     simp[hl,hl',this]
  |_=>simp[I.sub]at hs
def I.put:I→List Nat→I→I
 |_,[],u=>u
 | .agg l,i::r,u=>match l[i]? with
   |some y=>.agg (l.set i (y.put r u))
   |none=>.agg l
 | .arr sz l,i::r,u=>match l[i]? with
   |some y=>.arr sz (l.set i (y.put r u))
   |none=>.arr sz l
 |x,_::_,_=>x
theorem Xr{l:List I}{i:Nat}{y y':I}(h:l[i]?=some y)(hs:y'.size=y.size):sizes (l.set i y')=sizes l:=by
 induction l generalizing i with
 |nil=>simp at h
 |cons x l ih=>
  cases i with
  |zero=>
   simp only[List.getElem?_cons_zero,Option.some.injEq]at h;subst h;simp[sizes,hs]
  |succ i=>
   simp only[List.getElem?_cons_succ]at h;simp[sizes,ih h]
theorem I.put_size:∀(r:List Nat) {x:I} {o:Nat} {u u':I},x.sub r=some (o,u)→u'.size=u.size→(x.put r u').size=x.size:=by
 intro r;induction r with
 |nil=>
  intro x o u u' hs hu;have:(0,x)=(o,u):=by cases x<;>simpa[I.sub]using hs
  cases this;cases x<;>simpa[I.put]using hu
 |cons i r ih=>
  intro x o u u' hs hu;cases x with
  |agg l=>
   simp only[I.sub]at hs;cases hy:l[i]? with
   |none=>simp[hy]at hs
   |some y=>
    simp only[hy]at hs;cases hk:y.sub r with
    |none=>simp[hk]at hs
    |some p=>
     obtain⟨o',u1⟩:=p;simp only[hk,Option.some.injEq,Prod.mk.injEq]at hs;obtain⟨rfl,rfl⟩:=hs;simp only[I.put,hy,I.size];exact Xr hy (ih hk hu)
  |arr sz l=>
   simp only[I.sub]at hs;cases hy:l[i]? with
   |none=>simp[hy]at hs
   |some y=>simp[I.put,hy,I.size]
  |_=>simp[I.sub]at hs
theorem RepI.put{G:Mem}:∀(r:List Nat) {x:I} {cs:List Value} {o:Nat} {u:I},RepI G x cs→x.sub r=some (o,u)→
 ∃c1 c c2,cs=c1++c++c2∧c1.length=o∧RepI G u c∧(∀u' c',u'.size=u.size→RepI G u' c'→RepI G (x.put r u') (c1++c'++c2)):=by
 intro r;induction r with
 |nil=>
  intro x cs o u h hs;have:(0,x)=(o,u):=by cases x<;>simpa[I.sub]using hs
  cases this;refine⟨[],cs,[],by simp,rfl,h,?_⟩
  intro u' c' _ hu;cases x<;>simpa[I.put]using hu
 |cons i r ih=>
  intro x cs o u h hs;cases x with
  |agg l=>
   simp only[I.sub]at hs;simp only[RepI]at h;cases hy:l[i]? with
   |none=>simp[hy]at hs
   |some y=>
    simp only[hy]at hs;cases hk:y.sub r with
    |none=>simp[hk]at hs
    |some p=>
     obtain⟨o',u'⟩:=p;simp only[hk,Option.some.injEq,Prod.mk.injEq]at hs;obtain⟨rfl,rfl⟩:=hs;obtain⟨c1,c,c2,e,hl,hr,hset⟩:=RepIs.nth i h hy;obtain⟨d1,d,d2,e',hl',hr',hput⟩:=ih hr hk;refine⟨c1++d1,d,d2++c2,by simp[e,e'],by simp[hl,hl'],hr',?_⟩
     intro v cv hv hrv;have:=hset _ _ (hput v cv hv hrv);simp only[I.put,hy,RepI];simpa using this
  |arr sz l=>
   simp only[I.sub]at hs;simp only[RepI]at h;cases hy:l[i]? with
   |none=>simp[hy]at hs
   |some y=>
    simp only[hy]at hs;cases hk:y.sub r with
    |none=>simp[hk]at hs
    |some p=>
     obtain⟨o',u'⟩:=p;simp only[hk,Option.some.injEq,Prod.mk.injEq]at hs;obtain⟨rfl,rfl⟩:=hs;obtain⟨c1,c,c2,e,hl,hr,hset⟩:=RepIs.nth i h.1 hy;obtain⟨d1,d,d2,e',hl',hr',hput⟩:=ih hr hk;have hi:i<l.length:=(List.getElem?_eq_some_iff.1 hy).1;have hsz:sizes (l.take i)=i*sz:=by
      rw[J3 (sz:=sz) fun z hz=>h.2 z (List.mem_of_mem_take hz),List.length_take,Nat.min_eq_left (Nat.le_of_lt hi)]
     refine⟨c1++d1,d,d2++c2,by simp[e,e'],by simp[hl,hl',hsz],hr',?_⟩
     intro v cv hv hrv;have:=hset _ _ (hput v cv hv hrv);simp only[I.put,hy,RepI];refine⟨by simpa using this,?_⟩
     intro z hz;rcases List.mem_or_eq_of_mem_set hz with hz|hz
     ·exact h.2 z hz
     ·subst hz;rw[I.put_size r hk hv];exact h.2 y (List.mem_of_getElem? hy)
  |_=>simp[I.sub]at hs
def RepV(G:Mem)(x:I)(c:Value):Prop:=if x.isAgg then ∃a,c= .agg a∧RepI G x a.toList else RepI G x [c]
theorem RepV.mono{G G':Mem}(hG:G.le G'){x:I}{c:Value}(h:RepV G x c):RepV G' x c:=by
 unfold RepV at*;split
 ·rename_i hx;rw[if_pos hx]at h;obtain⟨a,ha,h⟩:=h;exact⟨a,ha,RepI.mono hG x _ h⟩
 ·rename_i hx;rw[if_neg hx]at h;exact RepI.mono hG x _ h
theorem RepV.cells{G:Mem}{x:I}{c:Value}(h:RepV G x c):RepI G x c.cells.toList:=by
 unfold RepV at h;split at h
 ·obtain⟨a,rfl,h⟩:=h;simpa[Value.cells]using h
 ·have hone:=RepI.one x _ h c (by simp)
  cases c<;>simp_all [Value.cells,Value.oneCell']
theorem RepIs.append{G:Mem}:∀{l m:List I} {cs ds:List Value},RepIs G l cs→RepIs G m ds→RepIs G (l++m) (cs++ds)
 | [],m,cs,ds,h,k=>by simp only[RepIs]at h;subst h;simpa using k
 |x::l,m,cs,ds,h,k=>by
  simp only[RepIs]at h;obtain⟨c,d,e,h1,h2⟩:=h;simp only[List.cons_append,RepIs];exact⟨c,d++ds,by simp[e],h1,RepIs.append h2 k⟩
theorem RepIs.split{G:Mem}:∀{l m:List I} {cs:List Value},RepIs G (l++m) cs→∃c d,cs=c++d∧RepIs G l c∧RepIs G m d
 | [],m,cs,h=>⟨[],cs,by simp,by simp[RepIs],by simpa using h⟩
 |x::l,m,cs,h=>by
  simp only[List.cons_append,RepIs]at h;obtain⟨c,d,e,h1,h2⟩:=h;obtain⟨c',d',e',h3,h4⟩:=RepIs.split h2;refine⟨c++c',d',by simp[e,e'],?_,h4⟩
  simp only[RepIs];exact⟨c,c',rfl,h1,h3⟩
end Go.Ab
