/- Lemmas -/
import Derived.WalkKit
import Derived.Maps.AppendAt
set_option linter.unusedVariables false
set_option linter.unusedSimpArgs false
namespace Go.Ab
abbrev Ai:=@And.intro
abbrev Aq:=@Array.getD_eq_getD_getElem?
abbrev D4:=@Array.getElem?_append_left
abbrev Dm:=@Array.getElem?_append_right
abbrev Bg:=@Array.getElem?_eq_getElem
abbrev C3:=@Array.getElem?_eq_some_iff
abbrev J1:=@Array.getElem?_push
abbrev Gh:=@Array.getElem?_replicate
abbrev E4:=@Array.getElem?_setIfInBounds
abbrev Gd:=@Array.mapM_eq_mapM_toList
abbrev Ad:=@Bool.and_eq_true
abbrev D0:=@Bool.false_eq_true
abbrev Ds:=@Bool.not_eq_true'
abbrev Ae:=@Bool.of_not_eq_false
abbrev Ag:=@Bool.of_not_eq_true
abbrev C1:=@Bool.or_eq_true
abbrev Aa:=@Exists.intro
abbrev Qr:=@Int.le_refl
abbrev Hq:=@Int.toNat_natCast
abbrev Ew:=@List.all_eq_true
abbrev A8:=@List.append_assoc
abbrev Dk:=@List.append_nil
abbrev Em:=@List.cons.injEq
abbrev C4:=@List.cons_append
abbrev Ha:=@List.contains_iff_mem
abbrev A7:=@List.drop_eq_getElem_cons
abbrev Bo:=@List.drop_eq_nil_of_le
abbrev Jy:=@List.drop_left
abbrev Dg:=@List.eq_nil_of_length_eq_zero
abbrev Fh:=@List.filterMap_append
abbrev Cc:=@List.filterMap_cons
abbrev H4:=@List.filter_cons
abbrev K5:=@List.filter_eq_self
abbrev F2:=@List.find?_cons
abbrev Gz:=@List.getD_eq_getElem?_getD
abbrev B0:=@List.getElem?_append_left
abbrev Cf:=@List.getElem?_append_right
abbrev Bn:=@List.getElem?_cons_succ
abbrev B9:=@List.getElem?_cons_zero
abbrev Ei:=@List.getElem?_drop
abbrev Ac:=@List.getElem?_eq_getElem
abbrev D9:=@List.getElem?_eq_none
abbrev Ak:=@List.getElem?_eq_some_iff
abbrev B2:=@List.getElem?_map
abbrev Gs:=@List.getElem?_replicate
abbrev Az:=@List.getElem?_set_ne
abbrev E7:=@List.getElem?_set_self
abbrev Jc:=@List.getElem?_take
abbrev Cw:=@List.length_append
abbrev Cg:=@List.length_cons
abbrev Br:=@List.length_drop
abbrev E8:=@List.length_eq_one_iff
abbrev M1:=@List.length_filterMap_le
abbrev An:=@List.length_map
abbrev Fb:=@List.length_nil
abbrev Je:=@List.length_replicate
abbrev Ck:=@List.length_take
abbrev Dt:=@List.lt_irrefl
abbrev E2:=@List.lt_trans
abbrev B5:=@List.map_append
abbrev A0:=@List.map_cons
abbrev C5:=@List.map_nil
abbrev Gi:=@List.map_set
abbrev Aj:=@List.mem_append
abbrev E5:=@List.mem_append_left
abbrev Fi:=@List.mem_append_right
abbrev Ah:=@List.mem_cons
abbrev Au:=@List.mem_cons_of_mem
abbrev Ar:=@List.mem_cons_self
abbrev Ho:=@List.mem_filter
abbrev Gp:=@List.mem_filterMap
abbrev Hi:=@List.mem_iff_getElem
abbrev Cs:=@List.mem_map
abbrev Aw:=@List.mem_of_getElem?
abbrev Er:=@List.mem_of_mem_drop
abbrev C6:=@List.mem_of_mem_take
abbrev E0:=@List.mem_or_eq_of_mem_set
abbrev Eb:=@List.mem_range
abbrev Cx:=@List.mem_singleton
abbrev Hy:=@List.mergeSort_perm
abbrev Cu:=@List.nil_append
abbrev Cb:=@List.nodup_append
abbrev Bs:=@List.nodup_cons
abbrev Dn:=@List.nodup_nil
abbrev Ax:=@List.not_mem_nil
abbrev P7:=@List.pairwise_append
abbrev B1:=@List.pairwise_cons
abbrev Jf:=@List.pairwise_iff_getElem
abbrev E9:=@List.set_cons_succ
abbrev F7:=@List.set_cons_zero
abbrev Gj:=@List.set_set
abbrev Rt:=@List.size_toArray
abbrev D5:=@List.take_add_one
abbrev B3:=@List.take_append_drop
abbrev Gt:=@List.take_left
abbrev Hb:=@List.take_length
abbrev C9:=@List.take_of_length_le
abbrev F9:=@Nat.add_mul
abbrev F8:=@Nat.add_sub_cancel
abbrev Gk:=@Nat.add_zero
abbrev Ay:=@Nat.le_refl
abbrev C2:=@Nat.le_trans
abbrev Bk:=@Nat.lt_succ_self
abbrev Da:=@Nat.min_eq_left
abbrev C7:=@Nat.mul_le_mul_right
abbrev Bm:=@Nat.zero_add
abbrev A3:=@Nat.zero_le
abbrev Ey:=@Option.bind_eq_some_iff
abbrev Jr:=@Option.isSome_iff_exists
abbrev Eg:=@Option.map_eq_some_iff
abbrev Bx:=@Option.map_some
abbrev Cy:=@Option.some.inj
abbrev Af:=@Option.some.injEq
abbrev B6:=@Prod.mk.injEq
abbrev X6:=@UInt8.lt_irrefl
inductive I where
 |Ln
 |int (k:IntKind) (n:Int)
 |bool (b:Bool)
 |str (s:List UInt8)
 |agg (l:List I)
 |arr (sz:Nat) (l:List I)
 |list (l:List I)
 |fn (f:FuncId)
 |clo (f:FuncId) (Afa:List I)
 |Afo
 |Ra
 |Aiy
 |ifc (t:TypeId) (x:I)
 deriving Inhabited
mutual
def I.size:I→Nat
 | .agg l=>sizes l
 | .arr sz l=>sz*l.length
 |_=>1
def sizes:List I→Nat
 | []=>0
 |x::l=>x.size+sizes l
end
def I.isAgg:I→Bool
 | .agg _| .arr _ _=>true
 |_=>false
abbrev Mem:=Nat→Option Obj
mutual
def Bi(G:Mem):I→List Value→Prop
 | .Ln,cs=>∃c:Value,cs=[c]∧c.oneCell'=true
 | .int k n,cs=>cs=[.int k n]
 | .bool b,cs=>cs=[.bool b]
 | .str s,cs=>cs=[.string ⟨⟨s⟩⟩]∧s.length≤maxLen
 | .agg l,cs=>B4 G l cs
 | .arr sz l,cs=>B4 G l cs∧∀x∈l,x.size=sz
 | .list l,cs=>∃a cap,cs=[.slice a l.length cap]∧l.length≤cap∧cap≤maxLen∧
  (l=[]∨∃b off bl ty fz sz,a=some ⟨b,off,none⟩∧G b=some (.cells bl ty fz)∧(∀x∈l,x.size=sz)∧
    off+l.length*sz≤bl.size∧B4 G l ((bl.toList.drop off).take (l.length*sz)))
 | .fn f,cs=>cs=[.func (.func f) #[] #[]]
 | .clo f Afa,cs=>∃ps:List Value,cs=[.func (.func f) #[] ps.toArray]∧Li G Afa ps
 | .Afo,cs=>cs=[.nilIface]
 | .Ra,cs=>cs=[.pointer none]
 | .Aiy,cs=>cs=[.map none]
 | .ifc t x,cs=>∃c:Value,cs=[.iface t c]∧(if x.isAgg then ∃a,c= .agg a∧Bi G x a.toList else Bi G x [c])
def B4(G:Mem):List I→List Value→Prop
 | [],cs=>cs=[]
 |x::l,cs=>∃c d,cs=c++d∧Bi G x c∧B4 G l d
def Li(G:Mem):List I→List Value→Prop
 | [],ps=>ps=[]
 |x::l,ps=>∃p r b off bl ty fz pre cs post,ps=p::r∧p= .pointer (some ⟨b,off,none⟩)∧G b=some (.cells bl ty fz)∧bl.toList=pre++cs++post∧pre.length=off∧Bi G x cs∧Li G l r
end
def Mem.le(G G':Mem):Prop:=∀b o,G b=some o→G' b=some o
theorem Mem.le.refl(G:Mem):G.le G:=fun _ _ h=>h
theorem Mem.le.trans{A B C:Mem}(h:A.le B)(k:B.le C):A.le C:=fun b o x=>k b o (h b o x)
mutual
theorem Bi.mono{G G':Mem}(hG:G.le G'):∀(x:I) (cs:List Value),Bi G x cs→Bi G' x cs
 | .Ln,_,h=>by simpa only[Bi]using h
 | .int _ _,_,h=>by simpa only[Bi]using h
 | .bool _,_,h=>by simpa only[Bi]using h
 | .str _,_,h=>by simpa only[Bi]using h
 | .fn _,_,h=>by simpa only[Bi]using h
 | .clo _ Afa,_,h=>by
   simp only[Bi]at h ⊢;obtain⟨ps,hc,h⟩:=h;exact⟨ps,hc,Li.mono hG Afa ps h⟩
 | .Afo,_,h=>by simpa only[Bi]using h
 | .Ra,_,h=>by simpa only[Bi]using h
 | .Aiy,_,h=>by simpa only[Bi]using h
 | .agg l,cs,h=>by
   simp only[Bi]at h ⊢;exact B4.mono hG l cs h
 | .arr _ l,cs,h=>by
   simp only[Bi]at h ⊢;exact⟨B4.mono hG l cs h.1,h.2⟩
 | .list l,cs,h=>by
   simp only[Bi]at h ⊢;obtain⟨a,cap,h1,h2,h3,h4⟩:=h;refine⟨a,cap,h1,h2,h3,?_⟩;rcases h4 with h4|⟨b,off,bl,ty,fz,sz,ha,hg,hs,ho,hr⟩
   ·exact .inl h4
   ·exact .inr ⟨b,off,bl,ty,fz,sz,ha,hG _ _ hg,hs,ho,B4.mono hG l _ hr⟩
 | .ifc t x,cs,h=>by
   simp only[Bi]at h ⊢;obtain⟨c,hc,h⟩:=h;refine⟨c,hc,?_⟩;split
   ·rename_i hx;rw[if_pos hx]at h;obtain⟨a,ha,h⟩:=h;exact⟨a,ha,Bi.mono hG x _ h⟩
   ·rename_i hx;rw[if_neg hx]at h;exact Bi.mono hG x _ h
theorem B4.mono{G G':Mem}(hG:G.le G'):∀(l:List I) (cs:List Value),B4 G l cs→B4 G' l cs
 | [],_,h=>by simpa only[B4]using h
 |x::l,cs,h=>by
  simp only[B4]at h ⊢;obtain⟨c,d,e,h1,h2⟩:=h;exact⟨c,d,e,Bi.mono hG x c h1,B4.mono hG l d h2⟩
theorem Li.mono{G G':Mem}(hG:G.le G'):∀(l:List I) (ps:List Value),Li G l ps→Li G' l ps
 | [],_,h=>by simpa only[Li]using h
 |x::l,ps,h=>by
  simp only[Li]at h ⊢;obtain⟨p,r,b,off,bl,ty,fz,pre,cs,post,h1,h2,h3,h4,h5,h6,h7⟩:=h;exact⟨p,r,b,off,bl,ty,fz,pre,cs,post,h1,h2,hG _ _ h3,h4,h5,Bi.mono hG x _ h6,Li.mono hG l r h7⟩
end
theorem Ht{sz:Nat}:∀{l:List I},(∀x∈l,x.size=sz)→sizes l=l.length*sz
 | [],_=>by simp[sizes]
 |x::l,h=>by
  have h1:=h x (Ar ..);have h2:=Ht (l:=l) fun y hy=>h y (Au _ hy)
  simp only[sizes,h1,h2,Cg,F9,Nat.one_mul];omega
mutual
theorem Bi.length{G:Mem}:∀(x:I) (cs:List Value),Bi G x cs→cs.length=x.size
 | .Ln,_,h=>by
   simp only[Bi]at h;obtain⟨c,h,_⟩:=h;simp[h,I.size]
 | .int _ _,_,h=>by simp only[Bi]at h;simp[h,I.size]
 | .bool _,_,h=>by simp only[Bi]at h;simp[h,I.size]
 | .str _,_,h=>by simp only[Bi]at h;simp[h.1,I.size]
 | .fn _,_,h=>by simp only[Bi]at h;simp[h,I.size]
 | .clo _ _,_,h=>by
   simp only[Bi]at h;obtain⟨ps,hc,_⟩:=h;simp[hc,I.size]
 | .Afo,_,h=>by simp only[Bi]at h;simp[h,I.size]
 | .Ra,_,h=>by simp only[Bi]at h;simp[h,I.size]
 | .Aiy,_,h=>by simp only[Bi]at h;simp[h,I.size]
 | .agg l,cs,h=>by
   simp only[Bi]at h;simpa[I.size]using B4.length l cs h
 | .arr sz l,cs,h=>by
   simp only[Bi]at h;have:=B4.length l cs h.1;rw[Ht h.2]at this;simp[I.size,this,Nat.mul_comm]
 | .list l,cs,h=>by
   simp only[Bi]at h;obtain⟨a,cap,h1,_⟩:=h;simp[h1,I.size]
 | .ifc t x,cs,h=>by
   simp only[Bi]at h;obtain⟨c,hc,h⟩:=h;simp[hc,I.size]
theorem B4.length{G:Mem}:∀(l:List I) (cs:List Value),B4 G l cs→cs.length=sizes l
 | [],_,h=>by simp only[B4]at h;simp[h,sizes]
 |x::l,cs,h=>by
  simp only[B4]at h;obtain⟨c,d,e,h1,h2⟩:=h;have:=Bi.length x c h1;have:=B4.length l d h2;simp[e,sizes, *]
end
mutual
theorem Bi.one{G:Mem}:∀(x:I) (cs:List Value),Bi G x cs→∀c∈cs,c.oneCell'=true
 | .Ln,_,h=>by
   simp only[Bi]at h;obtain⟨c,h,k⟩:=h;simp[h,k]
 | .int _ _,_,h=>by simp only[Bi]at h;simp[h,Value.oneCell']
 | .bool _,_,h=>by simp only[Bi]at h;simp[h,Value.oneCell']
 | .str _,_,h=>by simp only[Bi]at h;simp[h.1,Value.oneCell']
 | .fn _,_,h=>by simp only[Bi]at h;simp[h,Value.oneCell']
 | .clo _ _,_,h=>by
   simp only[Bi]at h;obtain⟨ps,hc,_⟩:=h;simp[hc,Value.oneCell']
 | .Afo,_,h=>by simp only[Bi]at h;simp[h,Value.oneCell']
 | .Ra,_,h=>by simp only[Bi]at h;simp[h,Value.oneCell']
 | .Aiy,_,h=>by simp only[Bi]at h;simp[h,Value.oneCell']
 | .agg l,cs,h=>by
   simp only[Bi]at h;exact B4.one l cs h
 | .arr sz l,cs,h=>by
   simp only[Bi]at h;exact B4.one l cs h.1
 | .list l,cs,h=>by
   simp only[Bi]at h;obtain⟨a,cap,h1,_⟩:=h;simp[h1,Value.oneCell']
 | .ifc t x,cs,h=>by
   simp only[Bi]at h;obtain⟨c,hc,h⟩:=h;simp[hc,Value.oneCell']
theorem B4.one{G:Mem}:∀(l:List I) (cs:List Value),B4 G l cs→∀c∈cs,c.oneCell'=true
 | [],_,h=>by simp only[B4]at h;simp[h]
 |x::l,cs,h=>by
  simp only[B4]at h;obtain⟨c,d,e,h1,h2⟩:=h;have h3:=Bi.one x c h1;have h4:=B4.one l d h2;intro v hv;subst e;rcases Aj.1 hv with hv|hv
  ·exact h3 v hv
  ·exact h4 v hv
end
def I.sub:I→List Nat→Option (Nat × I)
 |x,[]=>some (0,x)
 | .agg l,i::r=>match l[i]? with
   |some y=>match y.sub r with
    |some (o,u)=>some (sizes (l.take i)+o,u)
    |none=>none
   |none=>none
 | .arr sz l,i::r=>match l[i]? with
   |some y=>match y.sub r with
    |some (o,u)=>some (i*sz+o,u)
    |none=>none
   |none=>none
 |_,_::_=>none
theorem B4.nth{G:Mem}:∀{l:List I} {cs:List Value} (i:Nat) {y:I},B4 G l cs→l[i]?=some y→
 ∃c1 c c2,cs=c1++c++c2∧c1.length=sizes (l.take i)∧Bi G y c∧(∀y' c',Bi G y' c'→B4 G (l.set i y') (c1++c'++c2))
 | [],_,i,y,_,h=>by simp at h
 |x::l,cs,0,y,h,hy=>by
  simp only[B4]at h;obtain⟨c,d,e,h1,h2⟩:=h;simp only[B9,Af]at hy;subst hy;refine⟨[],c,d,by simpa using e,by simp[sizes],h1,?_⟩
  intro y' c' L9;simp only[F7,B4,Cu];exact⟨c',d,rfl,L9,h2⟩
 |x::l,cs,i+1,y,h,hy=>by
  simp only[B4]at h;obtain⟨c,d,e,h1,h2⟩:=h;simp only[Bn]at hy;obtain⟨c1,cc,c2,e2,hl,hr,Fq⟩:=B4.nth i h2 hy;have Tg:=Bi.length x c h1;refine⟨c++c1,cc,c2,by simp[e,e2],by simp[sizes,Tg,hl],hr,?_⟩
  intro y' c' L9;simp only[E9,B4];exact⟨c,c1++c'++c2,by simp,h1,Fq y' c' L9⟩
theorem Bi.sub{G:Mem}:∀(r:List Nat) {x:I} {cs:List Value} {o:Nat} {u:I},Bi G x cs→x.sub r=some (o,u)→
 ∃c1 c c2,cs=c1++c++c2∧c1.length=o∧Bi G u c:=by
 intro r;induction r with
 |nil=>
  intro x cs o u h hs;simp only[I.sub]at hs;have:(0,x)=(o,u):=by cases x<;>simpa[I.sub]using hs
  cases this;exact⟨[],cs,[],by simp,rfl,h⟩
 |cons i r ih=>
  intro x cs o u h hs;cases x with
  |agg l=>
   simp only[I.sub]at hs;simp only[Bi]at h;cases hy:l[i]? with
   |none=>simp[hy]at hs
   |some y=>
    simp only[hy]at hs;cases hk:y.sub r with
    |none=>simp[hk]at hs
    |some p=>
     obtain⟨o',u'⟩:=p;simp only[hk,Af,B6]at hs;obtain⟨rfl,rfl⟩:=hs;obtain⟨c1,c,c2,e,hl,hr,_⟩:=B4.nth i h hy;obtain⟨d1,d,d2,e',Ve,D2⟩:=ih hr hk;exact⟨c1++d1,d,d2++c2,by simp[e,e'],by simp[hl,Ve],D2⟩
  |arr sz l=>
   simp only[I.sub]at hs;simp only[Bi]at h;cases hy:l[i]? with
   |none=>simp[hy]at hs
   |some y=>
    simp only[hy]at hs;cases hk:y.sub r with
    |none=>simp[hk]at hs
    |some p=>
     obtain⟨o',u'⟩:=p;simp only[hk,Af,B6]at hs;obtain⟨rfl,rfl⟩:=hs;obtain⟨c1,c,c2,e,hl,hr,_⟩:=B4.nth i h.1 hy;obtain⟨d1,d,d2,e',Ve,D2⟩:=ih hr hk;have hi:i<l.length:=(Ak.1 hy).1;refine⟨c1++d1,d,d2++c2,by simp[e,e'],?_,D2⟩
     have:sizes (l.take i)=i*sz:=by
      rw[Ht (sz:=sz) fun z hz=>h.2 z (C6 hz),Ck,Da (Nat.le_of_lt hi)]
     simp[hl,Ve,this]
  |_=>simp[I.sub]at hs
def I.put:I→List Nat→I→I
 |_,[],u=>u
 | .agg l,i::r,u=>match l[i]? with
   |some y=>.agg (l.set i (y.put r u))
   |none=>.agg l
 | .arr sz l,i::r,u=>match l[i]? with
   |some y=>.arr sz (l.set i (y.put r u))
   |none=>.arr sz l
 |x,_::_,_=>x
theorem Ays{l:List I}{i:Nat}{y y':I}(h:l[i]?=some y)(hs:y'.size=y.size):sizes (l.set i y')=sizes l:=by
 induction l generalizing i with
 |nil=>simp at h
 |cons x l ih=>
  cases i with
  |zero=>
   simp only[B9,Af]at h;subst h;simp[sizes,hs]
  |succ i=>
   simp only[Bn]at h;simp[sizes,ih h]
theorem I.A3w:∀(r:List Nat) {x:I} {o:Nat} {u u':I},x.sub r=some (o,u)→u'.size=u.size→(x.put r u').size=x.size:=by
 intro r;induction r with
 |nil=>
  intro x o u u' hs hu;have:(0,x)=(o,u):=by cases x<;>simpa[I.sub]using hs
  cases this;cases x<;>simpa[I.put]using hu
 |cons i r ih=>
  intro x o u u' hs hu;cases x with
  |agg l=>
   simp only[I.sub]at hs;cases hy:l[i]? with
   |none=>simp[hy]at hs
   |some y=>
    simp only[hy]at hs;cases hk:y.sub r with
    |none=>simp[hk]at hs
    |some p=>
     obtain⟨o',u1⟩:=p;simp only[hk,Af,B6]at hs;obtain⟨rfl,rfl⟩:=hs;simp only[I.put,hy,I.size];exact Ays hy (ih hk hu)
  |arr sz l=>
   simp only[I.sub]at hs;cases hy:l[i]? with
   |none=>simp[hy]at hs
   |some y=>simp[I.put,hy,I.size]
  |_=>simp[I.sub]at hs
theorem Bi.put{G:Mem}:∀(r:List Nat) {x:I} {cs:List Value} {o:Nat} {u:I},Bi G x cs→x.sub r=some (o,u)→
 ∃c1 c c2,cs=c1++c++c2∧c1.length=o∧Bi G u c∧(∀u' c',u'.size=u.size→Bi G u' c'→Bi G (x.put r u') (c1++c'++c2)):=by
 intro r;induction r with
 |nil=>
  intro x cs o u h hs;have:(0,x)=(o,u):=by cases x<;>simpa[I.sub]using hs
  cases this;refine⟨[],cs,[],by simp,rfl,h,?_⟩
  intro u' c' _ hu;cases x<;>simpa[I.put]using hu
 |cons i r ih=>
  intro x cs o u h hs;cases x with
  |agg l=>
   simp only[I.sub]at hs;simp only[Bi]at h;cases hy:l[i]? with
   |none=>simp[hy]at hs
   |some y=>
    simp only[hy]at hs;cases hk:y.sub r with
    |none=>simp[hk]at hs
    |some p=>
     obtain⟨o',u'⟩:=p;simp only[hk,Af,B6]at hs;obtain⟨rfl,rfl⟩:=hs;obtain⟨c1,c,c2,e,hl,hr,Fq⟩:=B4.nth i h hy;obtain⟨d1,d,d2,e',Ve,D2,G8⟩:=ih hr hk;refine⟨c1++d1,d,d2++c2,by simp[e,e'],by simp[hl,Ve],D2,?_⟩
     intro v cv hv Ti;have:=Fq _ _ (G8 v cv hv Ti);simp only[I.put,hy,Bi];simpa using this
  |arr sz l=>
   simp only[I.sub]at hs;simp only[Bi]at h;cases hy:l[i]? with
   |none=>simp[hy]at hs
   |some y=>
    simp only[hy]at hs;cases hk:y.sub r with
    |none=>simp[hk]at hs
    |some p=>
     obtain⟨o',u'⟩:=p;simp only[hk,Af,B6]at hs;obtain⟨rfl,rfl⟩:=hs;obtain⟨c1,c,c2,e,hl,hr,Fq⟩:=B4.nth i h.1 hy;obtain⟨d1,d,d2,e',Ve,D2,G8⟩:=ih hr hk;have hi:i<l.length:=(Ak.1 hy).1;have Cq:sizes (l.take i)=i*sz:=by
      rw[Ht (sz:=sz) fun z hz=>h.2 z (C6 hz),Ck,Da (Nat.le_of_lt hi)]
     refine⟨c1++d1,d,d2++c2,by simp[e,e'],by simp[hl,Ve,Cq],D2,?_⟩
     intro v cv hv Ti;have:=Fq _ _ (G8 v cv hv Ti);simp only[I.put,hy,Bi];refine⟨by simpa using this,?_⟩
     intro z hz;rcases E0 hz with hz|hz
     ·exact h.2 z hz
     ·subst hz;rw[I.A3w r hk hv];exact h.2 y (Aw hy)
  |_=>simp[I.sub]at hs
def Bb(G:Mem)(x:I)(c:Value):Prop:=if x.isAgg then ∃a,c= .agg a∧Bi G x a.toList else Bi G x [c]
theorem Bb.mono{G G':Mem}(hG:G.le G'){x:I}{c:Value}(h:Bb G x c):Bb G' x c:=by
 unfold Bb at*;split
 ·rename_i hx;rw[if_pos hx]at h;obtain⟨a,ha,h⟩:=h;exact⟨a,ha,Bi.mono hG x _ h⟩
 ·rename_i hx;rw[if_neg hx]at h;exact Bi.mono hG x _ h
theorem Bb.cells{G:Mem}{x:I}{c:Value}(h:Bb G x c):Bi G x c.cells.toList:=by
 unfold Bb at h;split at h
 ·obtain⟨a,rfl,h⟩:=h;simpa[Value.cells]using h
 ·have Acj:=Bi.one x _ h c (by simp)
  cases c<;>simp_all [Value.cells,Value.oneCell']
theorem B4.append{G:Mem}:∀{l m:List I} {cs ds:List Value},B4 G l cs→B4 G m ds→B4 G (l++m) (cs++ds)
 | [],m,cs,ds,h,k=>by simp only[B4]at h;subst h;simpa using k
 |x::l,m,cs,ds,h,k=>by
  simp only[B4]at h;obtain⟨c,d,e,h1,h2⟩:=h;simp only[C4,B4];exact⟨c,d++ds,by simp[e],h1,B4.append h2 k⟩
theorem B4.split{G:Mem}:∀{l m:List I} {cs:List Value},B4 G (l++m) cs→∃c d,cs=c++d∧B4 G l c∧B4 G m d
 | [],m,cs,h=>⟨[],cs,by simp,by simp[B4],by simpa using h⟩
 |x::l,m,cs,h=>by
  simp only[C4,B4]at h;obtain⟨c,d,e,h1,h2⟩:=h;obtain⟨c',d',e',h3,h4⟩:=B4.split h2;refine⟨c++c',d',by simp[e,e'],?_,h4⟩
  simp only[B4];exact⟨c,c',rfl,h1,h3⟩
end Go.Ab
