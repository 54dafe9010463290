/- Lemmas -/
import Derived.WalkKit
import Derived.Maps.AppendAt
set_option linter.unusedVariables false
set_option linter.unusedSimpArgs false
namespace Go.Ab
abbrev A5:=@And.intro
abbrev Bt:=@Array.getD_eq_getD_getElem?
abbrev Aez:=@Array.getElem?_append_left
abbrev Aah:=@Array.getElem?_append_right
abbrev E6:=@Array.getElem?_eq_getElem
abbrev Ht:=@Array.getElem?_eq_some_iff
abbrev Am3:=@Array.getElem?_push
abbrev Amc:=@Array.getElem?_replicate
abbrev Ajv:=@Array.getElem?_setIfInBounds
abbrev Ak1:=@Array.mapM_eq_mapM_toList
abbrev Ap:=@Bool.and_eq_true
abbrev Ado:=@Bool.false_eq_true
abbrev Ad8:=@Bool.not_eq_true'
abbrev Ai:=@Bool.of_not_eq_false
abbrev Ak:=@Bool.of_not_eq_true
abbrev Q3:=@Bool.or_eq_true
abbrev Ac:=@Exists.intro
abbrev Ata:=@Int.le_refl
abbrev Anj:=@Int.toNat_natCast
abbrev Aia:=@List.all_eq_true
abbrev Df:=@List.append_assoc
abbrev R2:=@List.append_nil
abbrev Ajg:=@List.cons.injEq
abbrev H3:=@List.cons_append
abbrev Am4:=@List.contains_iff_mem
abbrev Cc:=@List.drop_eq_getElem_cons
abbrev Db:=@List.drop_eq_nil_of_le
abbrev Aog:=@List.drop_left
abbrev Aby:=@List.eq_nil_of_length_eq_zero
abbrev Ama:=@List.filterMap_append
abbrev Fp:=@List.filterMap_cons
abbrev Aiw:=@List.filter_cons
abbrev Amy:=@List.find?_cons
abbrev Amw:=@List.getD_eq_getElem?_getD
abbrev Fi:=@List.getElem?_append_left
abbrev G4:=@List.getElem?_append_right
abbrev Du:=@List.getElem?_cons_succ
abbrev Fa:=@List.getElem?_cons_zero
abbrev Ae3:=@List.getElem?_drop
abbrev Ae:=@List.getElem?_eq_getElem
abbrev Aic:=@List.getElem?_eq_none
abbrev A7:=@List.getElem?_eq_some_iff
abbrev Ev:=@List.getElem?_map
abbrev Amo:=@List.getElem?_replicate
abbrev B3:=@List.getElem?_set_ne
abbrev Aiq:=@List.getElem?_set_self
abbrev Am5:=@List.getElem?_take
abbrev Hq:=@List.length_append
abbrev Ho:=@List.length_cons
abbrev Ei:=@List.length_drop
abbrev Ajp:=@List.length_eq_one_iff
abbrev Anb:=@List.length_filterMap_le
abbrev Bh:=@List.length_map
abbrev Ak7:=@List.length_nil
abbrev An1:=@List.length_replicate
abbrev Hg:=@List.length_take
abbrev Af9:=@List.lt_irrefl
abbrev Amg:=@List.lt_trans
abbrev F5:=@List.map_append
abbrev Cy:=@List.map_cons
abbrev Kc:=@List.map_nil
abbrev Amd:=@List.map_set
abbrev Bv:=@List.mem_append
abbrev Aau:=@List.mem_append_left
abbrev Ac6:=@List.mem_append_right
abbrev Bg:=@List.mem_cons
abbrev B4:=@List.mem_cons_of_mem
abbrev B2:=@List.mem_cons_self
abbrev Ajh:=@List.mem_filter
abbrev Ajj:=@List.mem_filterMap
abbrev Akp:=@List.mem_iff_getElem
abbrev X4:=@List.mem_map
abbrev Cb:=@List.mem_of_getElem?
abbrev Agw:=@List.mem_of_mem_drop
abbrev P2:=@List.mem_of_mem_take
abbrev Ain:=@List.mem_or_eq_of_mem_set
abbrev Agu:=@List.mem_range
abbrev Jd:=@List.mem_singleton
abbrev Aor:=@List.mergeSort_perm
abbrev H4:=@List.nil_append
abbrev Hb:=@List.nodup_append
abbrev Hw:=@List.nodup_cons
abbrev Ach:=@List.nodup_nil
abbrev Dg:=@List.not_mem_nil
abbrev Arz:=@List.pairwise_append
abbrev Gr:=@List.pairwise_cons
abbrev Ak2:=@List.pairwise_iff_getElem
abbrev Ais:=@List.set_cons_succ
abbrev Akm:=@List.set_cons_zero
abbrev Ame:=@List.set_set
abbrev Auz:=@List.size_toArray
abbrev Amx:=@List.take_add_one
abbrev Fj:=@List.take_append_drop
abbrev Amq:=@List.take_left
abbrev Am2:=@List.take_of_length_le
abbrev Aj7:=@Nat.add_mul
abbrev Amh:=@Nat.add_sub_cancel
abbrev Amf:=@Nat.add_zero
abbrev Bz:=@Nat.le_refl
abbrev Kq:=@Nat.le_trans
abbrev Ej:=@Nat.lt_succ_self
abbrev U6:=@Nat.min_eq_left
abbrev Jh:=@Nat.mul_le_mul_right
abbrev E3:=@Nat.zero_add
abbrev Cr:=@Nat.zero_le
abbrev Ai7:=@Option.bind_eq_some_iff
abbrev Asz:=@Option.isSome_iff_exists
abbrev Ad7:=@Option.map_eq_some_iff
abbrev Fq:=@Option.map_some
abbrev Aag:=@Option.some.inj
abbrev A0:=@Option.some.injEq
abbrev He:=@Prod.mk.injEq
abbrev Asw:=@UInt8.lt_irrefl
inductive I where
 |und
 |int (k:IntKind) (n:Int)
 |bool (b:Bool)
 |str (s:List UInt8)
 |agg (l:List I)
 |arr (sz:Nat) (l:List I)
 |list (l:List I)
 |fn (f:FuncId)
 |clo (f:FuncId) (A1q:List I)
 |A1v
 |Aw9
 |A3c
 |ifc (t:TypeId) (x:I)
 deriving Inhabited
mutual
def I.size:I→Nat
 | .agg l=>sizes l
 | .arr sz l=>sz*l.length
 |_=>1
def sizes:List I→Nat
 | []=>0
 |x::l=>x.size+sizes l
end
def I.isAgg:I→Bool
 | .agg _| .arr _ _=>true
 |_=>false
abbrev Mem:=Nat→Option Obj
mutual
def D8(G:Mem):I→List Value→Prop
 | .und,cs=>∃c:Value,cs=[c]∧c.oneCell'=true
 | .int k n,cs=>cs=[.int k n]
 | .bool b,cs=>cs=[.bool b]
 | .str s,cs=>cs=[.string ⟨⟨s⟩⟩]∧s.length≤maxLen
 | .agg l,cs=>F9 G l cs
 | .arr sz l,cs=>F9 G l cs∧∀x∈l,x.size=sz
 | .list l,cs=>∃a cap,cs=[.slice a l.length cap]∧l.length≤cap∧cap≤maxLen∧
  (l=[]∨∃b off bl ty fz sz,a=some ⟨b,off,none⟩∧G b=some (.cells bl ty fz)∧(∀x∈l,x.size=sz)∧
    off+l.length*sz≤bl.size∧F9 G l ((bl.toList.drop off).take (l.length*sz)))
 | .fn f,cs=>cs=[.func (.func f) #[] #[]]
 | .clo f A1q,cs=>∃ps:List Value,cs=[.func (.func f) #[] ps.toArray]∧Aq8 G A1q ps
 | .A1v,cs=>cs=[.nilIface]
 | .Aw9,cs=>cs=[.pointer none]
 | .A3c,cs=>cs=[.map none]
 | .ifc t x,cs=>∃c:Value,cs=[.iface t c]∧(if x.isAgg then ∃a,c= .agg a∧D8 G x a.toList else D8 G x [c])
def F9(G:Mem):List I→List Value→Prop
 | [],cs=>cs=[]
 |x::l,cs=>∃c d,cs=c++d∧D8 G x c∧F9 G l d
def Aq8(G:Mem):List I→List Value→Prop
 | [],ps=>ps=[]
 |x::l,ps=>∃p r b off bl ty fz pre cs post,ps=p::r∧p= .pointer (some ⟨b,off,none⟩)∧G b=some (.cells bl ty fz)∧bl.toList=pre++cs++post∧pre.length=off∧D8 G x cs∧Aq8 G l r
end
def Mem.le(G G':Mem):Prop:=∀b o,G b=some o→G' b=some o
theorem Mem.le.refl(G:Mem):G.le G:=fun _ _ h=>h
theorem Mem.le.trans{A B C:Mem}(h:A.le B)(k:B.le C):A.le C:=fun b o x=>k b o (h b o x)
mutual
theorem D8.mono{G G':Mem}(hG:G.le G'):∀(x:I) (cs:List Value),D8 G x cs→D8 G' x cs
 | .und,_,h=>by simpa only[D8]using h
 | .int _ _,_,h=>by simpa only[D8]using h
 | .bool _,_,h=>by simpa only[D8]using h
 | .str _,_,h=>by simpa only[D8]using h
 | .fn _,_,h=>by simpa only[D8]using h
 | .clo _ A1q,_,h=>by
   simp only[D8]at h ⊢;obtain⟨ps,hc,h⟩:=h;exact⟨ps,hc,Aq8.mono hG A1q ps h⟩
 | .A1v,_,h=>by simpa only[D8]using h
 | .Aw9,_,h=>by simpa only[D8]using h
 | .A3c,_,h=>by simpa only[D8]using h
 | .agg l,cs,h=>by
   simp only[D8]at h ⊢;exact F9.mono hG l cs h
 | .arr _ l,cs,h=>by
   simp only[D8]at h ⊢;exact⟨F9.mono hG l cs h.1,h.2⟩
 | .list l,cs,h=>by
   simp only[D8]at h ⊢;obtain⟨a,cap,h1,h2,h3,h4⟩:=h;refine⟨a,cap,h1,h2,h3,?_⟩;rcases h4 with h4|⟨b,off,bl,ty,fz,sz,ha,hg,hs,ho,hr⟩
   ·exact .inl h4
   ·exact .inr ⟨b,off,bl,ty,fz,sz,ha,hG _ _ hg,hs,ho,F9.mono hG l _ hr⟩
 | .ifc t x,cs,h=>by
   simp only[D8]at h ⊢;obtain⟨c,hc,h⟩:=h;refine⟨c,hc,?_⟩;split
   ·rename_i hx;rw[if_pos hx]at h;obtain⟨a,ha,h⟩:=h;exact⟨a,ha,D8.mono hG x _ h⟩
   ·rename_i hx;rw[if_neg hx]at h;exact D8.mono hG x _ h
theorem F9.mono{G G':Mem}(hG:G.le G'):∀(l:List I) (cs:List Value),F9 G l cs→F9 G' l cs
 | [],_,h=>by simpa only[F9]using h
 |x::l,cs,h=>by
  simp only[F9]at h ⊢;obtain⟨c,d,e,h1,h2⟩:=h;exact⟨c,d,e,D8.mono hG x c h1,F9.mono hG l d h2⟩
theorem Aq8.mono{G G':Mem}(hG:G.le G'):∀(l:List I) (ps:List Value),Aq8 G l ps→Aq8 G' l ps
 | [],_,h=>by simpa only[Aq8]using h
 |x::l,ps,h=>by
  simp only[Aq8]at h ⊢;obtain⟨p,r,b,off,bl,ty,fz,pre,cs,post,h1,h2,h3,h4,h5,h6,h7⟩:=h;exact⟨p,r,b,off,bl,ty,fz,pre,cs,post,h1,h2,hG _ _ h3,h4,h5,D8.mono hG x _ h6,Aq8.mono hG l r h7⟩
end
theorem J3{sz:Nat}:∀{l:List I},(∀x∈l,x.size=sz)→sizes l=l.length*sz
 | [],_=>by simp[sizes]
 |x::l,h=>by
  have h1:=h x (B2 ..);have h2:=J3 (l:=l) fun y hy=>h y (B4 _ hy)
  simp only[sizes,h1,h2,Ho,Aj7,Nat.one_mul];omega
mutual
theorem D8.length{G:Mem}:∀(x:I) (cs:List Value),D8 G x cs→cs.length=x.size
 | .und,_,h=>by
   simp only[D8]at h;obtain⟨c,h,_⟩:=h;simp[h,I.size]
 | .int _ _,_,h=>by simp only[D8]at h;simp[h,I.size]
 | .bool _,_,h=>by simp only[D8]at h;simp[h,I.size]
 | .str _,_,h=>by simp only[D8]at h;simp[h.1,I.size]
 | .fn _,_,h=>by simp only[D8]at h;simp[h,I.size]
 | .clo _ _,_,h=>by
   simp only[D8]at h;obtain⟨ps,hc,_⟩:=h;simp[hc,I.size]
 | .A1v,_,h=>by simp only[D8]at h;simp[h,I.size]
 | .Aw9,_,h=>by simp only[D8]at h;simp[h,I.size]
 | .A3c,_,h=>by simp only[D8]at h;simp[h,I.size]
 | .agg l,cs,h=>by
   simp only[D8]at h;simpa[I.size]using F9.length l cs h
 | .arr sz l,cs,h=>by
   simp only[D8]at h;have:=F9.length l cs h.1;rw[J3 h.2]at this;simp[I.size,this,Nat.mul_comm]
 | .list l,cs,h=>by
   simp only[D8]at h;obtain⟨a,cap,h1,_⟩:=h;simp[h1,I.size]
 | .ifc t x,cs,h=>by
   simp only[D8]at h;obtain⟨c,hc,h⟩:=h;simp[hc,I.size]
theorem F9.length{G:Mem}:∀(l:List I) (cs:List Value),F9 G l cs→cs.length=sizes l
 | [],_,h=>by simp only[F9]at h;simp[h,sizes]
 |x::l,cs,h=>by
  simp only[F9]at h;obtain⟨c,d,e,h1,h2⟩:=h;have:=D8.length x c h1;have:=F9.length l d h2;simp[e,sizes, *]
end
mutual
theorem D8.one{G:Mem}:∀(x:I) (cs:List Value),D8 G x cs→∀c∈cs,c.oneCell'=true
 | .und,_,h=>by
   simp only[D8]at h;obtain⟨c,h,k⟩:=h;simp[h,k]
 | .int _ _,_,h=>by simp only[D8]at h;simp[h,Value.oneCell']
 | .bool _,_,h=>by simp only[D8]at h;simp[h,Value.oneCell']
 | .str _,_,h=>by simp only[D8]at h;simp[h.1,Value.oneCell']
 | .fn _,_,h=>by simp only[D8]at h;simp[h,Value.oneCell']
 | .clo _ _,_,h=>by
   simp only[D8]at h;obtain⟨ps,hc,_⟩:=h;simp[hc,Value.oneCell']
 | .A1v,_,h=>by simp only[D8]at h;simp[h,Value.oneCell']
 | .Aw9,_,h=>by simp only[D8]at h;simp[h,Value.oneCell']
 | .A3c,_,h=>by simp only[D8]at h;simp[h,Value.oneCell']
 | .agg l,cs,h=>by
   simp only[D8]at h;exact F9.one l cs h
 | .arr sz l,cs,h=>by
   simp only[D8]at h;exact F9.one l cs h.1
 | .list l,cs,h=>by
   simp only[D8]at h;obtain⟨a,cap,h1,_⟩:=h;simp[h1,Value.oneCell']
 | .ifc t x,cs,h=>by
   simp only[D8]at h;obtain⟨c,hc,h⟩:=h;simp[hc,Value.oneCell']
theorem F9.one{G:Mem}:∀(l:List I) (cs:List Value),F9 G l cs→∀c∈cs,c.oneCell'=true
 | [],_,h=>by simp only[F9]at h;simp[h]
 |x::l,cs,h=>by
  simp only[F9]at h;obtain⟨c,d,e,h1,h2⟩:=h;have h3:=D8.one x c h1;have h4:=F9.one l d h2;intro v hv;subst e;rcases Bv.1 hv with hv|hv
  ·exact h3 v hv
  ·exact h4 v hv
end
def I.sub:I→List Nat→Option (Nat × I)
 |x,[]=>some (0,x)
 | .agg l,i::r=>match l[i]? with
   |some y=>match y.sub r with
    |some (o,u)=>some (sizes (l.take i)+o,u)
    |none=>none
   |none=>none
 | .arr sz l,i::r=>match l[i]? with
   |some y=>match y.sub r with
    |some (o,u)=>some (i*sz+o,u)
    |none=>none
   |none=>none
 |_,_::_=>none
theorem F9.nth{G:Mem}:∀{l:List I} {cs:List Value} (i:Nat) {y:I},F9 G l cs→l[i]?=some y→
 ∃c1 c c2,cs=c1++c++c2∧c1.length=sizes (l.take i)∧D8 G y c∧(∀y' c',D8 G y' c'→F9 G (l.set i y') (c1++c'++c2))
 | [],_,i,y,_,h=>by simp at h
 |x::l,cs,0,y,h,hy=>by
  simp only[F9]at h;obtain⟨c,d,e,h1,h2⟩:=h;simp only[Fa,A0]at hy;subst hy;refine⟨[],c,d,by simpa using e,by simp[sizes],h1,?_⟩
  intro y' c' hy';simp only[Akm,F9,H4];exact⟨c',d,rfl,hy',h2⟩
 |x::l,cs,i+1,y,h,hy=>by
  simp only[F9]at h;obtain⟨c,d,e,h1,h2⟩:=h;simp only[Du]at hy;obtain⟨c1,cc,c2,e2,hl,hr,Akv⟩:=F9.nth i h2 hy;have hlc:=D8.length x c h1;refine⟨c++c1,cc,c2,by simp[e,e2],by simp[sizes,hlc,hl],hr,?_⟩
  intro y' c' hy';simp only[Ais,F9];exact⟨c,c1++c'++c2,by simp,h1,Akv y' c' hy'⟩
theorem D8.sub{G:Mem}:∀(r:List Nat) {x:I} {cs:List Value} {o:Nat} {u:I},D8 G x cs→x.sub r=some (o,u)→
 ∃c1 c c2,cs=c1++c++c2∧c1.length=o∧D8 G u c:=by
 intro r;induction r with
 |nil=>
  intro x cs o u h hs;simp only[I.sub]at hs;have:(0,x)=(o,u):=by cases x<;>simpa[I.sub]using hs
  cases this;exact⟨[],cs,[],by simp,rfl,h⟩
 |cons i r ih=>
  intro x cs o u h hs;cases x with
  |agg l=>
   simp only[I.sub]at hs;simp only[D8]at h;cases hy:l[i]? with
   |none=>simp[hy]at hs
   |some y=>
    simp only[hy]at hs;cases hk:y.sub r with
    |none=>simp[hk]at hs
    |some p=>
     obtain⟨o',u'⟩:=p;simp only[hk,A0,He]at hs;obtain⟨rfl,rfl⟩:=hs;obtain⟨c1,c,c2,e,hl,hr,_⟩:=F9.nth i h hy;obtain⟨d1,d,d2,e',hl',Hm⟩:=ih hr hk;exact⟨c1++d1,d,d2++c2,by simp[e,e'],by simp[hl,hl'],Hm⟩
  |arr sz l=>
   simp only[I.sub]at hs;simp only[D8]at h;cases hy:l[i]? with
   |none=>simp[hy]at hs
   |some y=>
    simp only[hy]at hs;cases hk:y.sub r with
    |none=>simp[hk]at hs
    |some p=>
     obtain⟨o',u'⟩:=p;simp only[hk,A0,He]at hs;obtain⟨rfl,rfl⟩:=hs;obtain⟨c1,c,c2,e,hl,hr,_⟩:=F9.nth i h.1 hy;obtain⟨d1,d,d2,e',hl',Hm⟩:=ih hr hk;have hi:i<l.length:=(A7.1 hy).1;refine⟨c1++d1,d,d2++c2,by simp[e,e'],?_,Hm⟩
     have:sizes (l.take i)=i*sz:=by
      rw[J3 (sz:=sz) fun z hz=>h.2 z (P2 hz),Hg,U6 (Nat.le_of_lt hi)]
     simp[hl,hl',this]
  |_=>simp[I.sub]at hs
def I.put:I→List Nat→I→I
 |_,[],u=>u
 | .agg l,i::r,u=>match l[i]? with
   |some y=>.agg (l.set i (y.put r u))
   |none=>.agg l
 | .arr sz l,i::r,u=>match l[i]? with
   |some y=>.arr sz (l.set i (y.put r u))
   |none=>.arr sz l
 |x,_::_,_=>x
theorem Xr{l:List I}{i:Nat}{y y':I}(h:l[i]?=some y)(hs:y'.size=y.size):sizes (l.set i y')=sizes l:=by
 induction l generalizing i with
 |nil=>simp at h
 |cons x l ih=>
  cases i with
  |zero=>
   simp only[Fa,A0]at h;subst h;simp[sizes,hs]
  |succ i=>
   simp only[Du]at h;simp[sizes,ih h]
theorem I.Bb5:∀(r:List Nat) {x:I} {o:Nat} {u u':I},x.sub r=some (o,u)→u'.size=u.size→(x.put r u').size=x.size:=by
 intro r;induction r with
 |nil=>
  intro x o u u' hs hu;have:(0,x)=(o,u):=by cases x<;>simpa[I.sub]using hs
  cases this;cases x<;>simpa[I.put]using hu
 |cons i r ih=>
  intro x o u u' hs hu;cases x with
  |agg l=>
   simp only[I.sub]at hs;cases hy:l[i]? with
   |none=>simp[hy]at hs
   |some y=>
    simp only[hy]at hs;cases hk:y.sub r with
    |none=>simp[hk]at hs
    |some p=>
     obtain⟨o',u1⟩:=p;simp only[hk,A0,He]at hs;obtain⟨rfl,rfl⟩:=hs;simp only[I.put,hy,I.size];exact Xr hy (ih hk hu)
  |arr sz l=>
   simp only[I.sub]at hs;cases hy:l[i]? with
   |none=>simp[hy]at hs
   |some y=>simp[I.put,hy,I.size]
  |_=>simp[I.sub]at hs
theorem D8.put{G:Mem}:∀(r:List Nat) {x:I} {cs:List Value} {o:Nat} {u:I},D8 G x cs→x.sub r=some (o,u)→
 ∃c1 c c2,cs=c1++c++c2∧c1.length=o∧D8 G u c∧(∀u' c',u'.size=u.size→D8 G u' c'→D8 G (x.put r u') (c1++c'++c2)):=by
 intro r;induction r with
 |nil=>
  intro x cs o u h hs;have:(0,x)=(o,u):=by cases x<;>simpa[I.sub]using hs
  cases this;refine⟨[],cs,[],by simp,rfl,h,?_⟩
  intro u' c' _ hu;cases x<;>simpa[I.put]using hu
 |cons i r ih=>
  intro x cs o u h hs;cases x with
  |agg l=>
   simp only[I.sub]at hs;simp only[D8]at h;cases hy:l[i]? with
   |none=>simp[hy]at hs
   |some y=>
    simp only[hy]at hs;cases hk:y.sub r with
    |none=>simp[hk]at hs
    |some p=>
     obtain⟨o',u'⟩:=p;simp only[hk,A0,He]at hs;obtain⟨rfl,rfl⟩:=hs;obtain⟨c1,c,c2,e,hl,hr,Akv⟩:=F9.nth i h hy;obtain⟨d1,d,d2,e',hl',Hm,Aof⟩:=ih hr hk;refine⟨c1++d1,d,d2++c2,by simp[e,e'],by simp[hl,hl'],Hm,?_⟩
     intro v cv hv hrv;have:=Akv _ _ (Aof v cv hv hrv);simp only[I.put,hy,D8];simpa using this
  |arr sz l=>
   simp only[I.sub]at hs;simp only[D8]at h;cases hy:l[i]? with
   |none=>simp[hy]at hs
   |some y=>
    simp only[hy]at hs;cases hk:y.sub r with
    |none=>simp[hk]at hs
    |some p=>
     obtain⟨o',u'⟩:=p;simp only[hk,A0,He]at hs;obtain⟨rfl,rfl⟩:=hs;obtain⟨c1,c,c2,e,hl,hr,Akv⟩:=F9.nth i h.1 hy;obtain⟨d1,d,d2,e',hl',Hm,Aof⟩:=ih hr hk;have hi:i<l.length:=(A7.1 hy).1;have Hr:sizes (l.take i)=i*sz:=by
      rw[J3 (sz:=sz) fun z hz=>h.2 z (P2 hz),Hg,U6 (Nat.le_of_lt hi)]
     refine⟨c1++d1,d,d2++c2,by simp[e,e'],by simp[hl,hl',Hr],Hm,?_⟩
     intro v cv hv hrv;have:=Akv _ _ (Aof v cv hv hrv);simp only[I.put,hy,D8];refine⟨by simpa using this,?_⟩
     intro z hz;rcases Ain hz with hz|hz
     ·exact h.2 z hz
     ·subst hz;rw[I.Bb5 r hk hv];exact h.2 y (Cb hy)
  |_=>simp[I.sub]at hs
def C7(G:Mem)(x:I)(c:Value):Prop:=if x.isAgg then ∃a,c= .agg a∧D8 G x a.toList else D8 G x [c]
theorem C7.mono{G G':Mem}(hG:G.le G'){x:I}{c:Value}(h:C7 G x c):C7 G' x c:=by
 unfold C7 at*;split
 ·rename_i hx;rw[if_pos hx]at h;obtain⟨a,ha,h⟩:=h;exact⟨a,ha,D8.mono hG x _ h⟩
 ·rename_i hx;rw[if_neg hx]at h;exact D8.mono hG x _ h
theorem C7.cells{G:Mem}{x:I}{c:Value}(h:C7 G x c):D8 G x c.cells.toList:=by
 unfold C7 at h;split at h
 ·obtain⟨a,rfl,h⟩:=h;simpa[Value.cells]using h
 ·have A0o:=D8.one x _ h c (by simp)
  cases c<;>simp_all [Value.cells,Value.oneCell']
theorem F9.append{G:Mem}:∀{l m:List I} {cs ds:List Value},F9 G l cs→F9 G m ds→F9 G (l++m) (cs++ds)
 | [],m,cs,ds,h,k=>by simp only[F9]at h;subst h;simpa using k
 |x::l,m,cs,ds,h,k=>by
  simp only[F9]at h;obtain⟨c,d,e,h1,h2⟩:=h;simp only[H3,F9];exact⟨c,d++ds,by simp[e],h1,F9.append h2 k⟩
theorem F9.split{G:Mem}:∀{l m:List I} {cs:List Value},F9 G (l++m) cs→∃c d,cs=c++d∧F9 G l c∧F9 G m d
 | [],m,cs,h=>⟨[],cs,by simp,by simp[F9],by simpa using h⟩
 |x::l,m,cs,h=>by
  simp only[H3,F9]at h;obtain⟨c,d,e,h1,h2⟩:=h;obtain⟨c',d',e',h3,h4⟩:=F9.split h2;refine⟨c++c',d',by simp[e,e'],?_,h4⟩
  simp only[F9];exact⟨c,c',rfl,h1,h3⟩
end Go.Ab
