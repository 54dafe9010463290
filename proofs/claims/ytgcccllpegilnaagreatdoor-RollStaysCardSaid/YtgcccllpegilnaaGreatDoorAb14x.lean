/- Lemmas -/
import Derived.Test.YtgcccllpegilnaaGreatDoorAb11
set_option linter.unusedVariables false
set_option linter.unusedSimpArgs false
namespace Go.Ab
def rdB (x:Option Opd) (dflt:Int) (k:Int→M):M:=match x with
 |none=>k dflt
 |some x=>Gx x fun i=>match i with
  | .int _ n=>k n
  |_=>.fail
def oOk (N:Nat):Option Operand→Option Opd→Bool
 |none,none=>true
 |some x,some y=>Ax N x y
 |_,_=>false
def Aoi (d:Option Nat) (str:Bool) (sz:Nat) (x:Opd) (lo hi:Option Opd):M:=match x with
 | .t n=>.get n fun ver sv=>match sv with
   | .v (.list l)=>rdB lo 0 fun i=>rdB hi l.length fun j=>.need (str=false∧0≤i∧i≤j∧j≤l.length∧∀u∈l,u.size=sz) fun _=>setD d (.v (.list ((l.take j.toNat).drop i.toNat))) .done
   | .v (.str s)=>rdB lo 0 fun i=>rdB hi s.length fun j=>.need (str=true∧0≤i∧i≤j∧j≤s.length) fun _=>setD d (.v (.str ((s.take j.toNat).drop i.toNat))) .done
   | .vec _ sz' l=>rdB lo 0 fun i=>rdB hi l.length fun j=>.need (str=false∧sz'=sz∧i=0∧0≤j∧j≤l.length∧d≠some n) fun _=>setD d (.sub n 0 ver j.toNat) .done
   | .bor s k v=>.get s fun cur sv'=>.need (v=cur) fun _=>match sv'.vecAt k with
     |some (_,sz',l)=>rdB lo 0 fun i=>rdB hi l.length fun j=>.need (str=false∧sz'=sz∧i=0∧0≤j∧j≤l.length∧d≠some s) fun _=>setD d (.sub s k v j.toNat) .done
     |none=>.fail
   |_=>.fail
 |_=>.fail
def Bcn (d:Option Nat) (x i:Opd):M:=Gx x fun u=>Gx i fun n=>match u,n with
 | .str s,.int _ n=>match s[n.toNat]? with
   |some b=>.need (0≤n) fun _=>setD d (.v (.int .u8 b.toNat)) .done
   |none=>.fail
 |_,_=>.fail
section
variable{P:Program}{N:Nat}{G:Mem}{σ:Lab}{Fr:Mem}{w0:Base}{w:World}{st:St}{a:Act}
theorem K6 {x:Option Operand} {y:Option Opd} {dflt:Int} {k:Int→M} {Q:St→Prop} (h:Rel G σ Fr w0 st a w)
 (ho:oOk w0.n x y=true) (hq:(rdB y dflt k).wp P Q st):
 ∃i,(k i).wp P Q st∧((x=none∧i=dflt)∨∃x' kd,x=some x'∧a.eval x'= .int kd i):=by
 cases y with
 |none=>
  cases x with
  |none=>exact⟨dflt,hq,.inl ⟨rfl,rfl⟩⟩
  |some x=>cases ho
 |some y=>
  cases x with
  |none=>cases ho
  |some x=>
   obtain⟨i,h1,h2⟩:=De h ho hq
   cases i with
   |int kd n=>exact⟨n,h1,.inr ⟨x,kd,rfl,RepV.int.1 h2⟩⟩
   |_=>exact h1.elim
theorem F7 {isSlice:Bool} {len cap:Nat} {lo hi:Option Operand} {i j:Int} (w:World)
 (hlo:(lo=none∧i=0)∨∃x kd,lo=some x∧a.eval x= .int kd i) (hhi:(hi=none∧j=len)∨∃x kd,hi=some x∧a.eval x= .int kd j)
 (h0:0≤i) (h1:i≤j) (h2:j≤len) (hc:len≤cap):(Instr.sliceBounds isSlice len cap (lo.map a.eval) (hi.map a.eval) none).run P w= .ok (i.toNat,j.toNat,cap) w:=by
 have b1:∀(kd:IntKind) (code:BoundsCode),(Instr.sliceBound (.int kd j) cap code).run P w= .ok j.toNat w:=fun kd code=>
  run_sliceBound (P:=P) (w:=w) kd j cap code (by omega) (by omega)
 have b2:∀(kd:IntKind) (code:BoundsCode),(Instr.sliceBound (.int kd i) j.toNat code).run P w= .ok i.toNat w:=fun kd code=>
  run_sliceBound (P:=P) (w:=w) kd i j.toNat code (by omega) (by omega)
 have b3:∀(kd:IntKind) (code:BoundsCode),j=len→(Instr.sliceBound (.int kd i) len code).run P w= .ok i.toNat w:=fun kd code e=>by
  have:=b2 kd code
  rw[e]at this
  simpa using this
 rcases hlo with⟨rfl,rfl⟩|⟨x,kd,rfl,hx⟩<;>rcases hhi with⟨rfl,rfl⟩|⟨y,kd',rfl,hy⟩
 ·simp[Instr.sliceBounds]
 ·simp[Instr.sliceBounds,hy,b1]
 ·simp[Instr.sliceBounds,hx,b3]
 ·simp[Instr.sliceBounds,hx,hy,b1,b2]
theorem RepIs.slice {G:Mem} {l:List I} {cs:List Value} {sz i j:Nat} (h:RepIs G l cs) (hsz:∀x∈l,x.size=sz) (hij:i≤j) (hj:j≤l.length):
 RepIs G ((l.take j).drop i) ((cs.take (j*sz)).drop (i*sz)):=by
 have e1:l=(l.take j)++l.drop j:=(List.take_append_drop j l).symm
 rw[e1]at h
 obtain⟨c,d,rfl,h1,_⟩:=RepIs.split h
 have hl1:c.length=j*sz:=by
  rw[RepIs.length _ _ h1,Dc (sz:=sz) fun x hx=>hsz x (List.mem_of_mem_take hx),List.length_take,Nat.min_eq_left hj]
 have e2:l.take j=(l.take j).take i++(l.take j).drop i:=(List.take_append_drop i _).symm
 rw[e2]at h1
 obtain⟨c1,c2,rfl,h3,h4⟩:=RepIs.split h1
 have hl2:c1.length=i*sz:=by
  rw[RepIs.length _ _ h3,Dc (sz:=sz) fun x hx=>hsz x (List.mem_of_mem_take (List.mem_of_mem_take hx)),List.length_take,List.length_take]
  rw[Nat.min_eq_left (by omega)]
 rw[←hl1,List.take_left, ←hl2,List.drop_left]
 exact h4
theorem RepV.sliced {l:List I} {ad:Option Addr} {cap i j sz:Nat} (h:RepV G (.list l) (.slice ad l.length cap)) (hij:i≤j) (hj:j≤l.length) (hsz:l≠[]→∀x∈l,x.size=sz):
 RepV G (.list ((l.take j).drop i)) (.slice (if cap=i then ad else ad.map (·.add (i*sz))) (j - i) (cap - i)):=by
 obtain⟨a',cap',he,h1,h2,h3⟩:=RepV.list.1 h
 cases he
 have hlen:((l.take j).drop i).length=j - i:=by simp[Nat.min_eq_left hj]
 refine RepV.list.2 ⟨_,_,by rw[hlen],by rw[hlen];omega,by omega,?_⟩
 rcases h3 with rfl|⟨b,off,bl,ty,fz,sz',rfl,hg,hs,hle,hr⟩
 ·exact .inl (by simp)
 ·by_cases hij':i=j
  ·subst hij'
   exact .inl (List.eq_nil_of_length_eq_zero (by rw[hlen];omega))
  ·have hne:l≠[]:=by rintro rfl;simp at hj;omega
   have hszz:sz'=sz:=by
    cases l with
    |nil=>exact absurd rfl hne
    |cons x l=>rw[←hs x (by simp),hsz hne x (by simp)]
   subst hszz
   have hci:cap≠i:=by omega
   rw[if_neg hci]
   refine .inr ⟨b,off+i*sz',bl,ty,fz,sz',by simp[add_lit],hg,fun x hx=>hs x (List.mem_of_mem_take (List.mem_of_mem_drop hx)),?_,?_⟩
   ·rw[hlen,Nat.sub_mul]
    have h4:i*sz'≤j*sz':=Nat.mul_le_mul_right _ hij
    have h5:j*sz'≤l.length*sz':=Nat.mul_le_mul_right _ hj
    omega
   ·have:=RepIs.slice hr hs hij hj
    rw[hlen]
    have h5:j*sz'≤l.length*sz':=Nat.mul_le_mul_right _ hj
    have e:(((bl.toList.drop off).take (l.length*sz')).take (j*sz')).drop (i*sz')=(bl.toList.drop (off+i*sz')).take ((j - i)*sz'):=by
     rw[List.take_take,Nat.min_eq_left h5,List.drop_take,List.drop_drop,Nat.sub_mul]
    rwa [e]at this
def Ame (P:Program) (t:TypeId) (str:Bool) (sz:Nat):Bool:=match P.underlying t with
 |some .string=>str
 |some (.slice e)=> !str&&match P.info? e with
  |some i=>i.size==sz
  |none=>false
 |_=>false
theorem extract_data (s:List UInt8) (i j:Nat):(⟨⟨s⟩⟩:ByteArray).extract i j=⟨⟨(s.take j).drop i⟩⟩:=by
 apply ByteArray.ext
 apply Array.ext'
 simp[List.extract_eq_take_drop,List.drop_take]
theorem VecAt.take {lab:Nat × Nat} {e:TypeId} {sz:Nat} {l:List I} {ad:Option Addr} {n cap j:Nat} (h:VecAt G σ w lab e sz l (.slice ad n cap)) (hj:j≤l.length):
 VecAt G σ w lab e sz (l.take j) (.slice ad j cap):=by
 obtain⟨xs,h1,h2,h3,h4⟩:=h
 have hl:(l.take j).length=j:=by rw[List.length_take,Nat.min_eq_left hj]
 have e1:l=l.take j++l.drop j:=(List.take_append_drop j l).symm
 rw[e1]at h2
 obtain⟨c,d,rfl,h5,_⟩:=RepIs.split h2
 have hc:c.length=j*sz:=by rw[RepIs.length _ _ h5,Dc (sz:=sz) fun x hx=>h3 x (List.mem_of_mem_take hx),hl]
 refine⟨c,⟨by rw[hl,hc],?_⟩,h5,fun x hx=>h3 x (List.mem_of_mem_take hx),fun b hb=>h4 b (by cases ad with|none=>simp[Value.ownBlock]at hb|some _=>simpa[Value.ownBlock]using hb)⟩
 rcases h1.2 with⟨e2,e3⟩|⟨g,cap',cur,e2,k1,k2,k3,k4,k5,k6⟩
 ·cases e2
  exact .inl ⟨by congr 1;omega,by rw[hl];omega⟩
 ·cases e2
  refine .inr ⟨g,cap,cur,by rw[hl],k1,k2,by rw[hl];omega,k4,k5,?_⟩
  rw[hl, ←hc]
  have h7:(cur.toList.take (l.length*sz)).take c.length=c:=by rw[k6,List.take_left]
  rw[List.take_take,Nat.min_eq_left]at h7
  ·exact h7
  ·rw[hc];exact Nat.mul_le_mul_right _ hj
theorem A3s {o:Oper} {t:TypeId} {x:Operand} {lo hi:Option Operand} {x':Opd} {lo' hi':Option Opd} {str:Bool} {sz:Nat} (ho:o.op= .slice t x lo hi none) (hx:Ax N x x'=true)
 (hlo:oOk N lo lo'=true) (hhi:oOk N hi hi'=true) (ht:Ame P t str sz=true):Sound P N o (Aoi o.dst str sz x' lo' hi'):=by
 intro G σ Fr w0 st a w Q next E hN hr hw hn hdst
 subst hN
 have hsl:str=false→∃e i,P.underlying t=some (.slice e)∧P.info? e=some i∧i.size=sz:=by
  rintro rfl
  unfold Ame at ht
  split at ht
  ·cases ht
  ·rename_i e h
   split at ht
   ·rename_i i hi;exact⟨e,i,h,hi,by simpa using ht⟩
   ·cases ht
  ·cases ht
 have hst:str=true→P.underlying t=some .string:=by
  rintro rfl
  unfold Ame at ht
  split at ht
  ·assumption
  ·simp at ht
  ·cases ht
 cases x' with
 |c _=>exact hw.elim
 |nils _ _=>exact hw.elim
 |t n=>
  obtain⟨rfl,hnlt⟩:=Dm hx
  simp only[Aoi,M.wp]at hw
  cases hs:st[n]? with
  |none=>simp[hs]at hw
  |some cur=>
   obtain⟨ver,sv⟩:=cur
   simp only[hs]at hw
   have hrep:=hr.slot hnlt hs
   split at hw
   ·rename_i l
    obtain⟨i,h1,hi1⟩:=K6 hr hlo hw
    obtain⟨j,h2,hj1⟩:=K6 hr hhi h1
    obtain⟨⟨k1,k2,k3,k4,k5⟩,h3⟩:=h2
    obtain⟨e,i0,hu,hi0,hsz⟩:=hsl k1
    have hrep':RepV G (.list l) (a.eval (.tmp n)):=hrep
    obtain⟨ad,cap,hc,hlc,_⟩:=RepV.list.1 hrep'
    have hb:=F7 (P:=P) (isSlice:=true) (len:=l.length) (cap:=cap) w hi1 hj1 k2 k3 k4 hlc
    rw[hc]at hrep'
    have hv:=RepV.sliced (i:=i.toNat) (j:=j.toNat) (sz:=sz) hrep' (by omega) (by omega) fun _=>k5
    refine C1 hr hn hdst hv h3 ?_
    simp[execOp,ho,Instr.sliceAt,Instr.slice,run_underlying hu,hc,hb,sizeOf,typeInfo,hi0,hsz]
   ·rename_i s
    obtain⟨i,h1,hi1⟩:=K6 hr hlo hw
    obtain⟨j,h2,hj1⟩:=K6 hr hhi h1
    obtain⟨⟨k1,k2,k3,k4⟩,h3⟩:=h2
    have hu:=hst k1
    have hrep':RepV G (.str s) (a.eval (.tmp n)):=hrep
    obtain⟨hc,hmax⟩:=RepV.str.1 hrep'
    have hb:=F7 (P:=P) (isSlice:=false) (len:=s.length) (cap:=s.length) w hi1 hj1 k2 k3 k4 (Nat.le_refl _)
    refine C1 hr hn hdst (v:=.string ⟨⟨(s.take j.toNat).drop i.toNat⟩⟩) (RepV.str.2 ⟨rfl,by simp;omega⟩) h3 ?_
    have hsize:(⟨⟨s⟩⟩:ByteArray).size=s.length:=rfl
    simp[execOp,ho,Instr.sliceAt,Instr.slice,run_underlying hu,hc,hsize,hb,extract_data]
   ·rename_i e' sz' l
    obtain⟨i,h1,hi1⟩:=K6 hr hlo hw
    obtain⟨j,h2,hj1⟩:=K6 hr hhi h1
    obtain⟨⟨k1,rfl,rfl,k3,k4,hne⟩,h3⟩:=h2
    obtain⟨e,i0,hu,hi0,hsz⟩:=hsl k1
    have hrep':VecAt G σ w (n,0) e' sz' l (a.eval (.tmp n)):=hrep
    obtain⟨ad,cap,hc,_⟩:=hrep'.len
    have hlc:l.length≤cap:=by
     obtain⟨xs,q1,_⟩:=hrep'
     rcases q1.2 with⟨q2,q3⟩|⟨g,cap',cur,q2,_,_,q3,_⟩
     ·omega
     ·rw[hc]at q2;cases q2;exact q3
    have hb:=F7 (P:=P) (isSlice:=true) (len:=l.length) (cap:=cap) w hi1 hj1 (Int.le_refl 0) k3 k4 hlc
    rw[hc]at hrep'
    have hv:=hrep'.take (j:=j.toNat) (by omega)
    obtain⟨σ',st',r1,r2⟩:=hr.setD hdst (sv:=.sub n 0 ver j.toNat) (c:=.slice ad j.toNat cap) (fun d' hd ver' _=>by
     refine⟨_,by rw[List.getElem?_set_ne (by rintro rfl;exact hne hd)];exact hs,Nat.le_refl _,fun _=>⟨e',sz',l,rfl,?_⟩⟩
     exact hv.tr (Mem.le.refl G) fun b hb=>⟨Lab.drop_some.2 ⟨by rintro rfl;exact hne hd,hb⟩,rfl⟩) h3
    refine Bv (w':=w) ?_ (hn G σ' st' _ w (Mem.le.refl G) r1 r2)
    have had:Option.map (fun x:Addr=>x.add 0) ad=ad:=by cases ad<;>simp[Addr.add]
    simp[execOp,ho,Instr.sliceAt,Instr.slice,run_underlying hu,hc,hb,sizeOf,typeInfo,hi0,hsz,had]
   ·rename_i s k v
    obtain⟨cur,g1,g2,g3⟩:=hrep
    simp only[M.wp,g1]at hw
    obtain⟨hv,hw⟩:=hw
    obtain⟨e',sz',l,g4,g5⟩:=g3 hv
    simp only[g4]at hw
    obtain⟨i,h1,hi1⟩:=K6 hr hlo hw
    obtain⟨j,h2,hj1⟩:=K6 hr hhi h1
    obtain⟨⟨k1,rfl,rfl,k3,k4,hne⟩,h3⟩:=h2
    obtain⟨e,i0,hu,hi0,hsz⟩:=hsl k1
    obtain⟨ad,cap,hc,_⟩:=g5.len
    have hlc:l.length≤cap:=by
     obtain⟨xs,q1,_⟩:=g5
     rcases q1.2 with⟨q2,q3⟩|⟨g,cap',cur,q2,_,_,q3,_⟩
     ·omega
     ·rw[hc]at q2;cases q2;exact q3
    have hb:=F7 (P:=P) (isSlice:=true) (len:=l.length) (cap:=cap) w hi1 hj1 (Int.le_refl 0) k3 k4 hlc
    rw[hc]at g5
    have hvv:=g5.take (j:=j.toNat) (by omega)
    obtain⟨σ',st',r1,r2⟩:=hr.setD hdst (sv:=.sub s k v j.toNat) (c:=.slice ad j.toNat cap) (fun d' hd ver' _=>by
     refine⟨cur,by rw[List.getElem?_set_ne (by rintro rfl;exact hne hd)];exact g1,g2,fun _=>⟨e',sz',l,g4,?_⟩⟩
     exact hvv.tr (Mem.le.refl G) fun b hb=>⟨Lab.drop_some.2 ⟨by rintro rfl;exact hne hd,hb⟩,rfl⟩) h3
    refine Bv (w':=w) ?_ (hn G σ' st' _ w (Mem.le.refl G) r1 r2)
    have had:Option.map (fun x:Addr=>x.add 0) ad=ad:=by cases ad<;>simp[Addr.add]
    simp[execOp,ho,Instr.sliceAt,Instr.slice,run_underlying hu,hc,hb,sizeOf,typeInfo,hi0,hsz,had]
   ·exact hw.elim
end

def Wb:List (Nat × Opd)→List I→(List I→M)→M
 | [],zs,k=>k zs
 |(i,x)::ps,zs,k=>Kc x fun u=>match zs[i]? with
  |some z=>.need (u.size=z.size) fun _=>Wb ps (zs.set i u) k
  |none=>.fail
def Gp (N:Nat):List (Nat × Operand)→List (Nat × Opd)→Bool
 | [],[]=>true
 |(i,x)::l,(j,y)::m=>i==j&&Ax N x y&&Gp N l m
 |_,_=>false
section
variable{P:Program}{N:Nat}{G:Mem}{σ:Lab}{Fr:Mem}{w0:Base}{w:World}{st:St}{a:Act}
theorem Aty:∀(vs pre old post:List Value) (n:Nat) (cells:Array Value),cells.toList=pre++old++post→old.length=vs.length→
 ((vs.zipIdx n).foldl (fun(cs:Array Value) (p:Value × Nat)=>cs.setIfInBounds (pre.length - n+p.2) p.1) cells).toList=pre++vs++post∨pre.length<n
 | [],pre,old,post,n,cells,h,hl=>by
   left
   have:old=[]:=List.eq_nil_of_length_eq_zero hl
   subst this
   simpa using h
 |v::vs,pre,old,post,n,cells,h,hl=>by
  by_cases hn:pre.length<n
  ·exact .inr hn
  ·left
   cases old with
   |nil=>simp at hl
   |cons o old=>
    have h1:(cells.setIfInBounds (pre.length - n+n) v).toList=(pre++[v])++old++post:=by
     rw[Array.toList_setIfInBounds,h,Nat.sub_add_cancel (by omega)]
     simp
    have:=Aty vs (pre++[v]) old post (n+1) _ h1 (by simpa using hl)
    rcases this with h2|h2
    ·have e:(pre++[v]).length - (n+1)=pre.length - n:=by simp
     rw[e]at h2
     simp only[List.zipIdx_cons,List.foldl_cons]
     simpa using h2
    ·simp at h2;omega
theorem Ax4 {cells:Array Value} {v:Value} {pre old post:List Value} {off:Nat} (h:cells.toList=pre++old++post) (hp:pre.length=off) (ho:old.length=v.cells.size):
 (v.cells.zipIdx.foldl (fun(cs:Array Value) (p:Value × Nat)=>cs.setIfInBounds (off+p.2) p.1) cells).toList=pre++v.cells.toList++post:=by
 have:=Aty v.cells.toList pre old post 0 cells h (by rw[ho];simp)
 rcases this with h1|h1
 ·rw[←Array.foldl_toList,Array.toList_zipIdx]
  rw[Nat.sub_zero,hp]at h1
  exact h1
 ·omega
theorem Xe {place:Nat→Option (Nat × Nat)} {Q:St→Prop}:∀{ps:List (Nat × Operand)} {ps':List (Nat × Opd)} {zs:List I} {cells:Array Value} {k:List I→M} {G:Mem} {σ:Lab} {st:St},
 Rel G σ Fr w0 st a w→Gp w0.n ps ps'=true→(Wb ps' zs k).wp P Q st→RepIs G zs cells.toList→
 (∀i z,zs[i]?=some z→place i=some (sizes (zs.take i),z.size))→
 ∃zs' cells' G' σ' st',G.le G'∧Rel G' σ' Fr w0 st' a w∧(k zs').wp P Q st'∧RepIs G' zs' cells'.toList∧Instr.fill place cells (ps.map fun p=>(p.1,a.eval p.2))=some cells'
 | [],[],zs,cells,k,G,σ,st,hr,_,hq,hz,_=>⟨zs,cells,G,σ,st,Mem.le.refl G,hr,hq,hz,rfl⟩
 |(i,x)::ps,(j,y)::ps',zs,cells,k,G,σ,st,hr,ho,hq,hz,hpl=>by
  simp only[Gp,Bool.and_eq_true,beq_iff_eq]at ho
  obtain⟨⟨rfl,ho⟩,hos⟩:=ho
  obtain⟨u,G',σ',st',hG,hr',h1,hv⟩:=Km hr ho hq
  cases hzi:zs[i]? with
  |none=>simp only[hzi]at h1;exact h1.elim
  |some z=>
   simp only[hzi]at h1
   obtain⟨hsz,h1⟩:=h1
   obtain⟨c1,c,c2,e1,e2,e3,hset⟩:=RepIs.nth i (RepIs.mono hG _ _ hz) hzi
   have hvc:=hv.cells
   have hcl:c.length=(a.eval x).cells.size:=by
    rw[RepI.length _ _ e3, ←hsz, ←RepI.length _ _ hvc]
    simp
   have hfold:=Ax4 (v:=a.eval x) (off:=sizes (zs.take i)) e1 e2 hcl
   have hplace:=hpl i z hzi
   obtain⟨zs',cells',G'',σ'',st'',hG',hr'',h2,h3,h4⟩:=Xe (place:=place) hr' hos h1 (cells:=(a.eval x).cells.zipIdx.foldl (fun(cs:Array Value) (p:Value × Nat)=>cs.setIfInBounds (sizes (zs.take i)+p.2) p.1) cells)
    (by rw[hfold];exact hset u _ hvc) (by
      intro i' z' hz'
      have hi:i<zs.length:=(List.getElem?_eq_some_iff.1 hzi).1
      by_cases hii:i'=i
      ·subst hii
       rw[List.getElem?_set_self hi]at hz'
       cases hz'
       rw[hplace,hsz,List.take_set_of_le (Nat.le_refl _)]
      ·rw[List.getElem?_set_ne (Ne.symm hii)]at hz'
       rw[hpl i' z' hz']
       congr 2
       rw[List.take_set]
       by_cases hlt:i<i'
       ·have:(zs.take i')[i]?=some z:=by rw[List.getElem?_take,if_pos hlt];exact hzi
        exact(Au4 this hsz).symm
       ·rw[List.set_eq_of_length_le (by rw[List.length_take];omega)])
   refine⟨zs',cells',G'',σ'',st'',hG.trans hG',hr'',h2,h3,?_⟩
   simp only[List.map_cons,Instr.fill,hplace]
   have hszc:(a.eval x).cells.size=z.size:=by rw[←hcl,RepI.length _ _ e3]
   have hle:¬(sizes (zs.take i)+(a.eval x).cells.size>cells.size):=by
    have:cells.size=cells.toList.length:=by simp
    rw[this,e1, ←e2, ←hcl]
    simp
   rw[if_neg (by simp[hszc]at hle ⊢;omega)]
   exact h4
 | [],_::_,_,_,_,_,_,_,_,ho,_,_,_=>by cases ho
 |_::_,[],_,_,_,_,_,_,_,ho,_,_,_=>by simp[Gp]at ho
def A0w (d:Option Nat) (zs:List I) (ps:List (Nat × Opd)):M:=Wb ps zs fun l=>setD d (.v (.agg l)) .done
def Ar4 (P:Program) (t:TypeId) (zs:List I):Bool:=match P.underlying t,P.info? t with
 |some (.struct fs),some i=>(match i.zero with
  |some z=>match zIs zs z.cells.toList with
   |some []=>true
   |_=>false
  |none=>false)&&
  fs.size==zs.length&&(List.range zs.length).all fun j=>match fs[j]?,zs[j]? with
   |some f,some z=>f.offset==sizes (zs.take j)&&match P.info? f.type with
    |some i=>i.size==z.size
    |none=>false
   |_,_=>false
 |_,_=>false
theorem Am2 {fs:List Field} {sz:Field→Nat} (h:∀f∈fs,(sizeOf f.type).run P w= .ok (sz f) w):
 (fs.mapM fun f=>(do pure (f.offset, ←sizeOf f.type):Sem (Nat × Nat))).run P w= .ok (fs.map fun f=>(f.offset,sz f)) w:=by
 induction fs with
 |nil=>simp
 |cons f fs ih=>
  have h1:=h f (by simp)
  have h2:=ih fun g hg=>h g (by simp[hg])
  simp only[List.mapM_cons,Sem.run_bind,h1,Result.andThen,Sem.run_pure,h2,List.map_cons]
theorem A3h {o:Oper} {t:TypeId} {ps:Array (Nat × Operand)} {zs:List I} {ps':List (Nat × Opd)} (ho:o.op= .build t ps) (hp:Gp N ps.toList ps'=true) (ht:Ar4 P t zs=true):
 Sound P N o (A0w o.dst zs ps'):=by
 intro G σ Fr w0 st a w Q next E hN hr hw hn hdst
 subst hN
 unfold Ar4 at ht
 split at ht
 ·rename_i fs i hu hi
  simp only[Bool.and_eq_true,beq_iff_eq]at ht
  obtain⟨⟨hz,hlen⟩,hall⟩:=ht
  cases hzv:i.zero with
  |none=>simp[hzv]at hz
  |some z=>
   simp only[hzv]at hz
   have hz':∃c,z.cells.toList=c++[]∧RepIs G zs c:=by
    split at hz
    ·rename_i h;exact zIs_spec G zs _ _ h
    ·cases hz
   obtain⟨c,hc,hz'⟩:=hz'
   rw[List.append_nil]at hc
   subst hc
   have hfield:∀j f zz,fs[j]?=some f→zs[j]?=some zz→f.offset=sizes (zs.take j)∧(sizeOf f.type).run P w= .ok zz.size w:=by
    intro j f zz hf hzz
    have hj:j<zs.length:=(List.getElem?_eq_some_iff.1 hzz).1
    have:=List.all_eq_true.1 hall j (List.mem_range.2 hj)
    simp only[hf,hzz,Bool.and_eq_true,beq_iff_eq]at this
    obtain⟨h1,h2⟩:=this
    refine⟨h1,?_⟩
    cases hfi:P.info? f.type with
    |none=>simp[hfi]at h2
    |some jn=>
     simp only[hfi,beq_iff_eq]at h2
     simp[sizeOf,typeInfo,hfi,h2]
   let szf:Field→Nat:=fun f=>((P.info? f.type).map (·.size)).getD 0
   have hszf:∀f∈fs.toList,(sizeOf f.type).run P w= .ok (szf f) w:=by
    intro f hf
    obtain⟨j,hj⟩:=List.mem_iff_getElem?.1 hf
    have hj':j<zs.length:=by
     have:=(List.getElem?_eq_some_iff.1 hj).1
     simp at this;omega
    have h2:=(hfield j f zs[j] (by simpa using hj) (List.getElem?_eq_getElem hj')).2
    cases hfi:P.info? f.type with
    |none=>simp[sizeOf,typeInfo,hfi]at h2
    |some jn=>simp[sizeOf,typeInfo,hfi,szf]
   have hplaces:∀j zz,zs[j]?=some zz→(fs.toList.map fun f=>(f.offset,szf f)).toArray[j]?=some (sizes (zs.take j),zz.size):=by
    intro j zz hzz
    have hj:j<zs.length:=(List.getElem?_eq_some_iff.1 hzz).1
    have hjf:fs[j]?=some (fs[j]'(by omega)):=Array.getElem?_eq_getElem (by omega)
    obtain⟨h1,h2⟩:=hfield j _ zz hjf hzz
    have h3:=hszf _ (by simp:fs[j]'(by omega)∈fs.toList)
    rw[h2]at h3
    have h4:zz.size=szf (fs[j]'(by omega)):=by injection h3
    simp[hjf,h1,h4]
   obtain⟨zs',cells',G',σ',st',hG,hr',h2,h3,h4⟩:=Xe (place:=fun j=>(fs.toList.map fun f=>(f.offset,szf f)).toArray[j]?) hr hp hw hz' hplaces
   have hv:RepV G' (.agg zs') (.agg cells'):=by
    unfold RepV
    rw[if_pos (show(I.agg zs').isAgg=true from rfl)]
    exact⟨cells',rfl,h3⟩
   refine C1 hr' (fun G'' σ'' st'' a' w' hG''=>hn G'' σ'' st'' a' w' (hG.trans hG'')) hdst hv h2 ?_
   have hm:=Am2 (P:=P) (w:=w) hszf
   have hparts:(ps.map fun(p:Nat × Operand)=>(p.1,a.eval p.2)).toList=ps.toList.map fun p=>(p.1,a.eval p.2):=by simp
   have hm':(fs.mapM fun f=>(do pure (f.offset, ←sizeOf f.type):Sem (Nat × Nat))).run P w= .ok (fs.toList.map fun f=>(f.offset,szf f)).toArray w:=by
    rw[Array.mapM_eq_mapM_toList,Sem.run_map,hm]
    rfl
   have hzero:(zeroValue t).run P w= .ok z w:=by simp[zeroValue,typeInfo,hi,hzv]
   simp only[execOp,ho,Instr.build,Sem.run_bind,hzero,Result.andThen,run_underlying hu,hm',hparts,h4,Sem.run_pure]
 ·cases ht
end

def Auy (d:Nat) (e:TypeId) (sz:Nat) (z:I) (n:Nat) (ps:List (Nat × Opd)):M:=Wb ps (List.replicate n z) fun l=>.need (l.length=n∧∀u∈l,u.size=sz) fun _=>C2 d (.vec e sz l)
def Uq (P:Program) (t e:TypeId) (sz:Nat) (z:I) (n:Nat):Bool:=match P.underlying t with
 |some (.slice e')=>e'==e&&n≤4096&&n != 0&&match P.info? e with
  |some i=>i.size==sz&&sz != 0&&sz≤4096&&z.size==sz&&match i.zero with
   |some v=>v.cells.size==sz&&match zI z v.cells.toList with
    |some []=>true
    |_=>false
   |none=>false
  |none=>false
 |_=>false
def Akc (d:Nat) (x:Opd) (i:Nat):M:=match x with
 | .t n=>.get n fun ver sv=>match sv with
   | .tup fs=>match fs[i]? with
     |some (.i y)=>C2 d (.v y)
     |some (.vec e sz l)=>.need (n≠d) fun _=>.set n (ver+1) (.tup (fs.set i (.i .und))) (C2 d (.vec e sz l))
     |none=>.fail
   |_=>.fail
 |_=>.fail
def Bbo (d:Option Nat) (agg:Bool) (sz:Nat) (x:Opd) (i off:Nat):M:=Gx x fun u=>match u with
 | .agg l=>match l[i]? with
   |some y=>.need (sizes (l.take i)=off∧y.isAgg=agg∧y.size=sz) fun _=>setD d (.v y) .done
   |none=>.fail
 |_=>.fail
def Bge (d:Option Nat) (max:Bool) (x y:Opd):M:=Gx x fun u=>Gx y fun v=>match u,v with
 | .int k a,.int k' b=>.need (k=k') fun _=>selI max (.int k (Max.max a b)) (.int k (Min.min a b)) fun r=>setD d (.v r) .done
 | .str a,.str b=>.need (max=true) fun _=>.ite (!Op.bytesLess a b) (setD d (.v (.str a)) .done) (setD d (.v (.str b)) .done)
 |_,_=>.fail
section
variable{P:Program}{N:Nat}{G:Mem}{σ:Lab}{Fr:Mem}{w0:Base}{w:World}{st:St}{a:Act}
theorem A1n {o:Oper} {max:Bool} {x y:Operand} {x' y':Opd} {t:Array TypeId} (ho:o.op= .call {callee:=.builtin (if max then .max else .min),args:= #[x,y],argTypes:=t}) (hx:Ax N x x'=true) (hy:Ax N y y'=true):
 Sound P N o (Bge o.dst max x' y'):=by
 intro G σ Fr w0 st a w Q next E hN hr hw hn hdst
 subst hN
 obtain⟨i,h1,hi⟩:=De hr hx hw
 clear hw
 obtain⟨j,hw,hj⟩:=De hr hy h1
 clear h1
 split at hw
 ·rename_i k m k' n
  obtain⟨rfl,h1⟩:=hw
  rw[RepV.int]at hi hj
  have h1:(setD o.dst (.v (.int k (if max then Max.max m n else Min.min m n))) .done).wp P Q st:=by cases max<;>exact h1
  refine C1 hr hn hdst (RepV.int.2 rfl) h1 ?_
  cases max with
  |true=>
   have e:(if n>m then n else m)=Max.max m n:=by
    rw[Int.max_def];split<;>split<;>omega
   simp[execOp,ho,resolve,invoke,builtin,Builtin.max_,Builtin.max2,hi,hj,e]
  |false=>
   have e:(if n<m then n else m)=Min.min m n:=by
    rw[Int.min_def];split<;>split<;>omega
   simp[execOp,ho,resolve,invoke,builtin,Builtin.min_,Builtin.min2,hi,hj,e]
 ·rename_i s t
  obtain⟨rfl,h1,h2⟩:=hw
  obtain⟨hi,hil⟩:=RepV.str.1 hi
  obtain⟨hj,hjl⟩:=RepV.str.1 hj
  cases hc: !Op.bytesLess s t with
  |true=>
   refine C1 hr hn hdst (RepV.str.2 ⟨rfl,hil⟩) (h1 hc) ?_
   simp[execOp,ho,resolve,invoke,builtin,Builtin.max_,Builtin.max2,hi,hj,Op.stringOp,hc,asBool]
  |false=>
   refine C1 hr hn hdst (RepV.str.2 ⟨rfl,hjl⟩) (h2 hc) ?_
   simp[execOp,ho,resolve,invoke,builtin,Builtin.max_,Builtin.max2,hi,hj,Op.stringOp,hc,asBool]
 ·exact hw.elim
def Apg (P:Program) (t:TypeId) (i off:Nat) (agg:Bool) (sz:Nat):Bool:=match P.underlying t with
 |some (.struct fs)=>match fs[i]? with
  |some f=>f.offset==off&&tyOk P f.type agg sz
  |none=>false
 |_=>false
theorem Bb3 {o:Oper} {t:TypeId} {x:Operand} {x':Opd} {i off sz:Nat} {agg:Bool} (ho:o.op= .field t x i) (hx:Ax N x x'=true) (ht:Apg P t i off agg sz=true):
 Sound P N o (Bbo o.dst agg sz x' i off):=by
 intro G σ Fr w0 st a w Q next E hN hr hw hn hdst
 subst hN
 obtain⟨u,h1,hu⟩:=De hr hx hw
 clear hw
 split at h1
 ·rename_i l
  split at h1
  ·rename_i y hy
   obtain⟨⟨rfl,rfl,rfl⟩,h1⟩:=h1
   unfold RepV at hu
   rw[if_pos (show(I.agg l).isAgg=true from rfl)]at hu
   obtain⟨arr,hc,hu⟩:=hu
   obtain⟨c1,c,c2,e1,e2,e3,_⟩:=RepIs.nth i hu hy
   have hl:=RepI.length _ _ e3
   unfold Apg at ht
   split at ht
   ·rename_i fs hus
    split at ht
    ·rename_i f hf
     simp only[Bool.and_eq_true,beq_iff_eq]at ht
     obtain⟨hoff,ht⟩:=ht
     obtain⟨g1,g2⟩:=P0 ht w
     have hval:∃v,(part f.type arr f.offset).run P w= .ok v w∧RepV G y v:=by
      rw[hoff]
      cases hagg:y.isAgg with
      |true=>
       rw[hagg]at g1
       refine⟨.agg (arr.extract (sizes (l.take i)) (sizes (l.take i)+y.size)),by simp[part,g1,g2],?_⟩
       unfold RepV
       rw[if_pos hagg]
       refine⟨_,rfl,?_⟩
       have:(arr.extract (sizes (l.take i)) (sizes (l.take i)+y.size)).toList=c:=by
        rw[Array.toList_extract,e1,List.extract_eq_take_drop, ←e2, ←hl,Nat.add_sub_cancel_left,List.append_assoc,List.drop_left,List.take_left]
       rw[this];exact e3
      |false=>
       rw[hagg]at g1
       have hone:y.size=1:=by cases y<;>simp_all [I.isAgg,I.size]
       rw[hone]at hl
       match c,hl with
       | [v],_=>
         have hv:arr[sizes (l.take i)]?=some v:=by
          have:arr[sizes (l.take i)]?=arr.toList[sizes (l.take i)]?:=by simp
          rw[this,e1, ←e2]
          simp
         refine⟨v,by simp[part,g1,hv],?_⟩
         unfold RepV
         rw[if_neg (by simp[hagg])]
         exact e3
     obtain⟨v,hrun,hv⟩:=hval
     exact C1 hr hn hdst hv h1 (by simp[execOp,ho,hc,Instr.field,run_underlying hus,hf,asAgg,hrun])
    ·cases ht
   ·cases ht
  ·exact h1.elim
 ·exact h1.elim
theorem RepTup.nth {s:Nat}:∀{fs:List F} {j i:Nat} {cs:List Value} {f:F},RepTup G σ w s j fs cs→fs[i]?=some f→
 ∃c,cs[i]?=some c∧(match f with| .i x=>RepV G x c| .vec e sz l=>VecAt G σ w (s,j+i+1) e sz l c)
 | [],_,i,_,_,_,h=>by simp at h
 | .i x::fs,j,0,cs,f,h,hi=>by
   simp only[List.getElem?_cons_zero,Option.some.injEq]at hi
   subst hi
   obtain⟨c,d,rfl,h1,_⟩:=h
   exact⟨c,rfl,h1⟩
 | .vec e sz l::fs,j,0,cs,f,h,hi=>by
   simp only[List.getElem?_cons_zero,Option.some.injEq]at hi
   subst hi
   obtain⟨c,d,rfl,h1,_⟩:=h
   exact⟨c,rfl,h1⟩
 | .i x::fs,j,i+1,cs,f,h,hi=>by
   simp only[List.getElem?_cons_succ]at hi
   obtain⟨c,d,rfl,_,h2⟩:=h
   obtain⟨c',h3,h4⟩:=RepTup.nth h2 hi
   refine⟨c',by simpa using h3,?_⟩
   rwa [show j+(i+1)+1=j+1+i+1 by omega]
 | .vec _ _ _::fs,j,i+1,cs,f,h,hi=>by
   simp only[List.getElem?_cons_succ]at hi
   obtain⟨c,d,rfl,_,h2⟩:=h
   obtain⟨c',h3,h4⟩:=RepTup.nth h2 hi
   refine⟨c',by simpa using h3,?_⟩
   rwa [show j+(i+1)+1=j+1+i+1 by omega]
theorem RepTup.lose {s:Nat}:∀{fs:List F} {j i:Nat} {cs:List Value} {e:TypeId} {sz:Nat} {l:List I},RepTup G σ w s j fs cs→fs[i]?=some (.vec e sz l)→
 RepTup G (σ.lose (s,j+i+1)) w s j (fs.set i (.i .und)) cs
 | [],_,i,_,_,_,_,_,h=>by simp at h
 | .i x::fs,j,0,cs,e,sz,l,h,hi=>by simp at hi
 | .vec e' sz' l'::fs,j,0,cs,e,sz,l,h,hi=>by
   obtain⟨c,d,rfl,h1,h2⟩:=h
   simp only[List.set_cons_zero]
   refine⟨c,d,rfl,?_,RepTup.tr (Mem.le.refl G) h2 fun b k hj hb=>⟨Lab.lose_some.2 ⟨by simp;omega,hb⟩,rfl⟩⟩
   unfold RepV
   rw[if_neg (by simp[I.isAgg])]
   exact⟨c,rfl,h1.one⟩
 | .i x::fs,j,i+1,cs,e,sz,l,h,hi=>by
   simp only[List.getElem?_cons_succ]at hi
   obtain⟨c,d,rfl,h1,h2⟩:=h
   simp only[List.set_cons_succ]
   rw[show j+(i+1)+1=j+1+i+1 by omega]
   exact⟨c,d,rfl,h1,RepTup.lose h2 hi⟩
 | .vec _ _ _::fs,j,i+1,cs,e,sz,l,h,hi=>by
   simp only[List.getElem?_cons_succ]at hi
   obtain⟨c,d,rfl,h1,h2⟩:=h
   simp only[List.set_cons_succ]
   rw[show j+(i+1)+1=j+1+i+1 by omega]
   exact⟨c,d,rfl,h1.tr (Mem.le.refl G) fun b hb=>⟨Lab.lose_some.2 ⟨by simp;omega,hb⟩,rfl⟩,RepTup.lose h2 hi⟩
theorem Bb2 {o:Oper} {d i:Nat} {x:Operand} {x':Opd} (hd:o.dst=some d) (ho:o.op= .extract x i) (hx:Ax N x x'=true):Sound P N o (Akc d x' i):=by
 intro G σ Fr w0 st a w Q next E hN hr hw hn hdst
 subst hN
 cases x' with
 |c _=>exact hw.elim
 |nils _ _=>exact hw.elim
 |t n=>
  obtain⟨rfl,hnlt⟩:=Dm hx
  simp only[Akc,M.wp]at hw
  cases hs:st[n]? with
  |none=>simp[hs]at hw
  |some cur=>
   obtain⟨ver,sv⟩:=cur
   simp only[hs]at hw
   have hrep:=hr.slot hnlt hs
   split at hw
   ·rename_i fs
    obtain⟨arr,hc,hrep⟩:=hrep
    have run:∀{c:Value},arr.toList[i]?=some c→(execOp a.eval o).run P w= .ok (.value c) w:=by
     intro c hci
     have:arr[i]?=some c:=by simpa using hci
     simp[execOp,ho,hc,Instr.extract,this]
    split at hw
    ·rename_i y hy
     obtain⟨c,h1,h2⟩:=RepTup.nth hrep hy
     obtain⟨σ',st',r1,r2⟩:=hr.setNV (hdst d hd) h2 hw
     exact Bv (run h1) (by rw[hd];exact hn G σ' st' _ w (Mem.le.refl G) r1 r2)
    ·rename_i e sz l hy
     obtain⟨hne,hw⟩:=hw
     obtain⟨c,h1,h2⟩:=RepTup.nth hrep hy
     rw[Nat.zero_add]at h2
     have hr2:=Rel.self (new:=.tup (fs.set i (.i .und))) (ver:=ver+1) hr (hr.wok.lose (n,i+1)) (Mem.le.refl G) hs (Nat.lt_succ_self _)
      (fun s' hs' b k' hb=>⟨Lab.lose_some.2 ⟨fun e=>hs' (by cases e;rfl),hb⟩,rfl⟩) (by
        refine⟨arr,?_,?_⟩
        ·rw[←hc,Ez (by rw[hr.n];exact hnlt)]
        ·have:=RepTup.lose hrep hy
         rwa [Nat.zero_add]at this)
     have hfree:=VecAt.free h2 hr.wok (σ':=σ.lose (n,i+1)) fun b hb=>by simp[Lab.lose,hb]
     obtain⟨σ',st',r1,r2⟩:=hr2.putOwned (hdst d hd) (row:=none) ⟨rfl,rfl,rfl,Nat.le_refl _,fun _ _ _=>rfl⟩ (fun b hb=>by cases hb) hfree hw
     exact Bv (run h1) (by rw[hd];exact hn G σ' st' _ w (Mem.le.refl G) r1 r2)
    ·exact hw.elim
   ·exact hw.elim
theorem M1 {z:I} {c:List Value} (h:RepI G z c):∀n,RepIs G (List.replicate n z) (List.replicate n c).flatten
 |0=>rfl
 |n+1=>⟨c,_,by simp[List.replicate_succ],h,M1 h n⟩
theorem X6 {z:Array Value} {sz:Nat} (hz:z.size=sz) (n:Nat):((Array.range (n*sz)).map (fun j=>z[j % z.size]!)).toList=(List.replicate n z.toList).flatten:=by
 induction n with
 |zero=>simp
 |succ n ih=>
  rw[List.replicate_succ',List.flatten_append, ←ih,Nat.add_mul,Nat.one_mul]
  simp only[Array.toList_map,Array.toList_range,List.range_add,List.map_append,List.map_map]
  congr 1
  apply List.ext_getElem
  ·simp[hz]
  ·intro j h1 h2
   simp at h1
   simp[hz,Nat.mul_add_mod_of_lt h1,h1]
theorem A1g {o:Oper} {d:Nat} {t e:TypeId} {sz n:Nat} {z:I} {ps:Array (Nat × Operand)} {ps':List (Nat × Opd)} (hd:o.dst=some d) (ho:o.op= .buildSlice t n ps) (hp:Gp N ps.toList ps'=true) (ht:Uq P t e sz z n=true):
 Sound P N o (Auy d e sz z n ps'):=by
 intro G σ Fr w0 st a w Q next E hN hr hw hn hdst
 subst hN
 unfold Uq at ht
 split at ht
 ·rename_i e' hu
  simp only[Bool.and_eq_true,beq_iff_eq,bne_iff_ne,ne_eq,decide_eq_true_eq]at ht
  obtain⟨⟨⟨rfl,hn4⟩,hn0⟩,ht⟩:=ht
  split at ht
  ·rename_i i hi
   simp only[Bool.and_eq_true,beq_iff_eq,bne_iff_ne,ne_eq,decide_eq_true_eq]at ht
   obtain⟨⟨⟨⟨rfl,h0⟩,hs4⟩,hzsz⟩,ht⟩:=ht
   split at ht
   ·rename_i v hv
    simp only[Bool.and_eq_true,beq_iff_eq]at ht
    obtain⟨hvs,hz⟩:=ht
    have hz':∃c,v.cells.toList=c++[]∧RepI G z c:=by
     split at hz
     ·rename_i h;exact zI_spec G z _ _ h
     ·cases hz
    obtain⟨c,hc,hz'⟩:=hz'
    rw[List.append_nil]at hc
    subst hc
    let cells0:Array Value:=(Array.range (n*i.size)).map (fun j=>v.cells[j % v.cells.size]!)
    have hcells0:RepIs G (List.replicate n z) cells0.toList:=by
     rw[X6 hvs]
     exact M1 hz' n
    have hplace:∀(j:Nat) (zz:I),(List.replicate n z)[j]?=some zz→(fun j:Nat=>some (j*i.size,i.size)) j=some (sizes ((List.replicate n z).take j),zz.size):=by
     intro j zz hzz
     have hj:j<n:=by have:=(List.getElem?_eq_some_iff.1 hzz).1;simpa using this
     have hzz':zz=z:=by rw[List.getElem?_replicate,if_pos hj]at hzz;cases hzz;rfl
     subst hzz'
     rw[List.take_replicate,Dc (sz:=i.size) (by intro x hx;rw[List.eq_of_mem_replicate hx,hzsz]),List.length_replicate,Nat.min_eq_left (Nat.le_of_lt hj),hzsz]
    obtain⟨l,cells,G',σ',st',hG,hr',h2,h3,h4⟩:=Xe (place:=fun j=>some (j*i.size,i.size)) hr hp hw hcells0 hplace
    obtain⟨⟨hl,hsz⟩,h2⟩:=h2
    have hclen:cells.size=n*i.size:=by
     have:=RepIs.length _ _ h3
     rw[Dc hsz,hl]at this
     simpa using this
    have hnm:n≤maxLen:=by simp only[maxLen];omega
    obtain⟨σ'',st'',r1,r2⟩:=hr'.newBlock (hdst d hd) (sv:=.vec e' i.size l) (o:=.cells cells e') (c:=.slice (some ⟨w.heap.size,0,none⟩) n n) rfl (by intro _ e;cases e)
     (fun σ1 _ hb=>⟨cells.toList,⟨by rw[hl];simpa using hclen,.inr ⟨w.heap.size,n,cells,by rw[hl],Nat.zero_le _,Row.of (heap_alloc_new w _),by rw[hl];exact Nat.le_refl _,hnm,hclen,by
       rw[hl, ←hclen]
       have:cells.size=cells.toList.length:=by simp
       rw[this,List.take_length]⟩⟩,h3,hsz,fun b hb'=>by cases hb';exact hb⟩) h2
    have hbig:¬(n*i.size>2^24):=by
     have:n*i.size≤4096*4096:=Nat.mul_le_mul hn4 hs4
     omega
    have hparts:(ps.map fun(p:Nat × Operand)=>(p.1,a.eval p.2)).toList=ps.toList.map fun p=>(p.1,a.eval p.2):=by simp
    have hzero:(zeroValue e').run P w= .ok v w:=by simp[zeroValue,typeInfo,hi,hv]
    have hsizeOf:(sizeOf e').run P w= .ok i.size w:=by simp[sizeOf,typeInfo,hi]
    refine Bv (w':=w.alloc (.cells cells e')) ?_ (by rw[hd];exact hn G' σ'' st'' _ _ hG r1 r2)
    have hne:n*i.size≠0:=Nat.mul_ne_zero hn0 h0
    have h4':Instr.fill (fun j=>some (j*i.size,i.size)) ((Array.range (n*i.size)).map (fun j=>v.cells[j % v.cells.size]!)) (ps.toList.map fun p=>(p.1,a.eval p.2))=some cells:=h4
    simp only[execOp,ho,Instr.buildSlice,Sem.run_bind,run_underlying hu,Result.andThen,hsizeOf]
    rw[if_neg hbig,if_neg hne]
    simp only[Sem.run_bind,hzero,Result.andThen,Sem.run_pure,hparts,h4']
    simp[newRow]
   ·cases ht
  ·cases ht
 ·cases ht
def A0z (d:Nat) (e:TypeId) (sz:Nat):M:=C2 d (.vec e sz [])
theorem A3j {o:Oper} {d:Nat} {t e:TypeId} {sz:Nat} (hd:o.dst=some d) (ho:o.op= .buildSlice t 0 #[]) (ht:(P.underlying t=some (.slice e))∧(P.info? e).isSome=true):Sound P N o (A0z d e sz):=by
 intro G σ Fr w0 st a w Q next E hN hr hw hn hdst
 subst hN
 obtain⟨hu,hi⟩:=ht
 cases hi':P.info? e with
 |none=>simp[hi']at hi
 |some i=>
  obtain⟨σ'',st'',r1,r2⟩:=hr.newBlock (hdst d hd) (sv:=.vec e sz []) (o:=.cells #[] e) (c:=.slice (some ⟨w.heap.size,0,none⟩) 0 0) rfl (by intro _ e;cases e)
   (fun σ1 _ hb=>⟨[],⟨by simp,.inr ⟨w.heap.size,0, #[],rfl,Nat.zero_le _,Row.of (heap_alloc_new w _),Nat.le_refl _,by simp[maxLen],by simp,by simp⟩⟩,rfl,by simp,fun b hb'=>by cases hb';exact hb⟩) hw
  refine Bv (w':=w.alloc (.cells #[] e)) ?_ (by rw[hd];exact hn G σ'' st'' _ _ (Mem.le.refl G) r1 r2)
  have h0:Array.range 0= #[]:=rfl
  simp[execOp,ho,Instr.buildSlice,run_underlying hu,sizeOf,typeInfo,hi',newRow,Instr.fill,h0]
end

inductive ETy where
 |int (k:IntKind)
 |bool
 |str
 |st (l:List ETy)
 deriving Inhabited
mutual
def ETy.size:ETy→Nat
 | .st l=>ETy.sizes l
 |_=>1
def ETy.sizes:List ETy→Nat
 | []=>0
 |e::l=>e.size+ETy.sizes l
end
def ETy.isSt:ETy→Bool
 | .st _=>true
 |_=>false
mutual
def ETy.ok (P:Program):Nat→ETy→TypeId→Bool
 |0,_,_=>false
 |_+1,.int k,t=>match P.underlying t with
  |some (.int k')=>k==k'
  |_=>false
 |_+1,.bool,t=>match P.underlying t with
  |some .bool=>true
  |_=>false
 |_+1,.str,t=>match P.underlying t with
  |some .string=>true
  |_=>false
 |n+1,.st l,t=> !P.stoodInHeld t&&ETy.oks P n l (P.fieldsOf t).toList 0&&(match P.underlying t with
  |some (.struct _)=>true
  |_=>false)
def ETy.oks (P:Program):Nat→List ETy→List Field→Nat→Bool
 |_,[],[],_=>true
 |n,e::l,f::fs,o=>f.name != "_" &&f.offset==o&&e.ok P n f.type&&tyOk P f.type e.isSt e.size&&ETy.oks P n l fs (o+e.size)
 |_,_,_,_=>false
end
mutual
def eqI:ETy→I→I→Option Bool
 | .int k,.int k1 a,.int k2 b=>if k1=k∧k2=k then some (decide (a=b))else none
 | .bool,.bool a,.bool b=>some (decide (a=b))
 | .str,.str a,.str b=>some (decide (a=b))
 | .st es,.agg l,.agg m=>eqIs es l m
 |_,_,_=>none
def eqIs:List ETy→List I→List I→Option Bool
 | [],[],[]=>some true
 |e::es,x::l,y::m=>match eqI e x y with
  |some r=>match eqIs es l m with
   |some r'=>some (r&&r')
   |none=>none
  |none=>none
 |_,_,_=>none
end
section
variable{P:Program}{N:Nat}{G:Mem}{σ:Lab}{Fr:Mem}{w0:Base}{w:World}{st:St}{a:Act}
theorem Aoe {arr:Array Value} {pre cs post:List Value} {y:I} {t:TypeId} (h:arr.toList=pre++cs++post) (hy:RepI G y cs) (ht:tyOk P t y.isAgg y.size=true):
 ∃v,(part t arr pre.length).run P w= .ok v w∧RepV G y v:=by
 obtain⟨g1,g2⟩:=P0 ht w
 have hl:=RepI.length _ _ hy
 cases hagg:y.isAgg with
 |true=>
  rw[hagg]at g1
  refine⟨.agg (arr.extract pre.length (pre.length+y.size)),by simp[part,g1,g2],?_⟩
  unfold RepV
  rw[if_pos hagg]
  refine⟨_,rfl,?_⟩
  have:(arr.extract pre.length (pre.length+y.size)).toList=cs:=by
   rw[Array.toList_extract,h,List.extract_eq_take_drop, ←hl,Nat.add_sub_cancel_left,List.append_assoc,List.drop_left,List.take_left]
  rw[this];exact hy
 |false=>
  rw[hagg]at g1
  have hone:y.size=1:=by cases y<;>simp_all [I.isAgg,I.size]
  rw[hone]at hl
  match cs,hl with
  | [v],_=>
    have hv:arr[pre.length]?=some v:=by
     have:arr[pre.length]?=arr.toList[pre.length]?:=by simp
     rw[this,h]
     simp
    refine⟨v,by simp[part,g1,hv],?_⟩
    unfold RepV
    rw[if_neg (by simp[hagg])]
    exact hy
mutual
theorem eqI_shape:∀(e:ETy) (x y:I) (r:Bool),eqI e x y=some r→x.size=e.size∧y.size=e.size∧x.isAgg=e.isSt∧y.isAgg=e.isSt
 | .int k,x,y,r,h=>by
   cases x<;>cases y<;>simp[eqI]at h
   simp[I.size,ETy.size,I.isAgg,ETy.isSt]
 | .bool,x,y,r,h=>by
   cases x<;>cases y<;>simp[eqI]at h
   simp[I.size,ETy.size,I.isAgg,ETy.isSt]
 | .str,x,y,r,h=>by
   cases x<;>cases y<;>simp[eqI]at h
   simp[I.size,ETy.size,I.isAgg,ETy.isSt]
 | .st es,x,y,r,h=>by
   cases x<;>cases y<;>simp only[eqI,reduceCtorEq]at h
   obtain⟨h1,h2⟩:=eqIs_shape es _ _ r h
   simp[I.size,ETy.size,I.isAgg,ETy.isSt,h1,h2]
theorem eqIs_shape:∀(es:List ETy) (l m:List I) (r:Bool),eqIs es l m=some r→sizes l=ETy.sizes es∧sizes m=ETy.sizes es
 | [],l,m,r,h=>by
   cases l<;>cases m<;>simp[eqIs]at h
   simp[sizes,ETy.sizes]
 |e::es,l,m,r,h=>by
  cases l with
  |nil=>cases m<;>simp[eqIs]at h
  |cons x l=>
   cases m with
   |nil=>simp[eqIs]at h
   |cons y m=>
    simp only[eqIs]at h
    cases h1:eqI e x y with
    |none=>simp[h1]at h
    |some r1=>
     cases h2:eqIs es l m with
     |none=>simp[h1,h2]at h
     |some r2=>
      obtain⟨k1,k2,_,_⟩:=eqI_shape e x y r1 h1
      obtain⟨k3,k4⟩:=eqIs_shape es l m r2 h2
      simp[sizes,ETy.sizes,k1,k2,k3,k4]
end
mutual
theorem eqI_run (G:Mem):∀(n d:Nat) (e:ETy) (t:TypeId) (x y:I) (u v:Value) (r:Bool),n≤d→e.ok P n t=true→eqI e x y=some r→RepV G x u→RepV G y v→(Op.equalIn d t u v).run P w= .ok r w
 |0,_,_,_,_,_,_,_,_,_,ho,_,_,_=>by simp[ETy.ok]at ho
 |n+1,0,_,_,_,_,_,_,_,hd,_,_,_,_=>by omega
 |n+1,d+1,.int k,t,x,y,u,v,r,_,ho,h,hx,hy=>by
  cases x<;>cases y<;>simp only[eqI,reduceCtorEq]at h
  split at h
  ·rename_i hk
   cases h
   rw[RepV.int]at hx hy
   simp only[ETy.ok]at ho
   split at ho
   ·rename_i hu
    rw[hx,hy,hk.1,hk.2,run_equalIn_int w d t _ _ _ _ hu,beq_eq]
   ·cases ho
  ·cases h
 |n+1,d+1,.bool,t,x,y,u,v,r,_,ho,h,hx,hy=>by
  cases x<;>cases y<;>simp only[eqI,Option.some.injEq,reduceCtorEq]at h
  rename_i p q
  subst h
  rw[RepV.bool]at hx hy
  simp only[ETy.ok]at ho
  split at ho
  ·rename_i hu
   have e:(p==q)=decide (p=q):=by cases p<;>cases q<;>rfl
   rw[hx,hy,run_equalIn_bool' w d t p q hu,e]
  ·cases ho
 |n+1,d+1,.str,t,x,y,u,v,r,_,ho,h,hx,hy=>by
  cases x<;>cases y<;>simp only[eqI,Option.some.injEq,reduceCtorEq]at h
  rename_i p q
  subst h
  rw[RepV.str]at hx hy
  simp only[ETy.ok]at ho
  split at ho
  ·rename_i hu
   have e:((⟨⟨p⟩⟩:ByteArray).toList==(⟨⟨q⟩⟩:ByteArray).toList)=decide (p=q):=by
    rw[Bool.eq_iff_iff]
    simp
   rw[hx.1,hy.1,run_equalIn_string w d t _ _ hu,e]
  ·cases ho
 |n+1,d+1,.st es,t,x,y,u,v,r,hd,ho,h,hx,hy=>by
  cases x<;>cases y<;>simp only[eqI,reduceCtorEq]at h
  rename_i l m
  unfold RepV at hx hy
  rw[if_pos (show(I.agg l).isAgg=true from rfl)]at hx
  rw[if_pos (show(I.agg m).isAgg=true from rfl)]at hy
  obtain⟨xs,rfl,hx⟩:=hx
  obtain⟨ys,rfl,hy⟩:=hy
  simp only[ETy.ok,Bool.and_eq_true,Bool.not_eq_true']at ho
  obtain⟨⟨h1,h2⟩,h3⟩:=ho
  split at h3
  ·rename_i fs hu
   have hfs:P.fieldsOf t=fs:=by simp[Program.fieldsOf,hu]
   rw[run_equalIn_struct w d t xs ys (by rw[hfs];exact hu) h1]
   exact eqIs_run G n d es _ 0 l m xs ys [] [] xs.toList ys.toList r (by omega) h2 h (by simp) (by simp) rfl rfl hx hy
  ·cases h3
theorem eqIs_run (G:Mem):∀(n d:Nat) (es:List ETy) (fs:List Field) (o:Nat) (l m:List I) (xs ys:Array Value) (p q cs ds:List Value) (r:Bool),n≤d→ETy.oks P n es fs o=true→eqIs es l m=some r→
 xs.toList=p++cs→ys.toList=q++ds→p.length=o→q.length=o→RepIs G l cs→RepIs G m ds→(Op.eqFields d xs ys fs).run P w= .ok r w
 |n,d,[],fs,o,l,m,xs,ys,p,q,cs,ds,r,hd,ho,h,_,_,_,_,_,_=>by
  cases fs with
  |cons f fs=>simp[ETy.oks]at ho
  |nil=>
   cases l<;>cases m<;>simp[eqIs]at h
   subst h
   simp[Op.eqFields]
 |n,d,e::es,fs,o,l,m,xs,ys,p,q,cs,ds,r,hd,ho,h,hp,hq,hpl,hql,hl,hm=>by
  cases fs with
  |nil=>simp[ETy.oks]at ho
  |cons f fs=>
   cases l with
   |nil=>cases m<;>simp[eqIs]at h
   |cons x l=>
    cases m with
    |nil=>simp[eqIs]at h
    |cons y m=>
     simp only[eqIs]at h
     cases h1:eqI e x y with
     |none=>simp[h1]at h
     |some r1=>
      cases h2:eqIs es l m with
      |none=>simp[h1,h2]at h
      |some r2=>
       simp only[h1,h2,Option.some.injEq]at h
       subst h
       simp only[ETy.oks,Bool.and_eq_true,beq_iff_eq,bne_iff_ne,ne_eq]at ho
       obtain⟨⟨⟨⟨k1,k2⟩,k3⟩,k4⟩,k5⟩:=ho
       obtain⟨s1,s2,s3,s4⟩:=eqI_shape e x y r1 h1
       obtain⟨c1,d1,e1,e2,e3⟩:=hl
       obtain⟨c2,d2,e4,e5,e6⟩:=hm
       obtain⟨u,hu1,hu2⟩:=Aoe (P:=P) (w:=w) (pre:=p) (post:=d1) (by rw[hp,e1,List.append_assoc]) e2 (by rw[s3,s1];exact k4)
       obtain⟨v,hv1,hv2⟩:=Aoe (P:=P) (w:=w) (pre:=q) (post:=d2) (by rw[hq,e4,List.append_assoc]) e5 (by rw[s4,s2];exact k4)
       have hr1:=eqI_run G n d e f.type x y u v r1 hd k3 h1 hu2 hv2
       have hl1:=RepI.length _ _ e2
       have hl2:=RepI.length _ _ e5
       have ih:=eqIs_run G n d es fs (o+e.size) l m xs ys (p++c1) (q++c2) d1 d2 r2 hd k5 h2 (by rw[hp,e1,List.append_assoc]) (by rw[hq,e4,List.append_assoc]) (by simp[hpl,hl1,s1]) (by simp[hql,hl2,s2]) e3 e6
       rw[hpl]at hu1
       rw[hql]at hv1
       simp only[Op.eqFields]
       rw[if_pos k1]
       simp only[Sem.run_bind,k2,hu1,hv1,hr1,Result.andThen]
       cases r1 with
       |true=>simpa using ih
       |false=>simp
end
def Bgd (d:Option Nat) (neg:Bool) (e:ETy) (x y:Opd):M:=Gx x fun i=>Gx y fun j=>match eqI e i j with
 |some r=>selI neg (.bool (!r)) (.bool r) fun r=>setD d (.v r) .done
 |none=>.fail
def eqOk (P:Program) (e:ETy) (t:TypeId):Bool:=e.ok P 20 t&&(match e with
 | .st _=> !P.eqGuardType P.depth t
 | .bool=>true
 |_=>false)
theorem A1i {o:Oper} {neg:Bool} {t u:TypeId} {x y:Operand} {x' y':Opd} {e:ETy} (ho:o.op= .binOp (if neg then .neq else .eql) t x y u) (hx:Ax N x x'=true) (hy:Ax N y y'=true) (he:eqOk P e t=true):
 Sound P N o (Bgd o.dst neg e x' y'):=by
 intro G σ Fr w0 st a w Q next E hN hr hw hn hdst
 subst hN
 obtain⟨i,h1,hi⟩:=De hr hx hw
 clear hw
 obtain⟨j,hw,hj⟩:=De hr hy h1
 clear h1
 split at hw
 ·rename_i r hr'
  unfold eqOk at he
  simp only[Bool.and_eq_true]at he
  have hrun:=eqI_run (P:=P) (w:=w) G 20 10000 e t i j _ _ r (by omega) he.1 hr' hi hj
  have hw:(setD o.dst (.v (.bool (if neg then !r else r))) .done).wp P Q st:=by cases neg<;>exact hw
  refine C1 hr hn hdst (RepV.bool.2 rfl) hw ?_
  cases e with
  |st es=>
   cases i<;>cases j<;>simp only[eqI,reduceCtorEq]at hr'
   unfold RepV at hi hj
   rw[if_pos (show(I.agg _).isAgg=true from rfl)]at hi hj
   obtain⟨xs,hxs,_⟩:=hi
   obtain⟨ys,hys,_⟩:=hj
   have hg:P.eqGuardType P.depth t=false:=by simpa using he.2
   rw[hxs,hys]at hrun
   cases neg with
   |true=>simp[execOp,ho,hxs,hys,run_eqGuard_agg w .neq t x y xs ys hg,run_neq_struct,hrun]
   |false=>simp[execOp,ho,hxs,hys,run_eqGuard_agg w .eql t x y xs ys hg,run_eql_struct,hrun]
  |bool=>
   cases i<;>cases j<;>simp only[eqI,reduceCtorEq]at hr'
   rw[RepV.bool]at hi hj
   rw[hi,hj]at hrun
   have hrun':(Op.equal t (.bool _) (.bool _)).run P w=_:=hrun
   cases neg with
   |true=>simp[execOp,ho,hi,hj,eqGuard,binOp,hrun']
   |false=>simp[execOp,ho,hi,hj,eqGuard,binOp,hrun']
  |_=>simp at he
 ·exact hw.elim
theorem A22 {d:Nat} {t e:TypeId} (hu:P.underlying t=some (.slice e)) (ad:Option Addr) (n cap nn cc:Nat) (w:World):
 (Op.equalIn (d+1) t (.slice ad n cap) (.slice none nn cc)).run P w= .ok ad.isNone w:=by
 cases ad<;>simp[Op.equalIn,run_underlying hu]
theorem A9k {t e:TypeId} (hu:P.underlying t=some (.slice e)) (ad:Option Addr) (n cap nn cc:Nat) (w:World):
 (Op.equal t (.slice ad n cap) (.slice none nn cc)).run P w= .ok ad.isNone w:=A22 (d:=9999) hu ad n cap nn cc w
def A07 (d:Option Nat) (neg:Bool) (x:Opd):M:=match x with
 | .t n=>.get n fun _ sv=>match sv with
   | .v (.list l)=>.all (fun b=>b=true→l=[]) fun b=>selI neg (.bool (!b)) (.bool b) fun r=>setD d (.v r) .done
   | .vec _ _ l=>.all (fun b=>b=true→l=[]) fun b=>selI neg (.bool (!b)) (.bool b) fun r=>setD d (.v r) .done
   | .bor s k v=>.get s fun cur sv'=>.need (v=cur) fun _=>match sv'.vecAt k with
     |some (_,_,l)=>.all (fun b=>b=true→l=[]) fun b=>selI neg (.bool (!b)) (.bool b) fun r=>setD d (.v r) .done
     |none=>.fail
   |_=>.fail
 |_=>.fail
def Aw0 (P:Program) (t:TypeId) (y:Operand):Bool:=(match P.underlying t with
 |some (.slice _)=>true
 |_=>false)&&(match y with
 | .const (.slice none _ _)=>true
 |_=>false)
theorem Au9 {o:Oper} {neg:Bool} {t u:TypeId} {x y:Operand} {x':Opd} (ho:o.op= .binOp (if neg then .neq else .eql) t x y u) (hx:Ax N x x'=true) (hy:Aw0 P t y=true):Sound P N o (A07 o.dst neg x'):=by
 intro G σ Fr w0 st a w Q next E hN hr hw hn hdst
 subst hN
 unfold Aw0 at hy
 simp only[Bool.and_eq_true]at hy
 obtain⟨hu,hy⟩:=hy
 split at hu
 ·rename_i e hu'
  split at hy
  ·rename_i nn cc
   have run:∀{ad:Option Addr} {n cap:Nat},a.eval x= .slice ad n cap→(execOp a.eval o).run P w= .ok (.value (.bool (if neg then !ad.isNone else ad.isNone))) w:=by
    intro ad n cap he
    have hq:=A9k hu' ad n cap nn cc w
    have hy':a.eval (.const (.slice none nn cc))= .slice none nn cc:=rfl
    cases neg<;>simp[execOp,ho,he,hy',eqGuard,binOp,hq]
   have fin:∀{ad:Option Addr} {cap:Nat} {l:List I},a.eval x= .slice ad l.length cap→(ad=none→l=[])→
    (M.all (fun b=>b=true→l=[]) fun b=>selI neg (.bool (!b)) (.bool b) fun r=>setD o.dst (.v r) .done).wp P Q st→o.wp P a w next E:=by
    intro ad cap l he hl hq
    have hq':=hq ad.isNone (fun h=>hl (by simpa using h))
    have hq':(setD o.dst (.v (.bool (if neg then !ad.isNone else ad.isNone))) .done).wp P Q st:=by cases neg<;>exact hq'
    exact C1 hr hn hdst (RepV.bool.2 rfl) hq' (run he)
   have vnil:∀{lab:Nat × Nat} {e:TypeId} {sz:Nat} {l:List I} {c:Value},VecAt G σ w lab e sz l c→∃ad cap,c= .slice ad l.length cap∧(ad=none→l=[]):=by
    intro lab e sz l c h
    obtain⟨xs,h1,_⟩:=h
    rcases h1.2 with⟨rfl,h0⟩|⟨g,cap,cur,rfl,_⟩
    ·exact⟨none,0,by rw[h0],fun _=>List.eq_nil_of_length_eq_zero h0⟩
    ·exact⟨_,cap,rfl,fun h=>by cases h⟩
   cases x' with
   |c _=>exact hw.elim
   |nils _ _=>exact hw.elim
   |t n=>
    obtain⟨rfl,hnlt⟩:=Dm hx
    simp only[A07,M.wp]at hw
    cases hs:st[n]? with
    |none=>simp[hs]at hw
    |some cur=>
     obtain⟨ver,sv⟩:=cur
     simp only[hs]at hw
     have hrep:=hr.slot hnlt hs
     split at hw
     ·rename_i l
      have hrep':RepV G (.list l) (a.eval (.tmp n)):=hrep
      obtain⟨ad,cap,hc,_,_,h4⟩:=RepV.list.1 hrep'
      refine fin hc (fun e=>?_) hw
      rcases h4 with h4|⟨b,off,bl,ty,fz,sz,h5,_⟩
      ·exact h4
      ·rw[e]at h5;cases h5
     ·obtain⟨ad,cap,hc,hl⟩:=vnil hrep
      exact fin hc hl hw
     ·rename_i s k v
      obtain⟨cur,g1,g2,g3⟩:=hrep
      simp only[M.wp,g1]at hw
      obtain⟨hv,hw⟩:=hw
      obtain⟨e,sz,l,g4,g5⟩:=g3 hv
      simp only[g4]at hw
      obtain⟨ad,cap,hc,hl⟩:=vnil g5
      exact fin hc hl hw
     ·exact hw.elim
  ·cases hy
 ·cases hu
theorem A8h {o:Oper} {t:TypeId} {x i:Operand} {x' i':Opd} (ho:o.op= .index t x i) (hx:Ax N x x'=true) (hi:Ax N i i'=true) (ht:P.underlying t=some .string):Sound P N o (Bcn o.dst x' i'):=by
 intro G σ Fr w0 st a w Q next E hN hr hw hn hdst
 subst hN
 obtain⟨u,h1,hu⟩:=De hr hx hw
 clear hw
 obtain⟨v,hw,hv⟩:=De hr hi h1
 clear h1
 split at hw
 ·rename_i s k n
  split at hw
  ·rename_i b hb
   obtain⟨h0,hw⟩:=hw
   rw[RepV.str]at hu
   rw[RepV.int]at hv
   have hlt:n.toNat<s.length:=(List.getElem?_eq_some_iff.1 hb).1
   have hget:(⟨⟨s⟩⟩:ByteArray)[n.toNat]?=some b:=by
    have hsz:n.toNat<(⟨⟨s⟩⟩:ByteArray).size:=hlt
    have:(⟨⟨s⟩⟩:ByteArray)[n.toNat]=b:=by
     have:=(List.getElem?_eq_some_iff.1 hb).2
     exact this
    rw[getElem?_pos (⟨⟨s⟩⟩:ByteArray) n.toNat hsz,this]
   refine C1 hr hn hdst (RepV.int.2 rfl) hw ?_
   simp[execOp,ho,hu.1,hv,Instr.index,asIntOf,run_underlying ht,h0,hget]
  ·exact hw.elim
 ·exact hw.elim
end
end Go.Ab
