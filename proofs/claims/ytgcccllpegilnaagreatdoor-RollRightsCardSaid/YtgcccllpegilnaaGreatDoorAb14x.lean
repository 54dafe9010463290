/- Lemmas -/
import Derived.Test.YtgcccllpegilnaaGreatDoorAb11
set_option linter.unusedVariables false
set_option linter.unusedSimpArgs false
namespace Go.Ab
def rdB(x:Option Ar)(Ax0:Int)(k:Int→M):M:=match x with
 |none=>k Ax0
 |some x=>Gx x fun i=>match i with
  | .int _ n=>k n
  |_=>.fail
def oOk(N:Nat):Option Operand→Option Ar→Bool
 |none,none=>true
 |some x,some y=>Ax N x y
 |_,_=>false
def Aoi(d:Option Nat)(str:Bool)(sz:Nat)(x:Ar)(lo hi:Option Ar):M:=match x with
 | .t n=>.get n fun ver sv=>match sv with
   | .v (.list l)=>rdB lo 0 fun i=>rdB hi l.length fun j=>.Ba (str=false∧0≤i∧i≤j∧j≤l.length∧∀u∈l,u.size=sz) fun _=>A9 d (.v (.list ((l.take j.toNat).drop i.toNat))) .done
   | .v (.str s)=>rdB lo 0 fun i=>rdB hi s.length fun j=>.Ba (str=true∧0≤i∧i≤j∧j≤s.length) fun _=>A9 d (.v (.str ((s.take j.toNat).drop i.toNat))) .done
   | .vec _ Bs l=>rdB lo 0 fun i=>rdB hi l.length fun j=>.Ba (str=false∧Bs=sz∧i=0∧0≤j∧j≤l.length∧d≠some n) fun _=>A9 d (.sub n 0 ver j.toNat) .done
   | .E0 s k v=>.get s fun cur C9=>.Ba (v=cur) fun _=>match C9.Cx k with
     |some (_,Bs,l)=>rdB lo 0 fun i=>rdB hi l.length fun j=>.Ba (str=false∧Bs=sz∧i=0∧0≤j∧j≤l.length∧d≠some s) fun _=>A9 d (.sub s k v j.toNat) .done
     |none=>.fail
   |_=>.fail
 |_=>.fail
def Bcn(d:Option Nat)(x i:Ar):M:=Gx x fun u=>Gx i fun n=>match u,n with
 | .str s,.int _ n=>match s[n.toNat]? with
   |some b=>.Ba (0≤n) fun _=>A9 d (.v (.int .u8 b.toNat)) .done
   |none=>.fail
 |_,_=>.fail
section
variable{P:Program}{N:Nat}{G:Mem}{σ:Lab}{Fr:Mem}{w0:Base}{w:World}{st:St}{a:Act}
theorem K6{x:Option Operand}{y:Option Ar}{Ax0:Int}{k:Int→M}{Q:St→Prop}(h:Rel G σ Fr w0 st a w)
 (ho:oOk w0.n x y=true) (hq:(rdB y Ax0 k).wp P Q st):
 ∃i,(k i).wp P Q st∧((x=none∧i=Ax0)∨∃x' kd,x=some x'∧a.eval x'= .int kd i):=by
 cases y with
 |none=>
  cases x with
  |none=>exact⟨Ax0,hq,.inl ⟨rfl,rfl⟩⟩
  |some x=>cases ho
 |some y=>
  cases x with
  |none=>cases ho
  |some x=>
   obtain⟨i,h1,h2⟩:=De h ho hq;cases i with
   |int kd n=>exact⟨n,h1,.inr ⟨x,kd,rfl,Aq.int.1 h2⟩⟩
   |_=>exact h1.elim
theorem F7{isSlice:Bool}{len cap:Nat}{lo hi:Option Operand}{i j:Int}(w:World)
 (hlo:(lo=none∧i=0)∨∃x kd,lo=some x∧a.eval x= .int kd i) (hhi:(hi=none∧j=len)∨∃x kd,hi=some x∧a.eval x= .int kd j)
 (h0:0≤i) (h1:i≤j) (h2:j≤len) (hc:len≤cap):(Instr.sliceBounds isSlice len cap (lo.map a.eval) (hi.map a.eval) none).run P w= .ok (i.toNat,j.toNat,cap) w:=by
 have b1:∀(kd:IntKind) (code:BoundsCode),(Instr.sliceBound (.int kd j) cap code).run P w= .ok j.toNat w:=fun kd code=>
  run_sliceBound (P:=P) (w:=w) kd j cap code (by omega) (by omega)
 have b2:∀(kd:IntKind) (code:BoundsCode),(Instr.sliceBound (.int kd i) j.toNat code).run P w= .ok i.toNat w:=fun kd code=>
  run_sliceBound (P:=P) (w:=w) kd i j.toNat code (by omega) (by omega)
 have b3:∀(kd:IntKind) (code:BoundsCode),j=len→(Instr.sliceBound (.int kd i) len code).run P w= .ok i.toNat w:=fun kd code e=>by
  have:=b2 kd code;rw[e]at this;simpa using this
 rcases hlo with⟨rfl,rfl⟩|⟨x,kd,rfl,hx⟩<;>rcases hhi with⟨rfl,rfl⟩|⟨y,kd',rfl,hy⟩
 ·simp[Instr.sliceBounds]
 ·simp[Instr.sliceBounds,hy,b1]
 ·simp[Instr.sliceBounds,hx,b3]
 ·simp[Instr.sliceBounds,hx,hy,b1,b2]
theorem A0.slice{G:Mem}{l:List I}{cs:List Value}{sz i j:Nat}(h:A0 G l cs)(Bk:∀x∈l,x.size=sz)(Gv:i≤j)(hj:j≤l.length):
 A0 G ((l.take j).drop i) ((cs.take (j*sz)).drop (i*sz)):=by
 have e1:l=(l.take j)++l.drop j:=(List.take_append_drop j l).symm;rw[e1]at h;obtain⟨c,d,rfl,h1,_⟩:=A0.split h;have Y4:c.length=j*sz:=by
  rw[A0.length _ _ h1,Dc (sz:=sz) fun x hx=>Bk x (List.mem_of_mem_take hx),List.length_take,Nat.min_eq_left hj]
 have e2:l.take j=(l.take j).take i++(l.take j).drop i:=(List.take_append_drop i _).symm;rw[e2]at h1;obtain⟨c1,c2,rfl,h3,h4⟩:=A0.split h1;have J5:c1.length=i*sz:=by
  rw[A0.length _ _ h3,Dc (sz:=sz) fun x hx=>Bk x (List.mem_of_mem_take (List.mem_of_mem_take hx)),List.length_take,List.length_take]
  rw[Nat.min_eq_left (by omega)]
 rw[←Y4,List.take_left, ←J5,List.drop_left];exact h4
theorem Aq.sliced{l:List I}{ad:Option Addr}{cap i j sz:Nat}(h:Aq G (.list l) (.slice ad l.length cap))(Gv:i≤j)(hj:j≤l.length)(Bk:l≠[]→∀x∈l,x.size=sz):
 Aq G (.list ((l.take j).drop i)) (.slice (if cap=i then ad else ad.map (·.add (i*sz))) (j - i) (cap - i)):=by
 obtain⟨a',Ta,he,h1,h2,h3⟩:=Aq.list.1 h;cases he;have hlen:((l.take j).drop i).length=j - i:=by simp[Nat.min_eq_left hj]
 refine Aq.list.2 ⟨_,_,by rw[hlen],by rw[hlen];omega,by omega,?_⟩
 rcases h3 with rfl|⟨b,off,bl,ty,fz,Bs,rfl,hg,hs,hle,hr⟩
 ·exact .inl (by simp)
 ·by_cases Bor:i=j
  ·subst Bor;exact .inl (List.eq_nil_of_length_eq_zero (by rw[hlen];omega))
  ·have Aw:l≠[]:=by rintro rfl;simp at hj;omega
   have Aza:Bs=sz:=by
    cases l with
    |nil=>exact absurd rfl Aw
    |cons x l=>rw[←hs x (by simp),Bk Aw x (by simp)]
   subst Aza;have hci:cap≠i:=by omega
   rw[if_neg hci];refine .inr ⟨b,off+i*Bs,bl,ty,fz,Bs,by simp[add_lit],hg,fun x hx=>hs x (List.mem_of_mem_take (List.mem_of_mem_drop hx)),?_,?_⟩
   ·rw[hlen,Nat.sub_mul];have h4:i*Bs≤j*Bs:=Nat.mul_le_mul_right _ Gv;have h5:j*Bs≤l.length*Bs:=Nat.mul_le_mul_right _ hj;omega
   ·have:=A0.slice hr hs Gv hj;rw[hlen];have h5:j*Bs≤l.length*Bs:=Nat.mul_le_mul_right _ hj;have e:(((bl.toList.drop off).take (l.length*Bs)).take (j*Bs)).drop (i*Bs)=(bl.toList.drop (off+i*Bs)).take ((j - i)*Bs):=by
     rw[List.take_take,Nat.min_eq_left h5,List.drop_take,List.drop_drop,Nat.sub_mul]
    rwa [e]at this
def Ame(P:Program)(t:TypeId)(str:Bool)(sz:Nat):Bool:=match P.underlying t with
 |some .string=>str
 |some (.slice e)=> !str&&match P.info? e with
  |some i=>i.size==sz
  |none=>false
 |_=>false
theorem extract_data(s:List UInt8)(i j:Nat):(⟨⟨s⟩⟩:ByteArray).extract i j=⟨⟨(s.take j).drop i⟩⟩:=by
 apply ByteArray.ext;apply Array.ext';simp[List.extract_eq_take_drop,List.drop_take]
theorem Cw.take{Bg:Nat × Nat}{e:TypeId}{sz:Nat}{l:List I}{ad:Option Addr}{n cap j:Nat}(h:Cw G σ w Bg e sz l (.slice ad n cap))(hj:j≤l.length):
 Cw G σ w Bg e sz (l.take j) (.slice ad j cap):=by
 obtain⟨xs,h1,h2,h3,h4⟩:=h;have hl:(l.take j).length=j:=by rw[List.length_take,Nat.min_eq_left hj]
 have e1:l=l.take j++l.drop j:=(List.take_append_drop j l).symm;rw[e1]at h2;obtain⟨c,d,rfl,h5,_⟩:=A0.split h2;have hc:c.length=j*sz:=by rw[A0.length _ _ h5,Dc (sz:=sz) fun x hx=>h3 x (List.mem_of_mem_take hx),hl]
 refine⟨c,⟨by rw[hl,hc],?_⟩,h5,fun x hx=>h3 x (List.mem_of_mem_take hx),fun b hb=>h4 b (by cases ad with|none=>simp[Value.ownBlock]at hb|some _=>simpa[Value.ownBlock]using hb)⟩
 rcases h1.2 with⟨e2,e3⟩|⟨g,Ta,cur,e2,k1,k2,k3,k4,k5,k6⟩
 ·cases e2;exact .inl ⟨by congr 1;omega,by rw[hl];omega⟩
 ·cases e2;refine .inr ⟨g,cap,cur,by rw[hl],k1,k2,by rw[hl];omega,k4,k5,?_⟩
  rw[hl, ←hc];have h7:(cur.toList.take (l.length*sz)).take c.length=c:=by rw[k6,List.take_left]
  rw[List.take_take,Nat.min_eq_left]at h7
  ·exact h7
  ·rw[hc];exact Nat.mul_le_mul_right _ hj
theorem A3s{o:Oper}{t:TypeId}{x:Operand}{lo hi:Option Operand}{x':Ar}{Ra Fh:Option Ar}{str:Bool}{sz:Nat}(ho:o.op= .slice t x lo hi none)(hx:Ax N x x'=true)
 (hlo:oOk N lo Ra=true) (hhi:oOk N hi Fh=true) (ht:Ame P t str sz=true):Sound P N o (Aoi o.dst str sz x' Ra Fh):=by
 intro G σ Fr w0 st a w Q next E hN hr hw hn Au
 subst hN;have Ei:str=false→∃e i,P.underlying t=some (.slice e)∧P.info? e=some i∧i.size=sz:=by
  rintro rfl;unfold Ame at ht;split at ht
  ·cases ht
  ·rename_i e h;split at ht
   ·rename_i i hi;exact⟨e,i,h,hi,by simpa using ht⟩
   ·cases ht
  ·cases ht
 have Fi:str=true→P.underlying t=some .string:=by
  rintro rfl;unfold Ame at ht;split at ht
  ·assumption
  ·simp at ht
  ·cases ht
 cases x' with
 |c _=>exact hw.elim
 |Cd _ _=>exact hw.elim
 |t n=>
  obtain⟨rfl,Cm⟩:=Dm hx;simp only[Aoi,M.wp]at hw;cases hs:st[n]? with
  |none=>simp[hs]at hw
  |some cur=>
   obtain⟨ver,sv⟩:=cur;simp only[hs]at hw;have Ay:=hr.slot Cm hs;split at hw
   ·rename_i l;obtain⟨i,h1,hi1⟩:=K6 hr hlo hw;obtain⟨j,h2,Y3⟩:=K6 hr hhi h1;obtain⟨⟨k1,k2,k3,k4,k5⟩,h3⟩:=h2;obtain⟨e,i0,hu,Mv,Bk⟩:=Ei k1;have Dn:Aq G (.list l) (a.eval (.tmp n)):=Ay;obtain⟨ad,cap,hc,K9,_⟩:=Aq.list.1 Dn;have hb:=F7 (P:=P) (isSlice:=true) (len:=l.length) (cap:=cap) w hi1 Y3 k2 k3 k4 K9;rw[hc]at Dn;have hv:=Aq.sliced (i:=i.toNat) (j:=j.toNat) (sz:=sz) Dn (by omega) (by omega) fun _=>k5
    refine C1 hr hn Au hv h3 ?_;simp[execOp,ho,Instr.sliceAt,Instr.slice,run_underlying hu,hc,hb,sizeOf,typeInfo,Mv,Bk]
   ·rename_i s;obtain⟨i,h1,hi1⟩:=K6 hr hlo hw;obtain⟨j,h2,Y3⟩:=K6 hr hhi h1;obtain⟨⟨k1,k2,k3,k4⟩,h3⟩:=h2;have hu:=Fi k1;have Dn:Aq G (.str s) (a.eval (.tmp n)):=Ay;obtain⟨hc,Gb⟩:=Aq.str.1 Dn;have hb:=F7 (P:=P) (isSlice:=false) (len:=s.length) (cap:=s.length) w hi1 Y3 k2 k3 k4 (Nat.le_refl _);refine C1 hr hn Au (v:=.string ⟨⟨(s.take j.toNat).drop i.toNat⟩⟩) (Aq.str.2 ⟨rfl,by simp;omega⟩) h3 ?_
    have A60:(⟨⟨s⟩⟩:ByteArray).size=s.length:=rfl;simp[execOp,ho,Instr.sliceAt,Instr.slice,run_underlying hu,hc,A60,hb,extract_data]
   ·rename_i e' Bs l;obtain⟨i,h1,hi1⟩:=K6 hr hlo hw;obtain⟨j,h2,Y3⟩:=K6 hr hhi h1;obtain⟨⟨k1,rfl,rfl,k3,k4,Aw⟩,h3⟩:=h2;obtain⟨e,i0,hu,Mv,Bk⟩:=Ei k1;have Dn:Cw G σ w (n,0) e' Bs l (a.eval (.tmp n)):=Ay;obtain⟨ad,cap,hc,_⟩:=Dn.len;have K9:l.length≤cap:=by
     obtain⟨xs,q1,_⟩:=Dn;rcases q1.2 with⟨q2,q3⟩|⟨g,Ta,cur,q2,_,_,q3,_⟩
     ·omega
     ·rw[hc]at q2;cases q2;exact q3
    have hb:=F7 (P:=P) (isSlice:=true) (len:=l.length) (cap:=cap) w hi1 Y3 (Int.le_refl 0) k3 k4 K9;rw[hc]at Dn;have hv:=Dn.take (j:=j.toNat) (by omega)
    obtain⟨σ',Af,r1,r2⟩:=hr.A9 Au (sv:=.sub n 0 ver j.toNat) (c:=.slice ad j.toNat cap) (fun d' hd Bo _=>by
     refine⟨_,by rw[List.getElem?_set_ne (by rintro rfl;exact Aw hd)];exact hs,Nat.le_refl _,fun _=>⟨e',Bs,l,rfl,?_⟩⟩
     exact hv.tr (Mem.le.refl G) fun b hb=>⟨Lab.C0.2 ⟨by rintro rfl;exact Aw hd,hb⟩,rfl⟩) h3
    refine Bv (w':=w) ?_ (hn G σ' Af _ w (Mem.le.refl G) r1 r2);have had:Option.map (fun x:Addr=>x.add 0) ad=ad:=by cases ad<;>simp[Addr.add]
    simp[execOp,ho,Instr.sliceAt,Instr.slice,run_underlying hu,hc,hb,sizeOf,typeInfo,Mv,Bk,had]
   ·rename_i s k v;obtain⟨cur,g1,g2,g3⟩:=Ay;simp only[M.wp,g1]at hw;obtain⟨hv,hw⟩:=hw;obtain⟨e',Bs,l,g4,g5⟩:=g3 hv;simp only[g4]at hw;obtain⟨i,h1,hi1⟩:=K6 hr hlo hw;obtain⟨j,h2,Y3⟩:=K6 hr hhi h1;obtain⟨⟨k1,rfl,rfl,k3,k4,Aw⟩,h3⟩:=h2;obtain⟨e,i0,hu,Mv,Bk⟩:=Ei k1;obtain⟨ad,cap,hc,_⟩:=g5.len;have K9:l.length≤cap:=by
     obtain⟨xs,q1,_⟩:=g5;rcases q1.2 with⟨q2,q3⟩|⟨g,Ta,cur,q2,_,_,q3,_⟩
     ·omega
     ·rw[hc]at q2;cases q2;exact q3
    have hb:=F7 (P:=P) (isSlice:=true) (len:=l.length) (cap:=cap) w hi1 Y3 (Int.le_refl 0) k3 k4 K9;rw[hc]at g5;have hvv:=g5.take (j:=j.toNat) (by omega)
    obtain⟨σ',Af,r1,r2⟩:=hr.A9 Au (sv:=.sub s k v j.toNat) (c:=.slice ad j.toNat cap) (fun d' hd Bo _=>by
     refine⟨cur,by rw[List.getElem?_set_ne (by rintro rfl;exact Aw hd)];exact g1,g2,fun _=>⟨e',Bs,l,g4,?_⟩⟩
     exact hvv.tr (Mem.le.refl G) fun b hb=>⟨Lab.C0.2 ⟨by rintro rfl;exact Aw hd,hb⟩,rfl⟩) h3
    refine Bv (w':=w) ?_ (hn G σ' Af _ w (Mem.le.refl G) r1 r2);have had:Option.map (fun x:Addr=>x.add 0) ad=ad:=by cases ad<;>simp[Addr.add]
    simp[execOp,ho,Instr.sliceAt,Instr.slice,run_underlying hu,hc,hb,sizeOf,typeInfo,Mv,Bk,had]
   ·exact hw.elim
end

def Wb:List (Nat × Ar)→List I→(List I→M)→M
 | [],zs,k=>k zs
 |(i,x)::ps,zs,k=>Kc x fun u=>match zs[i]? with
  |some z=>.Ba (u.size=z.size) fun _=>Wb ps (zs.set i u) k
  |none=>.fail
def Gp(N:Nat):List (Nat × Operand)→List (Nat × Ar)→Bool
 | [],[]=>true
 |(i,x)::l,(j,y)::m=>i==j&&Ax N x y&&Gp N l m
 |_,_=>false
section
variable{P:Program}{N:Nat}{G:Mem}{σ:Lab}{Fr:Mem}{w0:Base}{w:World}{st:St}{a:Act}
theorem Aty:∀(vs pre old post:List Value) (n:Nat) (cells:Array Value),cells.toList=pre++old++post→old.length=vs.length→
 ((vs.zipIdx n).foldl (fun(cs:Array Value) (p:Value × Nat)=>cs.setIfInBounds (pre.length - n+p.2) p.1) cells).toList=pre++vs++post∨pre.length<n
 | [],pre,old,post,n,cells,h,hl=>by
   left;have:old=[]:=List.eq_nil_of_length_eq_zero hl;subst this;simpa using h
 |v::vs,pre,old,post,n,cells,h,hl=>by
  by_cases hn:pre.length<n
  ·exact .inr hn
  ·left;cases old with
   |nil=>simp at hl
   |cons o old=>
    have h1:(cells.setIfInBounds (pre.length - n+n) v).toList=(pre++[v])++old++post:=by
     rw[Array.toList_setIfInBounds,h,Nat.sub_add_cancel (by omega)]
     simp
    have:=Aty vs (pre++[v]) old post (n+1) _ h1 (by simpa using hl)
    rcases this with h2|h2
    ·have e:(pre++[v]).length - (n+1)=pre.length - n:=by simp
     rw[e]at h2;simp only[List.zipIdx_cons,List.foldl_cons];simpa using h2
    ·simp at h2;omega
theorem Ax4{cells:Array Value}{v:Value}{pre old post:List Value}{off:Nat}(h:cells.toList=pre++old++post)(hp:pre.length=off)(ho:old.length=v.cells.size):
 (v.cells.zipIdx.foldl (fun(cs:Array Value) (p:Value × Nat)=>cs.setIfInBounds (off+p.2) p.1) cells).toList=pre++v.cells.toList++post:=by
 have:=Aty v.cells.toList pre old post 0 cells h (by rw[ho];simp)
 rcases this with h1|h1
 ·rw[←Array.foldl_toList,Array.toList_zipIdx];rw[Nat.sub_zero,hp]at h1;exact h1
 ·omega
theorem Xe{place:Nat→Option (Nat × Nat)}{Q:St→Prop}:∀{ps:List (Nat × Operand)} {Kg:List (Nat × Ar)} {zs:List I} {cells:Array Value} {k:List I→M} {G:Mem} {σ:Lab} {st:St},
 Rel G σ Fr w0 st a w→Gp w0.n ps Kg=true→(Wb Kg zs k).wp P Q st→A0 G zs cells.toList→
 (∀i z,zs[i]?=some z→place i=some (Ck (zs.take i),z.size))→
 ∃zs' K8 G' σ' Af,G.le G'∧Rel G' σ' Fr w0 Af a w∧(k zs').wp P Q Af∧A0 G' zs' K8.toList∧Instr.fill place cells (ps.map fun p=>(p.1,a.eval p.2))=some K8
 | [],[],zs,cells,k,G,σ,st,hr,_,hq,hz,_=>⟨zs,cells,G,σ,st,Mem.le.refl G,hr,hq,hz,rfl⟩
 |(i,x)::ps,(j,y)::Kg,zs,cells,k,G,σ,st,hr,ho,hq,hz,Hz=>by
  simp only[Gp,Bool.and_eq_true,beq_iff_eq]at ho;obtain⟨⟨rfl,ho⟩,hos⟩:=ho;obtain⟨u,G',σ',Af,hG,Ci,h1,hv⟩:=Km hr ho hq;cases hzi:zs[i]? with
  |none=>simp only[hzi]at h1;exact h1.elim
  |some z=>
   simp only[hzi]at h1;obtain⟨Bk,h1⟩:=h1;obtain⟨c1,c,c2,e1,e2,e3,Cs⟩:=A0.nth i (A0.mono hG _ _ hz) hzi;have hvc:=hv.cells;have C4:c.length=(a.eval x).cells.size:=by
    rw[A1.length _ _ e3, ←Bk, ←A1.length _ _ hvc];simp
   have A6v:=Ax4 (v:=a.eval x) (off:=Ck (zs.take i)) e1 e2 C4;have Ps:=Hz i z hzi;obtain⟨zs',K8,Q7,H4,Gt,hG',Ay2,h2,h3,h4⟩:=Xe (place:=place) Ci hos h1 (cells:=(a.eval x).cells.zipIdx.foldl (fun(cs:Array Value) (p:Value × Nat)=>cs.setIfInBounds (Ck (zs.take i)+p.2) p.1) cells)
    (by rw[A6v];exact Cs u _ hvc) (by
      intro i' z' Gw;have hi:i<zs.length:=(List.getElem?_eq_some_iff.1 hzi).1;by_cases hii:i'=i
      ·subst hii;rw[List.getElem?_set_self hi]at Gw;cases Gw;rw[Ps,Bk,List.take_set_of_le (Nat.le_refl _)]
      ·rw[List.getElem?_set_ne (Ne.symm hii)]at Gw;rw[Hz i' z' Gw]
       congr 2
       rw[List.take_set];by_cases Bb:i<i'
       ·have:(zs.take i')[i]?=some z:=by rw[List.getElem?_take,if_pos Bb];exact hzi
        exact(Au4 this Bk).symm
       ·rw[List.set_eq_of_length_le (by rw[List.length_take];omega)])
   refine⟨zs',K8,Q7,H4,Gt,hG.trans hG',Ay2,h2,h3,?_⟩;simp only[List.map_cons,Instr.fill,Ps];have Bd6:(a.eval x).cells.size=z.size:=by rw[←C4,A1.length _ _ e3]
   have hle:¬(Ck (zs.take i)+(a.eval x).cells.size>cells.size):=by
    have:cells.size=cells.toList.length:=by simp
    rw[this,e1, ←e2, ←C4];simp
   rw[if_neg (by simp[Bd6]at hle ⊢;omega)]
   exact h4
 | [],_::_,_,_,_,_,_,_,_,ho,_,_,_=>by cases ho
 |_::_,[],_,_,_,_,_,_,_,ho,_,_,_=>by simp[Gp]at ho
def A0w(d:Option Nat)(zs:List I)(ps:List (Nat × Ar)):M:=Wb ps zs fun l=>A9 d (.v (.agg l)) .done
def Ar4(P:Program)(t:TypeId)(zs:List I):Bool:=match P.underlying t,P.info? t with
 |some (.struct fs),some i=>(match i.zero with
  |some z=>match zIs zs z.cells.toList with
   |some []=>true
   |_=>false
  |none=>false)&&
  fs.size==zs.length&&(List.range zs.length).all fun j=>match fs[j]?,zs[j]? with
   |some f,some z=>f.offset==Ck (zs.take j)&&match P.info? f.type with
    |some i=>i.size==z.size
    |none=>false
   |_,_=>false
 |_,_=>false
theorem Am2{fs:List Field}{sz:Field→Nat}(h:∀f∈fs,(sizeOf f.type).run P w= .ok (sz f) w):
 (fs.mapM fun f=>(do pure (f.offset, ←sizeOf f.type):Sem (Nat × Nat))).run P w= .ok (fs.map fun f=>(f.offset,sz f)) w:=by
 induction fs with
 |nil=>simp
 |cons f fs ih=>
  have h1:=h f (by simp)
  have h2:=ih fun g hg=>h g (by simp[hg])
  simp only[List.mapM_cons,Sem.run_bind,h1,Result.andThen,Sem.run_pure,h2,List.map_cons]
theorem A3h{o:Oper}{t:TypeId}{ps:Array (Nat × Operand)}{zs:List I}{Kg:List (Nat × Ar)}(ho:o.op= .build t ps)(hp:Gp N ps.toList Kg=true)(ht:Ar4 P t zs=true):
 Sound P N o (A0w o.dst zs Kg):=by
 intro G σ Fr w0 st a w Q next E hN hr hw hn Au
 subst hN;unfold Ar4 at ht;split at ht
 ·rename_i fs i hu hi;simp only[Bool.and_eq_true,beq_iff_eq]at ht;obtain⟨⟨hz,hlen⟩,G8⟩:=ht;cases V3:i.zero with
  |none=>simp[V3]at hz
  |some z=>
   simp only[V3]at hz;have Gw:∃c,z.cells.toList=c++[]∧A0 G zs c:=by
    split at hz
    ·rename_i h;exact Z4 G zs _ _ h
    ·cases hz
   obtain⟨c,hc,Gw⟩:=Gw;rw[List.append_nil]at hc;subst hc;have Ajg:∀j f zz,fs[j]?=some f→zs[j]?=some zz→f.offset=Ck (zs.take j)∧(sizeOf f.type).run P w= .ok zz.size w:=by
    intro j f zz hf Sv;have hj:j<zs.length:=(List.getElem?_eq_some_iff.1 Sv).1;have:=List.all_eq_true.1 G8 j (List.mem_range.2 hj);simp only[hf,Sv,Bool.and_eq_true,beq_iff_eq]at this;obtain⟨h1,h2⟩:=this;refine⟨h1,?_⟩;cases Vz:P.info? f.type with
    |none=>simp[Vz]at h2
    |some jn=>
     simp only[Vz,beq_iff_eq]at h2;simp[sizeOf,typeInfo,Vz,h2]
   let szf:Field→Nat:=fun f=>((P.info? f.type).map (·.size)).getD 0
   have Ay9:∀f∈fs.toList,(sizeOf f.type).run P w= .ok (szf f) w:=by
    intro f hf;obtain⟨j,hj⟩:=List.mem_iff_getElem?.1 hf;have Kt:j<zs.length:=by
     have:=(List.getElem?_eq_some_iff.1 hj).1;simp at this;omega
    have h2:=(Ajg j f zs[j] (by simpa using hj) (List.getElem?_eq_getElem Kt)).2
    cases Vz:P.info? f.type with
    |none=>simp[sizeOf,typeInfo,Vz]at h2
    |some jn=>simp[sizeOf,typeInfo,Vz,szf]
   have Ase:∀j zz,zs[j]?=some zz→(fs.toList.map fun f=>(f.offset,szf f)).toArray[j]?=some (Ck (zs.take j),zz.size):=by
    intro j zz Sv;have hj:j<zs.length:=(List.getElem?_eq_some_iff.1 Sv).1;have hjf:fs[j]?=some (fs[j]'(by omega)):=Array.getElem?_eq_getElem (by omega)
    obtain⟨h1,h2⟩:=Ajg j _ zz hjf Sv;have h3:=Ay9 _ (by simp:fs[j]'(by omega)∈fs.toList)
    rw[h2]at h3;have h4:zz.size=szf (fs[j]'(by omega)):=by injection h3
    simp[hjf,h1,h4]
   obtain⟨zs',K8,G',σ',Af,hG,Ci,h2,h3,h4⟩:=Xe (place:=fun j=>(fs.toList.map fun f=>(f.offset,szf f)).toArray[j]?) hr hp hw Gw Ase
   have hv:Aq G' (.agg zs') (.agg K8):=by
    unfold Aq;rw[if_pos (show(I.agg zs').isAgg=true from rfl)];exact⟨K8,rfl,h3⟩
   refine C1 Ci (fun Q7 H4 Gt a' w' Ayj=>hn Q7 H4 Gt a' w' (hG.trans Ayj)) Au hv h2 ?_
   have hm:=Am2 (P:=P) (w:=w) Ay9;have Tk:(ps.map fun(p:Nat × Operand)=>(p.1,a.eval p.2)).toList=ps.toList.map fun p=>(p.1,a.eval p.2):=by simp
   have hm':(fs.mapM fun f=>(do pure (f.offset, ←sizeOf f.type):Sem (Nat × Nat))).run P w= .ok (fs.toList.map fun f=>(f.offset,szf f)).toArray w:=by
    rw[Array.mapM_eq_mapM_toList,Sem.run_map,hm];rfl
   have hzero:(zeroValue t).run P w= .ok z w:=by simp[zeroValue,typeInfo,hi,V3]
   simp only[execOp,ho,Instr.build,Sem.run_bind,hzero,Result.andThen,run_underlying hu,hm',Tk,h4,Sem.run_pure]
 ·cases ht
end

def Auy(d:Nat)(e:TypeId)(sz:Nat)(z:I)(n:Nat)(ps:List (Nat × Ar)):M:=Wb ps (List.replicate n z) fun l=>.Ba (l.length=n∧∀u∈l,u.size=sz) fun _=>C2 d (.vec e sz l)
def Uq(P:Program)(t e:TypeId)(sz:Nat)(z:I)(n:Nat):Bool:=match P.underlying t with
 |some (.slice e')=>e'==e&&n≤4096&&n != 0&&match P.info? e with
  |some i=>i.size==sz&&sz != 0&&sz≤4096&&z.size==sz&&match i.zero with
   |some v=>v.cells.size==sz&&match zI z v.cells.toList with
    |some []=>true
    |_=>false
   |none=>false
  |none=>false
 |_=>false
def Akc(d:Nat)(x:Ar)(i:Nat):M:=match x with
 | .t n=>.get n fun ver sv=>match sv with
   | .Dv fs=>match fs[i]? with
     |some (.i y)=>C2 d (.v y)
     |some (.vec e sz l)=>.Ba (n≠d) fun _=>.set n (ver+1) (.Dv (fs.set i (.i .Nz))) (C2 d (.vec e sz l))
     |none=>.fail
   |_=>.fail
 |_=>.fail
def Bbo(d:Option Nat)(agg:Bool)(sz:Nat)(x:Ar)(i off:Nat):M:=Gx x fun u=>match u with
 | .agg l=>match l[i]? with
   |some y=>.Ba (Ck (l.take i)=off∧y.isAgg=agg∧y.size=sz) fun _=>A9 d (.v y) .done
   |none=>.fail
 |_=>.fail
def Bge(d:Option Nat)(max:Bool)(x y:Ar):M:=Gx x fun u=>Gx y fun v=>match u,v with
 | .int k a,.int k' b=>.Ba (k=k') fun _=>As5 max (.int k (Max.max a b)) (.int k (Min.min a b)) fun r=>A9 d (.v r) .done
 | .str a,.str b=>.Ba (max=true) fun _=>.ite (!Op.bytesLess a b) (A9 d (.v (.str a)) .done) (A9 d (.v (.str b)) .done)
 |_,_=>.fail
section
variable{P:Program}{N:Nat}{G:Mem}{σ:Lab}{Fr:Mem}{w0:Base}{w:World}{st:St}{a:Act}
theorem A1n{o:Oper}{max:Bool}{x y:Operand}{x' y':Ar}{t:Array TypeId}(ho:o.op= .call {callee:=.builtin (if max then .max else .min),args:= #[x,y],argTypes:=t})(hx:Ax N x x'=true)(hy:Ax N y y'=true):
 Sound P N o (Bge o.dst max x' y'):=by
 intro G σ Fr w0 st a w Q next E hN hr hw hn Au
 subst hN;obtain⟨i,h1,hi⟩:=De hr hx hw;clear hw;obtain⟨j,hw,hj⟩:=De hr hy h1;clear h1;split at hw
 ·rename_i k m k' n;obtain⟨rfl,h1⟩:=hw;rw[Aq.int]at hi hj;have h1:(A9 o.dst (.v (.int k (if max then Max.max m n else Min.min m n))) .done).wp P Q st:=by cases max<;>exact h1
  refine C1 hr hn Au (Aq.int.2 rfl) h1 ?_;cases max with
  |true=>
   have e:(if n>m then n else m)=Max.max m n:=by
    rw[Int.max_def];split<;>split<;>omega
   simp[execOp,ho,resolve,invoke,builtin,Builtin.max_,Builtin.max2,hi,hj,e]
  |false=>
   have e:(if n<m then n else m)=Min.min m n:=by
    rw[Int.min_def];split<;>split<;>omega
   simp[execOp,ho,resolve,invoke,builtin,Builtin.min_,Builtin.min2,hi,hj,e]
 ·rename_i s t;obtain⟨rfl,h1,h2⟩:=hw;obtain⟨hi,J4⟩:=Aq.str.1 hi;obtain⟨hj,hjl⟩:=Aq.str.1 hj;cases hc: !Op.bytesLess s t with
  |true=>
   refine C1 hr hn Au (Aq.str.2 ⟨rfl,J4⟩) (h1 hc) ?_;simp[execOp,ho,resolve,invoke,builtin,Builtin.max_,Builtin.max2,hi,hj,Op.stringOp,hc,asBool]
  |false=>
   refine C1 hr hn Au (Aq.str.2 ⟨rfl,hjl⟩) (h2 hc) ?_;simp[execOp,ho,resolve,invoke,builtin,Builtin.max_,Builtin.max2,hi,hj,Op.stringOp,hc,asBool]
 ·exact hw.elim
def Apg(P:Program)(t:TypeId)(i off:Nat)(agg:Bool)(sz:Nat):Bool:=match P.underlying t with
 |some (.struct fs)=>match fs[i]? with
  |some f=>f.offset==off&&Hd P f.type agg sz
  |none=>false
 |_=>false
theorem Bb3{o:Oper}{t:TypeId}{x:Operand}{x':Ar}{i off sz:Nat}{agg:Bool}(ho:o.op= .field t x i)(hx:Ax N x x'=true)(ht:Apg P t i off agg sz=true):
 Sound P N o (Bbo o.dst agg sz x' i off):=by
 intro G σ Fr w0 st a w Q next E hN hr hw hn Au
 subst hN;obtain⟨u,h1,hu⟩:=De hr hx hw;clear hw;split at h1
 ·rename_i l;split at h1
  ·rename_i y hy;obtain⟨⟨rfl,rfl,rfl⟩,h1⟩:=h1;unfold Aq at hu;rw[if_pos (show(I.agg l).isAgg=true from rfl)]at hu;obtain⟨arr,hc,hu⟩:=hu;obtain⟨c1,c,c2,e1,e2,e3,_⟩:=A0.nth i hu hy;have hl:=A1.length _ _ e3;unfold Apg at ht;split at ht
   ·rename_i fs hus;split at ht
    ·rename_i f hf;simp only[Bool.and_eq_true,beq_iff_eq]at ht;obtain⟨Pq,ht⟩:=ht;obtain⟨g1,g2⟩:=P0 ht w;have Uy:∃v,(part f.type arr f.offset).run P w= .ok v w∧Aq G y v:=by
      rw[Pq];cases Te:y.isAgg with
      |true=>
       rw[Te]at g1;refine⟨.agg (arr.extract (Ck (l.take i)) (Ck (l.take i)+y.size)),by simp[part,g1,g2],?_⟩
       unfold Aq;rw[if_pos Te];refine⟨_,rfl,?_⟩;have:(arr.extract (Ck (l.take i)) (Ck (l.take i)+y.size)).toList=c:=by
        rw[Array.toList_extract,e1,List.extract_eq_take_drop, ←e2, ←hl,Nat.add_sub_cancel_left,List.append_assoc,List.drop_left,List.take_left]
       rw[this];exact e3
      |false=>
       rw[Te]at g1;have Sd:y.size=1:=by cases y<;>simp_all [I.isAgg,I.size]
       rw[Sd]at hl
       match c,hl with
       | [v],_=>
         have hv:arr[Ck (l.take i)]?=some v:=by
          have:arr[Ck (l.take i)]?=arr.toList[Ck (l.take i)]?:=by simp
          rw[this,e1, ←e2];simp
         refine⟨v,by simp[part,g1,hv],?_⟩
         unfold Aq;rw[if_neg (by simp[Te])]
         exact e3
     obtain⟨v,B0,hv⟩:=Uy;exact C1 hr hn Au hv h1 (by simp[execOp,ho,hc,Instr.field,run_underlying hus,hf,asAgg,B0])
    ·cases ht
   ·cases ht
  ·exact h1.elim
 ·exact h1.elim
theorem C7.nth{s:Nat}:∀{fs:List F} {j i:Nat} {cs:List Value} {f:F},C7 G σ w s j fs cs→fs[i]?=some f→
 ∃c,cs[i]?=some c∧(match f with| .i x=>Aq G x c| .vec e sz l=>Cw G σ w (s,j+i+1) e sz l c)
 | [],_,i,_,_,_,h=>by simp at h
 | .i x::fs,j,0,cs,f,h,hi=>by
   simp only[List.getElem?_cons_zero,Option.some.injEq]at hi;subst hi;obtain⟨c,d,rfl,h1,_⟩:=h;exact⟨c,rfl,h1⟩
 | .vec e sz l::fs,j,0,cs,f,h,hi=>by
   simp only[List.getElem?_cons_zero,Option.some.injEq]at hi;subst hi;obtain⟨c,d,rfl,h1,_⟩:=h;exact⟨c,rfl,h1⟩
 | .i x::fs,j,i+1,cs,f,h,hi=>by
   simp only[List.getElem?_cons_succ]at hi;obtain⟨c,d,rfl,_,h2⟩:=h;obtain⟨c',h3,h4⟩:=C7.nth h2 hi;refine⟨c',by simpa using h3,?_⟩
   rwa [show j+(i+1)+1=j+1+i+1 by omega]
 | .vec _ _ _::fs,j,i+1,cs,f,h,hi=>by
   simp only[List.getElem?_cons_succ]at hi;obtain⟨c,d,rfl,_,h2⟩:=h;obtain⟨c',h3,h4⟩:=C7.nth h2 hi;refine⟨c',by simpa using h3,?_⟩
   rwa [show j+(i+1)+1=j+1+i+1 by omega]
theorem C7.Lj{s:Nat}:∀{fs:List F} {j i:Nat} {cs:List Value} {e:TypeId} {sz:Nat} {l:List I},C7 G σ w s j fs cs→fs[i]?=some (.vec e sz l)→
 C7 G (σ.Lj (s,j+i+1)) w s j (fs.set i (.i .Nz)) cs
 | [],_,i,_,_,_,_,_,h=>by simp at h
 | .i x::fs,j,0,cs,e,sz,l,h,hi=>by simp at hi
 | .vec e' Bs l'::fs,j,0,cs,e,sz,l,h,hi=>by
   obtain⟨c,d,rfl,h1,h2⟩:=h;simp only[List.set_cons_zero];refine⟨c,d,rfl,?_,C7.tr (Mem.le.refl G) h2 fun b k hj hb=>⟨Lab.D3.2 ⟨by simp;omega,hb⟩,rfl⟩⟩
   unfold Aq;rw[if_neg (by simp[I.isAgg])]
   exact⟨c,rfl,h1.one⟩
 | .i x::fs,j,i+1,cs,e,sz,l,h,hi=>by
   simp only[List.getElem?_cons_succ]at hi;obtain⟨c,d,rfl,h1,h2⟩:=h;simp only[List.set_cons_succ];rw[show j+(i+1)+1=j+1+i+1 by omega]
   exact⟨c,d,rfl,h1,C7.Lj h2 hi⟩
 | .vec _ _ _::fs,j,i+1,cs,e,sz,l,h,hi=>by
   simp only[List.getElem?_cons_succ]at hi;obtain⟨c,d,rfl,h1,h2⟩:=h;simp only[List.set_cons_succ];rw[show j+(i+1)+1=j+1+i+1 by omega]
   exact⟨c,d,rfl,h1.tr (Mem.le.refl G) fun b hb=>⟨Lab.D3.2 ⟨by simp;omega,hb⟩,rfl⟩,C7.Lj h2 hi⟩
theorem Bb2{o:Oper}{d i:Nat}{x:Operand}{x':Ar}(hd:o.dst=some d)(ho:o.op= .extract x i)(hx:Ax N x x'=true):Sound P N o (Akc d x' i):=by
 intro G σ Fr w0 st a w Q next E hN hr hw hn Au
 subst hN;cases x' with
 |c _=>exact hw.elim
 |Cd _ _=>exact hw.elim
 |t n=>
  obtain⟨rfl,Cm⟩:=Dm hx;simp only[Akc,M.wp]at hw;cases hs:st[n]? with
  |none=>simp[hs]at hw
  |some cur=>
   obtain⟨ver,sv⟩:=cur;simp only[hs]at hw;have Ay:=hr.slot Cm hs;split at hw
   ·rename_i fs;obtain⟨arr,hc,Ay⟩:=Ay;have run:∀{c:Value},arr.toList[i]?=some c→(execOp a.eval o).run P w= .ok (.value c) w:=by
     intro c hci;have:arr[i]?=some c:=by simpa using hci
     simp[execOp,ho,hc,Instr.extract,this]
    split at hw
    ·rename_i y hy;obtain⟨c,h1,h2⟩:=C7.nth Ay hy;obtain⟨σ',Af,r1,r2⟩:=hr.Ab3 (Au d hd) h2 hw;exact Bv (run h1) (by rw[hd];exact hn G σ' Af _ w (Mem.le.refl G) r1 r2)
    ·rename_i e sz l hy;obtain⟨Aw,hw⟩:=hw;obtain⟨c,h1,h2⟩:=C7.nth Ay hy;rw[Nat.zero_add]at h2;have F2:=Rel.self (new:=.Dv (fs.set i (.i .Nz))) (ver:=ver+1) hr (hr.Bm.Lj (n,i+1)) (Mem.le.refl G) hs (Nat.lt_succ_self _)
      (fun s' D0 b k' hb=>⟨Lab.D3.2 ⟨fun e=>D0 (by cases e;rfl),hb⟩,rfl⟩) (by
        refine⟨arr,?_,?_⟩
        ·rw[←hc,Ez (by rw[hr.n];exact Cm)]
        ·have:=C7.Lj Ay hy;rwa [Nat.zero_add]at this)
     have Fw:=Cw.free h2 hr.Bm (σ':=σ.Lj (n,i+1)) fun b hb=>by simp[Lab.Lj,hb]
     obtain⟨σ',Af,r1,r2⟩:=F2.U9 (Au d hd) (row:=none) ⟨rfl,rfl,rfl,Nat.le_refl _,fun _ _ _=>rfl⟩ (fun b hb=>by cases hb) Fw hw
     exact Bv (run h1) (by rw[hd];exact hn G σ' Af _ w (Mem.le.refl G) r1 r2)
    ·exact hw.elim
   ·exact hw.elim
theorem M1{z:I}{c:List Value}(h:A1 G z c):∀n,A0 G (List.replicate n z) (List.replicate n c).flatten
 |0=>rfl
 |n+1=>⟨c,_,by simp[List.replicate_succ],h,M1 h n⟩
theorem X6{z:Array Value}{sz:Nat}(hz:z.size=sz)(n:Nat):((Array.range (n*sz)).map (fun j=>z[j % z.size]!)).toList=(List.replicate n z.toList).flatten:=by
 induction n with
 |zero=>simp
 |succ n ih=>
  rw[List.replicate_succ',List.flatten_append, ←ih,Nat.add_mul,Nat.one_mul];simp only[Array.toList_map,Array.toList_range,List.range_add,List.map_append,List.map_map]
  congr 1
  apply List.ext_getElem
  ·simp[hz]
  ·intro j h1 h2;simp at h1;simp[hz,Nat.mul_add_mod_of_lt h1,h1]
theorem A1g{o:Oper}{d:Nat}{t e:TypeId}{sz n:Nat}{z:I}{ps:Array (Nat × Operand)}{Kg:List (Nat × Ar)}(hd:o.dst=some d)(ho:o.op= .buildSlice t n ps)(hp:Gp N ps.toList Kg=true)(ht:Uq P t e sz z n=true):
 Sound P N o (Auy d e sz z n Kg):=by
 intro G σ Fr w0 st a w Q next E hN hr hw hn Au
 subst hN;unfold Uq at ht;split at ht
 ·rename_i e' hu;simp only[Bool.and_eq_true,beq_iff_eq,bne_iff_ne,ne_eq,decide_eq_true_eq]at ht;obtain⟨⟨⟨rfl,hn4⟩,hn0⟩,ht⟩:=ht;split at ht
  ·rename_i i hi;simp only[Bool.and_eq_true,beq_iff_eq,bne_iff_ne,ne_eq,decide_eq_true_eq]at ht;obtain⟨⟨⟨⟨rfl,h0⟩,hs4⟩,Ago⟩,ht⟩:=ht;split at ht
   ·rename_i v hv;simp only[Bool.and_eq_true,beq_iff_eq]at ht;obtain⟨Tq,hz⟩:=ht;have Gw:∃c,v.cells.toList=c++[]∧A1 G z c:=by
     split at hz
     ·rename_i h;exact Vi G z _ _ h
     ·cases hz
    obtain⟨c,hc,Gw⟩:=Gw;rw[List.append_nil]at hc;subst hc
    let Bhz:Array Value:=(Array.range (n*i.size)).map (fun j=>v.cells[j % v.cells.size]!)
    have Asa:A0 G (List.replicate n z) Bhz.toList:=by
     rw[X6 Tq];exact M1 Gw n
    have Ps:∀(j:Nat) (zz:I),(List.replicate n z)[j]?=some zz→(fun j:Nat=>some (j*i.size,i.size)) j=some (Ck ((List.replicate n z).take j),zz.size):=by
     intro j zz Sv;have hj:j<n:=by have:=(List.getElem?_eq_some_iff.1 Sv).1;simpa using this
     have Azg:zz=z:=by rw[List.getElem?_replicate,if_pos hj]at Sv;cases Sv;rfl
     subst Azg;rw[List.take_replicate,Dc (sz:=i.size) (by intro x hx;rw[List.eq_of_mem_replicate hx,Ago]),List.length_replicate,Nat.min_eq_left (Nat.le_of_lt hj),Ago]
    obtain⟨l,cells,G',σ',Af,hG,Ci,h2,h3,h4⟩:=Xe (place:=fun j=>some (j*i.size,i.size)) hr hp hw Asa Ps
    obtain⟨⟨hl,Bk⟩,h2⟩:=h2;have Agi:cells.size=n*i.size:=by
     have:=A0.length _ _ h3;rw[Dc Bk,hl]at this;simpa using this
    have hnm:n≤maxLen:=by simp only[maxLen];omega
    obtain⟨H4,Gt,r1,r2⟩:=Ci.U3 (Au d hd) (sv:=.vec e' i.size l) (o:=.cells cells e') (c:=.slice (some ⟨w.heap.size,0,none⟩) n n) rfl (by intro _ e;cases e)
     (fun σ1 _ hb=>⟨cells.toList,⟨by rw[hl];simpa using Agi,.inr ⟨w.heap.size,n,cells,by rw[hl],Nat.zero_le _,Row.of (heap_alloc_new w _),by rw[hl];exact Nat.le_refl _,hnm,Agi,by
       rw[hl, ←Agi];have:cells.size=cells.toList.length:=by simp
       rw[this,List.take_length]⟩⟩,h3,Bk,fun b Br=>by cases Br;exact hb⟩) h2
    have Mj:¬(n*i.size>2^24):=by
     have:n*i.size≤4096*4096:=Nat.mul_le_mul hn4 hs4;omega
    have Tk:(ps.map fun(p:Nat × Operand)=>(p.1,a.eval p.2)).toList=ps.toList.map fun p=>(p.1,a.eval p.2):=by simp
    have hzero:(zeroValue e').run P w= .ok v w:=by simp[zeroValue,typeInfo,hi,hv]
    have Asg:(sizeOf e').run P w= .ok i.size w:=by simp[sizeOf,typeInfo,hi]
    refine Bv (w':=w.alloc (.cells cells e')) ?_ (by rw[hd];exact hn G' H4 Gt _ _ hG r1 r2)
    have Aw:n*i.size≠0:=Nat.mul_ne_zero hn0 h0;have h4':Instr.fill (fun j=>some (j*i.size,i.size)) ((Array.range (n*i.size)).map (fun j=>v.cells[j % v.cells.size]!)) (ps.toList.map fun p=>(p.1,a.eval p.2))=some cells:=h4
    simp only[execOp,ho,Instr.buildSlice,Sem.run_bind,run_underlying hu,Result.andThen,Asg];rw[if_neg Mj,if_neg Aw];simp only[Sem.run_bind,hzero,Result.andThen,Sem.run_pure,Tk,h4'];simp[newRow]
   ·cases ht
  ·cases ht
 ·cases ht
def A0z(d:Nat)(e:TypeId)(sz:Nat):M:=C2 d (.vec e sz [])
theorem A3j{o:Oper}{d:Nat}{t e:TypeId}{sz:Nat}(hd:o.dst=some d)(ho:o.op= .buildSlice t 0 #[])(ht:(P.underlying t=some (.slice e))∧(P.info? e).isSome=true):Sound P N o (A0z d e sz):=by
 intro G σ Fr w0 st a w Q next E hN hr hw hn Au
 subst hN;obtain⟨hu,hi⟩:=ht;cases Fh:P.info? e with
 |none=>simp[Fh]at hi
 |some i=>
  obtain⟨H4,Gt,r1,r2⟩:=hr.U3 (Au d hd) (sv:=.vec e sz []) (o:=.cells #[] e) (c:=.slice (some ⟨w.heap.size,0,none⟩) 0 0) rfl (by intro _ e;cases e)
   (fun σ1 _ hb=>⟨[],⟨by simp,.inr ⟨w.heap.size,0, #[],rfl,Nat.zero_le _,Row.of (heap_alloc_new w _),Nat.le_refl _,by simp[maxLen],by simp,by simp⟩⟩,rfl,by simp,fun b Br=>by cases Br;exact hb⟩) hw
  refine Bv (w':=w.alloc (.cells #[] e)) ?_ (by rw[hd];exact hn G H4 Gt _ _ (Mem.le.refl G) r1 r2)
  have h0:Array.range 0= #[]:=rfl;simp[execOp,ho,Instr.buildSlice,run_underlying hu,sizeOf,typeInfo,Fh,newRow,Instr.fill,h0]
end

inductive Ft where
 |int (k:IntKind)
 |bool
 |str
 |st (l:List Ft)
 deriving Inhabited
mutual
def Ft.size:Ft→Nat
 | .st l=>Ft.Ck l
 |_=>1
def Ft.Ck:List Ft→Nat
 | []=>0
 |e::l=>e.size+Ft.Ck l
end
def Ft.An5:Ft→Bool
 | .st _=>true
 |_=>false
mutual
def Ft.ok(P:Program):Nat→Ft→TypeId→Bool
 |0,_,_=>false
 |_+1,.int k,t=>match P.underlying t with
  |some (.int k')=>k==k'
  |_=>false
 |_+1,.bool,t=>match P.underlying t with
  |some .bool=>true
  |_=>false
 |_+1,.str,t=>match P.underlying t with
  |some .string=>true
  |_=>false
 |n+1,.st l,t=> !P.stoodInHeld t&&Ft.P8 P n l (P.fieldsOf t).toList 0&&(match P.underlying t with
  |some (.struct _)=>true
  |_=>false)
def Ft.P8(P:Program):Nat→List Ft→List Field→Nat→Bool
 |_,[],[],_=>true
 |n,e::l,f::fs,o=>f.name != "_" &&f.offset==o&&e.ok P n f.type&&Hd P f.type e.An5 e.size&&Ft.P8 P n l fs (o+e.size)
 |_,_,_,_=>false
end
mutual
def Wz:Ft→I→I→Option Bool
 | .int k,.int k1 a,.int k2 b=>if k1=k∧k2=k then some (decide (a=b))else none
 | .bool,.bool a,.bool b=>some (decide (a=b))
 | .str,.str a,.str b=>some (decide (a=b))
 | .st es,.agg l,.agg m=>Tb es l m
 |_,_,_=>none
def Tb:List Ft→List I→List I→Option Bool
 | [],[],[]=>some true
 |e::es,x::l,y::m=>match Wz e x y with
  |some r=>match Tb es l m with
   |some r'=>some (r&&r')
   |none=>none
  |none=>none
 |_,_,_=>none
end
section
variable{P:Program}{N:Nat}{G:Mem}{σ:Lab}{Fr:Mem}{w0:Base}{w:World}{st:St}{a:Act}
theorem Aoe{arr:Array Value}{pre cs post:List Value}{y:I}{t:TypeId}(h:arr.toList=pre++cs++post)(hy:A1 G y cs)(ht:Hd P t y.isAgg y.size=true):
 ∃v,(part t arr pre.length).run P w= .ok v w∧Aq G y v:=by
 obtain⟨g1,g2⟩:=P0 ht w;have hl:=A1.length _ _ hy;cases Te:y.isAgg with
 |true=>
  rw[Te]at g1;refine⟨.agg (arr.extract pre.length (pre.length+y.size)),by simp[part,g1,g2],?_⟩
  unfold Aq;rw[if_pos Te];refine⟨_,rfl,?_⟩;have:(arr.extract pre.length (pre.length+y.size)).toList=cs:=by
   rw[Array.toList_extract,h,List.extract_eq_take_drop, ←hl,Nat.add_sub_cancel_left,List.append_assoc,List.drop_left,List.take_left]
  rw[this];exact hy
 |false=>
  rw[Te]at g1;have Sd:y.size=1:=by cases y<;>simp_all [I.isAgg,I.size]
  rw[Sd]at hl
  match cs,hl with
  | [v],_=>
    have hv:arr[pre.length]?=some v:=by
     have:arr[pre.length]?=arr.toList[pre.length]?:=by simp
     rw[this,h];simp
    refine⟨v,by simp[part,g1,hv],?_⟩
    unfold Aq;rw[if_neg (by simp[Te])]
    exact hy
mutual
theorem Atw:∀(e:Ft) (x y:I) (r:Bool),Wz e x y=some r→x.size=e.size∧y.size=e.size∧x.isAgg=e.An5∧y.isAgg=e.An5
 | .int k,x,y,r,h=>by
   cases x<;>cases y<;>simp[Wz]at h;simp[I.size,Ft.size,I.isAgg,Ft.An5]
 | .bool,x,y,r,h=>by
   cases x<;>cases y<;>simp[Wz]at h;simp[I.size,Ft.size,I.isAgg,Ft.An5]
 | .str,x,y,r,h=>by
   cases x<;>cases y<;>simp[Wz]at h;simp[I.size,Ft.size,I.isAgg,Ft.An5]
 | .st es,x,y,r,h=>by
   cases x<;>cases y<;>simp only[Wz,reduceCtorEq]at h;obtain⟨h1,h2⟩:=Apc es _ _ r h;simp[I.size,Ft.size,I.isAgg,Ft.An5,h1,h2]
theorem Apc:∀(es:List Ft) (l m:List I) (r:Bool),Tb es l m=some r→Ck l=Ft.Ck es∧Ck m=Ft.Ck es
 | [],l,m,r,h=>by
   cases l<;>cases m<;>simp[Tb]at h;simp[Ck,Ft.Ck]
 |e::es,l,m,r,h=>by
  cases l with
  |nil=>cases m<;>simp[Tb]at h
  |cons x l=>
   cases m with
   |nil=>simp[Tb]at h
   |cons y m=>
    simp only[Tb]at h;cases h1:Wz e x y with
    |none=>simp[h1]at h
    |some r1=>
     cases h2:Tb es l m with
     |none=>simp[h1,h2]at h
     |some r2=>
      obtain⟨k1,k2,_,_⟩:=Atw e x y r1 h1;obtain⟨k3,k4⟩:=Apc es l m r2 h2;simp[Ck,Ft.Ck,k1,k2,k3,k4]
end
mutual
theorem A4j(G:Mem):∀(n d:Nat) (e:Ft) (t:TypeId) (x y:I) (u v:Value) (r:Bool),n≤d→e.ok P n t=true→Wz e x y=some r→Aq G x u→Aq G y v→(Op.equalIn d t u v).run P w= .ok r w
 |0,_,_,_,_,_,_,_,_,_,ho,_,_,_=>by simp[Ft.ok]at ho
 |n+1,0,_,_,_,_,_,_,_,hd,_,_,_,_=>by omega
 |n+1,d+1,.int k,t,x,y,u,v,r,_,ho,h,hx,hy=>by
  cases x<;>cases y<;>simp only[Wz,reduceCtorEq]at h;split at h
  ·rename_i hk;cases h;rw[Aq.int]at hx hy;simp only[Ft.ok]at ho;split at ho
   ·rename_i hu;rw[hx,hy,hk.1,hk.2,run_equalIn_int w d t _ _ _ _ hu,beq_eq]
   ·cases ho
  ·cases h
 |n+1,d+1,.bool,t,x,y,u,v,r,_,ho,h,hx,hy=>by
  cases x<;>cases y<;>simp only[Wz,Option.some.injEq,reduceCtorEq]at h;rename_i p q;subst h;rw[Aq.bool]at hx hy;simp only[Ft.ok]at ho;split at ho
  ·rename_i hu;have e:(p==q)=decide (p=q):=by cases p<;>cases q<;>rfl
   rw[hx,hy,run_equalIn_bool' w d t p q hu,e]
  ·cases ho
 |n+1,d+1,.str,t,x,y,u,v,r,_,ho,h,hx,hy=>by
  cases x<;>cases y<;>simp only[Wz,Option.some.injEq,reduceCtorEq]at h;rename_i p q;subst h;rw[Aq.str]at hx hy;simp only[Ft.ok]at ho;split at ho
  ·rename_i hu;have e:((⟨⟨p⟩⟩:ByteArray).toList==(⟨⟨q⟩⟩:ByteArray).toList)=decide (p=q):=by
    rw[Bool.eq_iff_iff];simp
   rw[hx.1,hy.1,run_equalIn_string w d t _ _ hu,e]
  ·cases ho
 |n+1,d+1,.st es,t,x,y,u,v,r,hd,ho,h,hx,hy=>by
  cases x<;>cases y<;>simp only[Wz,reduceCtorEq]at h;rename_i l m;unfold Aq at hx hy;rw[if_pos (show(I.agg l).isAgg=true from rfl)]at hx;rw[if_pos (show(I.agg m).isAgg=true from rfl)]at hy;obtain⟨xs,rfl,hx⟩:=hx;obtain⟨ys,rfl,hy⟩:=hy;simp only[Ft.ok,Bool.and_eq_true,Bool.not_eq_true']at ho;obtain⟨⟨h1,h2⟩,h3⟩:=ho;split at h3
  ·rename_i fs hu;have hfs:P.fieldsOf t=fs:=by simp[Program.fieldsOf,hu]
   rw[run_equalIn_struct w d t xs ys (by rw[hfs];exact hu) h1]
   exact Ax1 G n d es _ 0 l m xs ys [] [] xs.toList ys.toList r (by omega) h2 h (by simp) (by simp) rfl rfl hx hy
  ·cases h3
theorem Ax1(G:Mem):∀(n d:Nat) (es:List Ft) (fs:List Field) (o:Nat) (l m:List I) (xs ys:Array Value) (p q cs ds:List Value) (r:Bool),n≤d→Ft.P8 P n es fs o=true→Tb es l m=some r→
 xs.toList=p++cs→ys.toList=q++ds→p.length=o→q.length=o→A0 G l cs→A0 G m ds→(Op.eqFields d xs ys fs).run P w= .ok r w
 |n,d,[],fs,o,l,m,xs,ys,p,q,cs,ds,r,hd,ho,h,_,_,_,_,_,_=>by
  cases fs with
  |cons f fs=>simp[Ft.P8]at ho
  |nil=>
   cases l<;>cases m<;>simp[Tb]at h;subst h;simp[Op.eqFields]
 |n,d,e::es,fs,o,l,m,xs,ys,p,q,cs,ds,r,hd,ho,h,hp,hq,Hz,hql,hl,hm=>by
  cases fs with
  |nil=>simp[Ft.P8]at ho
  |cons f fs=>
   cases l with
   |nil=>cases m<;>simp[Tb]at h
   |cons x l=>
    cases m with
    |nil=>simp[Tb]at h
    |cons y m=>
     simp only[Tb]at h;cases h1:Wz e x y with
     |none=>simp[h1]at h
     |some r1=>
      cases h2:Tb es l m with
      |none=>simp[h1,h2]at h
      |some r2=>
       simp only[h1,h2,Option.some.injEq]at h;subst h;simp only[Ft.P8,Bool.and_eq_true,beq_iff_eq,bne_iff_ne,ne_eq]at ho;obtain⟨⟨⟨⟨k1,k2⟩,k3⟩,k4⟩,k5⟩:=ho;obtain⟨s1,s2,s3,s4⟩:=Atw e x y r1 h1;obtain⟨c1,d1,e1,e2,e3⟩:=hl;obtain⟨c2,d2,e4,e5,e6⟩:=hm;obtain⟨u,hu1,hu2⟩:=Aoe (P:=P) (w:=w) (pre:=p) (post:=d1) (by rw[hp,e1,List.append_assoc]) e2 (by rw[s3,s1];exact k4)
       obtain⟨v,hv1,hv2⟩:=Aoe (P:=P) (w:=w) (pre:=q) (post:=d2) (by rw[hq,e4,List.append_assoc]) e5 (by rw[s4,s2];exact k4)
       have E2:=A4j G n d e f.type x y u v r1 hd k3 h1 hu2 hv2;have Y4:=A1.length _ _ e2;have J5:=A1.length _ _ e5;have ih:=Ax1 G n d es fs (o+e.size) l m xs ys (p++c1) (q++c2) d1 d2 r2 hd k5 h2 (by rw[hp,e1,List.append_assoc]) (by rw[hq,e4,List.append_assoc]) (by simp[Hz,Y4,s1]) (by simp[hql,J5,s2]) e3 e6
       rw[Hz]at hu1;rw[hql]at hv1;simp only[Op.eqFields];rw[if_pos k1];simp only[Sem.run_bind,k2,hu1,hv1,E2,Result.andThen];cases r1 with
       |true=>simpa using ih
       |false=>simp
end
def Bgd(d:Option Nat)(neg:Bool)(e:Ft)(x y:Ar):M:=Gx x fun i=>Gx y fun j=>match Wz e i j with
 |some r=>As5 neg (.bool (!r)) (.bool r) fun r=>A9 d (.v r) .done
 |none=>.fail
def A6j(P:Program)(e:Ft)(t:TypeId):Bool:=e.ok P 20 t&&(match e with
 | .st _=> !P.eqGuardType P.depth t
 | .bool=>true
 |_=>false)
theorem A1i{o:Oper}{neg:Bool}{t u:TypeId}{x y:Operand}{x' y':Ar}{e:Ft}(ho:o.op= .binOp (if neg then .neq else .eql) t x y u)(hx:Ax N x x'=true)(hy:Ax N y y'=true)(he:A6j P e t=true):
 Sound P N o (Bgd o.dst neg e x' y'):=by
 intro G σ Fr w0 st a w Q next E hN hr hw hn Au
 subst hN;obtain⟨i,h1,hi⟩:=De hr hx hw;clear hw;obtain⟨j,hw,hj⟩:=De hr hy h1;clear h1;split at hw
 ·rename_i r Ci;unfold A6j at he;simp only[Bool.and_eq_true]at he;have B0:=A4j (P:=P) (w:=w) G 20 10000 e t i j _ _ r (by omega) he.1 Ci hi hj
  have hw:(A9 o.dst (.v (.bool (if neg then !r else r))) .done).wp P Q st:=by cases neg<;>exact hw
  refine C1 hr hn Au (Aq.bool.2 rfl) hw ?_;cases e with
  |st es=>
   cases i<;>cases j<;>simp only[Wz,reduceCtorEq]at Ci;unfold Aq at hi hj;rw[if_pos (show(I.agg _).isAgg=true from rfl)]at hi hj;obtain⟨xs,hxs,_⟩:=hi;obtain⟨ys,hys,_⟩:=hj;have hg:P.eqGuardType P.depth t=false:=by simpa using he.2
   rw[hxs,hys]at B0;cases neg with
   |true=>simp[execOp,ho,hxs,hys,run_eqGuard_agg w .neq t x y xs ys hg,run_neq_struct,B0]
   |false=>simp[execOp,ho,hxs,hys,run_eqGuard_agg w .eql t x y xs ys hg,run_eql_struct,B0]
  |bool=>
   cases i<;>cases j<;>simp only[Wz,reduceCtorEq]at Ci;rw[Aq.bool]at hi hj;rw[hi,hj]at B0;have Awv:(Op.equal t (.bool _) (.bool _)).run P w=_:=B0;cases neg with
   |true=>simp[execOp,ho,hi,hj,eqGuard,binOp,Awv]
   |false=>simp[execOp,ho,hi,hj,eqGuard,binOp,Awv]
  |_=>simp at he
 ·exact hw.elim
theorem A22{d:Nat}{t e:TypeId}(hu:P.underlying t=some (.slice e))(ad:Option Addr)(n cap nn cc:Nat)(w:World):
 (Op.equalIn (d+1) t (.slice ad n cap) (.slice none nn cc)).run P w= .ok ad.isNone w:=by
 cases ad<;>simp[Op.equalIn,run_underlying hu]
theorem A9k{t e:TypeId}(hu:P.underlying t=some (.slice e))(ad:Option Addr)(n cap nn cc:Nat)(w:World):
 (Op.equal t (.slice ad n cap) (.slice none nn cc)).run P w= .ok ad.isNone w:=A22 (d:=9999) hu ad n cap nn cc w
def A07(d:Option Nat)(neg:Bool)(x:Ar):M:=match x with
 | .t n=>.get n fun _ sv=>match sv with
   | .v (.list l)=>.all (fun b=>b=true→l=[]) fun b=>As5 neg (.bool (!b)) (.bool b) fun r=>A9 d (.v r) .done
   | .vec _ _ l=>.all (fun b=>b=true→l=[]) fun b=>As5 neg (.bool (!b)) (.bool b) fun r=>A9 d (.v r) .done
   | .E0 s k v=>.get s fun cur C9=>.Ba (v=cur) fun _=>match C9.Cx k with
     |some (_,_,l)=>.all (fun b=>b=true→l=[]) fun b=>As5 neg (.bool (!b)) (.bool b) fun r=>A9 d (.v r) .done
     |none=>.fail
   |_=>.fail
 |_=>.fail
def Aw0(P:Program)(t:TypeId)(y:Operand):Bool:=(match P.underlying t with
 |some (.slice _)=>true
 |_=>false)&&(match y with
 | .const (.slice none _ _)=>true
 |_=>false)
theorem Au9{o:Oper}{neg:Bool}{t u:TypeId}{x y:Operand}{x':Ar}(ho:o.op= .binOp (if neg then .neq else .eql) t x y u)(hx:Ax N x x'=true)(hy:Aw0 P t y=true):Sound P N o (A07 o.dst neg x'):=by
 intro G σ Fr w0 st a w Q next E hN hr hw hn Au
 subst hN;unfold Aw0 at hy;simp only[Bool.and_eq_true]at hy;obtain⟨hu,hy⟩:=hy;split at hu
 ·rename_i e hu';split at hy
  ·rename_i nn cc;have run:∀{ad:Option Addr} {n cap:Nat},a.eval x= .slice ad n cap→(execOp a.eval o).run P w= .ok (.value (.bool (if neg then !ad.isNone else ad.isNone))) w:=by
    intro ad n cap he;have hq:=A9k hu' ad n cap nn cc w;have H2:a.eval (.const (.slice none nn cc))= .slice none nn cc:=rfl;cases neg<;>simp[execOp,ho,he,H2,eqGuard,binOp,hq]
   have fin:∀{ad:Option Addr} {cap:Nat} {l:List I},a.eval x= .slice ad l.length cap→(ad=none→l=[])→
    (M.all (fun b=>b=true→l=[]) fun b=>As5 neg (.bool (!b)) (.bool b) fun r=>A9 o.dst (.v r) .done).wp P Q st→o.wp P a w next E:=by
    intro ad cap l he hl hq;have Jg:=hq ad.isNone (fun h=>hl (by simpa using h))
    have Jg:(A9 o.dst (.v (.bool (if neg then !ad.isNone else ad.isNone))) .done).wp P Q st:=by cases neg<;>exact Jg
    exact C1 hr hn Au (Aq.bool.2 rfl) Jg (run he)
   have Bkc:∀{Bg:Nat × Nat} {e:TypeId} {sz:Nat} {l:List I} {c:Value},Cw G σ w Bg e sz l c→∃ad cap,c= .slice ad l.length cap∧(ad=none→l=[]):=by
    intro Bg e sz l c h;obtain⟨xs,h1,_⟩:=h;rcases h1.2 with⟨rfl,h0⟩|⟨g,cap,cur,rfl,_⟩
    ·exact⟨none,0,by rw[h0],fun _=>List.eq_nil_of_length_eq_zero h0⟩
    ·exact⟨_,cap,rfl,fun h=>by cases h⟩
   cases x' with
   |c _=>exact hw.elim
   |Cd _ _=>exact hw.elim
   |t n=>
    obtain⟨rfl,Cm⟩:=Dm hx;simp only[A07,M.wp]at hw;cases hs:st[n]? with
    |none=>simp[hs]at hw
    |some cur=>
     obtain⟨ver,sv⟩:=cur;simp only[hs]at hw;have Ay:=hr.slot Cm hs;split at hw
     ·rename_i l;have Dn:Aq G (.list l) (a.eval (.tmp n)):=Ay;obtain⟨ad,cap,hc,_,_,h4⟩:=Aq.list.1 Dn;refine fin hc (fun e=>?_) hw
      rcases h4 with h4|⟨b,off,bl,ty,fz,sz,h5,_⟩
      ·exact h4
      ·rw[e]at h5;cases h5
     ·obtain⟨ad,cap,hc,hl⟩:=Bkc Ay;exact fin hc hl hw
     ·rename_i s k v;obtain⟨cur,g1,g2,g3⟩:=Ay;simp only[M.wp,g1]at hw;obtain⟨hv,hw⟩:=hw;obtain⟨e,sz,l,g4,g5⟩:=g3 hv;simp only[g4]at hw;obtain⟨ad,cap,hc,hl⟩:=Bkc g5;exact fin hc hl hw
     ·exact hw.elim
  ·cases hy
 ·cases hu
theorem A8h{o:Oper}{t:TypeId}{x i:Operand}{x' i':Ar}(ho:o.op= .index t x i)(hx:Ax N x x'=true)(hi:Ax N i i'=true)(ht:P.underlying t=some .string):Sound P N o (Bcn o.dst x' i'):=by
 intro G σ Fr w0 st a w Q next E hN hr hw hn Au
 subst hN;obtain⟨u,h1,hu⟩:=De hr hx hw;clear hw;obtain⟨v,hw,hv⟩:=De hr hi h1;clear h1;split at hw
 ·rename_i s k n;split at hw
  ·rename_i b hb;obtain⟨h0,hw⟩:=hw;rw[Aq.str]at hu;rw[Aq.int]at hv;have Bb:n.toNat<s.length:=(List.getElem?_eq_some_iff.1 hb).1;have Y1:(⟨⟨s⟩⟩:ByteArray)[n.toNat]?=some b:=by
    have Bk:n.toNat<(⟨⟨s⟩⟩:ByteArray).size:=Bb;have:(⟨⟨s⟩⟩:ByteArray)[n.toNat]=b:=by
     have:=(List.getElem?_eq_some_iff.1 hb).2;exact this
    rw[getElem?_pos (⟨⟨s⟩⟩:ByteArray) n.toNat Bk,this]
   refine C1 hr hn Au (Aq.int.2 rfl) hw ?_;simp[execOp,ho,hu.1,hv,Instr.index,asIntOf,run_underlying ht,h0,Y1]
  ·exact hw.elim
 ·exact hw.elim
end
end Go.Ab
