/- Lemmas -/
import Derived.Test.YtgcccllpegilnaaGreatDoorAb14x
import Derived.Laws.IdiomStrings
import Derived.Laws.BytesString
set_option linter.unusedVariables false
set_option linter.unusedSimpArgs false
namespace Go.Ab
def A0t (d:Option Nat) (sz len:Nat) (x i:Opd):M:=Gx i fun n=>match n with
 | .int _ n=>rdP x (fun s k ver o r=>.need (0≤n∧n.toNat<len∧d≠some s) fun _=>.get s fun cur _=>.need (ver=cur) fun _=>setD d (.pt s k ver (o+n.toNat*sz) (r++[n.toNat])) .done)
   (fun y=>match y with
     | .arr sz' l=>match l[n.toNat]? with
       |some u=>.need (0≤n∧n.toNat<len∧sz'=sz) fun _=>setD d (.rp u) .done
       |none=>.fail
     |_=>.fail)
 |_=>.fail
def Ao3 (P:Program) (t:TypeId) (sz len:Nat):Bool:=match P.underlying t with
 |some (.array n e)=>match P.info? e with
  |some i=>i.size==sz&&n==len
  |none=>false
 |_=>false
section
variable{P:Program}{N:Nat}{G:Mem}{σ:Lab}{Fr:Mem}{w0:Base}{w:World}{st:St}{a:Act}
theorem Aci {t:TypeId} {sz len b o:Nat} {k:IntKind} {n:Int} (h:Ao3 P t sz len=true) (w:World) (h0:0≤n) (h1:n.toNat<len):
 (Instr.indexAt t (.pointer (some ⟨b,o,none⟩)) (.int k n)).run P w= .ok (.pointer (some ⟨b,o+n.toNat*sz,none⟩)) w:=by
 unfold Ao3 at h
 split at h
 ·rename_i m e hu
  split at h
  ·rename_i i hi
   simp only[Bool.and_eq_true,beq_iff_eq]at h
   obtain⟨h2,rfl⟩:=h
   have hn:0≤n∧n<(m:Int):=⟨h0,by omega⟩
   simp[Instr.indexAt,asIntOf,run_underlying hu,hn,sizeOf,typeInfo,hi,h2,add_lit,Instr.sureAddr]
  ·cases h
 ·cases h
theorem A3e {o:Oper} {t:TypeId} {x i:Operand} {x' i':Opd} {sz len:Nat} (ho:o.op= .indexAddr t x i) (hx:Ax N x x'=true) (hi:Ax N i i'=true) (ht:Ao3 P t sz len=true):
 Sound P N o (A0t o.dst sz len x' i'):=by
 intro G σ Fr w0 st a w Q next E hN hr hw hn hdst
 subst hN
 obtain⟨n,h1,hnv⟩:=De hr hi hw
 clear hw
 split at h1
 ·rename_i k n
  rw[RepV.int]at hnv
  rcases Ahf hr hx h1 with⟨s,kk,ver,of,r,cur,h1,hs,hp⟩|⟨u,h1,hp⟩
  ·simp only[M.wp,hs]at h1
   obtain⟨⟨h0,hlt,hne⟩,hver,h1⟩:=h1
   obtain⟨b,hb,hpp⟩:=hp hver
   obtain⟨σ',st',r1,r2⟩:=hr.setPt hdst hs hne hver hb h1
   refine Bv (w':=w) ?_ (hn G σ' st' _ w (Mem.le.refl G) r1 r2)
   simp[execOp,ho,hpp,hnv,Aci ht w h0 hlt]
  ·split at h1
   ·rename_i sz' l
    split at h1
    ·rename_i u hu
     obtain⟨⟨h0,hlt,rfl⟩,h1⟩:=h1
     obtain⟨b,of,bl,ty,fz,pre,cs,post,p1,p2,p3,p4,p5⟩:=hp
     obtain⟨p5,p6⟩:=p5
     obtain⟨c1,c,c2,e1,e2,e3,_⟩:=RepIs.nth n.toNat p5 hu
     have htake:sizes (l.take n.toNat)=n.toNat*sz':=by
      have hlt':n.toNat<l.length:=(List.getElem?_eq_some_iff.1 hu).1
      rw[Dc (sz:=sz') fun z hz=>p6 z (List.mem_of_mem_take hz),List.length_take,Nat.min_eq_left (Nat.le_of_lt hlt')]
     obtain⟨σ',st',r1,r2⟩:=hr.setD hdst (sv:=.rp u) (c:=.pointer (some ⟨b,of+n.toNat*sz',none⟩))
      (fun _ _ _ _=>⟨b,_,bl,ty,fz,pre++c1,c,c2++post,rfl,p2,by simp[p3,e1],by simp[p4,e2,htake],e3⟩) h1
     refine Bv (w':=w) ?_ (hn G σ' st' _ w (Mem.le.refl G) r1 r2)
     simp[execOp,ho,p1,hnv,Aci ht w h0 hlt]
    ·exact h1.elim
   ·exact h1.elim
 ·exact h1.elim
end

def A08 (d:Option Nat) (sz:Nat) (x lo:Opd):M:=match x with
 | .t n=>.get n fun _ sv=>match sv with
   | .bor s k v=>.get s fun cur sv'=>.need (v=cur) fun _=>match sv'.vecAt k with
     |some (_,sz',l)=>Gx lo fun i=>match i with
      | .int _ i=>.need (sz'=sz∧0≤i∧i.toNat≤l.length∧d≠some s) fun _=>setD d (.suf s k v i.toNat) .done
      |_=>.fail
     |none=>.fail
   |_=>.fail
 |_=>.fail
def A0x (d:Option Nat) (sz:Nat) (z:I) (x:Opd):M:=match x with
 | .t n=>.get n fun _ sv=>match sv with
   | .suf s 0 v m=>.get s fun cur sv'=>.need (v=cur) fun _=>match sv' with
     | .vec e sz' l=>.need (sz'=sz) fun _=>.set s (cur+1) (.vec e sz' (l.take m++List.replicate (l.length - m) z)) (setD d (.tup []) .done)
     |_=>.fail
   |_=>.fail
 |_=>.fail
def A6c (P:Program) (t:TypeId) (sz:Nat) (z:I):Bool:=match P.underlying t with
 |some (.slice e)=>match P.info? e with
  |some i=>i.size==sz&&z.size==sz&&match i.zero with
   |some v=>v.cells.size==sz&&match zI z v.cells.toList with
    |some []=>true
    |_=>false
   |none=>false
  |none=>false
 |_=>false
section
variable{P:Program}{N:Nat}{G:Mem}{σ:Lab}{Fr:Mem}{w0:Base}{w:World}{st:St}{a:Act}
theorem Bca {o:Oper} {t:TypeId} {x lo:Operand} {x' lo':Opd} {sz:Nat} (ho:o.op= .slice t x (some lo) none none) (hx:Ax N x x'=true) (hl:Ax N lo lo'=true) (ht:Hv P t sz=true):
 Sound P N o (A08 o.dst sz x' lo'):=by
 intro G σ Fr w0 st a w Q next E hN hr hw hn hdst
 subst hN
 cases x' with
 |t n=>
  obtain⟨rfl,hnlt⟩:=Dm hx
  simp only[A08,M.wp]at hw
  cases hs:st[n]? with
  |none=>simp[hs]at hw
  |some cur0=>
   obtain⟨ver,sv⟩:=cur0
   simp only[hs]at hw
   have hrep:=hr.slot hnlt hs
   split at hw
   ·rename_i s k v
    obtain⟨cur,g1,g2,g3⟩:=hrep
    simp only[M.wp,g1]at hw
    obtain⟨hv,hw⟩:=hw
    obtain⟨e',sz',l,g4,g5⟩:=g3 hv
    simp only[g4]at hw
    obtain⟨i,h1,hi⟩:=De hr hl hw
    split at h1
    ·rename_i kd i
     rw[RepV.int]at hi
     obtain⟨⟨rfl,h0,hle,hne⟩,h1⟩:=h1
     obtain⟨ad,cap,hc,hlm⟩:=g5.len
     have hlc:l.length≤cap:=by
      obtain⟨xs,q1,_⟩:=g5
      rcases q1.2 with⟨q2,q3⟩|⟨g,cap',cur,q2,_,_,q3,_⟩
      ·omega
      ·rw[hc]at q2;cases q2;exact q3
     have hb:=F7 (P:=P) (a:=a) (isSlice:=true) (len:=l.length) (cap:=cap) (lo:=some lo) (hi:=none) (i:=i) (j:=(l.length:Int)) w (.inr ⟨lo,kd,rfl,hi⟩) (.inl ⟨rfl,rfl⟩) h0 (by omega) (Int.le_refl _) hlc
     have hsl:∃e i0,P.underlying t=some (.slice e)∧P.info? e=some i0∧i0.size=sz':=by
      unfold Hv at ht
      split at ht
      ·rename_i e hu
       split at ht
       ·rename_i i0 hi0
        simp only[Bool.and_eq_true,beq_iff_eq]at ht
        exact⟨e,i0,hu,hi0,ht.1⟩
       ·cases ht
      ·cases ht
     obtain⟨e,i0,hu,hi0,hsz⟩:=hsl
     obtain⟨σ',st',r1,r2⟩:=hr.setD hdst (sv:=.suf s k v i.toNat) (c:=.slice (if cap=i.toNat then ad else ad.map (·.add (i.toNat*sz'))) (l.length - i.toNat) (cap - i.toNat)) (fun d' hd ver' _=>by
      refine⟨cur,by rw[List.getElem?_set_ne (by rintro rfl;exact hne hd)];exact g1,g2,fun _=>⟨e',sz',l,a.eval (.tmp n),g4,?_,⟨ad,cap,hc,hle,hlc,rfl⟩⟩⟩
      exact g5.tr (Mem.le.refl G) fun b hb=>⟨Lab.drop_some.2 ⟨by rintro rfl;exact hne hd,hb⟩,rfl⟩) h1
     refine Bv (w':=w) ?_ (hn G σ' st' _ w (Mem.le.refl G) r1 r2)
     simp only[Option.map_some,Option.map_none]at hb
     simp[execOp,ho,Instr.sliceAt,Instr.slice,run_underlying hu,hc,hb,sizeOf,typeInfo,hi0,hsz]
    ·exact h1.elim
   ·exact hw.elim
 |_=>exact hw.elim
theorem Aou (z:Array Value) (n:Nat):(Builtin.zeroCells z n).toList=(List.replicate n z.toList).flatten:=X6 rfl n
theorem Bb0 {o:Oper} {t:TypeId} {x:Operand} {x':Opd} {sz:Nat} {z:I} (ho:o.op= .call {callee:=.builtin .clear,args:= #[x],argTypes:= #[t]}) (hx:Ax N x x'=true) (ht:A6c P t sz z=true):
 Sound P N o (A0x o.dst sz z x'):=by
 intro G σ Fr w0 st a w Q next E hN hr hw hn hdst
 subst hN
 unfold A6c at ht
 split at ht
 case h_2=>cases ht
 rename_i e hu
 split at ht
 case h_2=>cases ht
 rename_i i hi
 simp only[Bool.and_eq_true,beq_iff_eq]at ht
 obtain⟨⟨hisz,hzsz⟩,ht⟩:=ht
 split at ht
 case h_2=>cases ht
 rename_i v hv
 simp only[Bool.and_eq_true,beq_iff_eq]at ht
 obtain⟨hvs,hz⟩:=ht
 have hz':∃c,v.cells.toList=c++[]∧RepI G z c:=by
  split at hz
  ·rename_i h;exact zI_spec G z _ _ h
  ·cases hz
 obtain⟨c,hc,hz'⟩:=hz'
 rw[List.append_nil]at hc
 subst hc
 cases x' with
 |t n=>
  obtain⟨rfl,hnlt⟩:=Dm hx
  simp only[A0x,M.wp]at hw
  cases hs:st[n]? with
  |none=>simp[hs]at hw
  |some cur0=>
   obtain⟨ver,sv⟩:=cur0
   simp only[hs]at hw
   have hrep:=hr.slot hnlt hs
   split at hw
   ·rename_i s vv m
    obtain⟨cur,g1,g2,g3⟩:=hrep
    simp only[M.wp,g1]at hw
    obtain⟨hver,hw⟩:=hw
    obtain⟨cv,csv⟩:=cur
    cases csv with
    |vec e' sz' l=>
     obtain⟨rfl,hw⟩:=hw
     obtain⟨e1,sz1,l1,c0,g4,g5,ad,cap,g6,g7,g8,g9⟩:=g3 hver
     cases g4
     have hown:VecAt G σ w (s,0) e' sz' l (val a w0 s):=hr.slots s cv _ g1
     have key:∃w',(Builtin.clear_ #[t] o.type #[a.eval (.tmp n)]).run P w= .ok (.tuple #[]) w'∧WOk G σ Fr w0 w'∧(∀s',s'≠s→Kept σ σ w w' s')∧VecAt G σ w' (s,0) e' sz' (l.take m++List.replicate (l.length - m) z) (val a w0 s):=by
      rw[g9]
      by_cases h0:l.length - m=0
      ·refine⟨w,?_,hr.wok,fun s' _=>Kept.refl σ w s',?_⟩
       ·rw[h0]
        simp only[Builtin.clear_]
        simp[run_underlying hu]
        split<;>simp_all
       ·rw[h0,List.take_of_length_le (by omega)]
        simpa using hown
      ·have hne:l≠[]:=by rintro rfl;simp at h0
       obtain⟨b,hb0⟩:∃b,ad=some ⟨b,0,none⟩:=by
        obtain⟨xs,q1,_⟩:=g5
        rcases q1.2 with⟨_,q3⟩|⟨g,cap',cur,q2,_⟩
        ·exact absurd (List.eq_nil_of_length_eq_zero q3) hne
        ·rw[g6]at q2;cases q2;exact⟨g,rfl⟩
       subst hb0
       have hb:σ b=some (s,0):=by
        obtain⟨xs,_,_,_,q4⟩:=g5
        exact q4 b (by rw[g6];rfl)
       obtain⟨bl,xs,post,cap2,k1,k2,k3,k4,k5,k6,k7,k8⟩:=hown.row hr.wok hb hne
       have hxl:xs.length=l.length*sz':=by rw[RepIs.length _ _ k7,Dc k8]
       have hzl:(Builtin.zeroCells v.cells (l.length - m)).toList.length=(l.length - m)*sz':=by
        simp[Builtin.zeroCells,hvs]
       have hzr:RepIs G (List.replicate (l.length - m) z) (Builtin.zeroCells v.cells (l.length - m)).toList:=by
        rw[Aou]
        exact M1 hz' _
       have hmul:m*sz'+(l.length - m)*sz'=l.length*sz':=by
        rw[←Nat.add_mul]
        congr 1
        omega
       have hbl:bl.size=bl.toList.length:=by simp
       have k5r:=k5
       obtain⟨ty5,fz5,k5',k5'',_⟩:=k5
       have hst:=Ji P b (m*sz') ty5 fz5 (Builtin.zeroCells v.cells (l.length - m)).toList 0 bl w k5' k5'' (by rw[hzl,hbl,k6,List.length_append,hxl];omega) (RepIs.one _ _ hzr)
       have hcm:¬cap=m:=by omega
       obtain⟨c1,c2,p1,p2,p3⟩:=RepIs.split (l:=l.take m) (m:=l.drop m) (by rw[List.take_append_drop];exact k7)
       have hc1:c1.length=m*sz':=by
        rw[RepIs.length _ _ p2,Dc fun x hx=>k8 x (List.mem_of_mem_take hx),List.length_take,Nat.min_eq_left (by omega)]
       have hc2:c2.length=(l.length - m)*sz':=by
        rw[RepIs.length _ _ p3,Dc fun x hx=>k8 x (List.mem_of_mem_drop hx),List.length_drop]
       have t1:bl.toList.take (m*sz'+0)=c1:=by rw[k6,p1,Nat.add_zero, ←hc1,List.append_assoc,List.take_left]
       have t2:bl.toList.drop (m*sz'+0+(Builtin.zeroCells v.cells (l.length - m)).toList.length)=post:=by
        rw[hzl,k6,p1,Nat.add_zero, ←hc1, ←hc2, ←List.length_append,List.drop_left]
       rw[t1,t2]at hst
       have hrs:(c1++(Builtin.zeroCells v.cells (l.length - m)).toList++post).toArray.size=bl.size:=by
        rw[hbl,k6,p1]
        simp only[List.size_toArray,List.length_append,hc2,hzl]
       refine⟨w.setRow b (c1++(Builtin.zeroCells v.cells (l.length - m)).toList++post).toArray,?_,hr.wok.setRow hb _,fun s' hs'=>Kept.setRow hb hs' _,?_⟩
       ·rw[if_neg hcm]
        have hadd:Option.map (fun x:Addr=>x.add (m*sz')) (some ⟨b,0,none⟩)=some ⟨b,m*sz',none⟩:=by
         simp[add_lit]
        rw[hadd]
        obtain⟨q,hq⟩:∃q,l.length - m=q+1:=⟨l.length - m - 1,by omega⟩
        rw[hq]at hst ⊢
        have hzv:(zeroValue e).run P w= .ok v w:=by simp[zeroValue,typeInfo,hi,hv]
        simp[Builtin.clear_,run_underlying hu,hzv,hst]
       ·refine⟨c1++(Builtin.zeroCells v.cells (l.length - m)).toList,⟨?_,.inr ⟨b,cap2,_,?_,Nat.zero_le _,k5r.set hrs,?_,k3,?_,?_⟩⟩,RepIs.append p2 hzr,?_,?_⟩
        ·rw[List.length_append,hc1,hzl,hmul,List.length_append,List.length_take,List.length_replicate,Nat.min_eq_left (by omega)]
         congr 1
         omega
        ·rw[k1,List.length_append,List.length_take,List.length_replicate,Nat.min_eq_left (by omega),show m+(l.length - m)=l.length from by omega]
        ·rw[List.length_append,List.length_take,List.length_replicate,Nat.min_eq_left (by omega)]
         omega
        ·rw[←k4,hbl,k6,p1]
         simp only[List.size_toArray,List.length_append,hc2,hzl]
        ·have:(l.take m++List.replicate (l.length - m) z).length*sz'=(c1++(Builtin.zeroCells v.cells (l.length - m)).toList).length:=by
          simp only[List.length_append,List.length_take,List.length_replicate,hc1,hzl,hmul,Nat.min_eq_left g7]
          congr 1
          omega
         rw[this]
         exact List.take_left
        ·intro x hx
         rcases List.mem_append.1 hx with hx|hx
         ·exact k8 x (List.mem_of_mem_take hx)
         ·rw[List.eq_of_mem_replicate hx,hzsz]
        ·intro b' hb'
         rw[k1]at hb'
         simp only[Value.ownBlock,Option.some.injEq]at hb'
         subst hb'
         exact hb
     obtain⟨w',hrun,hok',hk',hv'⟩:=key
     have hr1:=Rel.self (new:=.vec e' sz' (l.take m++List.replicate (l.length - m) z)) (ver:=cv+1) hr hok' (Mem.le.refl G) g1 (Nat.lt_succ_self _) hk' hv'
     obtain⟨σ',st',r1,r2⟩:=hr1.setD hdst (sv:=.tup []) (c:=.tuple #[]) (fun _ _ _ _=>⟨#[],rfl,rfl⟩) hw
     refine Bv (w':=w') ?_ (hn G σ' st' _ w' (Mem.le.refl G) r1 r2)
     have hinv:(execOp a.eval o).run P w= .ok (.value (.tuple #[])) w':=by
      simp[execOp,ho,resolve,invoke,builtin,hrun]
     exact hinv
    |_=>exact hw.elim
   ·exact hw.elim
 |_=>exact hw.elim
end

def Cr (b:UInt8):I:=.int .u8 b.toNat
def Bbt (d:Nat) (e:TypeId) (x:Opd):M:=Gx x fun u=>match u with
 | .str s=>C2 d (.vec e 1 (s.map Cr))
 |_=>.fail
def A7p (P:Program) (src dst:TypeId) (e:TypeId):Bool:=decide (1000000≤e)&&match P.underlying src,P.underlying dst with
 |some .string,some (.slice e')=>match P.underlying e' with
  |some (.int .u8)=>true
  |_=>false
 |_,_=>false
def bytesOf:List I→Option (List UInt8)
 | []=>some []
 | .int .u8 n::l=>match bytesOf l with
   |some r=>some (UInt8.ofNat n.toNat::r)
   |none=>none
 |_::_=>none
def A0v (d:Nat) (x:Opd):M:=match x with
 | .t n=>.get n fun _ sv=>match sv with
   | .bor s k v=>.get s fun cur sv'=>.need (v=cur) fun _=>match sv'.vecAt k with
     |some (_,sz,l)=>match bytesOf l with
      |some r=>.need (sz=1∧r.length≤maxLen) fun _=>C2 d (.v (.str r))
      |none=>.fail
     |none=>.fail
   |_=>.fail
 |_=>.fail
def A59 (P:Program) (src dst:TypeId):Bool:=match P.underlying src,P.underlying dst with
 |some (.slice e),some .string=>match P.underlying e with
  |some (.int .u8)=>true
  |_=>false
 |_,_=>false
section
variable{P:Program}{N:Nat}{G:Mem}{σ:Lab}{Fr:Mem}{w0:Base}{w:World}{st:St}{a:Act}
theorem Xc {G:Mem}:∀(s:List UInt8),RepIs G (s.map Cr) (s.map fun b=>Value.int .u8 b.toNat)
 | []=>by simp[RepIs]
 |b::s=>by
  simp only[List.map_cons,RepIs]
  exact⟨[.int .u8 b.toNat],_,rfl,by simp[Cr,RepI],Xc s⟩
theorem Ahv {G:Mem}:∀{l:List I} {cs:List Value} {r:List UInt8},bytesOf l=some r→RepIs G l cs→r.length=l.length∧∃ns:List Int,cs=ns.map (Value.int .u8)∧r=ns.map fun n=>UInt8.ofNat n.toNat
 | [],cs,r,h,hr=>by
   cases h
   simp only[RepIs]at hr
   exact⟨rfl,[],by simp[hr],rfl⟩
 | .int .u8 n::l,cs,r,h,hr=>by
   simp only[bytesOf]at h
   cases hb:bytesOf l with
   |none=>simp[hb]at h
   |some r'=>
    simp only[hb,Option.some.injEq]at h
    subst h
    simp only[RepIs]at hr
    obtain⟨c,d,rfl,h1,h2⟩:=hr
    simp only[RepI]at h1
    subst h1
    obtain⟨hl,ns,rfl,rfl⟩:=Ahv hb h2
    exact⟨by simp[hl],n::ns,by simp,by simp⟩
theorem A0h:∀(ns:List Int) (s:ByteArray),(ns.foldl (fun r n=>r.push (UInt8.ofNat n.toNat)) s)=⟨⟨s.data.toList++ns.map fun n=>UInt8.ofNat n.toNat⟩⟩
 | [],s=>by simp
 |n::ns,s=>by
  rw[List.foldl_cons,A0h ns]
  simp[ByteArray.push]
theorem Bb9 {o:Oper} {d:Nat} {src dst e:TypeId} {x:Operand} {x':Opd} (hd:o.dst=some d) (ho:o.op= .convert src dst x) (hx:Ax N x x'=true) (ht:A7p P src dst e=true):
 Sound P N o (Bbt d e x'):=by
 intro G σ Fr w0 st a w Q next E hN hr hw hn hdst
 subst hN
 obtain⟨u,h1,hv⟩:=De hr hx hw
 clear hw
 unfold A7p at ht
 simp only[Bool.and_eq_true,decide_eq_true_eq]at ht
 obtain⟨hbig,ht⟩:=ht
 split at ht
 case h_2=>cases ht
 rename_i e' hsrc hdt
 split at ht
 case h_2=>cases ht
 rename_i he
 split at h1
 ·rename_i s
  obtain⟨hc,hlen⟩:=RepV.str.1 hv
  have hrun:=run_bytes_of_string (P:=P) w src dst e' ⟨⟨s⟩⟩ hsrc hdt he
  have hge:=grownCap_ge w s.length 0 e'
  have hle:=grownCap_le_maxLen w s.length 0 e' hlen
  have hsz:(⟨⟨s⟩⟩:ByteArray).size=s.length:=rfl
  rw[hsz]at hrun
  obtain⟨cap,hcap⟩:∃cap,cap=grownCap w s.length 0 e':=⟨_,rfl⟩
  rw[←hcap]at hrun hge hle
  have hrow:(bytesRow ⟨⟨s⟩⟩ cap).toList=(s.map fun b=>Value.int .u8 b.toNat)++List.replicate (cap - s.length) (.int .u8 0):=by
   simp[bytesRow,hsz]
  have hrsz:(bytesRow ⟨⟨s⟩⟩ cap).size=cap:=by
   have:(bytesRow ⟨⟨s⟩⟩ cap).size=(bytesRow ⟨⟨s⟩⟩ cap).toList.length:=by simp
   rw[this,hrow]
   simp
   omega
  obtain⟨σ'',st'',r1,r2⟩:=hr.drew.newBlock (hdst d hd) (sv:=.vec e 1 (s.map Cr)) (o:=.cells (bytesRow ⟨⟨s⟩⟩ cap) e' ((bytesRow ⟨⟨s⟩⟩ cap).size,(bytesRow ⟨⟨s⟩⟩ cap).size+1)) (c:=.slice (some ⟨w.heap.size,0,none⟩) s.length cap) rfl (by intro _ e;cases e)
   (fun σ1 _ hb=>⟨s.map fun b=>Value.int .u8 b.toNat,⟨by simp,.inr ⟨w.heap.size,cap,bytesRow ⟨⟨s⟩⟩ cap,by rw[List.length_map],Nat.zero_le _,⟨e',_,heap_alloc_new w.drew _,.inr (Nat.le_refl _),fun h=>absurd h (Nat.not_lt.2 hbig)⟩,by rw[List.length_map];exact hge,hle,by rw[hrsz,Nat.mul_one],by
     rw[hrow,Nat.mul_one,List.length_map]
     conv=>lhs;rw[←List.length_map (as:=s) (f:=fun b=>Value.int .u8 b.toNat)]
     exact List.take_left⟩⟩,Xc s,by
      intro u hu
      obtain⟨b,_,rfl⟩:=List.mem_map.1 hu
      rfl,fun b hb'=>by cases hb';exact hb⟩) h1
  refine Bv (w':=w.drew.alloc _) ?_ (by rw[hd];exact hn G σ'' st'' _ _ (Mem.le.refl G) r1 r2)
  simp[execOp,ho,hc,hrun]
 ·exact h1.elim
theorem Bbx {o:Oper} {d:Nat} {src dst:TypeId} {x:Operand} {x':Opd} (hd:o.dst=some d) (ho:o.op= .convert src dst x) (hx:Ax N x x'=true) (ht:A59 P src dst=true):
 Sound P N o (A0v d x'):=by
 intro G σ Fr w0 st a w Q next E hN hr hw hn hdst
 subst hN
 unfold A59 at ht
 split at ht
 case h_2=>cases ht
 rename_i e hsrc hdt
 split at ht
 case h_2=>cases ht
 rename_i he
 have run:∀{c:Value} {s:List UInt8},a.eval x=c→(Conv.bytesToString c).run P w= .ok (.string ⟨⟨s⟩⟩) w→(∃ad l cap,c= .slice ad l cap)→(execOp a.eval o).run P w= .ok (.value (.string ⟨⟨s⟩⟩)) w:=by
  rintro c s hc hrun ⟨ad,l,cap,rfl⟩
  have:=run_convert_bytes_string (P:=P) w src dst e ad l cap hsrc he hdt
  rw[hrun]at this
  simp[execOp,ho,hc,this]
 have row:∀{b off cap n:Nat} {bl:Array Value} {ty:TypeId} {fz:Nat × Nat} {l:List I} {cs:List Value} {r:List UInt8},w.heap[b]?=some (.cells bl ty fz)→cs=(bl.toList.drop off).take n→n=l.length→RepIs G l cs→bytesOf l=some r→
  (Conv.bytesToString (.slice (some ⟨b,off,none⟩) n cap)).run P w= .ok (.string ⟨⟨r⟩⟩) w:=by
  intro b off cap n bl ty fz l cs r hb hcs hn hrep hr
  obtain⟨hl,ns,hns,hrs⟩:=Ahv hr hrep
  have hcl:cs.length=n:=by rw[hns,List.length_map,hn, ←hl,hrs,List.length_map]
  have hload:=run_loadCells_list (P:=P) w ⟨b,off,none⟩ cs (fun j v hj=>by
   rw[add_lit,cell_of_row w b (off+j) bl ty fz hb]
   have:bl[off+j]?=bl.toList[off+j]?:=by simp
   rw[this, ←List.getElem?_drop]
   rw[hcs,List.getElem?_take]at hj
   split at hj
   ·exact hj
   ·cases hj)
  rw[hcl]at hload
  have:=run_bytesToString (P:=P) w ⟨b,off,none⟩ n cap ns (by rw[hload,hns])
  rw[this,A0h]
  simp[hrs]
 cases x' with
 |t n=>
  obtain⟨rfl,hnlt⟩:=Dm hx
  simp only[A0v,M.wp]at hw
  cases hs:st[n]? with
  |none=>simp[hs]at hw
  |some cur0=>
   obtain⟨ver,sv⟩:=cur0
   simp only[hs]at hw
   have hrep:=hr.slot hnlt hs
   split at hw
   ·rename_i s k v
    obtain⟨cur,g1,g2,g3⟩:=hrep
    simp only[M.wp,g1]at hw
    obtain⟨hv,hw⟩:=hw
    obtain⟨e',sz',l,g4,g5⟩:=g3 hv
    simp only[g4]at hw
    split at hw
    ·rename_i r hr'
     obtain⟨⟨rfl,hmax⟩,hw⟩:=hw
     obtain⟨xs,h1,h2,h3,h4⟩:=g5
     have hrun:(Conv.bytesToString (a.eval (.tmp n))).run P w= .ok (.string ⟨⟨r⟩⟩) w∧∃ad l cap,a.eval (.tmp n)= .slice ad l cap:=by
      rcases h1.2 with⟨hc,h0⟩|⟨g,cap,cur',hc,_,⟨ty,fz,hg,_⟩,hn',hm,hsz,htk⟩
      ·have hl0:l=[]:=List.eq_nil_of_length_eq_zero h0
       subst hl0
       cases hr'
       rw[hc]
       exact⟨by simp[Conv.bytesToString];rfl,_,_,_,rfl⟩
      ·rw[hc]
       refine⟨row (l:=l) (cs:=xs) hg ?_ rfl h2 hr',_,_,_,rfl⟩
       rw[List.drop_zero, ←htk,Nat.mul_one]
     obtain⟨σ',st',r1,r2⟩:=hr.setNV (hdst d hd) (RepV.str.2 ⟨rfl,hmax⟩) hw
     exact Bv (run rfl hrun.1 hrun.2) (by rw[hd];exact hn G σ' st' _ w (Mem.le.refl G) r1 r2)
    ·exact hw.elim
   ·exact hw.elim
 |_=>exact hw.elim
end

def Ym:List Opd→(List I→M)→M
 | [],k=>k []
 | .t n::r,k=>.get n fun ver sv=>match sv with
   | .box (.one (.i x))=>.set n (ver+1) (.rp x) (Ym r fun xs=>k (x::xs))
   | .rp x=>Ym r fun xs=>k (x::xs)
   |_=>.fail
 |_::_,_=>.fail
def Bbp (d:Nat) (f:FuncId) (caps:List Opd):M:=Ym caps fun xs=>C2 d (.v (.clo f xs))
def Afo (N:Nat):List Operand→List Opd→Bool
 | [],[]=>true
 |x::l,y::m=>Ax N x y&&Afo N l m
 |_,_=>false
section
variable{P:Program}{N:Nat}{G:Mem}{σ:Lab}{Fr:Mem}{w0:Base}{w:World}{st:St}{a:Act}
theorem Rel.freezeBox {s ver ver':Nat} {x:I} (h:Rel G σ Fr w0 st a w) (hs:st[s]?=some (ver,.box (.one (.i x)))) (hlt:ver<ver'):
 ∃G' σ',G.le G'∧Rel G' σ' Fr w0 (st.set s (ver',.rp x)) a w∧RepRp G' x (val a w0 s):=by
 have hG:=Mem.fix_le h.wok (s,0)
 have hold:RepOwn G σ w s (.box (.one (.i x))) (val a w0 s):=h.slots s ver _ hs
 have hrp:RepRp (G.fix σ w (s,0)) x (val a w0 s):=by
  obtain⟨b,cells,ty,h1,h2,h3,h4⟩:=hold
  exact⟨b,0,cells,ty,(0,0),[],cells.toList,[],h1,by rw[Mem.fix_here h2];exact h3,by simp,rfl,RepI.mono hG x _ h4⟩
 refine⟨G.fix σ w (s,0),σ.lose (s,0),hG,?_,hrp⟩
 have hok:WOk (G.fix σ w (s,0)) (σ.lose (s,0)) Fr w0 w:=by
  refine⟨?_,?_,?_,h.wok.frame,h.wok.os,h.wok.tape,h.wok.output,h.wok.size,?_,Amb.mono hG h.wok.amb⟩
  rotate_right
  ·intro b o hb
   unfold Mem.fix
   rw[if_neg (by intro e;have:=(h.wok.own b _ e).2.1;rw[hb]at this;cases this)]
   exact h.wok.apart b o hb
  ·intro b o hb
   unfold Mem.fix at hb
   split at hb
   ·exact hb
   ·exact h.wok.fixed b o hb
  ·intro b lab hb
   obtain⟨h1,h2⟩:=Lab.lose_some.1 hb
   obtain⟨h3,h4,h5⟩:=h.wok.own b lab h2
   refine⟨?_,h4,h5⟩
   unfold Mem.fix
   rw[if_neg (by rw[h2];intro e;cases e;exact h1 rfl)]
   exact h3
  ·intro b b' lab hb hb'
   exact h.wok.inj b b' lab (Lab.lose_some.1 hb).2 (Lab.lose_some.1 hb').2
 exact Rel.self (new:=.rp x) (ver:=ver') h hok hG hs hlt (fun s' hs' b k' hb=>⟨Lab.lose_some.2 ⟨fun e=>hs' (by cases e;rfl),hb⟩,rfl⟩) hrp
theorem RepPs.cons {G:Mem} {x:I} {p:Value} {l:List I} {r:List Value} (h:RepRp G x p) (hl:RepPs G l r):RepPs G (x::l) (p::r):=by
 obtain⟨b,off,bl,ty,fz,pre,cs,post,h1,h2,h3,h4,h5⟩:=h
 simp only[RepPs]
 exact⟨p,r,b,off,bl,ty,fz,pre,cs,post,rfl,h1,h2,h3,h4,h5,hl⟩
theorem Yn {Q:St→Prop}:∀{xs:List Operand} {ys:List Opd} {k:List I→M} {G:Mem} {σ:Lab} {st:St},Rel G σ Fr w0 st a w→Afo w0.n xs ys=true→(Ym ys k).wp P Q st→
 ∃us G' σ' st',G.le G'∧Rel G' σ' Fr w0 st' a w∧(k us).wp P Q st'∧RepPs G' us (xs.map a.eval)
 | [],[],k,G,σ,st,hr,_,hq=>⟨[],G,σ,st,Mem.le.refl G,hr,hq,by simp[RepPs]⟩
 |x::xs,y::ys,k,G,σ,st,hr,ho,hq=>by
  simp only[Afo,Bool.and_eq_true]at ho
  cases y with
  |t n=>
   obtain⟨rfl,hnlt⟩:=Dm ho.1
   simp only[Ym,M.wp]at hq
   cases hs:st[n]? with
   |none=>simp[hs]at hq
   |some cur=>
    obtain⟨ver,sv⟩:=cur
    simp only[hs]at hq
    have hval:val a w0 n=a.eval (.tmp n):=Ez (by rw[hr.n];exact hnlt)
    split at hq
    ·rename_i u
     obtain⟨G1,σ1,h1,h2,h3⟩:=hr.freezeBox hs (Nat.lt_succ_self ver)
     obtain⟨us,G2,σ2,st2,g1,g2,g3,g4⟩:=Yn h2 ho.2 hq
     rw[hval]at h3
     exact⟨u::us,G2,σ2,st2,h1.trans g1,g2,g3,RepPs.cons (RepRp.mono g1 h3) g4⟩
    ·rename_i u
     have h3:RepRp G u (a.eval (.tmp n)):=hr.slot hnlt hs
     obtain⟨us,G2,σ2,st2,g1,g2,g3,g4⟩:=Yn hr ho.2 hq
     exact⟨u::us,G2,σ2,st2,g1,g2,g3,RepPs.cons (RepRp.mono g1 h3) g4⟩
    ·exact hq.elim
  |c _=>exact hq.elim
  |nils _ _=>exact hq.elim
 | [],_::_,_,_,_,_,_,ho,_=>by cases ho
 |_::_,[],_,_,_,_,_,ho,_=>by simp[Afo]at ho
theorem Bb5 {o:Oper} {d:Nat} {f:FuncId} {captured:Array Operand} {caps:List Opd} (hd:o.dst=some d) (ho:o.op= .makeFunc (.func f) #[] captured) (hc:Afo N captured.toList caps=true):
 Sound P N o (Bbp d f caps):=by
 intro G σ Fr w0 st a w Q next E hN hr hw hn hdst
 subst hN
 obtain⟨us,G1,σ1,st1,h1,h2,h3,h4⟩:=Yn hr hc hw
 have hv:RepV G1 (.clo f us) (.func (.func f) #[] (captured.map a.eval)):=by
  unfold RepV
  rw[if_neg (by simp[I.isAgg])]
  simp only[RepI]
  refine⟨captured.toList.map a.eval,?_,h4⟩
  congr 2
  apply Array.ext'
  simp
 obtain⟨σ',st',r1,r2⟩:=h2.setNV (hdst d hd) hv h3
 refine Bv (v:=.func (.func f) #[] (captured.map a.eval)) (w':=w) ?_ (by rw[hd];exact hn G1 σ' st' _ w h1 r1 r2)
 simp[execOp,ho,Instr.makeFunc]
end

section
variable{P:Program}{N:Nat}{G:Mem}{σ:Lab}{Fr:Mem}{w0:Base}{w:World}{st:St}{a:Act}
theorem WOk.room (h:WOk G σ Fr w0 w) (s:Nat):∃K,∀b k,σ b=some (s,k)→k<K:=by
 have aux:∀n,∃K,∀b,b<n→∀k,σ b=some (s,k)→k<K:=by
  intro n
  induction n with
  |zero=>exact⟨0,fun b hb=>by omega⟩
  |succ n ih=>
   obtain⟨K,hK⟩:=ih
   cases hn:σ n with
   |none=>exact⟨K,fun b hb k hk=>by
    rcases Nat.lt_succ_iff_lt_or_eq.1 hb with h|rfl
    ·exact hK b h k hk
    ·rw[hn]at hk;cases hk⟩
   |some p=>exact⟨max K (p.2+1),fun b hb k hk=>by
    rcases Nat.lt_succ_iff_lt_or_eq.1 hb with h|rfl
    ·have:=hK b h k hk;omega
    ·rw[hn]at hk;cases hk;simp only;omega⟩
 obtain⟨K,hK⟩:=aux w.heap.size
 exact⟨K,fun b k hb=>hK b (h.own b _ hb).2.2 k hb⟩
def Lab.adopt (σ:Lab) (s K:Nat) (bs:List Nat):Lab:=fun b=>if b∈bs then some (s,K+bs.idxOf b)else σ b
theorem Lab.adopt_new {s K:Nat} {bs:List Nat} {b:Nat} (h:b∈bs):σ.adopt s K bs b=some (s,K+bs.idxOf b):=by simp[Lab.adopt,h]
theorem Lab.adopt_old {s K:Nat} {bs:List Nat} {b:Nat} (h:b ∉ bs):σ.adopt s K bs b=σ b:=by simp[Lab.adopt,h]
theorem Auc {bs:List Nat} {b b':Nat} (h:b∈bs) (h':b'∈bs) (e:bs.idxOf b=bs.idxOf b'):b=b':=by
 have h1:=List.getElem_idxOf (List.idxOf_lt_length_of_mem h)
 have h2:=List.getElem_idxOf (List.idxOf_lt_length_of_mem h')
 rw[←h1, ←h2]
 simp only[e]
theorem WOk.adopt {s K:Nat} {bs:List Nat} (h:WOk G σ Fr w0 w) (hK:∀b k,σ b=some (s,k)→k<K) (hf:∀b∈bs,G b=none∧Fr b=none∧b<w.heap.size):WOk G (σ.adopt s K bs) Fr w0 w:=by
 refine⟨h.fixed,?_,?_,h.frame,h.os,h.tape,h.output,h.size,h.apart,h.amb⟩
 ·intro b lab hb
  by_cases hm:b∈bs
  ·exact hf b hm
  ·rw[Lab.adopt_old hm]at hb
   exact h.own b lab hb
 ·intro b b' lab hb hb'
  by_cases hm:b∈bs<;>by_cases hm':b'∈bs
  ·rw[Lab.adopt_new hm]at hb
   rw[Lab.adopt_new hm']at hb'
   rw[←hb']at hb
   simp only[Option.some.injEq,Prod.mk.injEq,true_and]at hb
   exact Auc hm hm' (by omega)
  ·rw[Lab.adopt_new hm]at hb
   rw[Lab.adopt_old hm', ←hb]at hb'
   have:=hK _ _ hb'
   omega
  ·rw[Lab.adopt_old hm]at hb
   rw[Lab.adopt_new hm']at hb'
   obtain rfl:=Option.some.inj hb'
   have:=hK _ _ hb
   omega
  ·rw[Lab.adopt_old hm]at hb
   rw[Lab.adopt_old hm']at hb'
   exact h.inj b b' lab hb hb'
def FreeD (G:Mem) (σ:Lab) (Fr:Mem) (w:World) (u:D) (c:Value):Prop:=
 ∃bs,RepD G w u c.cells.toList bs∧valOf u.isAgg c=true∧bs.Nodup∧∀b∈bs,G b=none∧Fr b=none∧σ b=none∧b<w.heap.size
theorem FreeD.item {u:I} {c:Value} (h:RepV G u c):FreeD G σ Fr w (.it u) c:=by
 refine⟨[],?_,?_,List.nodup_nil,by simp⟩
 ·simp only[RepD,and_true]
  exact h.cells
 ·unfold RepV at h
  simp only[D.isAgg]
  split at h
  ·rename_i hx
   obtain⟨cs,rfl,_⟩:=h
   rw[hx];rfl
  ·rename_i hx
   rw[show u.isAgg=false by simpa using hx]
   have:=RepI.one _ _ h c (by simp)
   cases c<;>first|rfl|(simp[Value.oneCell']at this)
end

section
variable{P:Program}{N:Nat}{G:Mem}{σ:Lab}{Fr:Mem}{w0:Base}{w:World}{st:St}{a:Act}
theorem Akb {fz:Nat × Nat} {t:TypeId} {agg:Bool} {b off:Nat} {bl:Array Value} {ty:TypeId} {pre cs post:List Value} {v:Value} (h:tyOk P t agg cs.length=true)
 (hh:w.heap[b]?=some (.cells bl ty fz)) (hfz:fz=(0,0)∨bl.size≤fz.1) (hs:bl.toList=pre++cs++post) (hp:pre.length=off) (h1:∀c∈v.cells.toList,c.oneCell'=true) (hlen:v.cells.toList.length=cs.length):
 (storeVar t ⟨b,off,none⟩ v).run P w= .ok () (w.setRow b (pre++v.cells.toList++post).toArray):=by
 obtain⟨_,h2⟩:=P0 h w
 have hblen:bl.size=pre.length+cs.length+post.length:=by
  have:bl.size=bl.toList.length:=by simp
  rw[this,hs]
  simp
  omega
 have hst:=Ji P b off ty fz v.cells.toList 0 bl w hh hfz (by rw[hlen,hblen,hp];omega) h1
 have e1:bl.toList.take (off+0)=pre:=by rw[hs,List.append_assoc,Nat.add_zero, ←hp,List.take_left]
 have e2:bl.toList.drop (off+0+v.cells.toList.length)=post:=by
  rw[hs,hlen,Nat.add_zero, ←hp, ←List.length_append,List.drop_left]
 rw[e1,e2]at hst
 have hsz:v.cells.size=cs.length:=by rw[←hlen];simp
 simp[storeVar,h2,hsz,hst]
theorem Rel.setPlace {s cur:Nat} {inv p:List Nat} {t t' u u':D} {tt:TypeId} {agg:Bool} {c cv:Value} (h:Rel G σ Fr w0 st a w) (hs:st[s]?=some (cur,.own inv t)) (hat:t.at p=some u) (hput:t.put p u'=some t')
 (hfree:FreeD G σ Fr w u' cv) (hag:u'.isAgg=u.isAgg) (hsz:u'.size=u.size) (hpt:PtD w t (val a w0 s) p c) (ht:tyOk P tt agg u.size=true):
 ∃b o w' σ',c= .pointer (some ⟨b,o,none⟩)∧(storeVar tt ⟨b,o,none⟩ cv).run P w= .ok () w'∧
  Rel G σ' Fr w0 (st.set s (cur+1,.own (if u.leaf then inv else bump inv p.length (cur+1)) t')) a w':=by
 obtain⟨bs,hrep,hva,hnd,hlab⟩:=show OwnD G σ w s t (val a w0 s)from h.slots s cur _ hs
 obtain⟨m,s',ubs,f1,f2,f3,f4,f5,f6⟩:=focus (here:=none) hrep hnd hat
 obtain⟨u0,b,o,cs,p1,p2,rfl⟩:=hpt
 rw[f1]at p2
 obtain rfl:=Option.some.inj p2
 have hp0:p≠[]:=by
  rintro rfl
  simp only[spot,Option.some.injEq,Prod.mk.injEq]at f1
  cases f1.1
 obtain⟨ubs',g1,g2,g3,g4⟩:=hfree
 have hcl:cs.length=u.size:=RepD.length f2
 have hvl:cv.cells.toList.length=cs.length:=by rw[RepD.length g1,hsz,hcl]
 cases m with
 |inl pre post=>obtain⟨_,e⟩:=f5;cases e
 |val=>cases f5
 |blk g pre post ty fz=>
  obtain⟨q1,q2,⟨row,q3,q4,q5⟩,q6⟩:=f5
  simp only[Option.some.injEq,Prod.mk.injEq]at q6
  obtain⟨rfl,rfl⟩:=q6
  simp only at q5
  have hrun:=Akb (P:=P) (cs:=cs) (v:=cv) (t:=tt) (agg:=agg) (by rw[hcl];exact ht) q3 q4 q5 rfl (RepD.one g1) hvl
  obtain⟨kb,hkb⟩:=hlab b q1
  have hbu:b ∉ ubs':=fun hb=>by
   have:=(g4 b hb).2.2.1
   rw[hkb]at this
   cases this
  have hub:∀x∈ubs',x ∉ bs:=fun x hx hb=>by
   obtain⟨k,hk⟩:=hlab x hb
   have:=(g4 x hx).2.2.1
   rw[hk]at this
   cases this
  have hset:(w.setRow b (pre++cv.cells.toList++post).toArray).heap[b]?=some (.cells (pre++cv.cells.toList++post).toArray ty fz):=setRow_heap w b row _ ty fz q3
  have hoth:∀x,x≠b→(w.setRow b (pre++cv.cells.toList++post).toArray).heap[x]?=w.heap[x]?:=fun x hx=>setRow_other w b x _ hx
  obtain⟨bs',r1,r2,r3,r4,r5⟩:=f6 G (w.setRow b (pre++cv.cells.toList++post).toArray) u' cv.cells.toList ubs' t' (Mem.le.refl G) hvl hag
   (g1.tr (Mem.le.refl G) fun x hx=>hoth x fun e=>hbu (e ▸ hx)) g3 (fun x hx=>.inr (hub x hx)) ⟨hset,fun x _ _ hxb=>hoth x hxb⟩ hput
  rw[if_neg hp0]at r4
  obtain⟨K,hK⟩:=h.wok.room s
  have hold:∀x k,σ x=some k→σ.adopt s K ubs' x=some k:=fun x k hx=>by
   rw[Lab.adopt_old]
   ·exact hx
   ·intro hm
    have:=(g4 x hm).2.2.1
    rw[hx]at this
    cases this
  refine⟨b,pre.length,_,σ.adopt s K ubs',rfl,hrun,?_⟩
  have hwok:=(h.wok.setRow hkb (pre++cv.cells.toList++post).toArray).adopt (s:=s) (K:=K) (bs:=ubs') hK fun x hx=>by
   obtain⟨k1,k2,_,k4⟩:=g4 x hx
   exact⟨k1,k2,by simpa[World.setRow]using k4⟩
  obtain⟨hpd,hbd⟩:=Focus.refs (G:=G) (inv:=inv) (cur:=cur) r5
  refine h.tree hwok (Mem.le.refl G) hs (Nat.lt_succ_self _) ?_ (fun _ x k hx=>hold x _ hx) ?_ hpd hbd
  ·intro s1 hs1 x k hx
   exact⟨hold x _ hx,hoth x fun e=>by rw[e,hkb]at hx;cases hx;exact hs1 rfl⟩
  ·refine⟨bs',r1,by rw[r4];exact hva,r2,fun x hx=>?_⟩
   rcases(r3 x).1 hx with⟨h1,_⟩|h1
   ·obtain⟨k,hk⟩:=hlab x h1
    exact⟨k,hold x _ hk⟩
   ·exact⟨_,Lab.adopt_new h1⟩
end

def rdD (x:Opd) (k:(s cur:Nat)→(inv:List Nat)→D→List Nat→M):M:=match x with
 | .t n=>.get n fun ver sv=>match sv with
   | .own inv t=>match t with
     | .ptr t=>k n ver inv (.ptr t) [0]
     |_=>.fail
   | .pd s v p=>.get s fun cur sv'=>match sv' with
     | .own inv t=>.need (p≠[]∧alive v inv p.length=true) fun _=>k s cur inv t p
     |_=>.fail
   | .par h=>.get h fun cur sv'=>match sv' with
     | .own inv t=>match t with
       | .ptr t=>k h cur inv (.ptr t) [0]
       |_=>.fail
     |_=>.fail
   |_=>.fail
 |_=>.fail
def rdH (x:Opd) (k:(s cur:Nat)→(inv:List Nat)→D→List Nat→M):M:=match x with
 | .t n=>.get n fun ver sv=>match sv with
   | .own inv t=>.need (t.head=true) fun _=>k n ver inv t []
   | .bd s v p=>.get s fun cur sv'=>match sv' with
     | .own inv t=>.need (alive v inv (p.length+1)=true) fun _=>k s cur inv t p
     |_=>.fail
   | .par h=>.get h fun cur sv'=>match sv' with
     | .own inv t=>.need (t.head=true) fun _=>k h cur inv t []
     |_=>.fail
   |_=>.fail
 |_=>.fail
section
variable{P:Program}{N:Nat}{G:Mem}{σ:Lab}{Fr:Mem}{w0:Base}{w:World}{st:St}{a:Act}
theorem Afr {x:Operand} {y:Opd} {k:(s cur:Nat)→(inv:List Nat)→D→List Nat→M} {Q:St→Prop} (h:Rel G σ Fr w0 st a w) (ho:Ax w0.n x y=true) (hq:(rdD y k).wp P Q st):
 ∃s cur inv t p,(k s cur inv t p).wp P Q st∧st[s]?=some (cur,.own inv t)∧p≠[]∧PtD w t (val a w0 s) p (a.eval x):=by
 cases y with
 |c _=>exact hq.elim
 |nils _ _=>exact hq.elim
 |t n=>
  obtain⟨rfl,hnlt⟩:=Dm ho
  simp only[rdD,M.wp]at hq
  cases hs:st[n]? with
  |none=>simp[hs]at hq
  |some cur=>
   obtain⟨ver,sv⟩:=cur
   simp only[hs]at hq
   have hrep:=h.slot hnlt hs
   have hv:val a w0 n=a.eval (.tmp n):=Ez (by rw[h.n];exact hnlt)
   cases sv with
   |own inv t=>
    cases t with
    |ptr t=>exact⟨n,ver,inv,_,[0],hq,hs,by simp,by rw[hv];exact OwnD.pt hrep⟩
    |_=>exact hq.elim
   |pd s v p=>
    obtain⟨cur,h1,h2,h3⟩:=hrep
    simp only[M.wp,h1]at hq
    obtain⟨cv,csv⟩:=cur
    cases csv with
    |own inv t=>
     obtain⟨⟨hp,ha⟩,hq⟩:=hq
     exact⟨s,cv,inv,t,p,hq,h1,hp,h3 inv t rfl hp ha⟩
    |_=>exact hq.elim
   |par hh=>
    obtain⟨hv',hle⟩:=h.pars n ver hh hs
    rw[hv]at hv'
    simp only[M.wp]at hq
    cases h1:st[hh]? with
    |none=>simp[h1]at hq
    |some cur=>
     obtain⟨cv,csv⟩:=cur
     simp only[h1]at hq
     have hrep':=h.slots hh cv csv h1
     cases csv with
     |own inv t=>
      cases t with
      |ptr t=>exact⟨hh,cv,inv,_,[0],hq,h1,by simp,by rw[hv'];exact OwnD.pt hrep'⟩
      |_=>exact hq.elim
     |_=>exact hq.elim
   |_=>exact hq.elim
theorem Bhh {x:Operand} {y:Opd} {k:(s cur:Nat)→(inv:List Nat)→D→List Nat→M} {Q:St→Prop} (h:Rel G σ Fr w0 st a w) (ho:Ax w0.n x y=true) (hq:(rdH y k).wp P Q st):
 ∃s cur inv t p,(k s cur inv t p).wp P Q st∧st[s]?=some (cur,.own inv t)∧HdD w t (val a w0 s) p (a.eval x):=by
 cases y with
 |c _=>exact hq.elim
 |nils _ _=>exact hq.elim
 |t n=>
  obtain⟨rfl,hnlt⟩:=Dm ho
  simp only[rdH,M.wp]at hq
  cases hs:st[n]? with
  |none=>simp[hs]at hq
  |some cur=>
   obtain⟨ver,sv⟩:=cur
   simp only[hs]at hq
   have hrep:=h.slot hnlt hs
   have hv:val a w0 n=a.eval (.tmp n):=Ez (by rw[h.n];exact hnlt)
   cases sv with
   |own inv t=>
    obtain⟨hh,hq⟩:=hq
    exact⟨n,ver,inv,_,[],hq,hs,by rw[hv];exact OwnD.hd hrep hh⟩
   |bd s v p=>
    obtain⟨cur,h1,h2,h3⟩:=hrep
    simp only[M.wp,h1]at hq
    obtain⟨cv,csv⟩:=cur
    cases csv with
    |own inv t=>
     obtain⟨ha,hq⟩:=hq
     exact⟨s,cv,inv,t,p,hq,h1,h3 inv t rfl ha⟩
    |_=>exact hq.elim
   |par hh=>
    obtain⟨hv',hle⟩:=h.pars n ver hh hs
    rw[hv]at hv'
    simp only[M.wp]at hq
    cases h1:st[hh]? with
    |none=>simp[h1]at hq
    |some cur=>
     obtain⟨cv,csv⟩:=cur
     simp only[h1]at hq
     have hrep':=h.slots hh cv csv h1
     cases csv with
     |own inv t=>
      obtain⟨hh',hq⟩:=hq
      exact⟨hh,cv,inv,_,[],hq,h1,by rw[hv'];exact OwnD.hd hrep' hh'⟩
     |_=>exact hq.elim
   |_=>exact hq.elim
theorem PtD.block {s:Nat} {t u:D} {cr c:Value} {p:List Nat} (ho:OwnD G σ w s t cr) (hat:t.at p=some u) (h:PtD w t cr p c):
 ∃b off bl ty fz pre cs post ubs,c= .pointer (some ⟨b,off,none⟩)∧w.heap[b]?=some (.cells bl ty fz)∧bl.toList=pre++cs++post∧pre.length=off∧RepD G w u cs ubs∧ubs.Nodup∧
  spot w p t (none,cr.cells.toList)=some (some (b,off),cs):=by
 obtain⟨bs,hrep,hva,hnd,hlab⟩:=ho
 obtain⟨m,s',ubs,f1,f2,f3,f4,f5,f6⟩:=focus (here:=none) hrep hnd hat
 obtain⟨u0,b,o,cs,p1,p2,rfl⟩:=h
 have p2':=p2
 rw[f1]at p2
 obtain rfl:=Option.some.inj p2
 cases m with
 |inl pre post=>obtain⟨_,e⟩:=f5;cases e
 |val=>cases f5
 |blk g pre post ty fz=>
  obtain⟨q1,q2,⟨row,q3,q4,q5⟩,q6⟩:=f5
  simp only[Option.some.injEq,Prod.mk.injEq]at q6
  obtain⟨rfl,rfl⟩:=q6
  exact⟨b,_,row,ty,fz,pre,cs,post,ubs,rfl,q3,q5,rfl,f2,f3,p2'⟩
theorem HdD.read {s:Nat} {t u:D} {cr c:Value} {p:List Nat} (ho:OwnD G σ w s t cr) (hat:t.at p=some u) (h:HdD w t cr p c):∃hh ubs,RepD G w u [c] ubs∧ubs.Nodup∧spot w p t (none,cr.cells.toList)=some (hh,[c]):=by
 obtain⟨bs,hrep,hva,hnd,hlab⟩:=ho
 obtain⟨m,s',ubs,f1,f2,f3,f4,f5,f6⟩:=focus (here:=none) hrep hnd hat
 obtain⟨u0,hh,p1,p0,p2⟩:=h
 have p2':=p2
 rw[f1]at p2
 obtain rfl:=Option.some.inj p2
 exact⟨hh,ubs,f2,f3,p2'⟩
theorem Uk:∀{p:List Nat} {t u:D} {i:Nat},t.at p=some u→t.at (p++[i])=u.kid i
 | [],t,u,i,h=>by
   simp only[D.at,Option.some.injEq]at h
   subst h
   simp only[List.nil_append,D.at]
   cases t.kid i<;>rfl
 |j::p,t,u,i,h=>by
  simp only[D.at]at h
  simp only[List.cons_append,D.at]
  cases hk:t.kid j with
  |none=>simp[hk]at h
  |some y=>simp only[hk]at h;exact Uk h
theorem Qb:∀{p:List Nat} {t u y:D} {i:Nat} {z z':Spot},t.at p=some u→spot w p t z=some z'→u.kid i=some y→spot w (p++[i]) t z=B9 w u z' i
 | [],t,u,y,i,z,z',h,hz,hy=>by
   simp only[D.at,Option.some.injEq]at h
   simp only[spot,Option.some.injEq]at hz
   subst h hz
   simp only[List.nil_append,spot,hy]
   cases B9 w t z i<;>rfl
 |j::p,t,u,y,i,z,z',h,hz,hy=>by
  simp only[D.at]at h
  simp only[spot]at hz
  simp only[List.cons_append,spot]
  cases hk:t.kid j with
  |none=>simp[hk]at h
  |some y0=>
   simp only[hk]at h hz ⊢
   cases hks:B9 w t z j with
   |none=>simp[hks]at hz
   |some z0=>
    simp only[hks]at hz ⊢
    exact Qb h hz hy
end
end Go.Ab
