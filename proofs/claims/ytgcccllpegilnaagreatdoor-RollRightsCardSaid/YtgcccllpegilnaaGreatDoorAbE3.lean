/- Lemmas -/
import Derived.Test.YtgcccllpegilnaaGreatDoorAb14x
import Derived.Laws.IdiomStrings
import Derived.Laws.BytesString
set_option linter.unusedVariables false
set_option linter.unusedSimpArgs false
namespace Go.Ab
def A0t(d:Option Nat)(sz len:Nat)(x i:Ar):M:=Gx i fun n=>match n with
 | .int _ n=>rdP x (fun s k ver o r=>.Ba (0≤n∧n.toNat<len∧d≠some s) fun _=>.get s fun cur _=>.Ba (ver=cur) fun _=>A9 d (.pt s k ver (o+n.toNat*sz) (r++[n.toNat])) .done)
   (fun y=>match y with
     | .arr Bs l=>match l[n.toNat]? with
       |some u=>.Ba (0≤n∧n.toNat<len∧Bs=sz) fun _=>A9 d (.rp u) .done
       |none=>.fail
     |_=>.fail)
 |_=>.fail
def Ao3(P:Program)(t:TypeId)(sz len:Nat):Bool:=match P.underlying t with
 |some (.array n e)=>match P.info? e with
  |some i=>i.size==sz&&n==len
  |none=>false
 |_=>false
section
variable{P:Program}{N:Nat}{G:Mem}{σ:Lab}{Fr:Mem}{w0:Base}{w:World}{st:St}{a:Act}
theorem Aci{t:TypeId}{sz len b o:Nat}{k:IntKind}{n:Int}(h:Ao3 P t sz len=true)(w:World)(h0:0≤n)(h1:n.toNat<len):
 (Instr.indexAt t (.pointer (some ⟨b,o,none⟩)) (.int k n)).run P w= .ok (.pointer (some ⟨b,o+n.toNat*sz,none⟩)) w:=by
 unfold Ao3 at h;split at h
 ·rename_i m e hu;split at h
  ·rename_i i hi;simp only[Bool.and_eq_true,beq_iff_eq]at h;obtain⟨h2,rfl⟩:=h;have hn:0≤n∧n<(m:Int):=⟨h0,by omega⟩
   simp[Instr.indexAt,asIntOf,run_underlying hu,hn,sizeOf,typeInfo,hi,h2,add_lit,Instr.sureAddr]
  ·cases h
 ·cases h
theorem A3e{o:Oper}{t:TypeId}{x i:Operand}{x' i':Ar}{sz len:Nat}(ho:o.op= .indexAddr t x i)(hx:Ax N x x'=true)(hi:Ax N i i'=true)(ht:Ao3 P t sz len=true):
 Sound P N o (A0t o.dst sz len x' i'):=by
 intro G σ Fr w0 st a w Q next E hN hr hw hn Au
 subst hN;obtain⟨n,h1,Y6⟩:=De hr hi hw;clear hw;split at h1
 ·rename_i k n;rw[Aq.int]at Y6;rcases Ahf hr hx h1 with⟨s,kk,ver,of,r,cur,h1,hs,hp⟩|⟨u,h1,hp⟩
  ·simp only[M.wp,hs]at h1;obtain⟨⟨h0,Bb,Aw⟩,Se,h1⟩:=h1;obtain⟨b,hb,hpp⟩:=hp Se;obtain⟨σ',Af,r1,r2⟩:=hr.Amd Au hs Aw Se hb h1;refine Bv (w':=w) ?_ (hn G σ' Af _ w (Mem.le.refl G) r1 r2);simp[execOp,ho,hpp,Y6,Aci ht w h0 Bb]
  ·split at h1
   ·rename_i Bs l;split at h1
    ·rename_i u hu;obtain⟨⟨h0,Bb,rfl⟩,h1⟩:=h1;obtain⟨b,of,bl,ty,fz,pre,cs,post,p1,p2,p3,p4,p5⟩:=hp;obtain⟨p5,p6⟩:=p5;obtain⟨c1,c,c2,e1,e2,e3,_⟩:=A0.nth n.toNat p5 hu;have Tp:Ck (l.take n.toNat)=n.toNat*Bs:=by
      have An0:n.toNat<l.length:=(List.getElem?_eq_some_iff.1 hu).1;rw[Dc (sz:=Bs) fun z hz=>p6 z (List.mem_of_mem_take hz),List.length_take,Nat.min_eq_left (Nat.le_of_lt An0)]
     obtain⟨σ',Af,r1,r2⟩:=hr.A9 Au (sv:=.rp u) (c:=.pointer (some ⟨b,of+n.toNat*Bs,none⟩))
      (fun _ _ _ _=>⟨b,_,bl,ty,fz,pre++c1,c,c2++post,rfl,p2,by simp[p3,e1],by simp[p4,e2,Tp],e3⟩) h1
     refine Bv (w':=w) ?_ (hn G σ' Af _ w (Mem.le.refl G) r1 r2);simp[execOp,ho,p1,Y6,Aci ht w h0 Bb]
    ·exact h1.elim
   ·exact h1.elim
 ·exact h1.elim
end

def A08(d:Option Nat)(sz:Nat)(x lo:Ar):M:=match x with
 | .t n=>.get n fun _ sv=>match sv with
   | .E0 s k v=>.get s fun cur C9=>.Ba (v=cur) fun _=>match C9.Cx k with
     |some (_,Bs,l)=>Gx lo fun i=>match i with
      | .int _ i=>.Ba (Bs=sz∧0≤i∧i.toNat≤l.length∧d≠some s) fun _=>A9 d (.Kk s k v i.toNat) .done
      |_=>.fail
     |none=>.fail
   |_=>.fail
 |_=>.fail
def A0x(d:Option Nat)(sz:Nat)(z:I)(x:Ar):M:=match x with
 | .t n=>.get n fun _ sv=>match sv with
   | .Kk s 0 v m=>.get s fun cur C9=>.Ba (v=cur) fun _=>match C9 with
     | .vec e Bs l=>.Ba (Bs=sz) fun _=>.set s (cur+1) (.vec e Bs (l.take m++List.replicate (l.length - m) z)) (A9 d (.Dv []) .done)
     |_=>.fail
   |_=>.fail
 |_=>.fail
def A6c(P:Program)(t:TypeId)(sz:Nat)(z:I):Bool:=match P.underlying t with
 |some (.slice e)=>match P.info? e with
  |some i=>i.size==sz&&z.size==sz&&match i.zero with
   |some v=>v.cells.size==sz&&match zI z v.cells.toList with
    |some []=>true
    |_=>false
   |none=>false
  |none=>false
 |_=>false
section
variable{P:Program}{N:Nat}{G:Mem}{σ:Lab}{Fr:Mem}{w0:Base}{w:World}{st:St}{a:Act}
theorem Bca{o:Oper}{t:TypeId}{x lo:Operand}{x' Ra:Ar}{sz:Nat}(ho:o.op= .slice t x (some lo) none none)(hx:Ax N x x'=true)(hl:Ax N lo Ra=true)(ht:Hv P t sz=true):
 Sound P N o (A08 o.dst sz x' Ra):=by
 intro G σ Fr w0 st a w Q next E hN hr hw hn Au
 subst hN;cases x' with
 |t n=>
  obtain⟨rfl,Cm⟩:=Dm hx;simp only[A08,M.wp]at hw;cases hs:st[n]? with
  |none=>simp[hs]at hw
  |some Af8=>
   obtain⟨ver,sv⟩:=Af8;simp only[hs]at hw;have Ay:=hr.slot Cm hs;split at hw
   ·rename_i s k v;obtain⟨cur,g1,g2,g3⟩:=Ay;simp only[M.wp,g1]at hw;obtain⟨hv,hw⟩:=hw;obtain⟨e',Bs,l,g4,g5⟩:=g3 hv;simp only[g4]at hw;obtain⟨i,h1,hi⟩:=De hr hl hw;split at h1
    ·rename_i kd i;rw[Aq.int]at hi;obtain⟨⟨rfl,h0,hle,Aw⟩,h1⟩:=h1;obtain⟨ad,cap,hc,hlm⟩:=g5.len;have K9:l.length≤cap:=by
      obtain⟨xs,q1,_⟩:=g5;rcases q1.2 with⟨q2,q3⟩|⟨g,Ta,cur,q2,_,_,q3,_⟩
      ·omega
      ·rw[hc]at q2;cases q2;exact q3
     have hb:=F7 (P:=P) (a:=a) (isSlice:=true) (len:=l.length) (cap:=cap) (lo:=some lo) (hi:=none) (i:=i) (j:=(l.length:Int)) w (.inr ⟨lo,kd,rfl,hi⟩) (.inl ⟨rfl,rfl⟩) h0 (by omega) (Int.le_refl _) K9
     have Ei:∃e i0,P.underlying t=some (.slice e)∧P.info? e=some i0∧i0.size=Bs:=by
      unfold Hv at ht;split at ht
      ·rename_i e hu;split at ht
       ·rename_i i0 Mv;simp only[Bool.and_eq_true,beq_iff_eq]at ht;exact⟨e,i0,hu,Mv,ht.1⟩
       ·cases ht
      ·cases ht
     obtain⟨e,i0,hu,Mv,Bk⟩:=Ei;obtain⟨σ',Af,r1,r2⟩:=hr.A9 Au (sv:=.Kk s k v i.toNat) (c:=.slice (if cap=i.toNat then ad else ad.map (·.add (i.toNat*Bs))) (l.length - i.toNat) (cap - i.toNat)) (fun d' hd Bo _=>by
      refine⟨cur,by rw[List.getElem?_set_ne (by rintro rfl;exact Aw hd)];exact g1,g2,fun _=>⟨e',Bs,l,a.eval (.tmp n),g4,?_,⟨ad,cap,hc,hle,K9,rfl⟩⟩⟩
      exact g5.tr (Mem.le.refl G) fun b hb=>⟨Lab.C0.2 ⟨by rintro rfl;exact Aw hd,hb⟩,rfl⟩) h1
     refine Bv (w':=w) ?_ (hn G σ' Af _ w (Mem.le.refl G) r1 r2);simp only[Option.map_some,Option.map_none]at hb;simp[execOp,ho,Instr.sliceAt,Instr.slice,run_underlying hu,hc,hb,sizeOf,typeInfo,Mv,Bk]
    ·exact h1.elim
   ·exact hw.elim
 |_=>exact hw.elim
theorem Aou(z:Array Value)(n:Nat):(Builtin.zeroCells z n).toList=(List.replicate n z.toList).flatten:=X6 rfl n
theorem Bb0{o:Oper}{t:TypeId}{x:Operand}{x':Ar}{sz:Nat}{z:I}(ho:o.op= .call {callee:=.builtin .clear,args:= #[x],argTypes:= #[t]})(hx:Ax N x x'=true)(ht:A6c P t sz z=true):
 Sound P N o (A0x o.dst sz z x'):=by
 intro G σ Fr w0 st a w Q next E hN hr hw hn Au
 subst hN;unfold A6c at ht;split at ht
 case h_2=>cases ht
 rename_i e hu;split at ht
 case h_2=>cases ht
 rename_i i hi;simp only[Bool.and_eq_true,beq_iff_eq]at ht;obtain⟨⟨Bsw,Ago⟩,ht⟩:=ht;split at ht
 case h_2=>cases ht
 rename_i v hv;simp only[Bool.and_eq_true,beq_iff_eq]at ht;obtain⟨Tq,hz⟩:=ht;have Gw:∃c,v.cells.toList=c++[]∧A1 G z c:=by
  split at hz
  ·rename_i h;exact Vi G z _ _ h
  ·cases hz
 obtain⟨c,hc,Gw⟩:=Gw;rw[List.append_nil]at hc;subst hc;cases x' with
 |t n=>
  obtain⟨rfl,Cm⟩:=Dm hx;simp only[A0x,M.wp]at hw;cases hs:st[n]? with
  |none=>simp[hs]at hw
  |some Af8=>
   obtain⟨ver,sv⟩:=Af8;simp only[hs]at hw;have Ay:=hr.slot Cm hs;split at hw
   ·rename_i s vv m;obtain⟨cur,g1,g2,g3⟩:=Ay;simp only[M.wp,g1]at hw;obtain⟨Se,hw⟩:=hw;obtain⟨cv,Eh⟩:=cur;cases Eh with
    |vec e' Bs l=>
     obtain⟨rfl,hw⟩:=hw;obtain⟨e1,sz1,l1,c0,g4,g5,ad,cap,g6,g7,g8,g9⟩:=g3 Se;cases g4;have Cy:Cw G σ w (s,0) e' Bs l (val a w0 s):=hr.Bj s cv _ g1;have key:∃w',(Builtin.clear_ #[t] o.type #[a.eval (.tmp n)]).run P w= .ok (.tuple #[]) w'∧Dt G σ Fr w0 w'∧(∀s',s'≠s→Kept σ σ w w' s')∧Cw G σ w' (s,0) e' Bs (l.take m++List.replicate (l.length - m) z) (val a w0 s):=by
      rw[g9];by_cases h0:l.length - m=0
      ·refine⟨w,?_,hr.Bm,fun s' _=>Kept.refl σ w s',?_⟩
       ·rw[h0];simp only[Builtin.clear_];simp[run_underlying hu];split<;>simp_all
       ·rw[h0,List.take_of_length_le (by omega)]
        simpa using Cy
      ·have Aw:l≠[]:=by rintro rfl;simp at h0
       obtain⟨b,Y0⟩:∃b,ad=some ⟨b,0,none⟩:=by
        obtain⟨xs,q1,_⟩:=g5;rcases q1.2 with⟨_,q3⟩|⟨g,Ta,cur,q2,_⟩
        ·exact absurd (List.eq_nil_of_length_eq_zero q3) Aw
        ·rw[g6]at q2;cases q2;exact⟨g,rfl⟩
       subst Y0;have hb:σ b=some (s,0):=by
        obtain⟨xs,_,_,_,q4⟩:=g5;exact q4 b (by rw[g6];rfl)
       obtain⟨bl,xs,post,Bhy,k1,k2,k3,k4,k5,k6,k7,k8⟩:=Cy.row hr.Bm hb Aw;have hxl:xs.length=l.length*Bs:=by rw[A0.length _ _ k7,Dc k8]
       have hzl:(Builtin.zeroCells v.cells (l.length - m)).toList.length=(l.length - m)*Bs:=by
        simp[Builtin.zeroCells,Tq]
       have hzr:A0 G (List.replicate (l.length - m) z) (Builtin.zeroCells v.cells (l.length - m)).toList:=by
        rw[Aou];exact M1 Gw _
       have hmul:m*Bs+(l.length - m)*Bs=l.length*Bs:=by
        rw[←Nat.add_mul]
        congr 1
        omega
       have hbl:bl.size=bl.toList.length:=by simp
       have k5r:=k5;obtain⟨ty5,fz5,k5',Bpd,_⟩:=k5;have Fi:=Ji P b (m*Bs) ty5 fz5 (Builtin.zeroCells v.cells (l.length - m)).toList 0 bl w k5' Bpd (by rw[hzl,hbl,k6,List.length_append,hxl];omega) (A0.one _ _ hzr)
       have Np:¬cap=m:=by omega
       obtain⟨c1,c2,p1,p2,p3⟩:=A0.split (l:=l.take m) (m:=l.drop m) (by rw[List.take_append_drop];exact k7)
       have Lm:c1.length=m*Bs:=by
        rw[A0.length _ _ p2,Dc fun x hx=>k8 x (List.mem_of_mem_take hx),List.length_take,Nat.min_eq_left (by omega)]
       have hc2:c2.length=(l.length - m)*Bs:=by
        rw[A0.length _ _ p3,Dc fun x hx=>k8 x (List.mem_of_mem_drop hx),List.length_drop]
       have t1:bl.toList.take (m*Bs+0)=c1:=by rw[k6,p1,Nat.add_zero, ←Lm,List.append_assoc,List.take_left]
       have t2:bl.toList.drop (m*Bs+0+(Builtin.zeroCells v.cells (l.length - m)).toList.length)=post:=by
        rw[hzl,k6,p1,Nat.add_zero, ←Lm, ←hc2, ←List.length_append,List.drop_left]
       rw[t1,t2]at Fi;have hrs:(c1++(Builtin.zeroCells v.cells (l.length - m)).toList++post).toArray.size=bl.size:=by
        rw[hbl,k6,p1];simp only[List.size_toArray,List.length_append,hc2,hzl]
       refine⟨w.setRow b (c1++(Builtin.zeroCells v.cells (l.length - m)).toList++post).toArray,?_,hr.Bm.setRow hb _,fun s' D0=>Kept.setRow hb D0 _,?_⟩
       ·rw[if_neg Np];have Wm:Option.map (fun x:Addr=>x.add (m*Bs)) (some ⟨b,0,none⟩)=some ⟨b,m*Bs,none⟩:=by
         simp[add_lit]
        rw[Wm];obtain⟨q,hq⟩:∃q,l.length - m=q+1:=⟨l.length - m - 1,by omega⟩
        rw[hq]at Fi ⊢;have V3:(zeroValue e).run P w= .ok v w:=by simp[zeroValue,typeInfo,hi,hv]
        simp[Builtin.clear_,run_underlying hu,V3,Fi]
       ·refine⟨c1++(Builtin.zeroCells v.cells (l.length - m)).toList,⟨?_,.inr ⟨b,Bhy,_,?_,Nat.zero_le _,k5r.set hrs,?_,k3,?_,?_⟩⟩,A0.append p2 hzr,?_,?_⟩
        ·rw[List.length_append,Lm,hzl,hmul,List.length_append,List.length_take,List.length_replicate,Nat.min_eq_left (by omega)]
         congr 1
         omega
        ·rw[k1,List.length_append,List.length_take,List.length_replicate,Nat.min_eq_left (by omega),show m+(l.length - m)=l.length from by omega]
        ·rw[List.length_append,List.length_take,List.length_replicate,Nat.min_eq_left (by omega)]
         omega
        ·rw[←k4,hbl,k6,p1];simp only[List.size_toArray,List.length_append,hc2,hzl]
        ·have:(l.take m++List.replicate (l.length - m) z).length*Bs=(c1++(Builtin.zeroCells v.cells (l.length - m)).toList).length:=by
          simp only[List.length_append,List.length_take,List.length_replicate,Lm,hzl,hmul,Nat.min_eq_left g7]
          congr 1
          omega
         rw[this];exact List.take_left
        ·intro x hx;rcases List.mem_append.1 hx with hx|hx
         ·exact k8 x (List.mem_of_mem_take hx)
         ·rw[List.eq_of_mem_replicate hx,Ago]
        ·intro b' Br;rw[k1]at Br;simp only[Value.ownBlock,Option.some.injEq]at Br;subst Br;exact hb
     obtain⟨w',B0,K1,E7,L0⟩:=key;have E2:=Rel.self (new:=.vec e' Bs (l.take m++List.replicate (l.length - m) z)) (ver:=cv+1) hr K1 (Mem.le.refl G) g1 (Nat.lt_succ_self _) E7 L0;obtain⟨σ',Af,r1,r2⟩:=E2.A9 Au (sv:=.Dv []) (c:=.tuple #[]) (fun _ _ _ _=>⟨#[],rfl,rfl⟩) hw
     refine Bv (w':=w') ?_ (hn G σ' Af _ w' (Mem.le.refl G) r1 r2);have hinv:(execOp a.eval o).run P w= .ok (.value (.tuple #[])) w':=by
      simp[execOp,ho,resolve,invoke,builtin,B0]
     exact hinv
    |_=>exact hw.elim
   ·exact hw.elim
 |_=>exact hw.elim
end

def Cr(b:UInt8):I:=.int .u8 b.toNat
def Bbt(d:Nat)(e:TypeId)(x:Ar):M:=Gx x fun u=>match u with
 | .str s=>C2 d (.vec e 1 (s.map Cr))
 |_=>.fail
def A7p(P:Program)(src dst:TypeId)(e:TypeId):Bool:=decide (1000000≤e)&&match P.underlying src,P.underlying dst with
 |some .string,some (.slice e')=>match P.underlying e' with
  |some (.int .u8)=>true
  |_=>false
 |_,_=>false
def bytesOf:List I→Option (List UInt8)
 | []=>some []
 | .int .u8 n::l=>match bytesOf l with
   |some r=>some (UInt8.ofNat n.toNat::r)
   |none=>none
 |_::_=>none
def A0v(d:Nat)(x:Ar):M:=match x with
 | .t n=>.get n fun _ sv=>match sv with
   | .E0 s k v=>.get s fun cur C9=>.Ba (v=cur) fun _=>match C9.Cx k with
     |some (_,sz,l)=>match bytesOf l with
      |some r=>.Ba (sz=1∧r.length≤maxLen) fun _=>C2 d (.v (.str r))
      |none=>.fail
     |none=>.fail
   |_=>.fail
 |_=>.fail
def A59(P:Program)(src dst:TypeId):Bool:=match P.underlying src,P.underlying dst with
 |some (.slice e),some .string=>match P.underlying e with
  |some (.int .u8)=>true
  |_=>false
 |_,_=>false
section
variable{P:Program}{N:Nat}{G:Mem}{σ:Lab}{Fr:Mem}{w0:Base}{w:World}{st:St}{a:Act}
theorem Xc{G:Mem}:∀(s:List UInt8),A0 G (s.map Cr) (s.map fun b=>Value.int .u8 b.toNat)
 | []=>by simp[A0]
 |b::s=>by
  simp only[List.map_cons,A0];exact⟨[.int .u8 b.toNat],_,rfl,by simp[Cr,A1],Xc s⟩
theorem Ahv{G:Mem}:∀{l:List I} {cs:List Value} {r:List UInt8},bytesOf l=some r→A0 G l cs→r.length=l.length∧∃ns:List Int,cs=ns.map (Value.int .u8)∧r=ns.map fun n=>UInt8.ofNat n.toNat
 | [],cs,r,h,hr=>by
   cases h;simp only[A0]at hr;exact⟨rfl,[],by simp[hr],rfl⟩
 | .int .u8 n::l,cs,r,h,hr=>by
   simp only[bytesOf]at h;cases hb:bytesOf l with
   |none=>simp[hb]at h
   |some r'=>
    simp only[hb,Option.some.injEq]at h;subst h;simp only[A0]at hr;obtain⟨c,d,rfl,h1,h2⟩:=hr;simp only[A1]at h1;subst h1;obtain⟨hl,ns,rfl,rfl⟩:=Ahv hb h2;exact⟨by simp[hl],n::ns,by simp,by simp⟩
theorem A0h:∀(ns:List Int) (s:ByteArray),(ns.foldl (fun r n=>r.push (UInt8.ofNat n.toNat)) s)=⟨⟨s.data.toList++ns.map fun n=>UInt8.ofNat n.toNat⟩⟩
 | [],s=>by simp
 |n::ns,s=>by
  rw[List.foldl_cons,A0h ns];simp[ByteArray.push]
theorem Bb9{o:Oper}{d:Nat}{src dst e:TypeId}{x:Operand}{x':Ar}(hd:o.dst=some d)(ho:o.op= .convert src dst x)(hx:Ax N x x'=true)(ht:A7p P src dst e=true):
 Sound P N o (Bbt d e x'):=by
 intro G σ Fr w0 st a w Q next E hN hr hw hn Au
 subst hN;obtain⟨u,h1,hv⟩:=De hr hx hw;clear hw;unfold A7p at ht;simp only[Bool.and_eq_true,decide_eq_true_eq]at ht;obtain⟨Mj,ht⟩:=ht;split at ht
 case h_2=>cases ht
 rename_i e' Pv hdt;split at ht
 case h_2=>cases ht
 rename_i he;split at h1
 ·rename_i s;obtain⟨hc,hlen⟩:=Aq.str.1 hv;have B0:=run_bytes_of_string (P:=P) w src dst e' ⟨⟨s⟩⟩ Pv hdt he;have Uc:=grownCap_ge w s.length 0 e';have hle:=grownCap_le_maxLen w s.length 0 e' hlen;have Bk:(⟨⟨s⟩⟩:ByteArray).size=s.length:=rfl;rw[Bk]at B0;obtain⟨cap,Bog⟩:∃cap,cap=grownCap w s.length 0 e':=⟨_,rfl⟩;rw[←Bog]at B0 Uc hle;have Gj:(bytesRow ⟨⟨s⟩⟩ cap).toList=(s.map fun b=>Value.int .u8 b.toNat)++List.replicate (cap - s.length) (.int .u8 0):=by
   simp[bytesRow,Bk]
  have Bo3:(bytesRow ⟨⟨s⟩⟩ cap).size=cap:=by
   have:(bytesRow ⟨⟨s⟩⟩ cap).size=(bytesRow ⟨⟨s⟩⟩ cap).toList.length:=by simp
   rw[this,Gj];simp;omega
  obtain⟨H4,Gt,r1,r2⟩:=hr.drew.U3 (Au d hd) (sv:=.vec e 1 (s.map Cr)) (o:=.cells (bytesRow ⟨⟨s⟩⟩ cap) e' ((bytesRow ⟨⟨s⟩⟩ cap).size,(bytesRow ⟨⟨s⟩⟩ cap).size+1)) (c:=.slice (some ⟨w.heap.size,0,none⟩) s.length cap) rfl (by intro _ e;cases e)
   (fun σ1 _ hb=>⟨s.map fun b=>Value.int .u8 b.toNat,⟨by simp,.inr ⟨w.heap.size,cap,bytesRow ⟨⟨s⟩⟩ cap,by rw[List.length_map],Nat.zero_le _,⟨e',_,heap_alloc_new w.drew _,.inr (Nat.le_refl _),fun h=>absurd h (Nat.not_lt.2 Mj)⟩,by rw[List.length_map];exact Uc,hle,by rw[Bo3,Nat.mul_one],by
     rw[Gj,Nat.mul_one,List.length_map]
     conv=>lhs;rw[←List.length_map (as:=s) (f:=fun b=>Value.int .u8 b.toNat)]
     exact List.take_left⟩⟩,Xc s,by
      intro u hu;obtain⟨b,_,rfl⟩:=List.mem_map.1 hu;rfl,fun b Br=>by cases Br;exact hb⟩) h1
  refine Bv (w':=w.drew.alloc _) ?_ (by rw[hd];exact hn G H4 Gt _ _ (Mem.le.refl G) r1 r2)
  simp[execOp,ho,hc,B0]
 ·exact h1.elim
theorem Bbx{o:Oper}{d:Nat}{src dst:TypeId}{x:Operand}{x':Ar}(hd:o.dst=some d)(ho:o.op= .convert src dst x)(hx:Ax N x x'=true)(ht:A59 P src dst=true):
 Sound P N o (A0v d x'):=by
 intro G σ Fr w0 st a w Q next E hN hr hw hn Au
 subst hN;unfold A59 at ht;split at ht
 case h_2=>cases ht
 rename_i e Pv hdt;split at ht
 case h_2=>cases ht
 rename_i he;have run:∀{c:Value} {s:List UInt8},a.eval x=c→(Conv.bytesToString c).run P w= .ok (.string ⟨⟨s⟩⟩) w→(∃ad l cap,c= .slice ad l cap)→(execOp a.eval o).run P w= .ok (.value (.string ⟨⟨s⟩⟩)) w:=by
  rintro c s hc B0 ⟨ad,l,cap,rfl⟩;have:=run_convert_bytes_string (P:=P) w src dst e ad l cap Pv he hdt;rw[B0]at this;simp[execOp,ho,hc,this]
 have row:∀{b off cap n:Nat} {bl:Array Value} {ty:TypeId} {fz:Nat × Nat} {l:List I} {cs:List Value} {r:List UInt8},w.heap[b]?=some (.cells bl ty fz)→cs=(bl.toList.drop off).take n→n=l.length→A0 G l cs→bytesOf l=some r→
  (Conv.bytesToString (.slice (some ⟨b,off,none⟩) n cap)).run P w= .ok (.string ⟨⟨r⟩⟩) w:=by
  intro b off cap n bl ty fz l cs r hb Gg hn Ay hr;obtain⟨hl,ns,hns,hrs⟩:=Ahv hr Ay;have C4:cs.length=n:=by rw[hns,List.length_map,hn, ←hl,hrs,List.length_map]
  have Bfy:=run_loadCells_list (P:=P) w ⟨b,off,none⟩ cs (fun j v hj=>by
   rw[add_lit,cell_of_row w b (off+j) bl ty fz hb];have:bl[off+j]?=bl.toList[off+j]?:=by simp
   rw[this, ←List.getElem?_drop];rw[Gg,List.getElem?_take]at hj;split at hj
   ·exact hj
   ·cases hj)
  rw[C4]at Bfy;have:=run_bytesToString (P:=P) w ⟨b,off,none⟩ n cap ns (by rw[Bfy,hns])
  rw[this,A0h];simp[hrs]
 cases x' with
 |t n=>
  obtain⟨rfl,Cm⟩:=Dm hx;simp only[A0v,M.wp]at hw;cases hs:st[n]? with
  |none=>simp[hs]at hw
  |some Af8=>
   obtain⟨ver,sv⟩:=Af8;simp only[hs]at hw;have Ay:=hr.slot Cm hs;split at hw
   ·rename_i s k v;obtain⟨cur,g1,g2,g3⟩:=Ay;simp only[M.wp,g1]at hw;obtain⟨hv,hw⟩:=hw;obtain⟨e',Bs,l,g4,g5⟩:=g3 hv;simp only[g4]at hw;split at hw
    ·rename_i r Ci;obtain⟨⟨rfl,Gb⟩,hw⟩:=hw;obtain⟨xs,h1,h2,h3,h4⟩:=g5;have B0:(Conv.bytesToString (a.eval (.tmp n))).run P w= .ok (.string ⟨⟨r⟩⟩) w∧∃ad l cap,a.eval (.tmp n)= .slice ad l cap:=by
      rcases h1.2 with⟨hc,h0⟩|⟨g,cap,Ed,hc,_,⟨ty,fz,hg,_⟩,F1,hm,Bk,htk⟩
      ·have hl0:l=[]:=List.eq_nil_of_length_eq_zero h0;subst hl0;cases Ci;rw[hc];exact⟨by simp[Conv.bytesToString];rfl,_,_,_,rfl⟩
      ·rw[hc];refine⟨row (l:=l) (cs:=xs) hg ?_ rfl h2 Ci,_,_,_,rfl⟩;rw[List.drop_zero, ←htk,Nat.mul_one]
     obtain⟨σ',Af,r1,r2⟩:=hr.Ab3 (Au d hd) (Aq.str.2 ⟨rfl,Gb⟩) hw;exact Bv (run rfl B0.1 B0.2) (by rw[hd];exact hn G σ' Af _ w (Mem.le.refl G) r1 r2)
    ·exact hw.elim
   ·exact hw.elim
 |_=>exact hw.elim
end

def Ym:List Ar→(List I→M)→M
 | [],k=>k []
 | .t n::r,k=>.get n fun ver sv=>match sv with
   | .box (.one (.i x))=>.set n (ver+1) (.rp x) (Ym r fun xs=>k (x::xs))
   | .rp x=>Ym r fun xs=>k (x::xs)
   |_=>.fail
 |_::_,_=>.fail
def Bbp(d:Nat)(f:FuncId)(Lw:List Ar):M:=Ym Lw fun xs=>C2 d (.v (.Yp f xs))
def Afo(N:Nat):List Operand→List Ar→Bool
 | [],[]=>true
 |x::l,y::m=>Ax N x y&&Afo N l m
 |_,_=>false
section
variable{P:Program}{N:Nat}{G:Mem}{σ:Lab}{Fr:Mem}{w0:Base}{w:World}{st:St}{a:Act}
theorem Rel.A9u{s ver Bo:Nat}{x:I}(h:Rel G σ Fr w0 st a w)(hs:st[s]?=some (ver,.box (.one (.i x))))(Bb:ver<Bo):
 ∃G' σ',G.le G'∧Rel G' σ' Fr w0 (st.set s (Bo,.rp x)) a w∧Nj G' x (val a w0 s):=by
 have hG:=Mem.A9p h.Bm (s,0);have hold:B4 G σ w s (.box (.one (.i x))) (val a w0 s):=h.Bj s ver _ hs;have hrp:Nj (G.fix σ w (s,0)) x (val a w0 s):=by
  obtain⟨b,cells,ty,h1,h2,h3,h4⟩:=hold;exact⟨b,0,cells,ty,(0,0),[],cells.toList,[],h1,by rw[Mem.Ax8 h2];exact h3,by simp,rfl,A1.mono hG x _ h4⟩
 refine⟨G.fix σ w (s,0),σ.Lj (s,0),hG,?_,hrp⟩;have Bu:Dt (G.fix σ w (s,0)) (σ.Lj (s,0)) Fr w0 w:=by
  refine⟨?_,?_,?_,h.Bm.frame,h.Bm.os,h.Bm.tape,h.Bm.output,h.Bm.size,?_,Amb.mono hG h.Bm.Jd⟩
  rotate_right
  ·intro b o hb;unfold Mem.fix;rw[if_neg (by intro e;have:=(h.Bm.own b _ e).2.1;rw[hb]at this;cases this)]
   exact h.Bm.apart b o hb
  ·intro b o hb;unfold Mem.fix at hb;split at hb
   ·exact hb
   ·exact h.Bm.fixed b o hb
  ·intro b Bg hb;obtain⟨h1,h2⟩:=Lab.D3.1 hb;obtain⟨h3,h4,h5⟩:=h.Bm.own b Bg h2;refine⟨?_,h4,h5⟩;unfold Mem.fix;rw[if_neg (by rw[h2];intro e;cases e;exact h1 rfl)]
   exact h3
  ·intro b b' Bg hb Br;exact h.Bm.inj b b' Bg (Lab.D3.1 hb).2 (Lab.D3.1 Br).2
 exact Rel.self (new:=.rp x) (ver:=Bo) h Bu hG hs Bb (fun s' D0 b k' hb=>⟨Lab.D3.2 ⟨fun e=>D0 (by cases e;rfl),hb⟩,rfl⟩) hrp
theorem E3.cons{G:Mem}{x:I}{p:Value}{l:List I}{r:List Value}(h:Nj G x p)(hl:E3 G l r):E3 G (x::l) (p::r):=by
 obtain⟨b,off,bl,ty,fz,pre,cs,post,h1,h2,h3,h4,h5⟩:=h;simp only[E3];exact⟨p,r,b,off,bl,ty,fz,pre,cs,post,rfl,h1,h2,h3,h4,h5,hl⟩
theorem Yn{Q:St→Prop}:∀{xs:List Operand} {ys:List Ar} {k:List I→M} {G:Mem} {σ:Lab} {st:St},Rel G σ Fr w0 st a w→Afo w0.n xs ys=true→(Ym ys k).wp P Q st→
 ∃us G' σ' Af,G.le G'∧Rel G' σ' Fr w0 Af a w∧(k us).wp P Q Af∧E3 G' us (xs.map a.eval)
 | [],[],k,G,σ,st,hr,_,hq=>⟨[],G,σ,st,Mem.le.refl G,hr,hq,by simp[E3]⟩
 |x::xs,y::ys,k,G,σ,st,hr,ho,hq=>by
  simp only[Afo,Bool.and_eq_true]at ho;cases y with
  |t n=>
   obtain⟨rfl,Cm⟩:=Dm ho.1;simp only[Ym,M.wp]at hq;cases hs:st[n]? with
   |none=>simp[hs]at hq
   |some cur=>
    obtain⟨ver,sv⟩:=cur;simp only[hs]at hq;have Uy:val a w0 n=a.eval (.tmp n):=Ez (by rw[hr.n];exact Cm)
    split at hq
    ·rename_i u;obtain⟨G1,σ1,h1,h2,h3⟩:=hr.A9u hs (Nat.lt_succ_self ver);obtain⟨us,G2,σ2,st2,g1,g2,g3,g4⟩:=Yn h2 ho.2 hq;rw[Uy]at h3;exact⟨u::us,G2,σ2,st2,h1.trans g1,g2,g3,E3.cons (Nj.mono g1 h3) g4⟩
    ·rename_i u;have h3:Nj G u (a.eval (.tmp n)):=hr.slot Cm hs;obtain⟨us,G2,σ2,st2,g1,g2,g3,g4⟩:=Yn hr ho.2 hq;exact⟨u::us,G2,σ2,st2,g1,g2,g3,E3.cons (Nj.mono g1 h3) g4⟩
    ·exact hq.elim
  |c _=>exact hq.elim
  |Cd _ _=>exact hq.elim
 | [],_::_,_,_,_,_,_,ho,_=>by cases ho
 |_::_,[],_,_,_,_,_,ho,_=>by simp[Afo]at ho
theorem Bb5{o:Oper}{d:Nat}{f:FuncId}{captured:Array Operand}{Lw:List Ar}(hd:o.dst=some d)(ho:o.op= .makeFunc (.func f) #[] captured)(hc:Afo N captured.toList Lw=true):
 Sound P N o (Bbp d f Lw):=by
 intro G σ Fr w0 st a w Q next E hN hr hw hn Au
 subst hN;obtain⟨us,G1,σ1,st1,h1,h2,h3,h4⟩:=Yn hr hc hw;have hv:Aq G1 (.Yp f us) (.func (.func f) #[] (captured.map a.eval)):=by
  unfold Aq;rw[if_neg (by simp[I.isAgg])]
  simp only[A1];refine⟨captured.toList.map a.eval,?_,h4⟩
  congr 2
  apply Array.ext';simp
 obtain⟨σ',Af,r1,r2⟩:=h2.Ab3 (Au d hd) hv h3;refine Bv (v:=.func (.func f) #[] (captured.map a.eval)) (w':=w) ?_ (by rw[hd];exact hn G1 σ' Af _ w h1 r1 r2)
 simp[execOp,ho,Instr.makeFunc]
end

section
variable{P:Program}{N:Nat}{G:Mem}{σ:Lab}{Fr:Mem}{w0:Base}{w:World}{st:St}{a:Act}
theorem Dt.room(h:Dt G σ Fr w0 w)(s:Nat):∃K,∀b k,σ b=some (s,k)→k<K:=by
 have aux:∀n,∃K,∀b,b<n→∀k,σ b=some (s,k)→k<K:=by
  intro n;induction n with
  |zero=>exact⟨0,fun b hb=>by omega⟩
  |succ n ih=>
   obtain⟨K,hK⟩:=ih;cases hn:σ n with
   |none=>exact⟨K,fun b hb k hk=>by
    rcases Nat.lt_succ_iff_lt_or_eq.1 hb with h|rfl
    ·exact hK b h k hk
    ·rw[hn]at hk;cases hk⟩
   |some p=>exact⟨max K (p.2+1),fun b hb k hk=>by
    rcases Nat.lt_succ_iff_lt_or_eq.1 hb with h|rfl
    ·have:=hK b h k hk;omega
    ·rw[hn]at hk;cases hk;simp only;omega⟩
 obtain⟨K,hK⟩:=aux w.heap.size;exact⟨K,fun b k hb=>hK b (h.own b _ hb).2.2 k hb⟩
def Lab.Fv(σ:Lab)(s K:Nat)(bs:List Nat):Lab:=fun b=>if b∈bs then some (s,K+bs.idxOf b)else σ b
theorem Lab.Pd{s K:Nat}{bs:List Nat}{b:Nat}(h:b∈bs):σ.Fv s K bs b=some (s,K+bs.idxOf b):=by simp[Lab.Fv,h]
theorem Lab.Me{s K:Nat}{bs:List Nat}{b:Nat}(h:b ∉ bs):σ.Fv s K bs b=σ b:=by simp[Lab.Fv,h]
theorem Auc{bs:List Nat}{b b':Nat}(h:b∈bs)(h':b'∈bs)(e:bs.idxOf b=bs.idxOf b'):b=b':=by
 have h1:=List.getElem_idxOf (List.idxOf_lt_length_of_mem h);have h2:=List.getElem_idxOf (List.idxOf_lt_length_of_mem h');rw[←h1, ←h2];simp only[e]
theorem Dt.Fv{s K:Nat}{bs:List Nat}(h:Dt G σ Fr w0 w)(hK:∀b k,σ b=some (s,k)→k<K)(hf:∀b∈bs,G b=none∧Fr b=none∧b<w.heap.size):Dt G (σ.Fv s K bs) Fr w0 w:=by
 refine⟨h.fixed,?_,?_,h.frame,h.os,h.tape,h.output,h.size,h.apart,h.Jd⟩
 ·intro b Bg hb;by_cases hm:b∈bs
  ·exact hf b hm
  ·rw[Lab.Me hm]at hb;exact h.own b Bg hb
 ·intro b b' Bg hb Br;by_cases hm:b∈bs<;>by_cases hm':b'∈bs
  ·rw[Lab.Pd hm]at hb;rw[Lab.Pd hm']at Br;rw[←Br]at hb;simp only[Option.some.injEq,Prod.mk.injEq,true_and]at hb;exact Auc hm hm' (by omega)
  ·rw[Lab.Pd hm]at hb;rw[Lab.Me hm', ←hb]at Br;have:=hK _ _ Br;omega
  ·rw[Lab.Me hm]at hb;rw[Lab.Pd hm']at Br;obtain rfl:=Option.some.inj Br;have:=hK _ _ hb;omega
  ·rw[Lab.Me hm]at hb;rw[Lab.Me hm']at Br;exact h.inj b b' Bg hb Br
def R2(G:Mem)(σ:Lab)(Fr:Mem)(w:World)(u:D)(c:Value):Prop:=
 ∃bs,A3 G w u c.cells.toList bs∧valOf u.isAgg c=true∧bs.Nodup∧∀b∈bs,G b=none∧Fr b=none∧σ b=none∧b<w.heap.size
theorem R2.item{u:I}{c:Value}(h:Aq G u c):R2 G σ Fr w (.it u) c:=by
 refine⟨[],?_,?_,List.nodup_nil,by simp⟩
 ·simp only[A3,and_true];exact h.cells
 ·unfold Aq at h;simp only[D.isAgg];split at h
  ·rename_i hx;obtain⟨cs,rfl,_⟩:=h;rw[hx];rfl
  ·rename_i hx;rw[show u.isAgg=false by simpa using hx]
   have:=A1.one _ _ h c (by simp)
   cases c<;>first|rfl|(simp[Value.oneCell']at this)
end

section
variable{P:Program}{N:Nat}{G:Mem}{σ:Lab}{Fr:Mem}{w0:Base}{w:World}{st:St}{a:Act}
theorem Akb{fz:Nat × Nat}{t:TypeId}{agg:Bool}{b off:Nat}{bl:Array Value}{ty:TypeId}{pre cs post:List Value}{v:Value}(h:Hd P t agg cs.length=true)
 (hh:w.heap[b]?=some (.cells bl ty fz)) (Ke:fz=(0,0)∨bl.size≤fz.1) (hs:bl.toList=pre++cs++post) (hp:pre.length=off) (h1:∀c∈v.cells.toList,c.oneCell'=true) (hlen:v.cells.toList.length=cs.length):
 (storeVar t ⟨b,off,none⟩ v).run P w= .ok () (w.setRow b (pre++v.cells.toList++post).toArray):=by
 obtain⟨_,h2⟩:=P0 h w;have A6s:bl.size=pre.length+cs.length+post.length:=by
  have:bl.size=bl.toList.length:=by simp
  rw[this,hs];simp;omega
 have Fi:=Ji P b off ty fz v.cells.toList 0 bl w hh Ke (by rw[hlen,A6s,hp];omega) h1
 have e1:bl.toList.take (off+0)=pre:=by rw[hs,List.append_assoc,Nat.add_zero, ←hp,List.take_left]
 have e2:bl.toList.drop (off+0+v.cells.toList.length)=post:=by
  rw[hs,hlen,Nat.add_zero, ←hp, ←List.length_append,List.drop_left]
 rw[e1,e2]at Fi;have Bk:v.cells.size=cs.length:=by rw[←hlen];simp
 simp[storeVar,h2,Bk,Fi]
theorem Rel.Bex{s cur:Nat}{inv p:List Nat}{t t' u u':D}{tt:TypeId}{agg:Bool}{c cv:Value}(h:Rel G σ Fr w0 st a w)(hs:st[s]?=some (cur,.own inv t))(Da:t.at p=some u)(Fe:t.put p u'=some t')
 (Fw:R2 G σ Fr w u' cv) (Fg:u'.isAgg=u.isAgg) (Bk:u'.size=u.size) (Q8:Pc w t (val a w0 s) p c) (ht:Hd P tt agg u.size=true):
 ∃b o w' σ',c= .pointer (some ⟨b,o,none⟩)∧(storeVar tt ⟨b,o,none⟩ cv).run P w= .ok () w'∧
  Rel G σ' Fr w0 (st.set s (cur+1,.own (if u.leaf then inv else bump inv p.length (cur+1)) t')) a w':=by
 obtain⟨bs,Ay,Kw,Ku,Li⟩:=show Dd G σ w s t (val a w0 s)from h.Bj s cur _ hs;obtain⟨m,s',D7,f1,f2,f3,f4,f5,f6⟩:=focus (here:=none) Ay Ku Da
 obtain⟨u0,b,o,cs,p1,p2,rfl⟩:=Q8;rw[f1]at p2;obtain rfl:=Option.some.inj p2;have hp0:p≠[]:=by
  rintro rfl;simp only[spot,Option.some.injEq,Prod.mk.injEq]at f1;cases f1.1
 obtain⟨Qe,g1,g2,g3,g4⟩:=Fw;have C4:cs.length=u.size:=A3.length f2;have hvl:cv.cells.toList.length=cs.length:=by rw[A3.length g1,Bk,C4]
 cases m with
 |inl pre post=>obtain⟨_,e⟩:=f5;cases e
 |val=>cases f5
 |Sm g pre post ty fz=>
  obtain⟨q1,q2,⟨row,q3,q4,q5⟩,q6⟩:=f5;simp only[Option.some.injEq,Prod.mk.injEq]at q6;obtain⟨rfl,rfl⟩:=q6;simp only at q5;have B0:=Akb (P:=P) (cs:=cs) (v:=cv) (t:=tt) (agg:=agg) (by rw[C4];exact ht) q3 q4 q5 rfl (A3.one g1) hvl
  obtain⟨kb,hkb⟩:=Li b q1;have hbu:b ∉ Qe:=fun hb=>by
   have:=(g4 b hb).2.2.1;rw[hkb]at this;cases this
  have hub:∀x∈Qe,x ∉ bs:=fun x hx hb=>by
   obtain⟨k,hk⟩:=Li x hb;have:=(g4 x hx).2.2.1;rw[hk]at this;cases this
  have Cs:(w.setRow b (pre++cv.cells.toList++post).toArray).heap[b]?=some (.cells (pre++cv.cells.toList++post).toArray ty fz):=setRow_heap w b row _ ty fz q3;have Pr:∀x,x≠b→(w.setRow b (pre++cv.cells.toList++post).toArray).heap[x]?=w.heap[x]?:=fun x hx=>setRow_other w b x _ hx
  obtain⟨Cv,r1,r2,r3,r4,r5⟩:=f6 G (w.setRow b (pre++cv.cells.toList++post).toArray) u' cv.cells.toList Qe t' (Mem.le.refl G) hvl Fg
   (g1.tr (Mem.le.refl G) fun x hx=>Pr x fun e=>hbu (e ▸ hx)) g3 (fun x hx=>.inr (hub x hx)) ⟨Cs,fun x _ _ hxb=>Pr x hxb⟩ Fe
  rw[if_neg hp0]at r4;obtain⟨K,hK⟩:=h.Bm.room s;have hold:∀x k,σ x=some k→σ.Fv s K Qe x=some k:=fun x k hx=>by
   rw[Lab.Me]
   ·exact hx
   ·intro hm;have:=(g4 x hm).2.2.1;rw[hx]at this;cases this
  refine⟨b,pre.length,_,σ.Fv s K Qe,rfl,B0,?_⟩;have Bpa:=(h.Bm.setRow hkb (pre++cv.cells.toList++post).toArray).Fv (s:=s) (K:=K) (bs:=Qe) hK fun x hx=>by
   obtain⟨k1,k2,_,k4⟩:=g4 x hx;exact⟨k1,k2,by simpa[World.setRow]using k4⟩
  obtain⟨Y8,hbd⟩:=Focus.refs (G:=G) (inv:=inv) (cur:=cur) r5;refine h.tree Bpa (Mem.le.refl G) hs (Nat.lt_succ_self _) ?_ (fun _ x k hx=>hold x _ hx) ?_ Y8 hbd
  ·intro s1 Tm x k hx;exact⟨hold x _ hx,Pr x fun e=>by rw[e,hkb]at hx;cases hx;exact Tm rfl⟩
  ·refine⟨Cv,r1,by rw[r4];exact Kw,r2,fun x hx=>?_⟩
   rcases(r3 x).1 hx with⟨h1,_⟩|h1
   ·obtain⟨k,hk⟩:=Li x h1;exact⟨k,hold x _ hk⟩
   ·exact⟨_,Lab.Pd h1⟩
end

def rdD(x:Ar)(k:(s cur:Nat)→(inv:List Nat)→D→List Nat→M):M:=match x with
 | .t n=>.get n fun ver sv=>match sv with
   | .own inv t=>match t with
     | .ptr t=>k n ver inv (.ptr t) [0]
     |_=>.fail
   | .pd s v p=>.get s fun cur C9=>match C9 with
     | .own inv t=>.Ba (p≠[]∧alive v inv p.length=true) fun _=>k s cur inv t p
     |_=>.fail
   | .par h=>.get h fun cur C9=>match C9 with
     | .own inv t=>match t with
       | .ptr t=>k h cur inv (.ptr t) [0]
       |_=>.fail
     |_=>.fail
   |_=>.fail
 |_=>.fail
def rdH(x:Ar)(k:(s cur:Nat)→(inv:List Nat)→D→List Nat→M):M:=match x with
 | .t n=>.get n fun ver sv=>match sv with
   | .own inv t=>.Ba (t.head=true) fun _=>k n ver inv t []
   | .bd s v p=>.get s fun cur C9=>match C9 with
     | .own inv t=>.Ba (alive v inv (p.length+1)=true) fun _=>k s cur inv t p
     |_=>.fail
   | .par h=>.get h fun cur C9=>match C9 with
     | .own inv t=>.Ba (t.head=true) fun _=>k h cur inv t []
     |_=>.fail
   |_=>.fail
 |_=>.fail
section
variable{P:Program}{N:Nat}{G:Mem}{σ:Lab}{Fr:Mem}{w0:Base}{w:World}{st:St}{a:Act}
theorem Afr{x:Operand}{y:Ar}{k:(s cur:Nat)→(inv:List Nat)→D→List Nat→M}{Q:St→Prop}(h:Rel G σ Fr w0 st a w)(ho:Ax w0.n x y=true)(hq:(rdD y k).wp P Q st):
 ∃s cur inv t p,(k s cur inv t p).wp P Q st∧st[s]?=some (cur,.own inv t)∧p≠[]∧Pc w t (val a w0 s) p (a.eval x):=by
 cases y with
 |c _=>exact hq.elim
 |Cd _ _=>exact hq.elim
 |t n=>
  obtain⟨rfl,Cm⟩:=Dm ho;simp only[rdD,M.wp]at hq;cases hs:st[n]? with
  |none=>simp[hs]at hq
  |some cur=>
   obtain⟨ver,sv⟩:=cur;simp only[hs]at hq;have Ay:=h.slot Cm hs;have hv:val a w0 n=a.eval (.tmp n):=Ez (by rw[h.n];exact Cm)
   cases sv with
   |own inv t=>
    cases t with
    |ptr t=>exact⟨n,ver,inv,_,[0],hq,hs,by simp,by rw[hv];exact Dd.pt Ay⟩
    |_=>exact hq.elim
   |pd s v p=>
    obtain⟨cur,h1,h2,h3⟩:=Ay;simp only[M.wp,h1]at hq;obtain⟨cv,Eh⟩:=cur;cases Eh with
    |own inv t=>
     obtain⟨⟨hp,ha⟩,hq⟩:=hq;exact⟨s,cv,inv,t,p,hq,h1,hp,h3 inv t rfl hp ha⟩
    |_=>exact hq.elim
   |par hh=>
    obtain⟨L0,hle⟩:=h.L7 n ver hh hs;rw[hv]at L0;simp only[M.wp]at hq;cases h1:st[hh]? with
    |none=>simp[h1]at hq
    |some cur=>
     obtain⟨cv,Eh⟩:=cur;simp only[h1]at hq;have Dn:=h.Bj hh cv Eh h1;cases Eh with
     |own inv t=>
      cases t with
      |ptr t=>exact⟨hh,cv,inv,_,[0],hq,h1,by simp,by rw[L0];exact Dd.pt Dn⟩
      |_=>exact hq.elim
     |_=>exact hq.elim
   |_=>exact hq.elim
theorem Bhh{x:Operand}{y:Ar}{k:(s cur:Nat)→(inv:List Nat)→D→List Nat→M}{Q:St→Prop}(h:Rel G σ Fr w0 st a w)(ho:Ax w0.n x y=true)(hq:(rdH y k).wp P Q st):
 ∃s cur inv t p,(k s cur inv t p).wp P Q st∧st[s]?=some (cur,.own inv t)∧N9 w t (val a w0 s) p (a.eval x):=by
 cases y with
 |c _=>exact hq.elim
 |Cd _ _=>exact hq.elim
 |t n=>
  obtain⟨rfl,Cm⟩:=Dm ho;simp only[rdH,M.wp]at hq;cases hs:st[n]? with
  |none=>simp[hs]at hq
  |some cur=>
   obtain⟨ver,sv⟩:=cur;simp only[hs]at hq;have Ay:=h.slot Cm hs;have hv:val a w0 n=a.eval (.tmp n):=Ez (by rw[h.n];exact Cm)
   cases sv with
   |own inv t=>
    obtain⟨hh,hq⟩:=hq;exact⟨n,ver,inv,_,[],hq,hs,by rw[hv];exact Dd.hd Ay hh⟩
   |bd s v p=>
    obtain⟨cur,h1,h2,h3⟩:=Ay;simp only[M.wp,h1]at hq;obtain⟨cv,Eh⟩:=cur;cases Eh with
    |own inv t=>
     obtain⟨ha,hq⟩:=hq;exact⟨s,cv,inv,t,p,hq,h1,h3 inv t rfl ha⟩
    |_=>exact hq.elim
   |par hh=>
    obtain⟨L0,hle⟩:=h.L7 n ver hh hs;rw[hv]at L0;simp only[M.wp]at hq;cases h1:st[hh]? with
    |none=>simp[h1]at hq
    |some cur=>
     obtain⟨cv,Eh⟩:=cur;simp only[h1]at hq;have Dn:=h.Bj hh cv Eh h1;cases Eh with
     |own inv t=>
      obtain⟨hh',hq⟩:=hq;exact⟨hh,cv,inv,_,[],hq,h1,by rw[L0];exact Dd.hd Dn hh'⟩
     |_=>exact hq.elim
   |_=>exact hq.elim
theorem Pc.block{s:Nat}{t u:D}{cr c:Value}{p:List Nat}(ho:Dd G σ w s t cr)(Da:t.at p=some u)(h:Pc w t cr p c):
 ∃b off bl ty fz pre cs post D7,c= .pointer (some ⟨b,off,none⟩)∧w.heap[b]?=some (.cells bl ty fz)∧bl.toList=pre++cs++post∧pre.length=off∧A3 G w u cs D7∧D7.Nodup∧
  spot w p t (none,cr.cells.toList)=some (some (b,off),cs):=by
 obtain⟨bs,Ay,Kw,Ku,Li⟩:=ho;obtain⟨m,s',D7,f1,f2,f3,f4,f5,f6⟩:=focus (here:=none) Ay Ku Da
 obtain⟨u0,b,o,cs,p1,p2,rfl⟩:=h;have p2':=p2;rw[f1]at p2;obtain rfl:=Option.some.inj p2;cases m with
 |inl pre post=>obtain⟨_,e⟩:=f5;cases e
 |val=>cases f5
 |Sm g pre post ty fz=>
  obtain⟨q1,q2,⟨row,q3,q4,q5⟩,q6⟩:=f5;simp only[Option.some.injEq,Prod.mk.injEq]at q6;obtain⟨rfl,rfl⟩:=q6;exact⟨b,_,row,ty,fz,pre,cs,post,D7,rfl,q3,q5,rfl,f2,f3,p2'⟩
theorem N9.read{s:Nat}{t u:D}{cr c:Value}{p:List Nat}(ho:Dd G σ w s t cr)(Da:t.at p=some u)(h:N9 w t cr p c):∃hh D7,A3 G w u [c] D7∧D7.Nodup∧spot w p t (none,cr.cells.toList)=some (hh,[c]):=by
 obtain⟨bs,Ay,Kw,Ku,Li⟩:=ho;obtain⟨m,s',D7,f1,f2,f3,f4,f5,f6⟩:=focus (here:=none) Ay Ku Da
 obtain⟨u0,hh,p1,p0,p2⟩:=h;have p2':=p2;rw[f1]at p2;obtain rfl:=Option.some.inj p2;exact⟨hh,D7,f2,f3,p2'⟩
theorem Uk:∀{p:List Nat} {t u:D} {i:Nat},t.at p=some u→t.at (p++[i])=u.Dj i
 | [],t,u,i,h=>by
   simp only[D.at,Option.some.injEq]at h;subst h;simp only[List.nil_append,D.at];cases t.Dj i<;>rfl
 |j::p,t,u,i,h=>by
  simp only[D.at]at h;simp only[List.cons_append,D.at];cases hk:t.Dj j with
  |none=>simp[hk]at h
  |some y=>simp only[hk]at h;exact Uk h
theorem Qb:∀{p:List Nat} {t u y:D} {i:Nat} {z z':Rh},t.at p=some u→spot w p t z=some z'→u.Dj i=some y→spot w (p++[i]) t z=B9 w u z' i
 | [],t,u,y,i,z,z',h,hz,hy=>by
   simp only[D.at,Option.some.injEq]at h;simp only[spot,Option.some.injEq]at hz;subst h hz;simp only[List.nil_append,spot,hy];cases B9 w t z i<;>rfl
 |j::p,t,u,y,i,z,z',h,hz,hy=>by
  simp only[D.at]at h;simp only[spot]at hz;simp only[List.cons_append,spot];cases hk:t.Dj j with
  |none=>simp[hk]at h
  |some y0=>
   simp only[hk]at h hz ⊢;cases hks:B9 w t z j with
   |none=>simp[hks]at hz
   |some z0=>
    simp only[hks]at hz ⊢;exact Qb h hz hy
end
end Go.Ab
