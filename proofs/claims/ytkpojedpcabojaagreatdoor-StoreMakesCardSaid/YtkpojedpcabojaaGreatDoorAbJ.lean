/- Lemmas -/
import Derived.Test.YtkpojedpcabojaaGreatDoorAbE5
import Derived.Deep.AppendSrc
import Derived.Laws.OwnMore
set_option linter.unusedVariables false
set_option linter.unusedSimpArgs false
namespace Go.Ab
open Go.Op
def Ape(d:Nat)(x:Bh)(i:Nat):M:=match x with
 | .t n=>.get n fun ver sv=>match sv with
   | .Mp l=>match l[i]? with
     |some u=>match u with
      | .it y=>Eo d (.v y)
      |u=>.Co (n≠d∧u.whole=true) fun _=>.set n (ver+1) (.Mp (l.set i u.Uw)) (Eo d (.own [] u))
     |none=>.fail
   |_=>.fail
 |_=>.fail
def Apd(d:Nat)(x:Bh)(i:Nat):M:=match x with
 | .t n=>.get n fun _ sv=>match sv with
   | .Mp _=>Ape d x i
   |_=>An6 d x i
 |_=>An6 d x i
def A8u(d:Option Nat)(str:Bool)(sz:Nat)(x:Bh)(lo hi:Option Bh):M:=Q5 x fun u=>match u with
 | .list l=>rdB lo 0 fun i=>rdB hi l.length fun j=>.Co (str=false∧0≤i∧i≤j∧j≤l.length∧∀u∈l,u.size=sz) fun _=>Ci d (.v (.list ((l.take j.toNat).drop i.toNat))) .done
 |_=>.fail
section
variable{P:Program}{N:Nat}{G:Mem}{σ:Lab}{Fr:Mem}{w0:Base}{w:World}{st:St}{a:Act}
theorem Bcd{o:Oper}{t:TypeId}{x:Operand}{lo hi:Option Operand}{x':Bh}{lo' hi':Option Bh}{str:Bool}{sz:Nat}(ho:o.op= .slice t x lo hi none)(hx:Bu N x x'=true)
 (hlo:oOk N lo lo'=true) (hhi:oOk N hi hi'=true) (ht:Apg P t str sz=true):Sound P N o (A8u o.dst str sz x' lo' hi'):=by
 intro G0 σ0 Fr w0 st0 a w Q next E hN hr0 hw hn A9
 subst hN;have hsl:str=false→∃e i,P.underlying t=some (.slice e)∧P.info? e=some i∧i.size=sz:=by
  rintro rfl;unfold Apg at ht;split at ht
  ·cases ht
  ·rename_i e h;split at ht
   ·rename_i i hi;exact⟨e,i,h,hi,by simpa using ht⟩
   ·cases ht
  ·cases ht
 obtain⟨u,G,σ,st,hG,hr,h0,Ba⟩:=Se hr0 hx hw;split at h0
 ·rename_i l;obtain⟨i,h1,hi1⟩:=S3 hr hlo h0;obtain⟨j,h2,hj1⟩:=S3 hr hhi h1;obtain⟨⟨k1,k2,k3,k4,k5⟩,h3⟩:=h2;obtain⟨e,i0,hu,hi0,Cq⟩:=hsl k1;have Fy:Bb G (.list l) (a.eval x):=Ba;obtain⟨ad,cap,hc,Tg,_⟩:=Bb.list.1 Fy;have hb:=N7 (P:=P) (isSlice:=true) (len:=l.length) (cap:=cap) w hi1 hj1 k2 k3 k4 Tg;rw[hc]at Fy;have hv:=Bb.sliced (i:=i.toNat) (j:=j.toNat) (sz:=sz) Fy (by omega) (by omega) fun _=>k5
  refine Gn hr (fun X5 Qj Nx a' w' Bh8=>hn X5 Qj Nx a' w' (hG.trans Bh8)) A9 hv h3 ?_
  simp[execOp,ho,Instr.sliceAt,Instr.slice,run_underlying hu,hc,hb,sizeOf,typeInfo,hi0,Cq]
 ·exact h0.elim
theorem Bb1{o:Oper}{d i:Nat}{x:Operand}{x':Bh}(hd:o.dst=some d)(ho:o.op= .extract x i)(hx:Bu N x x'=true):Sound P N o (Ape d x' i):=by
 intro G σ Fr w0 st a w Q next E hN hr hw hn A9
 subst hN;cases x' with
 |c _=>exact hw.elim
 |Fo _ _=>exact hw.elim
 |t n=>
  obtain⟨rfl,Ej⟩:=Gb hx;simp only[Ape,M.wp]at hw;cases hs:st[n]? with
  |none=>simp[hs]at hw
  |some cur=>
   obtain⟨ver,sv⟩:=cur;simp only[hs]at hw;have Ba:=hr.slot Ej hs;split at hw
   ·rename_i l;obtain⟨arr,bs,hc,h1,h2,h3⟩:=Ba;split at hw
    ·rename_i u hu;obtain⟨v,b1,b,b2,hv,rfl,H7,Ti,Fq,_⟩:=Ff.nth h1 hu;have run:(execOp a.eval o).run P w= .ok (.value v) w:=by
      have:arr[i]?=some v:=by simpa using hv
      simp[execOp,ho,hc,Instr.extract,this]
     split at hw
     ·rename_i y;simp only[Bp]at Ti;have hvy:Bb G y v:=by
       unfold Bb;simp only[D.isAgg]at H7;split
       ·rename_i hy;rw[hy]at H7;obtain⟨a',rfl⟩:=Wk H7;exact⟨a',rfl,Ti.1⟩
       ·rename_i hy;rw[show y.isAgg=false by simpa using hy]at H7
        rw[G7 H7]at Ti;exact Ti.1
      obtain⟨σ',st',r1,r2⟩:=hr.Xo (A9 d hd) hvy hw;exact Df run (by rw[hd];exact hn G σ' st' _ w (Mem.le.refl G) r1 r2)
     ·obtain⟨⟨A2,Xb⟩,hw⟩:=hw;obtain⟨Jg,Cq,_⟩:=Aty Xb;have W7:∀z∈b1++b2,z ∉ b:=by
       intro z hz hb;simp only[Cb,Aj]at h2 hz;rcases hz with hz|hz
       ·exact h2.1.2.2 z hz z hb rfl
       ·exact h2.2.2 z (.inr hb) z hz rfl
      have Kn:=Rel.self (new:=.Mp (l.set i u.Uw)) (ver:=ver+1) hr (hr.Bz.Xq (bs:=b)) (Mem.le.refl G) hs (Bk _)
       (fun s' Hf z k' hz=>⟨Lab.Pz.2 ⟨fun hm=>by
         obtain⟨kk,Vd⟩:=h3 z (by simp[hm])
         rw[hz]at Vd;cases Vd;exact Hf rfl,hz⟩,rfl⟩) (by
         refine⟨arr,b1++b2,?_,?_,?_,?_⟩
         ·rw[←hc,G9 (by rw[hr.n];exact Ej)]
         ·have:=Fq G w u.Uw [] (Mem.le.refl G) (by rw[Jg];exact H7) (A2w Xb Ti G w) fun _ _=>rfl
          simpa using this
         ·simp only[Cb,Aj]at h2 ⊢;exact⟨h2.1.1,h2.2.1,fun x hx y hy=>h2.2.2 x (.inl hx) y hy⟩
         ·intro z hz;obtain⟨kk,Vd⟩:=h3 z (by simp only[Aj]at hz ⊢;rcases hz with h|h<;>simp[h])
          exact⟨kk,Lab.Pz.2 ⟨W7 z hz,Vd⟩⟩)
      obtain⟨σ',st',r1,r2⟩:=Kn.H3 (P:=P) (A9 d hd) (c:=v) ⟨b,Ti,H7,by
       simp only[Cb]at h2;exact h2.1.2.1,fun z hz=>by
       obtain⟨kk,Vd⟩:=h3 z (by simp[hz])
       obtain⟨k1,k2,k3⟩:=hr.Bz.own z _ Vd;exact⟨k1,k2,by simp[Lab.Xq,hz],k3⟩⟩ hw
      exact Df run (by rw[hd];exact hn G σ' st' _ w (Mem.le.refl G) r1 r2)
    ·exact hw.elim
   ·exact hw.elim
theorem Bbz{o:Oper}{d i:Nat}{x:Operand}{x':Bh}(hd:o.dst=some d)(ho:o.op= .extract x i)(hx:Bu N x x'=true):Sound P N o (Apd d x' i):=by
 intro G σ Fr w0 st a w Q next E hN hr hw hn A9
 have:(Ape d x' i).wp P Q st∨(An6 d x' i).wp P Q st:=by
  cases x' with
  |c _=>exact .inr hw
  |Fo _ _=>exact .inr hw
  |t n=>
   simp only[Apd,M.wp]at hw;cases hs:st[n]? with
   |none=>simp[hs]at hw
   |some cur=>
    simp only[hs]at hw;split at hw
    ·exact .inl hw
    ·exact .inr hw
 rcases this with h|h
 ·exact Bb1 hd ho hx G σ Fr w0 st a w Q next E hN hr h hn A9
 ·exact Bgv hd ho hx G σ Fr w0 st a w Q next E hN hr h hn A9
end

open Go.Op
def Ad3(op:BinOp)(k:IntKind)(x y:Int):Int:=
 let a:=BitVec.ofInt k.bits x
 let b:=BitVec.ofInt k.bits y
 match op with
 | .and=>k.wrap (a &&& b).toNat
 | .or=>k.wrap (a ||| b).toNat
 | .xor=>k.wrap (a^^^b).toNat
 |_=>k.wrap (a &&& ~~~b).toNat
def Bsr(k:IntKind)(x y:Int):Int:=k.wrap (x*2^(min y.toNat k.bits))
def Bbp(k:IntKind)(x y:Int):Int:=x.fdiv (2^(min y.toNat k.bits))
def A8f(d:Option Nat)(op:BinOp)(x y:Bh):M:=Qi x fun i=>Qi y fun j=>match i,j with
 | .int ka a,.int kb b=>match op with
   | .and=>.Co (ka=kb) fun _=>Ci d (.v (.int ka (Ad3 .and ka a b))) .done
   | .or=>.Co (ka=kb) fun _=>Ci d (.v (.int ka (Ad3 .or ka a b))) .done
   | .xor=>.Co (ka=kb) fun _=>Ci d (.v (.int ka (Ad3 .xor ka a b))) .done
   | .andNot=>.Co (ka=kb) fun _=>Ci d (.v (.int ka (Ad3 .andNot ka a b))) .done
   | .quo=>.Co (ka=kb∧b≠0) fun _=>Ci d (.v (.int ka (ka.wrap (a.tdiv b)))) .done
   | .rem=>.Co (ka=kb∧b≠0) fun _=>Ci d (.v (.int ka (a.tmod b))) .done
   | .shl=>.Co (0≤b) fun _=>Ci d (.v (.int ka (Bsr ka a b))) .done
   | .shr=>.Co (0≤b) fun _=>Ci d (.v (.int ka (Bbp ka a b))) .done
   |_=>.fail
 |_,_=>.fail
def A8i(d:Option Nat)(k:IntKind)(x:Bh):M:=Qi x fun i=>match i with
 | .int _ n=>Ci d (.v (.int k (k.wrap n))) .done
 |_=>.fail
def A06(P:Program)(dst:TypeId)(k:IntKind)(src:TypeId):Bool:=(P.underlying src).isSome&&match P.underlying dst with
 |some (.int k')=>k==k'
 |_=>false
section
variable{P:Program}{N:Nat}{G:Mem}{σ:Lab}{Fr:Mem}{w0:Base}{w:World}{st:St}{a:Act}
theorem Bbu{o:Oper}{op:BinOp}{t u:TypeId}{x y:Operand}{x' y':Bh}(ho:o.op= .binOp op t x y u)(hx:Bu N x x'=true)(hy:Bu N y y'=true):
 Sound P N o (A8f o.dst op x' y'):=by
 intro G σ Fr w0 st a w Q next E hN hr hw hn A9
 subst hN;obtain⟨i,h1,hi⟩:=Hs hr hx hw;clear hw;obtain⟨j,hw,hj⟩:=Hs hr hy h1;clear h1;split at hw
 ·rename_i ka m kb n;rw[Bb.int]at hi hj;split at hw
  ·obtain⟨rfl,hw⟩:=hw;exact Gn hr hn A9 (Bb.int.2 rfl) hw (by simp[execOp,ho,hi,hj,eqGuard,Go.binOp,Op.intBits,Ad3])
  ·obtain⟨rfl,hw⟩:=hw;exact Gn hr hn A9 (Bb.int.2 rfl) hw (by simp[execOp,ho,hi,hj,eqGuard,Go.binOp,Op.intBits,Ad3])
  ·obtain⟨rfl,hw⟩:=hw;exact Gn hr hn A9 (Bb.int.2 rfl) hw (by simp[execOp,ho,hi,hj,eqGuard,Go.binOp,Op.intBits,Ad3])
  ·obtain⟨rfl,hw⟩:=hw;exact Gn hr hn A9 (Bb.int.2 rfl) hw (by simp[execOp,ho,hi,hj,eqGuard,Go.binOp,Op.intBits,Ad3])
  ·obtain⟨⟨rfl,hb⟩,hw⟩:=hw;exact Gn hr hn A9 (Bb.int.2 rfl) hw (by simp[execOp,ho,hi,hj,eqGuard,Go.binOp,Op.intDiv,hb])
  ·obtain⟨⟨rfl,hb⟩,hw⟩:=hw;exact Gn hr hn A9 (Bb.int.2 rfl) hw (by simp[execOp,ho,hi,hj,eqGuard,Go.binOp,Op.intDiv,hb])
  ·obtain⟨hb,hw⟩:=hw;have Dc:¬n<0:=by omega
   exact Gn hr hn A9 (Bb.int.2 rfl) hw (by simp[execOp,ho,hi,hj,eqGuard,Go.binOp,Op.shift,Dc,Bsr])
  ·obtain⟨hb,hw⟩:=hw;have Dc:¬n<0:=by omega
   exact Gn hr hn A9 (Bb.int.2 rfl) hw (by simp[execOp,ho,hi,hj,eqGuard,Go.binOp,Op.shift,Dc,Bbp])
  ·exact hw.elim
 ·exact hw.elim
theorem Bby{o:Oper}{k:IntKind}{src dst:TypeId}{x:Operand}{x':Bh}(ho:o.op= .convert src dst x)(hx:Bu N x x'=true)(ht:A06 P dst k src=true):Sound P N o (A8i o.dst k x'):=by
 intro G σ Fr w0 st a w Q next E hN hr hw hn A9
 subst hN;obtain⟨i,h1,hi⟩:=Hs hr hx hw;unfold A06 at ht;simp only[Ad,Jr]at ht;obtain⟨⟨ds,hs⟩,ht⟩:=ht;split at ht
 ·rename_i k' hk;simp only[beq_iff_eq]at ht;subst ht;split at h1
  ·rw[Bb.int]at hi;refine Gn hr hn A9 (Bb.int.2 rfl) h1 ?_;simp[execOp,ho,hi,convert,run_underlying hs,run_underlying hk,Conv.intToInt]
  ·exact h1.elim
 ·cases ht
end

open Go.Op
def Xc(_:Nat)(sv:SV):Nat × SV:=match sv with
 | .own _ _=>(0,.own [] (.it .Ln))
 | .pd _ _ _=>(0,.pd 0 0 [])
 | .bd _ _ _=>(0,.bd 0 0 [])
 | .par h=>(0,.par h)
 |_=>(0,.no)
def Qp(x:Bh)(yes no:M):M:=match x with
 | .t n=>.Pd n Xc fun _ sv=>match sv with
   | .own _ _=>yes
   | .pd _ _ _=>yes
   | .bd _ _ _=>yes
   | .par h=>.Pd h Xc fun _ Ek=>match Ek with
     | .own _ _=>yes
     |_=>no
   |_=>no
 |_=>no
def lv(inv:Inv)(q:List Nat):Nat:=inv.foldl (fun m e=>match Nat.blt q.length e.1.length||Lr e.1 q with|true=>m|false=>Nat.max m e.2) 0
def seen(ver:Nat)(inv:Inv)(m:List Nat)(f:D→Option SV):Option D→Nat × SV
 |some u=>match f u with
  |some r=>(Nat.min (lv inv m) ver,r)
  |none=>(0,.no)
 |none=>(0,.no)
def Bpc(f:D→Option SV)(ver:Nat)(sv:SV):Nat × SV:=match sv with
 | .own inv t=>match t with
   | .ptr u=>seen ver inv [0] f (some u)
   |_=>(0,.no)
 |_=>(0,.no)
def A1i(v:Nat)(p:List Nat)(f:D→Option SV)(ver:Nat)(sv:SV):Nat × SV:=match sv with
 | .own inv t=>match alive v inv p with
   |true=>seen ver inv p f (D.at p t)
   |false=>(0,.no)
 |_=>(0,.no)
def A9w(f:D→Option SV)(ver:Nat)(sv:SV):Nat × SV:=match sv with
 | .own inv t=>match t.head with
   |true=>seen ver inv [] f (some t)
   |false=>(0,.no)
 |_=>(0,.no)
def A1h(v:Nat)(p:List Nat)(f:D→Option SV)(ver:Nat)(sv:SV):Nat × SV:=match sv with
 | .own inv t=>match Hv v inv p with
   |true=>seen ver inv p f (D.at p t)
   |false=>(0,.no)
 |_=>(0,.no)
def N4(r:SV)(m:M):M:=match r with
 | .no=>.fail
 |_=>m
def Aje(x:Bh)(f:D→Option SV)(k:(s v:Nat)→List Nat→SV→M):M:=match x with
 | .t n=>.Pd n Xc fun _ sv=>match sv with
   | .own _ _=>.Pd n (Bpc f) fun v r=>N4 r (k n v [0] r)
   | .pd _ _ _=>.get n fun _ sv=>match sv with
     | .pd s v p=>match p with
       | []=>.fail
       |i::q=>.Pd s (A1i v (i::q) f) fun v' r=>N4 r (k s v' (i::q) r)
     |_=>.fail
   | .par h=>.Pd h (Bpc f) fun v r=>N4 r (k h v [0] r)
   |_=>.fail
 |_=>.fail
def Bbf(x:Bh)(f:D→Option SV)(k:(s v:Nat)→List Nat→SV→M):M:=match x with
 | .t n=>.Pd n Xc fun _ sv=>match sv with
   | .own _ _=>.Pd n (A9w f) fun v r=>N4 r (k n v [] r)
   | .bd _ _ _=>.get n fun _ sv=>match sv with
     | .bd s v p=>.Pd s (A1h v p f) fun v' r=>N4 r (k s v' p r)
     |_=>.fail
   | .par h=>.Pd h (A9w f) fun v r=>N4 r (k h v [] r)
   |_=>.fail
 |_=>.fail
def Bdw(i:Nat)(u:D):Option SV:=match As7 u i with
 |some o=>some (.v (.int .i64 (o:Nat)))
 |none=>none
def Ayk(d:Option Nat)(x:Bh)(i off:Nat):M:=Aje x (Bdw i) fun s v p r=>match r with
 | .v y=>.Co (y= .int .i64 (off:Nat)∧d≠some s) fun _=>Ci d (.pd s v (p++[i])) .done
 |_=>.fail
def Bnf(_:Nat)(sv:SV):Nat × SV:=match sv with
 | .own _ t=>(match t with
   | .ptr _=>(0,.pd 0 0 [])
   |_=>(0,.no))
 | .par h=>(0,.par h)
 |_=>(0,.no)
def A29(x:Bh)(yes no:M):M:=match x with
 | .t n=>.Pd n Bnf fun _ sv=>match sv with
   | .par h=>.Pd h Bnf fun _ Ek=>match Ek with
     | .pd _ _ _=>yes
     |_=>no
   |_=>no
 |_=>no
def Ba4(_:D):Option SV:=some (.pd 0 0 [])
def Bgi(d:Option Nat)(x:Bh):M:=Aje x Ba4 fun s v p _=>.Co (d≠some s) fun _=>Ci d (.pd s v p) .done
def Boi:D→Option SV
 | .it y=>some (.v y)
 | .vec _ _ _=>some (.bd 0 0 [])
 | .map _ _=>some (.bd 0 0 [])
 | .ptr _=>some (.pd 0 0 [])
 | .st _=>some (.own [] (.it .Ln))
def A4j(d:Option Nat)(agg:Bool)(sz:Nat)(x:Bh):M:=Aje x Boi fun s v p r=>match r with
 | .v y=>.Co (y.isAgg=agg∧y.size=sz) fun _=>Ci d (.v y) .done
 | .bd _ _ _=>.Co (agg=false∧sz=1∧d≠some s) fun _=>Ci d (.bd s v p) .done
 | .pd _ _ _=>.Co (agg=false∧sz=1∧d≠some s) fun _=>Ci d (.pd s v (p++[0])) .done
 | .own _ _=>A4h d agg sz x
 |_=>.fail
def Avk:D→Option SV
 | .vec _ sz l=>some (.v (.agg [.int .i64 (sz:Nat),.int .i64 l.length]))
 |_=>none
def Ayn(d:Option Nat)(sz:Nat)(x i:Bh):M:=Qi i fun n=>match n with
 | .int _ n=>Bbf x Avk fun s v p r=>match r with
   | .v y=>match y with
     | .agg l=>match l with
       | [a,b]=>match b with
         | .int _ len=>.Co (0≤n∧n<len∧a= .int .i64 (sz:Nat)∧d≠some s) fun _=>Ci d (.pd s v (p++[n.toNat])) .done
         |_=>.fail
       |_=>.fail
     |_=>.fail
   |_=>.fail
 |_=>.fail
def A8j(d:Option Nat)(str:Bool)(x:Bh):M:=Bbf x Avk fun _ _ _ r=>match r with
 | .v y=>match y with
   | .agg l=>match l with
     | [_,b]=>match b with
       | .int k len=>.Co (str=false∧k= .i64) fun _=>.fact (len≤maxLen) (Ci d (.v (.int .i64 len)) .done)
       |_=>.fail
     |_=>.fail
   |_=>.fail
 |_=>.fail
section
variable{P:Program}{N:Nat}{G:Mem}{σ:Lab}{Fr:Mem}{w0:Base}{w:World}{st:St}{a:Act}
theorem L5{o:Oper}{x:Bh}{yes no:M}(h1:Sound P N o yes)(h2:Sound P N o no):Sound P N o (Qp x yes no):=by
 intro G σ Fr w0 st a w Q next E hN hr hw hn A9
 have:yes.wp P Q st∨no.wp P Q st:=by
  cases x with
  |c _=>exact .inr hw
  |Fo _ _=>exact .inr hw
  |t n=>
   simp only[Qp,M.wp]at hw;cases hs:st[n]? with
   |none=>simp[hs]at hw
   |some cur=>
    obtain⟨cv,Hh⟩:=cur;simp only[hs]at hw;cases Hh with
    |own _ _=>exact .inl hw
    |pd _ _ _=>exact .inl hw
    |bd _ _ _=>exact .inl hw
    |par hh=>
     simp only[Xc,M.wp]at hw;cases Hf:st[hh]? with
     |none=>simp[Hf]at hw
     |some Gu=>
      obtain⟨cv',Bvy⟩:=Gu;simp only[Hf]at hw;cases Bvy<;>first|exact .inl hw|exact .inr hw
    |_=>exact .inr hw
 rcases this with h|h
 ·exact h1 G σ Fr w0 st a w Q next E hN hr h hn A9
 ·exact h2 G σ Fr w0 st a w Q next E hN hr h hn A9
theorem Wi{ver:Nat}{inv:Inv}{m:List Nat}{f:D→Option SV}{du:Option D}{k:Nat→SV→M}{Q:St→Prop}
 (h:((fun v r=>N4 r (k v r)) (seen ver inv m f du).1 (seen ver inv m f du).2).wp P Q st):∃u r v,du=some u∧f u=some r∧v≤ver∧(k v r).wp P Q st:=by
 cases du with
 |none=>exact h.elim
 |some u=>
  cases hf:f u with
  |none=>simp only[seen,hf]at h;exact h.elim
  |some r=>
   simp only[seen,hf]at h;refine⟨u,r,Nat.min (lv inv m) ver,rfl,hf,Nat.min_le_right _ _,?_⟩;cases r<;>first|exact h.elim|exact h
theorem V1{x:Operand}{y:Bh}{f:D→Option SV}{k:(s v:Nat)→List Nat→SV→M}{Q:St→Prop}(h:Rel G σ Fr w0 st a w)(ho:Bu w0.n x y=true)(hq:(Aje y f k).wp P Q st):
 ∃s cur inv t p u r v,(k s v p r).wp P Q st∧st[s]?=some (cur,.own inv t)∧p≠[]∧Qc w t (val a w0 s) p (a.eval x)∧t.at p=some u∧f u=some r∧v≤cur:=by
 cases y with
 |c _=>exact hq.elim
 |Fo _ _=>exact hq.elim
 |t n=>
  obtain⟨rfl,Ej⟩:=Gb ho;simp only[Aje,M.wp]at hq;cases hs:st[n]? with
  |none=>simp[hs]at hq
  |some cur=>
   obtain⟨ver,sv⟩:=cur;simp only[hs]at hq;have Ba:=h.slot Ej hs;have hv:val a w0 n=a.eval (.tmp n):=G9 (by rw[h.n];exact Ej)
   cases sv with
   |own inv t=>
    simp only[Xc,M.wp,hs]at hq;cases t with
    |ptr t=>
     obtain⟨u,r,v,h1,h2,h3,h4⟩:=Wi (k:=fun v r=>k n v [0] r) hq
     cases h1;exact⟨n,ver,inv,_,[0],t,r,v,h4,hs,by simp,by rw[hv];exact Dr.pt Ba,rfl,h2,h3⟩
    |_=>exact hq.elim
   |pd s v p=>
    obtain⟨cur,h1,h2,h3⟩:=Ba;simp only[Xc,M.wp,hs]at hq;cases p with
    |nil=>exact hq.elim
    |cons i q=>
     simp only[M.wp,h1]at hq;obtain⟨cv,Hh⟩:=cur;cases Hh with
     |own inv t=>
      simp only[A1i]at hq;cases ha:alive v inv (i::q)with
      |false=>rw[ha]at hq;exact hq.elim
      |true=>
       rw[ha]at hq;obtain⟨u,r,v',k1,k2,k3,k4⟩:=Wi (k:=fun v' r=>k s v' (i::q) r) hq
       exact⟨s,cv,inv,t,i::q,u,r,v',k4,h1,by simp,h3 inv t rfl (by simp) ha,k1,k2,k3⟩
     |_=>exact hq.elim
   |par hh=>
    obtain⟨Na,hle⟩:=h.Nv n ver hh hs;rw[hv]at Na;simp only[Xc,M.wp]at hq;cases h1:st[hh]? with
    |none=>simp[h1]at hq
    |some cur=>
     obtain⟨cv,Hh⟩:=cur;simp only[h1]at hq;have Fy:=h.Bj hh cv Hh h1;cases Hh with
     |own inv t=>
      cases t with
      |ptr t=>
       obtain⟨u,r,v,k1,k2,k3,k4⟩:=Wi (k:=fun v r=>k hh v [0] r) hq
       cases k1;exact⟨hh,cv,inv,_,[0],t,r,v,k4,h1,by simp,by rw[Na];exact Dr.pt Fy,rfl,k2,k3⟩
      |_=>exact hq.elim
     |_=>exact hq.elim
   |_=>exact hq.elim
theorem A30{x:Operand}{y:Bh}{f:D→Option SV}{k:(s v:Nat)→List Nat→SV→M}{Q:St→Prop}(h:Rel G σ Fr w0 st a w)(ho:Bu w0.n x y=true)(hq:(Bbf y f k).wp P Q st):
 ∃s cur inv t p u r v,(k s v p r).wp P Q st∧st[s]?=some (cur,.own inv t)∧R7 w t (val a w0 s) p (a.eval x)∧t.at p=some u∧f u=some r∧v≤cur:=by
 cases y with
 |c _=>exact hq.elim
 |Fo _ _=>exact hq.elim
 |t n=>
  obtain⟨rfl,Ej⟩:=Gb ho;simp only[Bbf,M.wp]at hq;cases hs:st[n]? with
  |none=>simp[hs]at hq
  |some cur=>
   obtain⟨ver,sv⟩:=cur;simp only[hs]at hq;have Ba:=h.slot Ej hs;have hv:val a w0 n=a.eval (.tmp n):=G9 (by rw[h.n];exact Ej)
   cases sv with
   |own inv t=>
    simp only[Xc,M.wp,hs,A9w]at hq;cases ht:t.head with
    |false=>rw[ht]at hq;exact hq.elim
    |true=>
     rw[ht]at hq;obtain⟨u,r,v,h1,h2,h3,h4⟩:=Wi (k:=fun v r=>k n v [] r) hq
     cases h1;exact⟨n,ver,inv,_,[],_,r,v,h4,hs,by rw[hv];exact Dr.hd Ba ht,rfl,h2,h3⟩
   |bd s v p=>
    obtain⟨cur,h1,h2,h3⟩:=Ba;simp only[Xc,M.wp,hs,h1]at hq;obtain⟨cv,Hh⟩:=cur;cases Hh with
    |own inv t=>
     simp only[A1h]at hq;cases ha:Hv v inv p with
     |false=>rw[ha]at hq;exact hq.elim
     |true=>
      rw[ha]at hq;obtain⟨u,r,v',k1,k2,k3,k4⟩:=Wi (k:=fun v' r=>k s v' p r) hq
      exact⟨s,cv,inv,t,p,u,r,v',k4,h1,h3 inv t rfl ha,k1,k2,k3⟩
    |_=>exact hq.elim
   |par hh=>
    obtain⟨Na,hle⟩:=h.Nv n ver hh hs;rw[hv]at Na;simp only[Xc,M.wp]at hq;cases h1:st[hh]? with
    |none=>simp[h1]at hq
    |some cur=>
     obtain⟨cv,Hh⟩:=cur;simp only[h1]at hq;have Fy:=h.Bj hh cv Hh h1;cases Hh with
     |own inv t=>
      simp only[A9w]at hq;cases ht:t.head with
      |false=>rw[ht]at hq;exact hq.elim
      |true=>
       rw[ht]at hq;obtain⟨u,r,v,k1,k2,k3,k4⟩:=Wi (k:=fun v r=>k hh v [] r) hq
       cases k1;exact⟨hh,cv,inv,_,[],_,r,v,k4,h1,by rw[Na];exact Dr.hd Fy ht,rfl,k2,k3⟩
     |_=>exact hq.elim
   |_=>exact hq.elim
theorem Ac9{o:Oper}{Q:St→Prop}{next:Act→World→Prop}{E:Exit→Act→World→Prop}{s cur v:Nat}{inv:Inv}{t:D}{q:List Nat}{c:Value}(hr:Rel G σ Fr w0 st a w)(A9:∀d,o.dst=some d→d<w0.n)(hs:st[s]?=some (cur,.own inv t))(hle:v≤cur)
 (hn:∀G' σ' st' a' w',G.le G'→Rel G' σ' Fr w0 st' a' w'→Q st'→next a' w') (A2:o.dst≠some s) (hp:Qc w t (val a w0 s) q c) (Ez:(execOp a.eval o).run P w= .ok (.value c) w)
 (hq:(Ci o.dst (.pd s v q) .done).wp P Q st):o.wp P a w next E:=by
 obtain⟨σ',st',r1,r2⟩:=hr.Ci A9 (sv:=.pd s v q) (c:=c) (fun d' hd ver _=>by
  refine⟨_,by rw[Az (by rintro rfl;exact A2 hd)];exact hs,hle,fun Kj t' e _ _=>?_⟩
  cases e;rw[Db (by rintro rfl;exact A2 hd)]
  exact hp) hq
 exact Df Ez (hn G σ' st' _ w (Mem.le.refl G) r1 r2)
theorem A4q{o:Oper}{Q:St→Prop}{next:Act→World→Prop}{E:Exit→Act→World→Prop}{s cur v:Nat}{inv:Inv}{t:D}{q:List Nat}{c:Value}(hr:Rel G σ Fr w0 st a w)(A9:∀d,o.dst=some d→d<w0.n)(hs:st[s]?=some (cur,.own inv t))(hle:v≤cur)
 (hn:∀G' σ' st' a' w',G.le G'→Rel G' σ' Fr w0 st' a' w'→Q st'→next a' w') (A2:o.dst≠some s) (hp:R7 w t (val a w0 s) q c) (Ez:(execOp a.eval o).run P w= .ok (.value c) w)
 (hq:(Ci o.dst (.bd s v q) .done).wp P Q st):o.wp P a w next E:=by
 obtain⟨σ',st',r1,r2⟩:=hr.Ci A9 (sv:=.bd s v q) (c:=c) (fun d' hd ver _=>by
  refine⟨_,by rw[Az (by rintro rfl;exact A2 hd)];exact hs,hle,fun Kj t' e _=>?_⟩
  cases e;rw[Db (by rintro rfl;exact A2 hd)]
  exact hp) hq
 exact Df Ez (hn G σ' st' _ w (Mem.le.refl G) r1 r2)
theorem A4x{o:Oper}{t:TypeId}{x:Operand}{x':Bh}{i off:Nat}(ho:o.op= .fieldAddr t x i)(hx:Bu N x x'=true)(ht:Aga P t i off=true):
 Sound P N o (Ayk o.dst x' i off):=by
 intro G σ Fr w0 st a w Q next E hN hr hw hn A9
 subst hN;obtain⟨s,cur,inv,tr,p,u,r,v,h1,hs,hp0,Pj,Dd,hf,hle⟩:=V1 hr hx hw;have Fm:=hr.Bj s cur _ hs;unfold Bdw at hf;split at hf
 ·rename_i Xf hof;cases hf;obtain⟨⟨Aif,A2⟩,h1⟩:=h1;have Aif:Xf=off:=by injection Aif with _ Aif;exact_mod_cast Aif
  subst Aif;obtain⟨b,off,bl,ty,fz,pre,cs,post,Fw,e1,e2,e3,e4,e5,e6,e7⟩:=Qc.block Fm Dd Pj;obtain⟨y,Jw,k1,k2⟩:=A54 (w:=w) (b:=b) (o:=off) (cs:=cs) hof;refine Ac9 hr A9 hs hle hn A2 ⟨y,b,off+Xf,Jw,by rw[V7 Dd];exact k1,by rw[Sd Dd e7 k1];exact k2,rfl⟩ ?_ h1
  simp[execOp,ho,e1,Afb ht]
 ·cases hf
theorem Ayx{o:Oper}{x:Operand}{x':Bh}(ho:o.op= .move x∨o.op= .assign x)(hx:Bu N x x'=true):Sound P N o (Bgi o.dst x'):=by
 intro G σ Fr w0 st a w Q next E hN hr hw hn A9
 subst hN;obtain⟨s,cur,inv,tr,p,u,r,v,h1,hs,hp0,Pj,Dd,hf,hle⟩:=V1 hr hx hw;obtain⟨A2,h1⟩:=h1;refine Ac9 hr A9 hs hle hn A2 Pj ?_ h1;rcases ho with ho|ho<;>simp[execOp,ho]
theorem Au5{o:Oper}{x:Bh}{m1 m2:M}(h1:Sound P N o m1)(h2:Sound P N o m2):Sound P N o (A29 x m1 m2):=by
 intro G σ Fr w0 st a w Q next E hN hr hw hn A9
 cases x with
 |c _=>exact h2 G σ Fr w0 st a w Q next E hN hr hw hn A9
 |Fo _ _=>exact h2 G σ Fr w0 st a w Q next E hN hr hw hn A9
 |t n=>
  simp only[A29,M.wp]at hw;cases hs:st[n]? with
  |none=>rw[hs]at hw;exact hw.elim
  |some cur=>
   rw[hs]at hw;dsimp only at hw;split at hw
   ·rename_i h _;simp only[M.wp]at hw;cases Zv:st[h]? with
    |none=>rw[Zv]at hw;exact hw.elim
    |some Amj=>
     rw[Zv]at hw;dsimp only at hw;split at hw
     ·exact h1 G σ Fr w0 st a w Q next E hN hr hw hn A9
     ·exact h2 G σ Fr w0 st a w Q next E hN hr hw hn A9
   ·exact h2 G σ Fr w0 st a w Q next E hN hr hw hn A9
theorem A4z{o:Oper}{t:TypeId}{x i:Operand}{x' i':Bh}{sz:Nat}(ho:o.op= .indexAddr t x i)(hx:Bu N x x'=true)(hi:Bu N i i'=true)(ht:Uk P t sz=true):
 Sound P N o (Ayn o.dst sz x' i'):=by
 intro G σ Fr w0 st a w Q next E hN hr hw hn A9
 subst hN;obtain⟨n,h1,hnv⟩:=Hs hr hi hw;clear hw;split at h1
 ·rename_i k n;rw[Bb.int]at hnv;obtain⟨s,cur,inv,tr,p,u,r,v,h1,hs,hhd,Dd,hf,hle⟩:=A30 hr hx h1;have Fm:=hr.Bj s cur _ hs;unfold Avk at hf;split at hf
  ·rename_i e Ex l;cases hf;obtain⟨⟨h0,Di,Cq,A2⟩,h1⟩:=h1;have Cq:Ex=sz:=by injection Cq with _ Cq;exact_mod_cast Cq
   subst Cq;have Di:n.toNat<l.length:=by omega
   obtain⟨hh,Fw,e5,e6,e7⟩:=R7.read Fm Dd hhd;simp only[Bp]at e5;rcases e5 with⟨_,rfl,_⟩|⟨g,off,cap,cu,xs,Et,q1,⟨ty,fz,q2,_⟩,_⟩
   ·simp at Di
   ·injection q1 with q1
    have hk:(D.vec e Ex l).Cr n.toNat=some l[n.toNat]:=by simp[D.Cr,Ac Di]
    refine Ac9 hr A9 hs hle hn A2 (c:=.pointer (some ⟨g,off+n.toNat*Ex,none⟩)) ⟨_,g,off+n.toNat*Ex,(cu.toList.drop (off+n.toNat*Ex)).take Ex,by rw[V7 Dd];exact hk,?_,rfl⟩ ?_ h1
    ·rw[Sd Dd e7 hk,q1];simp only[Dz,Ac Di,q2]
    ·simp[execOp,ho,q1,hnv,Afe ht w h0 Di]
  ·cases hf
 ·exact h1.elim
theorem Bb3{o:Oper}{t:TypeId}{x:Operand}{x':Bh}{str:Bool}(ho:o.op= .call {callee:=.builtin .len,args:= #[x],argTypes:= #[t]})(hx:Bu N x x'=true)(ht:Aen P t str=true):
 Sound P N o (A8j o.dst str x'):=by
 intro G σ Fr w0 st a w Q next E hN hr hw hn A9
 subst hN;obtain⟨s,cur,inv,tr,p,u,r,v,h1,hs,hhd,Dd,hf,hle⟩:=A30 hr hx hw;have Fm:=hr.Bj s cur _ hs;unfold Avk at hf;split at hf
 ·rename_i e Ex l;cases hf;obtain⟨⟨rfl,_⟩,h1⟩:=h1;obtain⟨hh,Fw,e5,e6,e7⟩:=R7.read Fm Dd hhd;simp only[Bp]at e5;have hsl:∃e,P.underlying t=some (.slice e):=by
   unfold Aen at ht;split at ht
   ·cases ht
   ·rename_i e h;exact⟨e,h⟩
   ·cases ht
  obtain⟨e',hu⟩:=hsl;have fin:∀{ad:Option Addr} {cap:Nat},a.eval x= .slice ad l.length cap→l.length≤maxLen→o.wp P a w next E:=by
   intro ad cap he hm;exact Gn hr hn A9 (Bb.int.2 rfl) (h1 (by exact_mod_cast hm)) (by simp[execOp,ho,resolve,invoke,builtin,Builtin.len_,run_underlying hu,he,goInt])
  rcases e5 with⟨q1,rfl,_⟩|⟨g,off,cap,cu,xs,Et,q1,_,_,q2,q3,_⟩
  ·injection q1 with q1
   exact fin q1 (A3 _)
  ·injection q1 with q1
   exact fin q1 (C2 q2 q3)
 ·cases hf
theorem A6p{o:Oper}{t:TypeId}{x:Operand}{x':Bh}{agg:Bool}{sz:Nat}(ho:o.op= .load t x)(hx:Bu N x x'=true)(ht:Mq P t agg sz=true):Sound P N o (A4j o.dst agg sz x'):=by
 intro G σ Fr w0 st a w Q next E hN hr hw hn A9
 have hold:=A6n (P:=P) ho hx ht;subst hN;have run:∀{b off:Nat} {v:Value},a.eval x= .pointer (some ⟨b,off,none⟩)→(loadVar t ⟨b,off,none⟩).run P w= .ok v w→(execOp a.eval o).run P w= .ok (.value v) w:=by
  intro b off v hp hl;simp[execOp,ho,hp,Instr.loadAt,Instr.sureAddr,hl]
 obtain⟨s,cur,inv,tr,p,u,r,v,h1,hs,hp0,Pj,Dd,hf,hle⟩:=V1 hr hx hw;have Fm:=hr.Bj s cur _ hs;obtain⟨b,off,bl,ty,fz,pre,cs,post,Fw,e1,e2,e3,e4,e5,e6,e7⟩:=Qc.block Fm Dd Pj;have Acj:=Bp.one e5;have hlen:=Bp.length e5;cases u with
 |it y=>
  cases hf;obtain⟨⟨rfl,rfl⟩,h1⟩:=h1;simp only[Bp]at e5;obtain⟨v,hl,hv⟩:=Wf (P:=P) ht e2 e3 e4 e5.1;exact Gn hr hn A9 hv h1 (run e1 hl)
 |vec e Ex l=>
  cases hf;obtain⟨⟨rfl,rfl,A2⟩,h1⟩:=h1;obtain⟨c,rfl⟩:=E8.1 hlen;have hl:=(Ka (P:=P) (cs:=[c]) ht e2 e3 e4).2 c rfl rfl;exact A4q hr A9 hs hle hn A2 ⟨_,_,Dd,rfl,e7⟩ (run e1 hl) h1
 |map ks vs=>
  cases hf;obtain⟨⟨rfl,rfl,A2⟩,h1⟩:=h1;obtain⟨c,rfl⟩:=E8.1 hlen;have hl:=(Ka (P:=P) (cs:=[c]) ht e2 e3 e4).2 c rfl rfl;exact A4q hr A9 hs hle hn A2 ⟨_,_,Dd,rfl,e7⟩ (run e1 hl) h1
 |ptr d=>
  cases hf;obtain⟨⟨rfl,rfl,A2⟩,h1⟩:=h1;obtain⟨c,rfl⟩:=E8.1 hlen;have hl:=(Ka (P:=P) (cs:=[c]) ht e2 e3 e4).2 c rfl rfl;simp only[Bp]at e5;obtain⟨g,cells,ty',Et,q1,q2,_⟩:=e5;injection q1 with q1
  subst q1;refine Ac9 hr A9 hs hle hn A2 ⟨d,g,0,cells.toList,by rw[V7 Dd];rfl,?_,rfl⟩ (run e1 hl) h1
  rw[Sd Dd e7 (y:=d) rfl];simp[Dz,q2]
 |st l=>
  cases hf;exact hold G σ Fr w0 st a w Q next E rfl hr h1 hn A9
end

open Go.Op
def Bc9(_:D):Option SV:=some (.v .Ln)
def A8q(d:Option Nat)(x:Bh):M:=Qp x (Aje x Bc9 fun s v p _=>.Co (d≠some s) fun _=>Ci d (.pd s v p) .done) (match x with
 | .t n=>.get n fun _ sv=>match sv with
   | .pt s k ver off r=>.get s fun cur _=>.Co (d≠some s∧ver=cur) fun _=>Ci d (.pt s k ver off r) .done
   |_=>.fail
 |_=>.fail)
def A8s(d:Option Nat)(neg:Bool)(x:Bh):M:=Qp x (Aje x Bc9 fun _ _ _ _=>Ci d (.v (.bool neg)) .done) (match x with
 | .t n=>.get n fun _ sv=>match sv with
   | .pt s _ ver _ _=>.get s fun cur _=>.Co (ver=cur) fun _=>Ci d (.v (.bool neg)) .done
   | .v y=>match y with
     | .Ra=>Ci d (.v (.bool (!neg))) .done
     |_=>.fail
   |_=>.fail
 |_=>.fail)
def Aur(P:Program)(t:TypeId)(y:Operand):Bool:=(match P.underlying t with
 |some (.pointer _)=>true
 |_=>false)&&(match y with
 | .const (.pointer none)=>true
 |_=>false)
section
variable{P:Program}{N:Nat}{G:Mem}{σ:Lab}{Fr:Mem}{w0:Base}{w:World}{st:St}{a:Act}
theorem Bb8{o:Oper}{x:Operand}{x':Bh}(ho:o.op= .nilCheck x)(hx:Bu N x x'=true):Sound P N o (A8q o.dst x'):=by
 refine L5 ?_ ?_
 ·intro G σ Fr w0 st a w Q next E hN hr hw hn A9
  subst hN;obtain⟨s,cur,inv,tr,p,u,r,v,h1,hs,hp0,Pj,Dd,hf,hle⟩:=V1 hr hx hw;obtain⟨A2,h1⟩:=h1;have Bxd:=Pj;obtain⟨_,b,off,cs,_,_,hc⟩:=Bxd;refine Ac9 hr A9 hs hle hn A2 Pj ?_ h1;simp[execOp,ho,hc]
 ·intro G σ Fr w0 st a w Q next E hN hr hw hn A9
  subst hN;cases x' with
  |c _=>exact hw.elim
  |Fo _ _=>exact hw.elim
  |t n=>
   obtain⟨rfl,Ej⟩:=Gb hx;simp only[M.wp]at hw;cases hs:st[n]? with
   |none=>simp[hs]at hw
   |some cur=>
    obtain⟨ver,sv⟩:=cur;simp only[hs]at hw;have Ba:=hr.slot Ej hs;split at hw
    ·rename_i s k v off r;obtain⟨cur,g1,g2,g3⟩:=Ba;simp only[M.wp,g1]at hw;obtain⟨⟨A2,hv⟩,hw⟩:=hw;obtain⟨b,g4,g5⟩:=g3 hv;obtain⟨σ',st',r1,r2⟩:=hr.Ci A9 (sv:=.pt s k v off r) (c:=a.eval (.tmp n)) (fun d' hd ver _=>
      ⟨cur,by rw[Az (by rintro rfl;exact A2 hd)];exact g1,g2,fun e=>⟨b,Lab.D1.2 ⟨fun e=>A2 (by rw[hd,e]),g4⟩,g5⟩⟩) hw
     refine Df (v:=a.eval (.tmp n)) (w':=w) ?_ (hn G σ' st' _ w (Mem.le.refl G) r1 r2);simp[execOp,ho,g5]
    ·exact hw.elim
theorem A1g{d:Nat}{t e:TypeId}(hu:P.underlying t=some (.pointer e))(x:Option Addr)(w:World):(Op.equalIn (d+1) t (.pointer x) (.pointer none)).run P w= .ok x.isNone w:=by
 cases x<;>simp[Op.equalIn,run_underlying hu]
theorem A9v{t e:TypeId}(hu:P.underlying t=some (.pointer e))(x:Option Addr)(w:World):(Op.equal t (.pointer x) (.pointer none)).run P w= .ok x.isNone w:=A1g (d:=9999) hu x w
theorem Au6{o:Oper}{neg:Bool}{t u:TypeId}{x y:Operand}{x':Bh}(ho:o.op= .binOp (if neg then .neq else .eql) t x y u)(hx:Bu N x x'=true)(hy:Aur P t y=true):Sound P N o (A8s o.dst neg x'):=by
 unfold Aur at hy;simp only[Ad]at hy;obtain⟨hu,hy⟩:=hy;split at hu
 ·rename_i e hu';split at hy
  ·have run:∀{a:Act} {w:World} {ad:Option Addr},a.eval x= .pointer ad→(execOp a.eval o).run P w= .ok (.value (.bool (if neg then !ad.isNone else ad.isNone))) w:=by
    intro a w ad he;have hq:=A9v hu' ad w;have L9:a.eval (.const (.pointer none))= .pointer none:=rfl;cases neg<;>simp[execOp,ho,he,L9,eqGuard,binOp,hq]
   refine L5 ?_ ?_
   ·intro G σ Fr w0 st a w Q next E hN hr hw hn A9
    subst hN;obtain⟨s,cur,inv,tr,p,u,r,v,h1,hs,hp0,Pj,Dd,hf,hle⟩:=V1 hr hx hw;obtain⟨_,b,off,cs,_,_,hc⟩:=Pj;refine Gn hr hn A9 (Bb.bool.2 rfl) h1 ?_;have:=run (w:=w) hc;cases neg<;>simpa using this
   ·intro G σ Fr w0 st a w Q next E hN hr hw hn A9
    subst hN;cases x' with
    |c _=>exact hw.elim
    |Fo _ _=>exact hw.elim
    |t n=>
     obtain⟨rfl,Ej⟩:=Gb hx;simp only[M.wp]at hw;cases hs:st[n]? with
     |none=>simp[hs]at hw
     |some cur=>
      obtain⟨ver,sv⟩:=cur;simp only[hs]at hw;have Ba:=hr.slot Ej hs;split at hw
      ·rename_i s k v off r;obtain⟨cur,g1,g2,g3⟩:=Ba;simp only[M.wp,g1]at hw;obtain⟨hv,hw⟩:=hw;obtain⟨b,g4,g5⟩:=g3 hv;refine Gn hr hn A9 (Bb.bool.2 rfl) hw ?_;have:=run (w:=w) g5;cases neg<;>simpa using this
      ·split at hw
       ·have hc:a.eval (.tmp n)= .pointer none:=by
         have h:Bb G .Ra (a.eval (.tmp n)):=Ba;unfold Bb at h;rw[if_neg (by simp[I.isAgg])]at h
         simpa[Bi]using h
        refine Gn hr hn A9 (Bb.bool.2 rfl) hw ?_;have:=run (w:=w) hc;cases neg<;>simpa using this
       ·exact hw.elim
      ·exact hw.elim
  ·cases hy
 ·cases hu
end

open Go.Op
def Az1(w:World)(e:TypeId)(sz:Nat)(c:Value)(n:Nat)(xs:List Value):Prop:=
 xs.length=n*sz∧
 ((c= .slice none 0 0∧n=0)∨
  ∃g off cap cur,c= .slice (some ⟨g,off,none⟩) n cap∧Row w g e cur∧(e<1000000→off=0∧cur.size=cap*sz)∧n≤cap∧cap≤maxLen∧off+cap*sz≤cur.size∧(cur.toList.drop off).take (n*sz)=xs)
section
variable{P:Program}{N:Nat}{G:Mem}{σ:Lab}{Fr:Mem}{w0:Base}{w:World}{st:St}{a:Act}
theorem Bp.Btv{e:TypeId}{sz:Nat}{l0:List I}{c:Value}{bs:List Nat}(h:Bp G w (.vec e sz (l0.map D.it)) [c] bs):
 ∃xs,Az1 w e sz c l0.length xs∧B4 G l0 xs∧(∀x∈l0,x.size=sz)∧((bs=[]∧c.ownBlock=none)∨∃g,bs=[g]∧c.ownBlock=some g):=by
 simp only[Bp]at h;rcases h with⟨e1,e2,rfl⟩|⟨g,off,cap,cur,xs,Et,e1,q1,q0,q2,q3,q4,q5,q6,q7,rfl⟩
 ·injection e1 with e1
  have:l0=[]:=by simpa using e2
  subst this;exact⟨[],⟨by simp,.inl ⟨e1,rfl⟩⟩,by simp[B4],by simp,.inl ⟨rfl,by rw[e1];rfl⟩⟩
 ·injection e1 with e1
  obtain⟨q6',rfl⟩:=Ct.its.1 q6;have Jd:∀x∈l0,x.size=sz:=fun x hx=>q7 _ (Cs.2 ⟨x,hx,rfl⟩)
  rw[An]at e1 q2 q5;exact⟨xs,⟨by rw[B4.length _ _ q6',Ht Jd],.inr ⟨g,off,cap,cur,e1,q1,q0,q2,q3,q4,q5⟩⟩,q6',Jd,.inr ⟨g,rfl,by rw[e1];rfl⟩⟩
theorem Az1.A9x{e:TypeId}{sz:Nat}{l0:List I}{c:Value}{xs:List Value}(h:Az1 w e sz c l0.length xs)(hr:B4 G l0 xs)(hs:∀x∈l0,x.size=sz)
 (hb:∀b,c.ownBlock=some b→G b=none∧Fr b=none∧σ b=none):T6 G σ Fr w (.vec e sz (l0.map D.it)) c:=by
 rcases h.2 with⟨rfl,h0⟩|⟨g,off,cap,cur,rfl,q1,q0,q2,q3,q4,q5⟩
 ·obtain rfl:=Dg h0;exact⟨[],by simp[Bp,Value.cells],rfl,Dn,by simp⟩
 ·refine⟨[g],?_,rfl,by simp,?_⟩
  ·simp only[Bp,Value.cells];refine .inr ⟨g,off,cap,cur,xs,[],by simp,q1,q0,by simpa using q2,q3,q4,by simpa using q5,Ct.its.2 ⟨hr,rfl⟩,?_,rfl⟩
   intro x hx;obtain⟨y,hy,rfl⟩:=Cs.1 hx;exact hs y hy
  ·intro b Dc;obtain rfl:=Cx.1 Dc;obtain⟨k1,k2,k3⟩:=hb b rfl;obtain⟨_,_,k,_⟩:=q1;exact⟨k1,k2,k3,(C3.1 k).1⟩
def A8v(d:Nat)(sz:Nat)(x lo:Bh):M:=Qi lo fun u=>match u with
 | .int _ k=>Um x fun v=>match v with
   | .vec e Ex l=>match Bw l with
     |some l0=>.Co (Ex=sz∧0≤k∧k.toNat≤l0.length) fun _=>Eo d (.own [] (.vec (if e<1000000 then e+1000000 else e) sz ((l0.drop k.toNat).map D.it)))
     |none=>.fail
   |_=>.fail
 |_=>.fail
theorem Bce{o:Oper}{d:Nat}{t:TypeId}{x lo:Operand}{x' lo':Bh}{sz:Nat}(hd:o.dst=some d)(ho:o.op= .slice t x (some lo) none none)(hx:Bu N x x'=true)
 (hlo:Bu N lo lo'=true) (ht:Uk P t sz=true):Sound P N o (A8v d sz x' lo'):=by
 intro G0 σ0 Fr w0 st0 a w Q next E hN hr hw hn A9
 subst hN;obtain⟨u,h1,hk⟩:=Hs hr hlo hw;split at h1
 ·rename_i kk k;rw[Bb.int]at hk;obtain⟨v,bv,G2,σ2,st2,Zp,Kn,h2,hfv,_,_⟩:=Q4 hr hx h1;split at h2
  ·rename_i e Ex l;split at h2
   ·rename_i l0 hl0;obtain⟨⟨rfl,Ts,L8⟩,h2⟩:=h2;obtain rfl:=Abz hl0;obtain⟨v1,v2,v3,v4⟩:=hfv;rw[G7 v2]at v1;obtain⟨xs,k1,k2,k3,k4⟩:=Bp.Btv v1;obtain⟨ad,cap,hc,Tg⟩:∃ad cap,a.eval x= .slice ad l0.length cap∧l0.length≤cap:=by
     rcases k1.2 with⟨q1,q2⟩|⟨g,off,cap,cur,q1,_,_,q2,_⟩
     ·exact⟨none,0,by rw[q1,q2],by omega⟩
     ·exact⟨_,cap,q1,q2⟩
    have hb:=N7 (P:=P) (a:=a) (isSlice:=true) (len:=l0.length) (cap:=cap) (lo:=some lo) (hi:=none) (i:=k) (j:=(l0.length:Int)) w (.inr ⟨lo,kk,rfl,hk⟩) (.inl ⟨rfl,rfl⟩) Ts (by omega) (by omega) Tg
    have hsl:∃e i0,P.underlying t=some (.slice e)∧P.info? e=some i0∧i0.size=Ex:=by
     unfold Uk at ht;split at ht
     ·rename_i e hu;split at ht
      ·rename_i i0 hi0;simp only[Ad,beq_iff_eq]at ht;exact⟨e,i0,hu,hi0,ht.1⟩
      ·cases ht
     ·cases ht
    obtain⟨e0,i0,hu,hi0,Cq⟩:=hsl;have Ez:(execOp a.eval o).run P w= .ok (.value (.slice (if cap=k.toNat then ad else ad.map (·.add (k.toNat*Ex))) (l0.length - k.toNat) (cap - k.toNat))) w:=by
     simp only[Bx,Option.map_none,if_true,Bool.true_eq_false,if_false,reduceIte]at hb;simp[execOp,ho,Instr.sliceAt,Instr.slice,run_underlying hu,hc,hb,sizeOf,typeInfo,hi0,Cq]
    have Tq:¬((if e<1000000 then e+1000000 else e)<1000000):=by by_cases h:e<1000000<;>simp[h]<;>omega
    have Mx:∃d',xs=xs.take (k.toNat*Ex)++d'∧B4 G2 (l0.drop k.toNat) d'∧d'=xs.drop (k.toNat*Ex):=by
     have k2':=k2;rw[←B3 k.toNat l0]at k2';obtain⟨c,d',hcd,h5,h6⟩:=B4.split k2';have Eh:c.length=k.toNat*Ex:=by rw[B4.length _ _ h5,Ht (sz:=Ex) fun x hx=>k3 x (C6 hx),Ck,Da L8]
     refine⟨d',?_,h6,?_⟩
     ·rw[hcd, ←Eh,Gt]
     ·rw[hcd, ←Eh,Jy]
    obtain⟨d',_,hrd,W6⟩:=Mx;have Arf:∀x∈l0.drop k.toNat,x.size=Ex:=fun x hx=>k3 x (Er hx)
    have hFD:T6 G2 σ2 Fr w (.vec (if e<1000000 then e+1000000 else e) Ex ((l0.drop k.toNat).map D.it)) (.slice (if cap=k.toNat then ad else ad.map (·.add (k.toNat*Ex))) (l0.length - k.toNat) (cap - k.toNat)):=by
     refine Az1.A9x (xs:=d') ⟨by rw[W6,Br,k1.1,Br,Nat.sub_mul],?_⟩ hrd Arf ?_
     ·rcases k1.2 with⟨q1,q2⟩|⟨g,off,cp,cur,q1,⟨ty,fz,q2,q3,_⟩,q0,q4,q5,q6,q7⟩
      ·rw[hc]at q1;injection q1 with e1 e2 e3
       subst e1;subst e3;left;have h1:k.toNat=0:=by omega
       simp[h1,q2]
      ·rw[hc]at q1;cases q1;right;have hkm:k.toNat*Ex≤cap*Ex:=C7 _ (by omega)
       by_cases hck:cap=k.toNat
       ·refine⟨g,off,0,cur,?_,⟨ty,fz,q2,q3,fun h=>absurd h Tq⟩,fun h=>absurd h Tq,?_,by omega,by omega,?_⟩
        ·rw[if_pos hck,Br,hck,Nat.sub_self]
        ·rw[Br];omega
        ·have:l0.length - k.toNat=0:=by omega
         rw[W6,Br,this,Nat.zero_mul,List.take_zero];symm;rw[List.drop_eq_nil_iff,k1.1];exact C7 _ (by omega)
       ·refine⟨g,off+k.toNat*Ex,cap - k.toNat,cur,?_,⟨ty,fz,q2,q3,fun h=>absurd h Tq⟩,fun h=>absurd h Tq,?_,by omega,?_,?_⟩
        ·rw[if_neg hck,Br];simp[add_lit]
        ·rw[Br];omega
        ·rw[Nat.sub_mul];omega
        ·rw[W6, ←q7,Br,List.drop_take,List.drop_drop,Nat.sub_mul]
     ·intro b hb;have Dc:(a.eval x).ownBlock=some b:=by
       rw[hc];cases ad with
       |none=>split at hb<;>simp[Value.ownBlock]at hb
       |some A=>
        have hA:∀m,(A.add m).block=A.block:=by
         intro m;unfold Addr.add;split<;>rfl
        split at hb<;>simpa[Value.ownBlock,hA]using hb
      rcases k4 with⟨_,h⟩|⟨g,rfl,h⟩
      ·rw[h]at Dc;cases Dc
      ·rw[h]at Dc;cases Dc;obtain⟨p1,p2,p3,_⟩:=v4 b (by simp)
       exact⟨p1,p2,p3⟩
    obtain⟨σ',st',r1,r2⟩:=Kn.H3 (P:=P) (A9 d hd) hFD h2;exact Df Ez (by rw[hd];exact hn G2 σ' st' _ w Zp r1 r2)
   ·exact h2.elim
  ·exact h2.elim
 ·exact h1.elim
end

open Go.Op
def Btr(_:Nat)(sv:SV):Nat × SV:=match sv with
 | .bs _ _ _ _ _=>(0,.bs 0 0 [] 0 0)
 |_=>(0,.no)
def A0a(x:Bh)(yes no:M):M:=match x with
 | .t n=>.Pd n Btr fun _ sv=>match sv with
   | .bs _ _ _ _ _=>yes
   |_=>no
 |_=>no
def Aym(d:Option Nat)(sz:Nat)(x i:Bh):M:=Qi i fun n=>match n with
 | .int _ k=>match x with
   | .t m=>.get m fun _ sv=>match sv with
     | .bs s v p lo n=>.get s fun cur Ek=>match Ek with
       | .own _ t=>match D.at p t with
         |some u=>match u with
          | .vec _ Ex _=>.Co (v=cur∧0≤k∧k.toNat<n∧Ex=sz∧d≠some s) fun _=>Ci d (.pd s cur (p++[lo+k.toNat])) .done
          |_=>.fail
         |none=>.fail
       |_=>.fail
     |_=>.fail
   |_=>.fail
 |_=>.fail
def Awv(d:Option Nat)(x:Bh):M:=match x with
 | .t m=>.get m fun _ sv=>match sv with
   | .bs s v p _ n=>.get s fun cur Ek=>match Ek with
     | .own _ t=>match D.at p t with
       |some u=>.Co (v=cur∧u.isAgg=false) fun _=>Ci d (.v (.int .i64 n)) .done
       |none=>.fail
     |_=>.fail
   |_=>.fail
 |_=>.fail
def A4g(d:Option Nat)(agg:Bool)(sz:Nat)(x:Bh):M:=rdD x fun s cur inv t p=>match D.at p t with
 |some u=>.Co (agg=true∧u.isAgg=true∧u.size=sz∧d≠some s∧Hv cur inv p=true) fun _=>Ci d (.bs s cur p 0 0) .done
 |none=>.fail
section
variable{P:Program}{N:Nat}{G:Mem}{σ:Lab}{Fr:Mem}{w0:Base}{w:World}{st:St}{a:Act}
theorem A6m{o:Oper}{t:TypeId}{x:Operand}{x':Bh}{agg:Bool}{sz:Nat}(ho:o.op= .load t x)(hx:Bu N x x'=true)(ht:Mq P t agg sz=true):Sound P N o (A4g o.dst agg sz x'):=by
 intro G σ Fr w0 st a w Q next E hN hr hw hn A9
 subst hN;have run:∀{b off:Nat} {v:Value},a.eval x= .pointer (some ⟨b,off,none⟩)→(loadVar t ⟨b,off,none⟩).run P w= .ok v w→(execOp a.eval o).run P w= .ok (.value v) w:=by
  intro b off v hp hl;simp[execOp,ho,hp,Instr.loadAt,Instr.sureAddr,hl]
 obtain⟨s,cur,inv,tr,p,h1,hs,hp0,Pj⟩:=Apb hr hx hw;have Fm:=hr.Bj s cur _ hs;split at h1
 ·rename_i u Dd;obtain⟨b,off,bl,ty,fz,pre,cs,post,Fw,e1,e2,e3,e4,e5,e6,e7⟩:=Qc.block Fm Dd Pj;have Acj:=Bp.one e5;have hlen:=Bp.length e5;obtain⟨⟨rfl,Jg,Cq,A2,X7⟩,h1⟩:=h1;obtain⟨v,hl,hvc,H7⟩:=Aiu (P:=P) (cs:=cs) (agg:=true) (by rw[hlen,Cq];exact ht) (by intro e;cases e) e2 e3 e4 Acj
  obtain⟨σ',st',r1,r2⟩:=hr.Ci A9 (sv:=.bs s cur p 0 0) (c:=v) (fun d' hd ver _=>by
   refine⟨_,by rw[Az (by rintro rfl;exact A2 hd)];exact hs,Ay _,fun _ Kj t' e=>?_⟩
   cases e;rw[Db (by rintro rfl;exact A2 hd)]
   exact⟨X7,.inr ⟨u,_,Dd,Jg,H7,by rw[hvc];exact e7⟩⟩) h1
  exact Df (run e1 hl) (hn G σ' st' _ w (Mem.le.refl G) r1 r2)
 ·exact h1.elim
theorem Ayv{o:Oper}{x:Bh}{yes no:M}(h1:Sound P N o yes)(h2:Sound P N o no):Sound P N o (A0a x yes no):=by
 intro G σ Fr w0 st a w Q next E hN hr hw hn A9
 have:yes.wp P Q st∨no.wp P Q st:=by
  cases x with
  |c _=>exact .inr hw
  |Fo _ _=>exact .inr hw
  |t n=>
   simp only[A0a,M.wp]at hw;cases hs:st[n]? with
   |none=>simp[hs]at hw
   |some cur=>
    obtain⟨cv,Hh⟩:=cur;simp only[hs]at hw;cases Hh with
    |bs _ _ _ _ _=>exact .inl hw
    |_=>exact .inr hw
 rcases this with h|h
 ·exact h1 G σ Fr w0 st a w Q next E hN hr h hn A9
 ·exact h2 G σ Fr w0 st a w Q next E hN hr h hn A9
theorem A4y{o:Oper}{t:TypeId}{x i:Operand}{x' i':Bh}{sz:Nat}(ho:o.op= .indexAddr t x i)(hx:Bu N x x'=true)(hi:Bu N i i'=true)(ht:Uk P t sz=true):
 Sound P N o (Aym o.dst sz x' i'):=by
 intro G σ Fr w0 st a w Q next E hN hr hw hn A9
 subst hN;obtain⟨n0,h1,hnv⟩:=Hs hr hi hw;split at h1
 ·rename_i kk k;rw[Bb.int]at hnv;cases x' with
  |c _=>exact h1.elim
  |Fo _ _=>exact h1.elim
  |t m=>
   obtain⟨rfl,Ej⟩:=Gb hx;simp only[M.wp]at h1;cases hs0:st[m]? with
   |none=>simp[hs0]at h1
   |some Av2=>
    obtain⟨ver,sv⟩:=Av2;simp only[hs0]at h1;have Ba:=hr.slot Ej hs0;split at h1
    ·rename_i s v p lo n;obtain⟨cur,g1,g2,g3⟩:=Ba;simp only[M.wp,g1]at h1;obtain⟨cv,Hh⟩:=cur;simp only at h1;split at h1
     ·rename_i inv tr;split at h1
      ·rename_i u Dd;split at h1
       ·rename_i e Ex l;obtain⟨⟨rfl,h0,Di,rfl,A2⟩,h1⟩:=h1;obtain⟨_,N1⟩:=g3 rfl inv tr rfl;obtain⟨e1,sz1,l1,c0,ad,cap,q1,q2,q3,q4,q5,q6⟩:∃e1 sz1 l1 c0 ad cap,tr.at p=some (.vec e1 sz1 l1)∧R7 w tr (val a w0 s) p c0∧c0= .slice ad l1.length cap∧l1.length≤cap∧lo+n≤l1.length∧
         a.eval (.tmp m)= .slice (if cap=lo then ad else ad.map (·.add (lo*sz1))) n (cap - lo):=by
         rcases N1 with h|⟨u1,_,k1,k2,_⟩
         ·exact h
         ·rw[Dd]at k1;cases k1;cases k2
        rw[Dd]at q1;cases q1;have Fm:=hr.Bj s v _ g1;obtain⟨hh,Fw,e5,e6,e7⟩:=R7.read Fm Dd q2;simp only[Bp]at e5;rcases e5 with⟨_,rfl,_⟩|⟨g,off,Z7,cu,xs,Et,p1,⟨ty,fz,p2,_⟩,_⟩
        ·simp only[Fb]at q5;omega
        ·injection p1 with p1
         rw[q3]at p1;cases p1;have Eh:¬cap=lo:=by omega
         rw[if_neg Eh]at q6;have hk:(D.vec e Ex l).Cr (lo+k.toNat)=some (l[lo+k.toNat]'(by omega)):=by simp[D.Cr,Ac (show lo+k.toNat<l.length by omega)]
         have Av5:Option.map (·.add (lo*Ex)) (some (⟨g,off,none⟩:Addr))=some ⟨g,off+lo*Ex,none⟩:=by simp[add_lit]
         rw[Av5]at q6;refine A8x hr A9 g1 hn A2 (c:=.pointer (some ⟨g,off+(lo+k.toNat)*Ex,none⟩)) ⟨_,g,off+(lo+k.toNat)*Ex,(cu.toList.drop (off+(lo+k.toNat)*Ex)).take Ex,by rw[V7 Dd];exact hk,?_,rfl⟩ ?_ h1
         ·rw[Sd Dd e7 hk,q3];simp only[Dz,Ac (show lo+k.toNat<l.length by omega),p2]
         ·have:=Afe (P:=P) (t:=t) (sz:=Ex) (b:=g) (off:=off+lo*Ex) (len:=n) (cap:=cap - lo) (k:=kk) (n:=k) ht w h0 Di;simp[execOp,ho,q6,hnv,this,F9,Nat.add_assoc]
       ·exact h1.elim
      ·exact h1.elim
     ·exact h1.elim
    ·exact h1.elim
 ·exact h1.elim
theorem Bb2{o:Oper}{t:TypeId}{x:Operand}{x':Bh}(ho:o.op= .call {callee:=.builtin .len,args:= #[x],argTypes:= #[t]})(hx:Bu N x x'=true)(ht:Aen P t false=true):Sound P N o (Awv o.dst x'):=by
 intro G σ Fr w0 st a w Q next E hN hr hw hn A9
 subst hN;cases x' with
 |c _=>exact hw.elim
 |Fo _ _=>exact hw.elim
 |t m=>
  obtain⟨rfl,Ej⟩:=Gb hx;simp only[Awv,M.wp]at hw;cases hs0:st[m]? with
  |none=>simp[hs0]at hw
  |some Av2=>
   obtain⟨ver,sv⟩:=Av2;simp only[hs0]at hw;have Ba:=hr.slot Ej hs0;split at hw
   ·rename_i s v p lo n;obtain⟨cur,g1,g2,g3⟩:=Ba;simp only[M.wp,g1]at hw;obtain⟨cv,Hh⟩:=cur;simp only at hw;split at hw
    ·rename_i inv tr;split at hw;rotate_left 1
     ·exact hw.elim
     rename_i u Dd;obtain⟨⟨rfl,Jg⟩,hw⟩:=hw;obtain⟨_,N1⟩:=g3 rfl inv tr rfl;obtain⟨sz1,ad,cap,q6⟩:∃sz1 ad cap,a.eval (.tmp m)= .slice (if cap=lo then ad else ad.map (·.add (lo*sz1))) n (cap - lo):=by
      rcases N1 with⟨e1,sz1,l1,c0,ad,cap,q1,q2,q3,q4,q5,q6⟩|⟨u1,_,k1,k2,_⟩
      ·exact⟨sz1,ad,cap,q6⟩
      ·rw[Dd]at k1;cases k1;rw[Jg]at k2;cases k2
     have hu:∃e,P.underlying t=some (.slice e):=by
      unfold Aen at ht;split at ht
      ·cases ht
      ·rename_i e h;exact⟨e,h⟩
      ·cases ht
     obtain⟨e',hu⟩:=hu;exact Gn hr hn A9 (Bb.int.2 rfl) hw (by simp[execOp,ho,resolve,invoke,builtin,Builtin.len_,run_underlying hu,q6,goInt])
    ·exact hw.elim
   ·exact hw.elim
end
end Go.Ab
