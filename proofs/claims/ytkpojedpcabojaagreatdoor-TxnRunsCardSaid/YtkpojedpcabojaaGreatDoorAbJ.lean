/- Lemmas -/
import Derived.Test.YtkpojedpcabojaaGreatDoorAbE5
import Derived.Deep.AppendSrc
import Derived.Laws.OwnMore
set_option linter.unusedVariables false
set_option linter.unusedSimpArgs false
namespace Go.Ab
open Go.Op
def Uj(d:Nat)(x:D6)(i:Nat):M:=match x with
 | .t n=>.get n fun ver sv=>match sv with
   | .Ati l=>match l[i]? with
     |some u=>match u with
      | .it y=>Jz d (.v y)
      |u=>.Hh (n≠d∧u.whole=true) fun _=>.set n (ver+1) (.Ati (l.set i u.Awn)) (Jz d (.own [] u))
     |none=>.fail
   |_=>.fail
 |_=>.fail
def Ui(d:Nat)(x:D6)(i:Nat):M:=match x with
 | .t n=>.get n fun _ sv=>match sv with
   | .Ati _=>Uj d x i
   |_=>Ti d x i
 |_=>Ti d x i
def Ace(d:Option Nat)(str:Bool)(sz:Nat)(x:D6)(lo hi:Option D6):M:=Lw x fun u=>match u with
 | .list l=>rdB lo 0 fun i=>rdB hi l.length fun j=>.Hh (str=false∧0≤i∧i≤j∧j≤l.length∧∀u∈l,u.size=sz) fun _=>Gj d (.v (.list ((l.take j.toNat).drop i.toNat))) .done
 |_=>.fail
section
variable{P:Program}{N:Nat}{G:Mem}{σ:Lab}{Fr:Mem}{w0:Base}{w:World}{st:St}{a:Act}
theorem Ae2{o:Oper}{t:TypeId}{x:Operand}{lo hi:Option Operand}{x':D6}{lo' hi':Option D6}{str:Bool}{sz:Nat}(ho:o.op= .slice t x lo hi none)(hx:Jj N x x'=true)
 (hlo:oOk N lo lo'=true) (hhi:oOk N hi hi'=true) (ht:Um P t str sz=true):Sound P N o (Ace o.dst str sz x' lo' hi'):=by
 intro G0 σ0 Fr w0 st0 a w Q next E hN hr0 hw hn C2
 subst hN;have hsl:str=false→∃e i,P.underlying t=some (.slice e)∧P.info? e=some i∧i.size=sz:=by
  rintro rfl;unfold Um at ht;split at ht
  ·cases ht
  ·rename_i e h;split at ht
   ·rename_i i hi;exact⟨e,i,h,hi,by simpa using ht⟩
   ·cases ht
  ·cases ht
 obtain⟨u,G,σ,st,hG,hr,h0,Dh⟩:=L6 hr0 hx hw;split at h0
 ·rename_i l;obtain⟨i,h1,hi1⟩:=Mb hr hlo h0;obtain⟨j,h2,hj1⟩:=Mb hr hhi h1;obtain⟨⟨k1,k2,k3,k4,k5⟩,h3⟩:=h2;obtain⟨e,i0,hu,hi0,Hr⟩:=hsl k1;have Ak4:C7 G (.list l) (a.eval x):=Dh;obtain⟨ad,cap,hc,hlc,_⟩:=C7.list.1 Ak4;have hb:=Lg (P:=P) (isSlice:=true) (len:=l.length) (cap:=cap) w hi1 hj1 k2 k3 k4 hlc;rw[hc]at Ak4;have hv:=C7.sliced (i:=i.toNat) (j:=j.toNat) (sz:=sz) Ak4 (by omega) (by omega) fun _=>k5
  refine J1 hr (fun G'' σ'' As9 a' w' Bh0=>hn G'' σ'' As9 a' w' (hG.trans Bh0)) C2 hv h3 ?_
  simp[execOp,ho,Instr.sliceAt,Instr.slice,run_underlying hu,hc,hb,sizeOf,typeInfo,hi0,Hr]
 ·exact h0.elim
theorem Adp{o:Oper}{d i:Nat}{x:Operand}{x':D6}(hd:o.dst=some d)(ho:o.op= .extract x i)(hx:Jj N x x'=true):Sound P N o (Uj d x' i):=by
 intro G σ Fr w0 st a w Q next E hN hr hw hn C2
 subst hN;cases x' with
 |c _=>exact hw.elim
 |Ahc _ _=>exact hw.elim
 |t n=>
  obtain⟨rfl,Agv⟩:=J0 hx;simp only[Uj,M.wp]at hw;cases hs:st[n]? with
  |none=>simp[hs]at hw
  |some cur=>
   obtain⟨ver,sv⟩:=cur;simp only[hs]at hw;have Dh:=hr.slot Agv hs;split at hw
   ·rename_i l;obtain⟨arr,bs,hc,h1,h2,h3⟩:=Dh;split at hw
    ·rename_i u hu;obtain⟨v,b1,b,b2,hv,rfl,hva,hrv,Akv,_⟩:=Aiz.nth h1 hu;have run:(execOp a.eval o).run P w= .ok (.value v) w:=by
      have:arr[i]?=some v:=by simpa using hv
      simp[execOp,ho,hc,Instr.extract,this]
     split at hw
     ·rename_i y;simp only[Fe]at hrv;have hvy:C7 G y v:=by
       unfold C7;simp only[D.isAgg]at hva;split
       ·rename_i hy;rw[hy]at hva;obtain⟨a',rfl⟩:=Nr hva;exact⟨a',rfl,hrv.1⟩
       ·rename_i hy;rw[show y.isAgg=false by simpa using hy]at hva
        rw[J9 hva]at hrv;exact hrv.1
      obtain⟨σ',st',r1,r2⟩:=hr.Ax2 (C2 d hd) hvy hw;exact Jt run (by rw[hd];exact hn G σ' st' _ w (Mem.le.refl G) r1 r2)
     ·obtain⟨⟨Cf,hwh⟩,hw⟩:=hw;obtain⟨hag,Hr,_⟩:=Vp hwh;have Axq:∀z∈b1++b2,z ∉ b:=by
       intro z hz hb;simp only[Hb,Bv]at h2 hz;rcases hz with hz|hz
       ·exact h2.1.2.2 z hz z hb rfl
       ·exact h2.2.2 z (.inr hb) z hz rfl
      have hr2:=Rel.self (new:=.Ati (l.set i u.Awn)) (ver:=ver+1) hr (hr.Fc.Ax3 (bs:=b)) (Mem.le.refl G) hs (Ej _)
       (fun s' hs' z k' hz=>⟨Lab.Atv.2 ⟨fun hm=>by
         obtain⟨kk,hkk⟩:=h3 z (by simp[hm])
         rw[hz]at hkk;cases hkk;exact hs' rfl,hz⟩,rfl⟩) (by
         refine⟨arr,b1++b2,?_,?_,?_,?_⟩
         ·rw[←hc,J2 (by rw[hr.n];exact Agv)]
         ·have:=Akv G w u.Awn [] (Mem.le.refl G) (by rw[hag];exact hva) (Ys hwh hrv G w) fun _ _=>rfl
          simpa using this
         ·simp only[Hb,Bv]at h2 ⊢;exact⟨h2.1.1,h2.2.1,fun x hx y hy=>h2.2.2 x (.inl hx) y hy⟩
         ·intro z hz;obtain⟨kk,hkk⟩:=h3 z (by simp only[Bv]at hz ⊢;rcases hz with h|h<;>simp[h])
          exact⟨kk,Lab.Atv.2 ⟨Axq z hz,hkk⟩⟩)
      obtain⟨σ',st',r1,r2⟩:=hr2.Anp (P:=P) (C2 d hd) (c:=v) ⟨b,hrv,hva,by
       simp only[Hb]at h2;exact h2.1.2.1,fun z hz=>by
       obtain⟨kk,hkk⟩:=h3 z (by simp[hz])
       obtain⟨k1,k2,k3⟩:=hr.Fc.own z _ hkk;exact⟨k1,k2,by simp[Lab.Ax3,hz],k3⟩⟩ hw
      exact Jt run (by rw[hd];exact hn G σ' st' _ w (Mem.le.refl G) r1 r2)
    ·exact hw.elim
   ·exact hw.elim
theorem Adi{o:Oper}{d i:Nat}{x:Operand}{x':D6}(hd:o.dst=some d)(ho:o.op= .extract x i)(hx:Jj N x x'=true):Sound P N o (Ui d x' i):=by
 intro G σ Fr w0 st a w Q next E hN hr hw hn C2
 have:(Uj d x' i).wp P Q st∨(Ti d x' i).wp P Q st:=by
  cases x' with
  |c _=>exact .inr hw
  |Ahc _ _=>exact .inr hw
  |t n=>
   simp only[Ui,M.wp]at hw;cases hs:st[n]? with
   |none=>simp[hs]at hw
   |some cur=>
    simp only[hs]at hw;split at hw
    ·exact .inl hw
    ·exact .inr hw
 rcases this with h|h
 ·exact Adp hd ho hx G σ Fr w0 st a w Q next E hN hr h hn C2
 ·exact Agk hd ho hx G σ Fr w0 st a w Q next E hN hr h hn C2
end

open Go.Op
def Q4(op:BinOp)(k:IntKind)(x y:Int):Int:=
 let a:=BitVec.ofInt k.bits x
 let b:=BitVec.ofInt k.bits y
 match op with
 | .and=>k.wrap (a &&& b).toNat
 | .or=>k.wrap (a ||| b).toNat
 | .xor=>k.wrap (a^^^b).toNat
 |_=>k.wrap (a &&& ~~~b).toNat
def Bpt(k:IntKind)(x y:Int):Int:=k.wrap (x*2^(min y.toNat k.bits))
def Bfe(k:IntKind)(x y:Int):Int:=x.fdiv (2^(min y.toNat k.bits))
def Abf(d:Option Nat)(op:BinOp)(x y:D6):M:=rdI x fun i=>rdI y fun j=>match i,j with
 | .int ka a,.int kb b=>match op with
   | .and=>.Hh (ka=kb) fun _=>Gj d (.v (.int ka (Q4 .and ka a b))) .done
   | .or=>.Hh (ka=kb) fun _=>Gj d (.v (.int ka (Q4 .or ka a b))) .done
   | .xor=>.Hh (ka=kb) fun _=>Gj d (.v (.int ka (Q4 .xor ka a b))) .done
   | .andNot=>.Hh (ka=kb) fun _=>Gj d (.v (.int ka (Q4 .andNot ka a b))) .done
   | .quo=>.Hh (ka=kb∧b≠0) fun _=>Gj d (.v (.int ka (ka.wrap (a.tdiv b)))) .done
   | .rem=>.Hh (ka=kb∧b≠0) fun _=>Gj d (.v (.int ka (a.tmod b))) .done
   | .shl=>.Hh (0≤b) fun _=>Gj d (.v (.int ka (Bpt ka a b))) .done
   | .shr=>.Hh (0≤b) fun _=>Gj d (.v (.int ka (Bfe ka a b))) .done
   |_=>.fail
 |_,_=>.fail
def Abm(d:Option Nat)(k:IntKind)(x:D6):M:=rdI x fun i=>match i with
 | .int _ n=>Gj d (.v (.int k (k.wrap n))) .done
 |_=>.fail
def Ym(P:Program)(dst:TypeId)(k:IntKind)(src:TypeId):Bool:=(P.underlying src).isSome&&match P.underlying dst with
 |some (.int k')=>k==k'
 |_=>false
section
variable{P:Program}{N:Nat}{G:Mem}{σ:Lab}{Fr:Mem}{w0:Base}{w:World}{st:St}{a:Act}
theorem Ac9{o:Oper}{op:BinOp}{t u:TypeId}{x y:Operand}{x' y':D6}(ho:o.op= .binOp op t x y u)(hx:Jj N x x'=true)(hy:Jj N y y'=true):
 Sound P N o (Abf o.dst op x' y'):=by
 intro G σ Fr w0 st a w Q next E hN hr hw hn C2
 subst hN;obtain⟨i,h1,hi⟩:=J8 hr hx hw;clear hw;obtain⟨j,hw,hj⟩:=J8 hr hy h1;clear h1;split at hw
 ·rename_i ka m kb n;rw[C7.int]at hi hj;split at hw
  ·obtain⟨rfl,hw⟩:=hw;exact J1 hr hn C2 (C7.int.2 rfl) hw (by simp[execOp,ho,hi,hj,eqGuard,Go.binOp,Op.intBits,Q4])
  ·obtain⟨rfl,hw⟩:=hw;exact J1 hr hn C2 (C7.int.2 rfl) hw (by simp[execOp,ho,hi,hj,eqGuard,Go.binOp,Op.intBits,Q4])
  ·obtain⟨rfl,hw⟩:=hw;exact J1 hr hn C2 (C7.int.2 rfl) hw (by simp[execOp,ho,hi,hj,eqGuard,Go.binOp,Op.intBits,Q4])
  ·obtain⟨rfl,hw⟩:=hw;exact J1 hr hn C2 (C7.int.2 rfl) hw (by simp[execOp,ho,hi,hj,eqGuard,Go.binOp,Op.intBits,Q4])
  ·obtain⟨⟨rfl,hb⟩,hw⟩:=hw;exact J1 hr hn C2 (C7.int.2 rfl) hw (by simp[execOp,ho,hi,hj,eqGuard,Go.binOp,Op.intDiv,hb])
  ·obtain⟨⟨rfl,hb⟩,hw⟩:=hw;exact J1 hr hn C2 (C7.int.2 rfl) hw (by simp[execOp,ho,hi,hj,eqGuard,Go.binOp,Op.intDiv,hb])
  ·obtain⟨hb,hw⟩:=hw;have Sy:¬n<0:=by omega
   exact J1 hr hn C2 (C7.int.2 rfl) hw (by simp[execOp,ho,hi,hj,eqGuard,Go.binOp,Op.shift,Sy,Bpt])
  ·obtain⟨hb,hw⟩:=hw;have Sy:¬n<0:=by omega
   exact J1 hr hn C2 (C7.int.2 rfl) hw (by simp[execOp,ho,hi,hj,eqGuard,Go.binOp,Op.shift,Sy,Bfe])
  ·exact hw.elim
 ·exact hw.elim
theorem Adh{o:Oper}{k:IntKind}{src dst:TypeId}{x:Operand}{x':D6}(ho:o.op= .convert src dst x)(hx:Jj N x x'=true)(ht:Ym P dst k src=true):Sound P N o (Abm o.dst k x'):=by
 intro G σ Fr w0 st a w Q next E hN hr hw hn C2
 subst hN;obtain⟨i,h1,hi⟩:=J8 hr hx hw;unfold Ym at ht;simp only[Ap,Asz]at ht;obtain⟨⟨ds,hs⟩,ht⟩:=ht;split at ht
 ·rename_i k' hk;simp only[beq_iff_eq]at ht;subst ht;split at h1
  ·rw[C7.int]at hi;refine J1 hr hn C2 (C7.int.2 rfl) h1 ?_;simp[execOp,ho,hi,convert,run_underlying hs,run_underlying hk,Conv.intToInt]
  ·exact h1.elim
 ·cases ht
end

open Go.Op
def N0(_:Nat)(sv:SV):Nat × SV:=match sv with
 | .own _ _=>(0,.own [] (.it .und))
 | .pd _ _ _=>(0,.pd 0 0 [])
 | .bd _ _ _=>(0,.bd 0 0 [])
 | .par h=>(0,.par h)
 |_=>(0,.no)
def Lp(x:D6)(yes no:M):M:=match x with
 | .t n=>.Atf n N0 fun _ sv=>match sv with
   | .own _ _=>yes
   | .pd _ _ _=>yes
   | .bd _ _ _=>yes
   | .par h=>.Atf h N0 fun _ sv'=>match sv' with
     | .own _ _=>yes
     |_=>no
   |_=>no
 |_=>no
def lv(inv:Inv)(q:List Nat):Nat:=inv.foldl (fun m e=>match Nat.blt q.length e.1.length||Ks e.1 q with|true=>m|false=>Nat.max m e.2) 0
def seen(ver:Nat)(inv:Inv)(m:List Nat)(f:D→Option SV):Option D→Nat × SV
 |some u=>match f u with
  |some r=>(Nat.min (lv inv m) ver,r)
  |none=>(0,.no)
 |none=>(0,.no)
def Bms(f:D→Option SV)(ver:Nat)(sv:SV):Nat × SV:=match sv with
 | .own inv t=>match t with
   | .ptr u=>seen ver inv [0] f (some u)
   |_=>(0,.no)
 |_=>(0,.no)
def Baq(v:Nat)(p:List Nat)(f:D→Option SV)(ver:Nat)(sv:SV):Nat × SV:=match sv with
 | .own inv t=>match alive v inv p with
   |true=>seen ver inv p f (D.at p t)
   |false=>(0,.no)
 |_=>(0,.no)
def Bd5(f:D→Option SV)(ver:Nat)(sv:SV):Nat × SV:=match sv with
 | .own inv t=>match t.head with
   |true=>seen ver inv [] f (some t)
   |false=>(0,.no)
 |_=>(0,.no)
def Bap(v:Nat)(p:List Nat)(f:D→Option SV)(ver:Nat)(sv:SV):Nat × SV:=match sv with
 | .own inv t=>match J7 v inv p with
   |true=>seen ver inv p f (D.at p t)
   |false=>(0,.no)
 |_=>(0,.no)
def noR(r:SV)(m:M):M:=match r with
 | .no=>.fail
 |_=>m
def A3n(x:D6)(f:D→Option SV)(k:(s v:Nat)→List Nat→SV→M):M:=match x with
 | .t n=>.Atf n N0 fun _ sv=>match sv with
   | .own _ _=>.Atf n (Bms f) fun v r=>noR r (k n v [0] r)
   | .pd _ _ _=>.get n fun _ sv=>match sv with
     | .pd s v p=>match p with
       | []=>.fail
       |i::q=>.Atf s (Baq v (i::q) f) fun v' r=>noR r (k s v' (i::q) r)
     |_=>.fail
   | .par h=>.Atf h (Bms f) fun v r=>noR r (k h v [0] r)
   |_=>.fail
 |_=>.fail
def Bfa(x:D6)(f:D→Option SV)(k:(s v:Nat)→List Nat→SV→M):M:=match x with
 | .t n=>.Atf n N0 fun _ sv=>match sv with
   | .own _ _=>.Atf n (Bd5 f) fun v r=>noR r (k n v [] r)
   | .bd _ _ _=>.get n fun _ sv=>match sv with
     | .bd s v p=>.Atf s (Bap v p f) fun v' r=>noR r (k s v' p r)
     |_=>.fail
   | .par h=>.Atf h (Bd5 f) fun v r=>noR r (k h v [] r)
   |_=>.fail
 |_=>.fail
def Afo(i:Nat)(u:D):Option SV:=match Vo u i with
 |some o=>some (.v (.int .i64 (o:Nat)))
 |none=>none
def Xd(d:Option Nat)(x:D6)(i off:Nat):M:=A3n x (Afo i) fun s v p r=>match r with
 | .v y=>.Hh (y= .int .i64 (off:Nat)∧d≠some s) fun _=>Gj d (.pd s v (p++[i])) .done
 |_=>.fail
def Ahe(_:Nat)(sv:SV):Nat × SV:=match sv with
 | .own _ t=>(match t with
   | .ptr _=>(0,.pd 0 0 [])
   |_=>(0,.no))
 | .par h=>(0,.par h)
 |_=>(0,.no)
def Yu(x:D6)(yes no:M):M:=match x with
 | .t n=>.Atf n Ahe fun _ sv=>match sv with
   | .par h=>.Atf h Ahe fun _ sv'=>match sv' with
     | .pd _ _ _=>yes
     |_=>no
   |_=>no
 |_=>no
def X3(_:D):Option SV:=some (.pd 0 0 [])
def Agb(d:Option Nat)(x:D6):M:=A3n x X3 fun s v p _=>.Hh (d≠some s) fun _=>Gj d (.pd s v p) .done
def Ahu:D→Option SV
 | .it y=>some (.v y)
 | .vec _ _ _=>some (.bd 0 0 [])
 | .map _ _=>some (.bd 0 0 [])
 | .ptr _=>some (.pd 0 0 [])
 | .st _=>some (.own [] (.it .und))
def Zf(d:Option Nat)(agg:Bool)(sz:Nat)(x:D6):M:=A3n x Ahu fun s v p r=>match r with
 | .v y=>.Hh (y.isAgg=agg∧y.size=sz) fun _=>Gj d (.v y) .done
 | .bd _ _ _=>.Hh (agg=false∧sz=1∧d≠some s) fun _=>Gj d (.bd s v p) .done
 | .pd _ _ _=>.Hh (agg=false∧sz=1∧d≠some s) fun _=>Gj d (.pd s v (p++[0])) .done
 | .own _ _=>Zd d agg sz x
 |_=>.fail
def Wi:D→Option SV
 | .vec _ sz l=>some (.v (.agg [.int .i64 (sz:Nat),.int .i64 l.length]))
 |_=>none
def Xi(d:Option Nat)(sz:Nat)(x i:D6):M:=rdI i fun n=>match n with
 | .int _ n=>Bfa x Wi fun s v p r=>match r with
   | .v y=>match y with
     | .agg l=>match l with
       | [a,b]=>match b with
         | .int _ len=>.Hh (0≤n∧n<len∧a= .int .i64 (sz:Nat)∧d≠some s) fun _=>Gj d (.pd s v (p++[n.toNat])) .done
         |_=>.fail
       |_=>.fail
     |_=>.fail
   |_=>.fail
 |_=>.fail
def Abn(d:Option Nat)(str:Bool)(x:D6):M:=Bfa x Wi fun _ _ _ r=>match r with
 | .v y=>match y with
   | .agg l=>match l with
     | [_,b]=>match b with
       | .int k len=>.Hh (str=false∧k= .i64) fun _=>.fact (len≤maxLen) (Gj d (.v (.int .i64 len)) .done)
       |_=>.fail
     |_=>.fail
   |_=>.fail
 |_=>.fail
section
variable{P:Program}{N:Nat}{G:Mem}{σ:Lab}{Fr:Mem}{w0:Base}{w:World}{st:St}{a:Act}
theorem Kx{o:Oper}{x:D6}{yes no:M}(h1:Sound P N o yes)(h2:Sound P N o no):Sound P N o (Lp x yes no):=by
 intro G σ Fr w0 st a w Q next E hN hr hw hn C2
 have:yes.wp P Q st∨no.wp P Q st:=by
  cases x with
  |c _=>exact .inr hw
  |Ahc _ _=>exact .inr hw
  |t n=>
   simp only[Lp,M.wp]at hw;cases hs:st[n]? with
   |none=>simp[hs]at hw
   |some cur=>
    obtain⟨cv,csv⟩:=cur;simp only[hs]at hw;cases csv with
    |own _ _=>exact .inl hw
    |pd _ _ _=>exact .inl hw
    |bd _ _ _=>exact .inl hw
    |par hh=>
     simp only[N0,M.wp]at hw;cases hs':st[hh]? with
     |none=>simp[hs']at hw
     |some Amr=>
      obtain⟨cv',Bsv⟩:=Amr;simp only[hs']at hw;cases Bsv<;>first|exact .inl hw|exact .inr hw
    |_=>exact .inr hw
 rcases this with h|h
 ·exact h1 G σ Fr w0 st a w Q next E hN hr h hn C2
 ·exact h2 G σ Fr w0 st a w Q next E hN hr h hn C2
theorem Np{ver:Nat}{inv:Inv}{m:List Nat}{f:D→Option SV}{du:Option D}{k:Nat→SV→M}{Q:St→Prop}
 (h:((fun v r=>noR r (k v r)) (seen ver inv m f du).1 (seen ver inv m f du).2).wp P Q st):∃u r v,du=some u∧f u=some r∧v≤ver∧(k v r).wp P Q st:=by
 cases du with
 |none=>exact h.elim
 |some u=>
  cases hf:f u with
  |none=>simp only[seen,hf]at h;exact h.elim
  |some r=>
   simp only[seen,hf]at h;refine⟨u,r,Nat.min (lv inv m) ver,rfl,hf,Nat.min_le_right _ _,?_⟩;cases r<;>first|exact h.elim|exact h
theorem Mo{x:Operand}{y:D6}{f:D→Option SV}{k:(s v:Nat)→List Nat→SV→M}{Q:St→Prop}(h:Rel G σ Fr w0 st a w)(ho:Jj w0.n x y=true)(hq:(A3n y f k).wp P Q st):
 ∃s cur inv t p u r v,(k s v p r).wp P Q st∧st[s]?=some (cur,.own inv t)∧p≠[]∧PtD w t (val a w0 s) p (a.eval x)∧t.at p=some u∧f u=some r∧v≤cur:=by
 cases y with
 |c _=>exact hq.elim
 |Ahc _ _=>exact hq.elim
 |t n=>
  obtain⟨rfl,Agv⟩:=J0 ho;simp only[A3n,M.wp]at hq;cases hs:st[n]? with
  |none=>simp[hs]at hq
  |some cur=>
   obtain⟨ver,sv⟩:=cur;simp only[hs]at hq;have Dh:=h.slot Agv hs;have hv:val a w0 n=a.eval (.tmp n):=J2 (by rw[h.n];exact Agv)
   cases sv with
   |own inv t=>
    simp only[N0,M.wp,hs]at hq;cases t with
    |ptr t=>
     obtain⟨u,r,v,h1,h2,h3,h4⟩:=Np (k:=fun v r=>k n v [0] r) hq
     cases h1;exact⟨n,ver,inv,_,[0],t,r,v,h4,hs,by simp,by rw[hv];exact Ac5.pt Dh,rfl,h2,h3⟩
    |_=>exact hq.elim
   |pd s v p=>
    obtain⟨cur,h1,h2,h3⟩:=Dh;simp only[N0,M.wp,hs]at hq;cases p with
    |nil=>exact hq.elim
    |cons i q=>
     simp only[M.wp,h1]at hq;obtain⟨cv,csv⟩:=cur;cases csv with
     |own inv t=>
      simp only[Baq]at hq;cases ha:alive v inv (i::q)with
      |false=>rw[ha]at hq;exact hq.elim
      |true=>
       rw[ha]at hq;obtain⟨u,r,v',k1,k2,k3,k4⟩:=Np (k:=fun v' r=>k s v' (i::q) r) hq
       exact⟨s,cv,inv,t,i::q,u,r,v',k4,h1,by simp,h3 inv t rfl (by simp) ha,k1,k2,k3⟩
     |_=>exact hq.elim
   |par hh=>
    obtain⟨hv',hle⟩:=h.As8 n ver hh hs;rw[hv]at hv';simp only[N0,M.wp]at hq;cases h1:st[hh]? with
    |none=>simp[h1]at hq
    |some cur=>
     obtain⟨cv,csv⟩:=cur;simp only[h1]at hq;have Ak4:=h.Eb hh cv csv h1;cases csv with
     |own inv t=>
      cases t with
      |ptr t=>
       obtain⟨u,r,v,k1,k2,k3,k4⟩:=Np (k:=fun v r=>k hh v [0] r) hq
       cases k1;exact⟨hh,cv,inv,_,[0],t,r,v,k4,h1,by simp,by rw[hv'];exact Ac5.pt Ak4,rfl,k2,k3⟩
      |_=>exact hq.elim
     |_=>exact hq.elim
   |_=>exact hq.elim
theorem Y0{x:Operand}{y:D6}{f:D→Option SV}{k:(s v:Nat)→List Nat→SV→M}{Q:St→Prop}(h:Rel G σ Fr w0 st a w)(ho:Jj w0.n x y=true)(hq:(Bfa y f k).wp P Q st):
 ∃s cur inv t p u r v,(k s v p r).wp P Q st∧st[s]?=some (cur,.own inv t)∧HdD w t (val a w0 s) p (a.eval x)∧t.at p=some u∧f u=some r∧v≤cur:=by
 cases y with
 |c _=>exact hq.elim
 |Ahc _ _=>exact hq.elim
 |t n=>
  obtain⟨rfl,Agv⟩:=J0 ho;simp only[Bfa,M.wp]at hq;cases hs:st[n]? with
  |none=>simp[hs]at hq
  |some cur=>
   obtain⟨ver,sv⟩:=cur;simp only[hs]at hq;have Dh:=h.slot Agv hs;have hv:val a w0 n=a.eval (.tmp n):=J2 (by rw[h.n];exact Agv)
   cases sv with
   |own inv t=>
    simp only[N0,M.wp,hs,Bd5]at hq;cases ht:t.head with
    |false=>rw[ht]at hq;exact hq.elim
    |true=>
     rw[ht]at hq;obtain⟨u,r,v,h1,h2,h3,h4⟩:=Np (k:=fun v r=>k n v [] r) hq
     cases h1;exact⟨n,ver,inv,_,[],_,r,v,h4,hs,by rw[hv];exact Ac5.hd Dh ht,rfl,h2,h3⟩
   |bd s v p=>
    obtain⟨cur,h1,h2,h3⟩:=Dh;simp only[N0,M.wp,hs,h1]at hq;obtain⟨cv,csv⟩:=cur;cases csv with
    |own inv t=>
     simp only[Bap]at hq;cases ha:J7 v inv p with
     |false=>rw[ha]at hq;exact hq.elim
     |true=>
      rw[ha]at hq;obtain⟨u,r,v',k1,k2,k3,k4⟩:=Np (k:=fun v' r=>k s v' p r) hq
      exact⟨s,cv,inv,t,p,u,r,v',k4,h1,h3 inv t rfl ha,k1,k2,k3⟩
    |_=>exact hq.elim
   |par hh=>
    obtain⟨hv',hle⟩:=h.As8 n ver hh hs;rw[hv]at hv';simp only[N0,M.wp]at hq;cases h1:st[hh]? with
    |none=>simp[h1]at hq
    |some cur=>
     obtain⟨cv,csv⟩:=cur;simp only[h1]at hq;have Ak4:=h.Eb hh cv csv h1;cases csv with
     |own inv t=>
      simp only[Bd5]at hq;cases ht:t.head with
      |false=>rw[ht]at hq;exact hq.elim
      |true=>
       rw[ht]at hq;obtain⟨u,r,v,k1,k2,k3,k4⟩:=Np (k:=fun v r=>k hh v [] r) hq
       cases k1;exact⟨hh,cv,inv,_,[],_,r,v,k4,h1,by rw[hv'];exact Ac5.hd Ak4 ht,rfl,k2,k3⟩
     |_=>exact hq.elim
   |_=>exact hq.elim
theorem Q2{o:Oper}{Q:St→Prop}{next:Act→World→Prop}{E:Exit→Act→World→Prop}{s cur v:Nat}{inv:Inv}{t:D}{q:List Nat}{c:Value}(hr:Rel G σ Fr w0 st a w)(C2:∀d,o.dst=some d→d<w0.n)(hs:st[s]?=some (cur,.own inv t))(hle:v≤cur)
 (hn:∀G' σ' st' a' w',G.le G'→Rel G' σ' Fr w0 st' a' w'→Q st'→next a' w') (Cf:o.dst≠some s) (hp:PtD w t (val a w0 s) q c) (Aih:(execOp a.eval o).run P w= .ok (.value c) w)
 (hq:(Gj o.dst (.pd s v q) .done).wp P Q st):o.wp P a w next E:=by
 obtain⟨σ',st',r1,r2⟩:=hr.Gj C2 (sv:=.pd s v q) (c:=c) (fun d' hd ver _=>by
  refine⟨_,by rw[B3 (by rintro rfl;exact Cf hd)];exact hs,hle,fun Ap9 t' e _ _=>?_⟩
  cases e;rw[Jr (by rintro rfl;exact Cf hd)]
  exact hp) hq
 exact Jt Aih (hn G σ' st' _ w (Mem.le.refl G) r1 r2)
theorem Zr{o:Oper}{Q:St→Prop}{next:Act→World→Prop}{E:Exit→Act→World→Prop}{s cur v:Nat}{inv:Inv}{t:D}{q:List Nat}{c:Value}(hr:Rel G σ Fr w0 st a w)(C2:∀d,o.dst=some d→d<w0.n)(hs:st[s]?=some (cur,.own inv t))(hle:v≤cur)
 (hn:∀G' σ' st' a' w',G.le G'→Rel G' σ' Fr w0 st' a' w'→Q st'→next a' w') (Cf:o.dst≠some s) (hp:HdD w t (val a w0 s) q c) (Aih:(execOp a.eval o).run P w= .ok (.value c) w)
 (hq:(Gj o.dst (.bd s v q) .done).wp P Q st):o.wp P a w next E:=by
 obtain⟨σ',st',r1,r2⟩:=hr.Gj C2 (sv:=.bd s v q) (c:=c) (fun d' hd ver _=>by
  refine⟨_,by rw[B3 (by rintro rfl;exact Cf hd)];exact hs,hle,fun Ap9 t' e _=>?_⟩
  cases e;rw[Jr (by rintro rfl;exact Cf hd)]
  exact hp) hq
 exact Jt Aih (hn G σ' st' _ w (Mem.le.refl G) r1 r2)
theorem Zz{o:Oper}{t:TypeId}{x:Operand}{x':D6}{i off:Nat}(ho:o.op= .fieldAddr t x i)(hx:Jj N x x'=true)(ht:Rz P t i off=true):
 Sound P N o (Xd o.dst x' i off):=by
 intro G σ Fr w0 st a w Q next E hN hr hw hn C2
 subst hN;obtain⟨s,cur,inv,tr,p,u,r,v,h1,hs,hp0,hpt,C3,hf,hle⟩:=Mo hr hx hw;have Akd:=hr.Eb s cur _ hs;unfold Afo at hf;split at hf
 ·rename_i Axx hof;cases hf;obtain⟨⟨A24,Cf⟩,h1⟩:=h1;have A24:Axx=off:=by injection A24 with _ A24;exact_mod_cast A24
  subst A24;obtain⟨b,off,bl,ty,fz,pre,cs,post,ubs,e1,e2,e3,e4,e5,e6,e7⟩:=PtD.block Akd C3 hpt;obtain⟨y,cs',k1,k2⟩:=Aai (w:=w) (b:=b) (o:=off) (cs:=cs) hof;refine Q2 hr C2 hs hle hn Cf ⟨y,b,off+Axx,cs',by rw[Nf C3];exact k1,by rw[L5 C3 e7 k1];exact k2,rfl⟩ ?_ h1
  simp[execOp,ho,e1,Rp ht]
 ·cases hf
theorem Xv{o:Oper}{x:Operand}{x':D6}(ho:o.op= .move x∨o.op= .assign x)(hx:Jj N x x'=true):Sound P N o (Agb o.dst x'):=by
 intro G σ Fr w0 st a w Q next E hN hr hw hn C2
 subst hN;obtain⟨s,cur,inv,tr,p,u,r,v,h1,hs,hp0,hpt,C3,hf,hle⟩:=Mo hr hx hw;obtain⟨Cf,h1⟩:=h1;refine Q2 hr C2 hs hle hn Cf hpt ?_ h1;rcases ho with ho|ho<;>simp[execOp,ho]
theorem Wb{o:Oper}{x:D6}{m1 m2:M}(h1:Sound P N o m1)(h2:Sound P N o m2):Sound P N o (Yu x m1 m2):=by
 intro G σ Fr w0 st a w Q next E hN hr hw hn C2
 cases x with
 |c _=>exact h2 G σ Fr w0 st a w Q next E hN hr hw hn C2
 |Ahc _ _=>exact h2 G σ Fr w0 st a w Q next E hN hr hw hn C2
 |t n=>
  simp only[Yu,M.wp]at hw;cases hs:st[n]? with
  |none=>rw[hs]at hw;exact hw.elim
  |some cur=>
   rw[hs]at hw;dsimp only at hw;split at hw
   ·rename_i h _;simp only[M.wp]at hw;cases hs2:st[h]? with
    |none=>rw[hs2]at hw;exact hw.elim
    |some A4j=>
     rw[hs2]at hw;dsimp only at hw;split at hw
     ·exact h1 G σ Fr w0 st a w Q next E hN hr hw hn C2
     ·exact h2 G σ Fr w0 st a w Q next E hN hr hw hn C2
   ·exact h2 G σ Fr w0 st a w Q next E hN hr hw hn C2
theorem Z3{o:Oper}{t:TypeId}{x i:Operand}{x' i':D6}{sz:Nat}(ho:o.op= .indexAddr t x i)(hx:Jj N x x'=true)(hi:Jj N i i'=true)(ht:M3 P t sz=true):
 Sound P N o (Xi o.dst sz x' i'):=by
 intro G σ Fr w0 st a w Q next E hN hr hw hn C2
 subst hN;obtain⟨n,h1,hnv⟩:=J8 hr hi hw;clear hw;split at h1
 ·rename_i k n;rw[C7.int]at hnv;obtain⟨s,cur,inv,tr,p,u,r,v,h1,hs,hhd,C3,hf,hle⟩:=Y0 hr hx h1;have Akd:=hr.Eb s cur _ hs;unfold Wi at hf;split at hf
  ·rename_i e sz' l;cases hf;obtain⟨⟨h0,Ze,Hr,Cf⟩,h1⟩:=h1;have Hr:sz'=sz:=by injection Hr with _ Hr;exact_mod_cast Hr
   subst Hr;have Ze:n.toNat<l.length:=by omega
   obtain⟨hh,ubs,e5,e6,e7⟩:=HdD.read Akd C3 hhd;simp only[Fe]at e5;rcases e5 with⟨_,rfl,_⟩|⟨g,off,cap,cu,xs,bs',q1,⟨ty,fz,q2,_⟩,_⟩
   ·simp at Ze
   ·injection q1 with q1
    have hk:(D.vec e sz' l).Xw n.toNat=some l[n.toNat]:=by simp[D.Xw,Ae Ze]
    refine Q2 hr C2 hs hle hn Cf (c:=.pointer (some ⟨g,off+n.toNat*sz',none⟩)) ⟨_,g,off+n.toNat*sz',(cu.toList.drop (off+n.toNat*sz')).take sz',by rw[Nf C3];exact hk,?_,rfl⟩ ?_ h1
    ·rw[L5 C3 e7 hk,q1];simp only[Jx,Ae Ze,q2]
    ·simp[execOp,ho,q1,hnv,Rs ht w h0 Ze]
  ·cases hf
 ·exact h1.elim
theorem Ad5{o:Oper}{t:TypeId}{x:Operand}{x':D6}{str:Bool}(ho:o.op= .call {callee:=.builtin .len,args:= #[x],argTypes:= #[t]})(hx:Jj N x x'=true)(ht:Q9 P t str=true):
 Sound P N o (Abn o.dst str x'):=by
 intro G σ Fr w0 st a w Q next E hN hr hw hn C2
 subst hN;obtain⟨s,cur,inv,tr,p,u,r,v,h1,hs,hhd,C3,hf,hle⟩:=Y0 hr hx hw;have Akd:=hr.Eb s cur _ hs;unfold Wi at hf;split at hf
 ·rename_i e sz' l;cases hf;obtain⟨⟨rfl,_⟩,h1⟩:=h1;obtain⟨hh,ubs,e5,e6,e7⟩:=HdD.read Akd C3 hhd;simp only[Fe]at e5;have hsl:∃e,P.underlying t=some (.slice e):=by
   unfold Q9 at ht;split at ht
   ·cases ht
   ·rename_i e h;exact⟨e,h⟩
   ·cases ht
  obtain⟨e',hu⟩:=hsl;have fin:∀{ad:Option Addr} {cap:Nat},a.eval x= .slice ad l.length cap→l.length≤maxLen→o.wp P a w next E:=by
   intro ad cap he hm;exact J1 hr hn C2 (C7.int.2 rfl) (h1 (by exact_mod_cast hm)) (by simp[execOp,ho,resolve,invoke,builtin,Builtin.len_,run_underlying hu,he,goInt])
  rcases e5 with⟨q1,rfl,_⟩|⟨g,off,cap,cu,xs,bs',q1,_,_,q2,q3,_⟩
  ·injection q1 with q1
   exact fin q1 (Cr _)
  ·injection q1 with q1
   exact fin q1 (Kq q2 q3)
 ·cases hf
theorem Aav{o:Oper}{t:TypeId}{x:Operand}{x':D6}{agg:Bool}{sz:Nat}(ho:o.op= .load t x)(hx:Jj N x x'=true)(ht:Asu P t agg sz=true):Sound P N o (Zf o.dst agg sz x'):=by
 intro G σ Fr w0 st a w Q next E hN hr hw hn C2
 have hold:=Aat (P:=P) ho hx ht;subst hN;have run:∀{b off:Nat} {v:Value},a.eval x= .pointer (some ⟨b,off,none⟩)→(loadVar t ⟨b,off,none⟩).run P w= .ok v w→(execOp a.eval o).run P w= .ok (.value v) w:=by
  intro b off v hp hl;simp[execOp,ho,hp,Instr.loadAt,Instr.sureAddr,hl]
 obtain⟨s,cur,inv,tr,p,u,r,v,h1,hs,hp0,hpt,C3,hf,hle⟩:=Mo hr hx hw;have Akd:=hr.Eb s cur _ hs;obtain⟨b,off,bl,ty,fz,pre,cs,post,ubs,e1,e2,e3,e4,e5,e6,e7⟩:=PtD.block Akd C3 hpt;have A0o:=Fe.one e5;have hlen:=Fe.length e5;cases u with
 |it y=>
  cases hf;obtain⟨⟨rfl,rfl⟩,h1⟩:=h1;simp only[Fe]at e5;obtain⟨v,hl,hv⟩:=Nk (P:=P) ht e2 e3 e4 e5.1;exact J1 hr hn C2 hv h1 (run e1 hl)
 |vec e sz' l=>
  cases hf;obtain⟨⟨rfl,rfl,Cf⟩,h1⟩:=h1;obtain⟨c,rfl⟩:=Ajp.1 hlen;have hl:=(Kd (P:=P) (cs:=[c]) ht e2 e3 e4).2 c rfl rfl;exact Zr hr C2 hs hle hn Cf ⟨_,_,C3,rfl,e7⟩ (run e1 hl) h1
 |map ks vs=>
  cases hf;obtain⟨⟨rfl,rfl,Cf⟩,h1⟩:=h1;obtain⟨c,rfl⟩:=Ajp.1 hlen;have hl:=(Kd (P:=P) (cs:=[c]) ht e2 e3 e4).2 c rfl rfl;exact Zr hr C2 hs hle hn Cf ⟨_,_,C3,rfl,e7⟩ (run e1 hl) h1
 |ptr d=>
  cases hf;obtain⟨⟨rfl,rfl,Cf⟩,h1⟩:=h1;obtain⟨c,rfl⟩:=Ajp.1 hlen;have hl:=(Kd (P:=P) (cs:=[c]) ht e2 e3 e4).2 c rfl rfl;simp only[Fe]at e5;obtain⟨g,cells,ty',bs',q1,q2,_⟩:=e5;injection q1 with q1
  subst q1;refine Q2 hr C2 hs hle hn Cf ⟨d,g,0,cells.toList,by rw[Nf C3];rfl,?_,rfl⟩ (run e1 hl) h1
  rw[L5 C3 e7 (y:=d) rfl];simp[Jx,q2]
 |st l=>
  cases hf;exact hold G σ Fr w0 st a w Q next E rfl hr h1 hn C2
end

open Go.Op
def Afc(_:D):Option SV:=some (.v .und)
def Ab5(d:Option Nat)(x:D6):M:=Lp x (A3n x Afc fun s v p _=>.Hh (d≠some s) fun _=>Gj d (.pd s v p) .done) (match x with
 | .t n=>.get n fun _ sv=>match sv with
   | .pt s k ver off r=>.get s fun cur _=>.Hh (d≠some s∧ver=cur) fun _=>Gj d (.pt s k ver off r) .done
   |_=>.fail
 |_=>.fail)
def Aca(d:Option Nat)(neg:Bool)(x:D6):M:=Lp x (A3n x Afc fun _ _ _ _=>Gj d (.v (.bool neg)) .done) (match x with
 | .t n=>.get n fun _ sv=>match sv with
   | .pt s _ ver _ _=>.get s fun cur _=>.Hh (ver=cur) fun _=>Gj d (.v (.bool neg)) .done
   | .v y=>match y with
     | .Aw9=>Gj d (.v (.bool (!neg))) .done
     |_=>.fail
   |_=>.fail
 |_=>.fail)
def V3(P:Program)(t:TypeId)(y:Operand):Bool:=(match P.underlying t with
 |some (.pointer _)=>true
 |_=>false)&&(match y with
 | .const (.pointer none)=>true
 |_=>false)
section
variable{P:Program}{N:Nat}{G:Mem}{σ:Lab}{Fr:Mem}{w0:Base}{w:World}{st:St}{a:Act}
theorem Aeh{o:Oper}{x:Operand}{x':D6}(ho:o.op= .nilCheck x)(hx:Jj N x x'=true):Sound P N o (Ab5 o.dst x'):=by
 refine Kx ?_ ?_
 ·intro G σ Fr w0 st a w Q next E hN hr hw hn C2
  subst hN;obtain⟨s,cur,inv,tr,p,u,r,v,h1,hs,hp0,hpt,C3,hf,hle⟩:=Mo hr hx hw;obtain⟨Cf,h1⟩:=h1;have Buc:=hpt;obtain⟨_,b,off,cs,_,_,hc⟩:=Buc;refine Q2 hr C2 hs hle hn Cf hpt ?_ h1;simp[execOp,ho,hc]
 ·intro G σ Fr w0 st a w Q next E hN hr hw hn C2
  subst hN;cases x' with
  |c _=>exact hw.elim
  |Ahc _ _=>exact hw.elim
  |t n=>
   obtain⟨rfl,Agv⟩:=J0 hx;simp only[M.wp]at hw;cases hs:st[n]? with
   |none=>simp[hs]at hw
   |some cur=>
    obtain⟨ver,sv⟩:=cur;simp only[hs]at hw;have Dh:=hr.slot Agv hs;split at hw
    ·rename_i s k v off r;obtain⟨cur,g1,g2,g3⟩:=Dh;simp only[M.wp,g1]at hw;obtain⟨⟨Cf,hv⟩,hw⟩:=hw;obtain⟨b,g4,g5⟩:=g3 hv;obtain⟨σ',st',r1,r2⟩:=hr.Gj C2 (sv:=.pt s k v off r) (c:=a.eval (.tmp n)) (fun d' hd ver _=>
      ⟨cur,by rw[B3 (by rintro rfl;exact Cf hd)];exact g1,g2,fun e=>⟨b,Lab.Ade.2 ⟨fun e=>Cf (by rw[hd,e]),g4⟩,g5⟩⟩) hw
     refine Jt (v:=a.eval (.tmp n)) (w':=w) ?_ (hn G σ' st' _ w (Mem.le.refl G) r1 r2);simp[execOp,ho,g5]
    ·exact hw.elim
theorem Yo{d:Nat}{t e:TypeId}(hu:P.underlying t=some (.pointer e))(x:Option Addr)(w:World):(Op.equalIn (d+1) t (.pointer x) (.pointer none)).run P w= .ok x.isNone w:=by
 cases x<;>simp[Op.equalIn,run_underlying hu]
theorem Acy{t e:TypeId}(hu:P.underlying t=some (.pointer e))(x:Option Addr)(w:World):(Op.equal t (.pointer x) (.pointer none)).run P w= .ok x.isNone w:=Yo (d:=9999) hu x w
theorem Wc{o:Oper}{neg:Bool}{t u:TypeId}{x y:Operand}{x':D6}(ho:o.op= .binOp (if neg then .neq else .eql) t x y u)(hx:Jj N x x'=true)(hy:V3 P t y=true):Sound P N o (Aca o.dst neg x'):=by
 unfold V3 at hy;simp only[Ap]at hy;obtain⟨hu,hy⟩:=hy;split at hu
 ·rename_i e hu';split at hy
  ·have run:∀{a:Act} {w:World} {ad:Option Addr},a.eval x= .pointer ad→(execOp a.eval o).run P w= .ok (.value (.bool (if neg then !ad.isNone else ad.isNone))) w:=by
    intro a w ad he;have hq:=Acy hu' ad w;have hy':a.eval (.const (.pointer none))= .pointer none:=rfl;cases neg<;>simp[execOp,ho,he,hy',eqGuard,binOp,hq]
   refine Kx ?_ ?_
   ·intro G σ Fr w0 st a w Q next E hN hr hw hn C2
    subst hN;obtain⟨s,cur,inv,tr,p,u,r,v,h1,hs,hp0,hpt,C3,hf,hle⟩:=Mo hr hx hw;obtain⟨_,b,off,cs,_,_,hc⟩:=hpt;refine J1 hr hn C2 (C7.bool.2 rfl) h1 ?_;have:=run (w:=w) hc;cases neg<;>simpa using this
   ·intro G σ Fr w0 st a w Q next E hN hr hw hn C2
    subst hN;cases x' with
    |c _=>exact hw.elim
    |Ahc _ _=>exact hw.elim
    |t n=>
     obtain⟨rfl,Agv⟩:=J0 hx;simp only[M.wp]at hw;cases hs:st[n]? with
     |none=>simp[hs]at hw
     |some cur=>
      obtain⟨ver,sv⟩:=cur;simp only[hs]at hw;have Dh:=hr.slot Agv hs;split at hw
      ·rename_i s k v off r;obtain⟨cur,g1,g2,g3⟩:=Dh;simp only[M.wp,g1]at hw;obtain⟨hv,hw⟩:=hw;obtain⟨b,g4,g5⟩:=g3 hv;refine J1 hr hn C2 (C7.bool.2 rfl) hw ?_;have:=run (w:=w) g5;cases neg<;>simpa using this
      ·split at hw
       ·have hc:a.eval (.tmp n)= .pointer none:=by
         have h:C7 G .Aw9 (a.eval (.tmp n)):=Dh;unfold C7 at h;rw[if_neg (by simp[I.isAgg])]at h
         simpa[D8]using h
        refine J1 hr hn C2 (C7.bool.2 rfl) hw ?_;have:=run (w:=w) hc;cases neg<;>simpa using this
       ·exact hw.elim
      ·exact hw.elim
  ·cases hy
 ·cases hu
end

open Go.Op
def A9w(w:World)(e:TypeId)(sz:Nat)(c:Value)(n:Nat)(xs:List Value):Prop:=
 xs.length=n*sz∧
 ((c= .slice none 0 0∧n=0)∨
  ∃g off cap cur,c= .slice (some ⟨g,off,none⟩) n cap∧Row w g e cur∧(e<1000000→off=0∧cur.size=cap*sz)∧n≤cap∧cap≤maxLen∧off+cap*sz≤cur.size∧(cur.toList.drop off).take (n*sz)=xs)
section
variable{P:Program}{N:Nat}{G:Mem}{σ:Lab}{Fr:Mem}{w0:Base}{w:World}{st:St}{a:Act}
theorem Fe.Bqn{e:TypeId}{sz:Nat}{l0:List I}{c:Value}{bs:List Nat}(h:Fe G w (.vec e sz (l0.map D.it)) [c] bs):
 ∃xs,A9w w e sz c l0.length xs∧F9 G l0 xs∧(∀x∈l0,x.size=sz)∧((bs=[]∧c.ownBlock=none)∨∃g,bs=[g]∧c.ownBlock=some g):=by
 simp only[Fe]at h;rcases h with⟨e1,e2,rfl⟩|⟨g,off,cap,cur,xs,bs',e1,q1,q0,q2,q3,q4,q5,q6,q7,rfl⟩
 ·injection e1 with e1
  have:l0=[]:=by simpa using e2
  subst this;exact⟨[],⟨by simp,.inl ⟨e1,rfl⟩⟩,by simp[F9],by simp,.inl ⟨rfl,by rw[e1];rfl⟩⟩
 ·injection e1 with e1
  obtain⟨q6',rfl⟩:=H8.its.1 q6;have Anw:∀x∈l0,x.size=sz:=fun x hx=>q7 _ (X4.2 ⟨x,hx,rfl⟩)
  rw[Bh]at e1 q2 q5;exact⟨xs,⟨by rw[F9.length _ _ q6',J3 Anw],.inr ⟨g,off,cap,cur,e1,q1,q0,q2,q3,q4,q5⟩⟩,q6',Anw,.inr ⟨g,rfl,by rw[e1];rfl⟩⟩
theorem A9w.Bd6{e:TypeId}{sz:Nat}{l0:List I}{c:Value}{xs:List Value}(h:A9w w e sz c l0.length xs)(hr:F9 G l0 xs)(hs:∀x∈l0,x.size=sz)
 (hb:∀b,c.ownBlock=some b→G b=none∧Fr b=none∧σ b=none):Awb G σ Fr w (.vec e sz (l0.map D.it)) c:=by
 rcases h.2 with⟨rfl,h0⟩|⟨g,off,cap,cur,rfl,q1,q0,q2,q3,q4,q5⟩
 ·obtain rfl:=Aby h0;exact⟨[],by simp[Fe,Value.cells],rfl,Ach,by simp⟩
 ·refine⟨[g],?_,rfl,by simp,?_⟩
  ·simp only[Fe,Value.cells];refine .inr ⟨g,off,cap,cur,xs,[],by simp,q1,q0,by simpa using q2,q3,q4,by simpa using q5,H8.its.2 ⟨hr,rfl⟩,?_,rfl⟩
   intro x hx;obtain⟨y,hy,rfl⟩:=X4.1 hx;exact hs y hy
  ·intro b Sy;obtain rfl:=Jd.1 Sy;obtain⟨k1,k2,k3⟩:=hb b rfl;obtain⟨_,_,k,_⟩:=q1;exact⟨k1,k2,k3,(Ht.1 k).1⟩
def Bds(d:Nat)(sz:Nat)(x lo:D6):M:=rdI lo fun u=>match u with
 | .int _ k=>M6 x fun v=>match v with
   | .vec e sz' l=>match Jo l with
     |some l0=>.Hh (sz'=sz∧0≤k∧k.toNat≤l0.length) fun _=>Jz d (.own [] (.vec (if e<1000000 then e+1000000 else e) sz ((l0.drop k.toNat).map D.it)))
     |none=>.fail
   |_=>.fail
 |_=>.fail
theorem Bfh{o:Oper}{d:Nat}{t:TypeId}{x lo:Operand}{x' lo':D6}{sz:Nat}(hd:o.dst=some d)(ho:o.op= .slice t x (some lo) none none)(hx:Jj N x x'=true)
 (hlo:Jj N lo lo'=true) (ht:M3 P t sz=true):Sound P N o (Bds d sz x' lo'):=by
 intro G0 σ0 Fr w0 st0 a w Q next E hN hr hw hn C2
 subst hN;obtain⟨u,h1,hk⟩:=J8 hr hlo hw;split at h1
 ·rename_i kk k;rw[C7.int]at hk;obtain⟨v,bv,G2,σ2,st2,hG2,hr2,h2,hfv,_,_⟩:=Lv hr hx h1;split at h2
  ·rename_i e sz' l;split at h2
   ·rename_i l0 hl0;obtain⟨⟨rfl,hk0,hkl⟩,h2⟩:=h2;obtain rfl:=Qf hl0;obtain⟨v1,v2,v3,v4⟩:=hfv;rw[J9 v2]at v1;obtain⟨xs,k1,k2,k3,k4⟩:=Fe.Bqn v1;obtain⟨ad,cap,hc,hlc⟩:∃ad cap,a.eval x= .slice ad l0.length cap∧l0.length≤cap:=by
     rcases k1.2 with⟨q1,q2⟩|⟨g,off,cap,cur,q1,_,_,q2,_⟩
     ·exact⟨none,0,by rw[q1,q2],by omega⟩
     ·exact⟨_,cap,q1,q2⟩
    have hb:=Lg (P:=P) (a:=a) (isSlice:=true) (len:=l0.length) (cap:=cap) (lo:=some lo) (hi:=none) (i:=k) (j:=(l0.length:Int)) w (.inr ⟨lo,kk,rfl,hk⟩) (.inl ⟨rfl,rfl⟩) hk0 (by omega) (by omega) hlc
    have hsl:∃e i0,P.underlying t=some (.slice e)∧P.info? e=some i0∧i0.size=sz':=by
     unfold M3 at ht;split at ht
     ·rename_i e hu;split at ht
      ·rename_i i0 hi0;simp only[Ap,beq_iff_eq]at ht;exact⟨e,i0,hu,hi0,ht.1⟩
      ·cases ht
     ·cases ht
    obtain⟨e0,i0,hu,hi0,Hr⟩:=hsl;have Aih:(execOp a.eval o).run P w= .ok (.value (.slice (if cap=k.toNat then ad else ad.map (·.add (k.toNat*sz'))) (l0.length - k.toNat) (cap - k.toNat))) w:=by
     simp only[Fq,Option.map_none,if_true,Bool.true_eq_false,if_false,reduceIte]at hb;simp[execOp,ho,Instr.sliceAt,Instr.slice,run_underlying hu,hc,hb,sizeOf,typeInfo,hi0,Hr]
    have Avd:¬((if e<1000000 then e+1000000 else e)<1000000):=by by_cases h:e<1000000<;>simp[h]<;>omega
    have hsp:∃d',xs=xs.take (k.toNat*sz')++d'∧F9 G2 (l0.drop k.toNat) d'∧d'=xs.drop (k.toNat*sz'):=by
     have k2':=k2;rw[←Fj k.toNat l0]at k2';obtain⟨c,d',hcd,h5,h6⟩:=F9.split k2';have hcl:c.length=k.toNat*sz':=by rw[F9.length _ _ h5,J3 (sz:=sz') fun x hx=>k3 x (P2 hx),Hg,U6 hkl]
     refine⟨d',?_,h6,?_⟩
     ·rw[hcd, ←hcl,Amq]
     ·rw[hcd, ←hcl,Aog]
    obtain⟨d',_,hrd,hdd⟩:=hsp;have A6i:∀x∈l0.drop k.toNat,x.size=sz':=fun x hx=>k3 x (Agw hx)
    have hFD:Awb G2 σ2 Fr w (.vec (if e<1000000 then e+1000000 else e) sz' ((l0.drop k.toNat).map D.it)) (.slice (if cap=k.toNat then ad else ad.map (·.add (k.toNat*sz'))) (l0.length - k.toNat) (cap - k.toNat)):=by
     refine A9w.Bd6 (xs:=d') ⟨by rw[hdd,Ei,k1.1,Ei,Nat.sub_mul],?_⟩ hrd A6i ?_
     ·rcases k1.2 with⟨q1,q2⟩|⟨g,off,cp,cur,q1,⟨ty,fz,q2,q3,_⟩,q0,q4,q5,q6,q7⟩
      ·rw[hc]at q1;injection q1 with e1 e2 e3
       subst e1;subst e3;left;have h1:k.toNat=0:=by omega
       simp[h1,q2]
      ·rw[hc]at q1;cases q1;right;have hkm:k.toNat*sz'≤cap*sz':=Jh _ (by omega)
       by_cases hck:cap=k.toNat
       ·refine⟨g,off,0,cur,?_,⟨ty,fz,q2,q3,fun h=>absurd h Avd⟩,fun h=>absurd h Avd,?_,by omega,by omega,?_⟩
        ·rw[if_pos hck,Ei,hck,Nat.sub_self]
        ·rw[Ei];omega
        ·have:l0.length - k.toNat=0:=by omega
         rw[hdd,Ei,this,Nat.zero_mul,List.take_zero];symm;rw[List.drop_eq_nil_iff,k1.1];exact Jh _ (by omega)
       ·refine⟨g,off+k.toNat*sz',cap - k.toNat,cur,?_,⟨ty,fz,q2,q3,fun h=>absurd h Avd⟩,fun h=>absurd h Avd,?_,by omega,?_,?_⟩
        ·rw[if_neg hck,Ei];simp[add_lit]
        ·rw[Ei];omega
        ·rw[Nat.sub_mul];omega
        ·rw[hdd, ←q7,Ei,List.drop_take,List.drop_drop,Nat.sub_mul]
     ·intro b hb;have Sy:(a.eval x).ownBlock=some b:=by
       rw[hc];cases ad with
       |none=>split at hb<;>simp[Value.ownBlock]at hb
       |some A=>
        have hA:∀m,(A.add m).block=A.block:=by
         intro m;unfold Addr.add;split<;>rfl
        split at hb<;>simpa[Value.ownBlock,hA]using hb
      rcases k4 with⟨_,h⟩|⟨g,rfl,h⟩
      ·rw[h]at Sy;cases Sy
      ·rw[h]at Sy;cases Sy;obtain⟨p1,p2,p3,_⟩:=v4 b (by simp)
       exact⟨p1,p2,p3⟩
    obtain⟨σ',st',r1,r2⟩:=hr2.Anp (P:=P) (C2 d hd) hFD h2;exact Jt Aih (by rw[hd];exact hn G2 σ' st' _ w hG2 r1 r2)
   ·exact h2.elim
  ·exact h2.elim
 ·exact h1.elim
end

open Go.Op
def Ah6(_:Nat)(sv:SV):Nat × SV:=match sv with
 | .bs _ _ _ _ _=>(0,.bs 0 0 [] 0 0)
 |_=>(0,.no)
def X0(x:D6)(yes no:M):M:=match x with
 | .t n=>.Atf n Ah6 fun _ sv=>match sv with
   | .bs _ _ _ _ _=>yes
   |_=>no
 |_=>no
def Xh(d:Option Nat)(sz:Nat)(x i:D6):M:=rdI i fun n=>match n with
 | .int _ k=>match x with
   | .t m=>.get m fun _ sv=>match sv with
     | .bs s v p lo n=>.get s fun cur sv'=>match sv' with
       | .own _ t=>match D.at p t with
         |some u=>match u with
          | .vec _ sz' _=>.Hh (v=cur∧0≤k∧k.toNat<n∧sz'=sz∧d≠some s) fun _=>Gj d (.pd s cur (p++[lo+k.toNat])) .done
          |_=>.fail
         |none=>.fail
       |_=>.fail
     |_=>.fail
   |_=>.fail
 |_=>.fail
def Wp(d:Option Nat)(x:D6):M:=match x with
 | .t m=>.get m fun _ sv=>match sv with
   | .bs s v p _ n=>.get s fun cur sv'=>match sv' with
     | .own _ t=>match D.at p t with
       |some u=>.Hh (v=cur∧u.isAgg=false) fun _=>Gj d (.v (.int .i64 n)) .done
       |none=>.fail
     |_=>.fail
   |_=>.fail
 |_=>.fail
def Zc(d:Option Nat)(agg:Bool)(sz:Nat)(x:D6):M:=rdD x fun s cur inv t p=>match D.at p t with
 |some u=>.Hh (agg=true∧u.isAgg=true∧u.size=sz∧d≠some s∧J7 cur inv p=true) fun _=>Gj d (.bs s cur p 0 0) .done
 |none=>.fail
section
variable{P:Program}{N:Nat}{G:Mem}{σ:Lab}{Fr:Mem}{w0:Base}{w:World}{st:St}{a:Act}
theorem Aas{o:Oper}{t:TypeId}{x:Operand}{x':D6}{agg:Bool}{sz:Nat}(ho:o.op= .load t x)(hx:Jj N x x'=true)(ht:Asu P t agg sz=true):Sound P N o (Zc o.dst agg sz x'):=by
 intro G σ Fr w0 st a w Q next E hN hr hw hn C2
 subst hN;have run:∀{b off:Nat} {v:Value},a.eval x= .pointer (some ⟨b,off,none⟩)→(loadVar t ⟨b,off,none⟩).run P w= .ok v w→(execOp a.eval o).run P w= .ok (.value v) w:=by
  intro b off v hp hl;simp[execOp,ho,hp,Instr.loadAt,Instr.sureAddr,hl]
 obtain⟨s,cur,inv,tr,p,h1,hs,hp0,hpt⟩:=Ub hr hx hw;have Akd:=hr.Eb s cur _ hs;split at h1
 ·rename_i u C3;obtain⟨b,off,bl,ty,fz,pre,cs,post,ubs,e1,e2,e3,e4,e5,e6,e7⟩:=PtD.block Akd C3 hpt;have A0o:=Fe.one e5;have hlen:=Fe.length e5;obtain⟨⟨rfl,hag,Hr,Cf,hal⟩,h1⟩:=h1;obtain⟨v,hl,hvc,hva⟩:=Sv (P:=P) (cs:=cs) (agg:=true) (by rw[hlen,Hr];exact ht) (by intro e;cases e) e2 e3 e4 A0o
  obtain⟨σ',st',r1,r2⟩:=hr.Gj C2 (sv:=.bs s cur p 0 0) (c:=v) (fun d' hd ver _=>by
   refine⟨_,by rw[B3 (by rintro rfl;exact Cf hd)];exact hs,Bz _,fun _ Ap9 t' e=>?_⟩
   cases e;rw[Jr (by rintro rfl;exact Cf hd)]
   exact⟨hal,.inr ⟨u,_,C3,hag,hva,by rw[hvc];exact e7⟩⟩) h1
  exact Jt (run e1 hl) (hn G σ' st' _ w (Mem.le.refl G) r1 r2)
 ·exact h1.elim
theorem Xt{o:Oper}{x:D6}{yes no:M}(h1:Sound P N o yes)(h2:Sound P N o no):Sound P N o (X0 x yes no):=by
 intro G σ Fr w0 st a w Q next E hN hr hw hn C2
 have:yes.wp P Q st∨no.wp P Q st:=by
  cases x with
  |c _=>exact .inr hw
  |Ahc _ _=>exact .inr hw
  |t n=>
   simp only[X0,M.wp]at hw;cases hs:st[n]? with
   |none=>simp[hs]at hw
   |some cur=>
    obtain⟨cv,csv⟩:=cur;simp only[hs]at hw;cases csv with
    |bs _ _ _ _ _=>exact .inl hw
    |_=>exact .inr hw
 rcases this with h|h
 ·exact h1 G σ Fr w0 st a w Q next E hN hr h hn C2
 ·exact h2 G σ Fr w0 st a w Q next E hN hr h hn C2
theorem Z2{o:Oper}{t:TypeId}{x i:Operand}{x' i':D6}{sz:Nat}(ho:o.op= .indexAddr t x i)(hx:Jj N x x'=true)(hi:Jj N i i'=true)(ht:M3 P t sz=true):
 Sound P N o (Xh o.dst sz x' i'):=by
 intro G σ Fr w0 st a w Q next E hN hr hw hn C2
 subst hN;obtain⟨n0,h1,hnv⟩:=J8 hr hi hw;split at h1
 ·rename_i kk k;rw[C7.int]at hnv;cases x' with
  |c _=>exact h1.elim
  |Ahc _ _=>exact h1.elim
  |t m=>
   obtain⟨rfl,Agv⟩:=J0 hx;simp only[M.wp]at h1;cases hs0:st[m]? with
   |none=>simp[hs0]at h1
   |some A77=>
    obtain⟨ver,sv⟩:=A77;simp only[hs0]at h1;have Dh:=hr.slot Agv hs0;split at h1
    ·rename_i s v p lo n;obtain⟨cur,g1,g2,g3⟩:=Dh;simp only[M.wp,g1]at h1;obtain⟨cv,csv⟩:=cur;simp only at h1;split at h1
     ·rename_i inv tr;split at h1
      ·rename_i u C3;split at h1
       ·rename_i e sz' l;obtain⟨⟨rfl,h0,Ze,rfl,Cf⟩,h1⟩:=h1;obtain⟨_,hbs⟩:=g3 rfl inv tr rfl;obtain⟨e1,sz1,l1,c0,ad,cap,q1,q2,q3,q4,q5,q6⟩:∃e1 sz1 l1 c0 ad cap,tr.at p=some (.vec e1 sz1 l1)∧HdD w tr (val a w0 s) p c0∧c0= .slice ad l1.length cap∧l1.length≤cap∧lo+n≤l1.length∧
         a.eval (.tmp m)= .slice (if cap=lo then ad else ad.map (·.add (lo*sz1))) n (cap - lo):=by
         rcases hbs with h|⟨u1,_,k1,k2,_⟩
         ·exact h
         ·rw[C3]at k1;cases k1;cases k2
        rw[C3]at q1;cases q1;have Akd:=hr.Eb s v _ g1;obtain⟨hh,ubs,e5,e6,e7⟩:=HdD.read Akd C3 q2;simp only[Fe]at e5;rcases e5 with⟨_,rfl,_⟩|⟨g,off,Azd,cu,xs,bs',p1,⟨ty,fz,p2,_⟩,_⟩
        ·simp only[Ak7]at q5;omega
        ·injection p1 with p1
         rw[q3]at p1;cases p1;have hcl:¬cap=lo:=by omega
         rw[if_neg hcl]at q6;have hk:(D.vec e sz' l).Xw (lo+k.toNat)=some (l[lo+k.toNat]'(by omega)):=by simp[D.Xw,Ae (show lo+k.toNat<l.length by omega)]
         have A79:Option.map (·.add (lo*sz')) (some (⟨g,off,none⟩:Addr))=some ⟨g,off+lo*sz',none⟩:=by simp[add_lit]
         rw[A79]at q6;refine Acj hr C2 g1 hn Cf (c:=.pointer (some ⟨g,off+(lo+k.toNat)*sz',none⟩)) ⟨_,g,off+(lo+k.toNat)*sz',(cu.toList.drop (off+(lo+k.toNat)*sz')).take sz',by rw[Nf C3];exact hk,?_,rfl⟩ ?_ h1
         ·rw[L5 C3 e7 hk,q3];simp only[Jx,Ae (show lo+k.toNat<l.length by omega),p2]
         ·have:=Rs (P:=P) (t:=t) (sz:=sz') (b:=g) (off:=off+lo*sz') (len:=n) (cap:=cap - lo) (k:=kk) (n:=k) ht w h0 Ze;simp[execOp,ho,q6,hnv,this,Aj7,Nat.add_assoc]
       ·exact h1.elim
      ·exact h1.elim
     ·exact h1.elim
    ·exact h1.elim
 ·exact h1.elim
theorem Adw{o:Oper}{t:TypeId}{x:Operand}{x':D6}(ho:o.op= .call {callee:=.builtin .len,args:= #[x],argTypes:= #[t]})(hx:Jj N x x'=true)(ht:Q9 P t false=true):Sound P N o (Wp o.dst x'):=by
 intro G σ Fr w0 st a w Q next E hN hr hw hn C2
 subst hN;cases x' with
 |c _=>exact hw.elim
 |Ahc _ _=>exact hw.elim
 |t m=>
  obtain⟨rfl,Agv⟩:=J0 hx;simp only[Wp,M.wp]at hw;cases hs0:st[m]? with
  |none=>simp[hs0]at hw
  |some A77=>
   obtain⟨ver,sv⟩:=A77;simp only[hs0]at hw;have Dh:=hr.slot Agv hs0;split at hw
   ·rename_i s v p lo n;obtain⟨cur,g1,g2,g3⟩:=Dh;simp only[M.wp,g1]at hw;obtain⟨cv,csv⟩:=cur;simp only at hw;split at hw
    ·rename_i inv tr;split at hw;rotate_left 1
     ·exact hw.elim
     rename_i u C3;obtain⟨⟨rfl,hag⟩,hw⟩:=hw;obtain⟨_,hbs⟩:=g3 rfl inv tr rfl;obtain⟨sz1,ad,cap,q6⟩:∃sz1 ad cap,a.eval (.tmp m)= .slice (if cap=lo then ad else ad.map (·.add (lo*sz1))) n (cap - lo):=by
      rcases hbs with⟨e1,sz1,l1,c0,ad,cap,q1,q2,q3,q4,q5,q6⟩|⟨u1,_,k1,k2,_⟩
      ·exact⟨sz1,ad,cap,q6⟩
      ·rw[C3]at k1;cases k1;rw[hag]at k2;cases k2
     have hu:∃e,P.underlying t=some (.slice e):=by
      unfold Q9 at ht;split at ht
      ·cases ht
      ·rename_i e h;exact⟨e,h⟩
      ·cases ht
     obtain⟨e',hu⟩:=hu;exact J1 hr hn C2 (C7.int.2 rfl) hw (by simp[execOp,ho,resolve,invoke,builtin,Builtin.len_,run_underlying hu,q6,goInt])
    ·exact hw.elim
   ·exact hw.elim
end
end Go.Ab
