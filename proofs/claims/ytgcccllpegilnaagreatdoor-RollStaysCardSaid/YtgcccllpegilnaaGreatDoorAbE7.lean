/- Lemmas -/
import Derived.Test.YtgcccllpegilnaaGreatDoorAbE5
import Derived.Deep.AppendSrc
import Derived.Laws.OwnMore
set_option linter.unusedVariables false
set_option linter.unusedSimpArgs false
namespace Go.Ab
open Go.Op
def As8 (d:Option Nat) (agg:Bool) (sz:Nat) (x:Opd) (i off:Nat):M:=match x with
 | .t n=>.get n fun ver sv=>match sv with
   | .own _ t=>match Pg t i,t.kid i with
     |some o,some u=>.need (o=off) fun _=>match u with
      | .it y=>.need (y.isAgg=agg∧y.size=sz) fun _=>setD d (.v y) .done
      | .vec _ _ _=>.need (agg=false∧sz=1∧d≠some n) fun _=>setD d (.bd n ver [i]) .done
      | .map _ _=>.need (agg=false∧sz=1∧d≠some n) fun _=>setD d (.bd n ver [i]) .done
      | .ptr _=>.need (agg=false∧sz=1∧d≠some n) fun _=>setD d (.pd n ver [i,0]) .done
      | .st _=>.fail
     |_,_=>.fail
   |_=>.fail
 |_=>.fail
def Ak8 (d:Nat) (x:Opd) (i:Nat):M:=match x with
 | .t n=>.get n fun ver sv=>match sv with
   | .tupd l=>match l[i]? with
     |some u=>match u with
      | .it y=>C2 d (.v y)
      |u=>.need (n≠d∧u.whole=true) fun _=>.set n (ver+1) (.tupd (l.set i u.husk)) (C2 d (.own [] u))
     |none=>.fail
   |_=>.fail
 |_=>.fail
def As7 (d:Nat) (x:Opd) (i:Nat):M:=match x with
 | .t n=>.get n fun _ sv=>match sv with
   | .tupd _=>Ak8 d x i
   |_=>Akc d x i
 |_=>Akc d x i
def A5w (d:Option Nat) (str:Bool) (sz:Nat) (x:Opd) (lo hi:Option Opd):M:=Kc x fun u=>match u with
 | .list l=>rdB lo 0 fun i=>rdB hi l.length fun j=>.need (str=false∧0≤i∧i≤j∧j≤l.length∧∀u∈l,u.size=sz) fun _=>setD d (.v (.list ((l.take j.toNat).drop i.toNat))) .done
 |_=>.fail
section
variable{P:Program}{N:Nat}{G:Mem}{σ:Lab}{Fr:Mem}{w0:Base}{w:World}{st:St}{a:Act}
theorem A8i {o:Oper} {t:TypeId} {x:Operand} {lo hi:Option Operand} {x':Opd} {lo' hi':Option Opd} {str:Bool} {sz:Nat} (ho:o.op= .slice t x lo hi none) (hx:Ax N x x'=true)
 (hlo:oOk N lo lo'=true) (hhi:oOk N hi hi'=true) (ht:Ame P t str sz=true):Sound P N o (A5w o.dst str sz x' lo' hi'):=by
 intro G0 σ0 Fr w0 st0 a w Q next E hN hr0 hw hn hdst
 subst hN
 have hsl:str=false→∃e i,P.underlying t=some (.slice e)∧P.info? e=some i∧i.size=sz:=by
  rintro rfl
  unfold Ame at ht
  split at ht
  ·cases ht
  ·rename_i e h
   split at ht
   ·rename_i i hi;exact⟨e,i,h,hi,by simpa using ht⟩
   ·cases ht
  ·cases ht
 obtain⟨u,G,σ,st,hG,hr,h0,hrep⟩:=Km hr0 hx hw
 split at h0
 ·rename_i l
  obtain⟨i,h1,hi1⟩:=K6 hr hlo h0
  obtain⟨j,h2,hj1⟩:=K6 hr hhi h1
  obtain⟨⟨k1,k2,k3,k4,k5⟩,h3⟩:=h2
  obtain⟨e,i0,hu,hi0,hsz⟩:=hsl k1
  have hrep':RepV G (.list l) (a.eval x):=hrep
  obtain⟨ad,cap,hc,hlc,_⟩:=RepV.list.1 hrep'
  have hb:=F7 (P:=P) (isSlice:=true) (len:=l.length) (cap:=cap) w hi1 hj1 k2 k3 k4 hlc
  rw[hc]at hrep'
  have hv:=RepV.sliced (i:=i.toNat) (j:=j.toNat) (sz:=sz) hrep' (by omega) (by omega) fun _=>k5
  refine C1 hr (fun G'' σ'' st'' a' w' hG''=>hn G'' σ'' st'' a' w' (hG.trans hG'')) hdst hv h3 ?_
  simp[execOp,ho,Instr.sliceAt,Instr.slice,run_underlying hu,hc,hb,sizeOf,typeInfo,hi0,hsz]
 ·exact h0.elim
theorem Ahb {arr:Array Value} {pre cs post:List Value} {t:TypeId} {agg:Bool} (h:arr.toList=pre++cs++post) (ht:tyOk P t agg cs.length=true):
 (agg=true→(part t arr pre.length).run P w= .ok (.agg cs.toArray) w)∧∀c,agg=false→cs=[c]→(part t arr pre.length).run P w= .ok c w:=by
 obtain⟨g1,g2⟩:=P0 ht w
 constructor
 ·rintro rfl
  have:arr.extract pre.length (pre.length+cs.length)=cs.toArray:=by
   apply Array.ext'
   rw[Array.toList_extract,h,List.extract_eq_take_drop,Nat.add_sub_cancel_left,List.append_assoc,List.drop_left,List.take_left]
  simp[part,g1,g2,this]
 ·rintro c rfl rfl
  have hv:arr[pre.length]?=some c:=by
   have:arr[pre.length]?=arr.toList[pre.length]?:=by simp
   rw[this,h]
   simp
  simp[part,g1,hv]
theorem A78 {o:Oper} {t:TypeId} {x:Operand} {x':Opd} {i off sz:Nat} {agg:Bool} (ho:o.op= .field t x i) (hx:Ax N x x'=true) (ht:Apg P t i off agg sz=true):
 Sound P N o (As8 o.dst agg sz x' i off):=by
 intro G σ Fr w0 st a w Q next E hN hr hw hn hdst
 subst hN
 cases x' with
 |c _=>exact hw.elim
 |nils _ _=>exact hw.elim
 |t n=>
  obtain⟨rfl,hnlt⟩:=Dm hx
  simp only[As8,M.wp]at hw
  cases hs:st[n]? with
  |none=>simp[hs]at hw
  |some cur=>
   obtain⟨ver,sv⟩:=cur
   simp only[hs]at hw
   have hrep:=hr.slot hnlt hs
   have hvv:val a w0 n=a.eval (.tmp n):=Ez (by rw[hr.n];exact hnlt)
   split at hw
   ·rename_i inv tr
    split at hw
    ·rename_i o' u hof hk
     obtain⟨rfl,hw⟩:=hw
     have hown:OwnD G σ w n tr (val a w0 n):=by rw[hvv];exact hrep
     obtain⟨bs,r1,r2,r3,r4⟩:=hown
     have htag:tr.isAgg=true:=by
      cases tr with
      |it y=>cases y<;>first|rfl|(simp[Pg]at hof)
      |st l=>rfl
      |_=>simp[Pg]at hof
     rw[htag]at r2
     obtain⟨arr,hc⟩:=Qh r2
     obtain⟨m,s',ybs,q1,q2,q3,q4,q5,q6,q7,q8⟩:=An7 r1 r3 hk none
     obtain⟨y0,cs',p1,p2⟩:=Amu (w:=w) (b:=0) (o:=0) (cs:=(val a w0 n).cells.toList) hof
     obtain⟨pre,post,harr,hpre⟩:∃pre post,arr.toList=pre++s'.2++post∧pre.length=o':=by
      rw[hc]at q1 q5
      cases tr with
      |it y=>
       cases y with
       |agg l=>
        simp only[Pg]at hof
        cases hl:l[i]? with
        |none=>simp[hl]at hof
        |some z=>
         simp only[hl,Option.some.injEq]at hof
         subst hof
         simp only[RepD,RepI]at r1
         rw[hc]at r1
         obtain⟨c1,c,c2,e1,e2,e3,_⟩:=RepIs.nth i r1.1 hl
         simp only[B9,hl,Option.some.injEq]at q1
         have hcl:=RepI.length _ _ e3
         refine⟨c1,c2,?_,e2⟩
         rw[←q1]
         simp only[Value.cells]at e1 ⊢
         rw[←e2, ←hcl]
         rw[e1,Fq]
       |_=>simp[Pg]at hof
      |st l=>
       simp only[Pg]at hof
       cases hl:l[i]? with
       |none=>simp[hl]at hof
       |some z=>
        simp only[hl,Option.some.injEq]at hof
        subst hof
        simp only[RepD]at r1
        rw[hc]at r1
        obtain⟨c1,c,c2,b1,b,b2,e1,_,e2,e3,_⟩:=RepDs.nth r1 hl
        simp only[B9,hl,Option.some.injEq]at q1
        have hcl:=RepD.length e3
        refine⟨c1,c2,?_,e2⟩
        rw[←q1]
        simp only[Value.cells]at e1 ⊢
        rw[←e2, ←hcl]
        rw[e1,Fq]
      |_=>simp[Pg]at hof
     have hev:a.eval (.tmp n)= .agg arr:=by rw[←hvv];exact hc
     have hlen:=RepD.length q2
     unfold Apg at ht
     split at ht
     ·rename_i fs hus
      split at ht
      ·rename_i f hf
       simp only[Bool.and_eq_true,beq_iff_eq]at ht
       obtain⟨hoff,ht⟩:=ht
       have run:∀{v:Value},(part f.type arr pre.length).run P w= .ok v w→(execOp a.eval o).run P w= .ok (.value v) w:=by
        intro v hv
        rw[hpre, ←hoff]at hv
        simp[execOp,ho,hev,Instr.field,run_underlying hus,hf,asAgg,hv]
       have hspot:spot w [i] tr (none,(val a w0 n).cells.toList)=some s':=by
        simp only[spot,hk,q1]
       cases u with
       |it y=>
        obtain⟨⟨rfl,rfl⟩,hw⟩:=hw
        simp only[RepD]at q2
        obtain⟨v,hl,hv⟩:=Aoe (P:=P) (w:=w) harr q2.1 ht
        exact C1 hr hn hdst hv hw (run hl)
       |vec e sz' l=>
        obtain⟨⟨rfl,rfl,hne⟩,hw⟩:=hw
        obtain⟨c,hc1⟩:=List.length_eq_one_iff.1 hlen
        rw[hc1]at harr
        have hl:=(Ahb (P:=P) (w:=w) (t:=f.type) (agg:=false) harr (by exact ht)).2 c rfl rfl
        refine Ama hr hdst hs hn hne ⟨.vec e sz' l,s'.1,by simp only[D.at,hk],rfl,?_⟩ (run hl) hw
        rw[hspot, ←hc1]
       |map ks vs=>
        obtain⟨⟨rfl,rfl,hne⟩,hw⟩:=hw
        obtain⟨c,hc1⟩:=List.length_eq_one_iff.1 hlen
        rw[hc1]at harr
        have hl:=(Ahb (P:=P) (w:=w) (t:=f.type) (agg:=false) harr (by exact ht)).2 c rfl rfl
        refine Ama hr hdst hs hn hne ⟨.map ks vs,s'.1,by simp only[D.at,hk],rfl,?_⟩ (run hl) hw
        rw[hspot, ←hc1]
       |ptr dd=>
        obtain⟨⟨rfl,rfl,hne⟩,hw⟩:=hw
        simp only[RepD]at q2
        obtain⟨b,cells,ty,bs',z1,z2,_⟩:=q2
        rw[z1]at harr
        have hl:=(Ahb (P:=P) (w:=w) (t:=f.type) (agg:=false) harr (by exact ht)).2 _ rfl rfl
        refine Amc hr hdst hs hn hne ⟨dd,b,0,cells.toList,by simp only[D.at,hk];rfl,?_,rfl⟩ (run hl) hw
        have hks:B9 w (.ptr dd) s' 0=some (some (b,0),cells.toList):=by
         obtain⟨sh,sc⟩:=s'
         simp only at z1
         subst z1
         simp[B9,z2]
        simp only[spot,hk,q1]
        rw[hks]
        rfl
       |st l=>exact hw.elim
      ·cases ht
     ·cases ht
    ·exact hw.elim
   ·exact hw.elim
theorem A77 {o:Oper} {d i:Nat} {x:Operand} {x':Opd} (hd:o.dst=some d) (ho:o.op= .extract x i) (hx:Ax N x x'=true):Sound P N o (Ak8 d x' i):=by
 intro G σ Fr w0 st a w Q next E hN hr hw hn hdst
 subst hN
 cases x' with
 |c _=>exact hw.elim
 |nils _ _=>exact hw.elim
 |t n=>
  obtain⟨rfl,hnlt⟩:=Dm hx
  simp only[Ak8,M.wp]at hw
  cases hs:st[n]? with
  |none=>simp[hs]at hw
  |some cur=>
   obtain⟨ver,sv⟩:=cur
   simp only[hs]at hw
   have hrep:=hr.slot hnlt hs
   split at hw
   ·rename_i l
    obtain⟨arr,bs,hc,h1,h2,h3⟩:=hrep
    split at hw
    ·rename_i u hu
     obtain⟨v,b1,b,b2,hv,rfl,hva,hrv,hset,_⟩:=RepVs.nth h1 hu
     have run:(execOp a.eval o).run P w= .ok (.value v) w:=by
      have:arr[i]?=some v:=by simpa using hv
      simp[execOp,ho,hc,Instr.extract,this]
     split at hw
     ·rename_i y
      simp only[RepD]at hrv
      have hvy:RepV G y v:=by
       unfold RepV
       simp only[D.isAgg]at hva
       split
       ·rename_i hy
        rw[hy]at hva
        obtain⟨a',rfl⟩:=Qh hva
        exact⟨a',rfl,hrv.1⟩
       ·rename_i hy
        rw[show y.isAgg=false by simpa using hy]at hva
        rw[Fp hva]at hrv
        exact hrv.1
      obtain⟨σ',st',r1,r2⟩:=hr.setNV (hdst d hd) hvy hw
      exact Bv run (by rw[hd];exact hn G σ' st' _ w (Mem.le.refl G) r1 r2)
     ·obtain⟨⟨hne,hwh⟩,hw⟩:=hw
      obtain⟨hag,hsz,_⟩:=Ap9 hwh
      have hdis:∀z∈b1++b2,z ∉ b:=by
       intro z hz hb
       simp only[List.nodup_append,List.mem_append]at h2 hz
       rcases hz with hz|hz
       ·exact h2.1.2.2 z hz z hb rfl
       ·exact h2.2.2 z (.inr hb) z hz rfl
      have hr2:=Rel.self (new:=.tupd (l.set i u.husk)) (ver:=ver+1) hr (hr.wok.shed (bs:=b)) (Mem.le.refl G) hs (Nat.lt_succ_self _)
       (fun s' hs' z k' hz=>⟨Lab.shed_some.2 ⟨fun hm=>by
         obtain⟨kk,hkk⟩:=h3 z (by simp[hm])
         rw[hz]at hkk
         cases hkk
         exact hs' rfl,hz⟩,rfl⟩) (by
         refine⟨arr,b1++b2,?_,?_,?_,?_⟩
         ·rw[←hc,Ez (by rw[hr.n];exact hnlt)]
         ·have:=hset G w u.husk [] (Mem.le.refl G) (by rw[hag];exact hva) (Azd hwh hrv G w) fun _ _=>rfl
          simpa using this
         ·simp only[List.nodup_append,List.mem_append]at h2 ⊢
          exact⟨h2.1.1,h2.2.1,fun x hx y hy=>h2.2.2 x (.inl hx) y hy⟩
         ·intro z hz
          obtain⟨kk,hkk⟩:=h3 z (by simp only[List.mem_append]at hz ⊢;rcases hz with h|h<;>simp[h])
          exact⟨kk,Lab.shed_some.2 ⟨hdis z hz,hkk⟩⟩)
      obtain⟨σ',st',r1,r2⟩:=hr2.adopt (P:=P) (hdst d hd) (c:=v) ⟨b,hrv,hva,by
       simp only[List.nodup_append]at h2
       exact h2.1.2.1,fun z hz=>by
       obtain⟨kk,hkk⟩:=h3 z (by simp[hz])
       obtain⟨k1,k2,k3⟩:=hr.wok.own z _ hkk
       exact⟨k1,k2,by simp[Lab.shed,hz],k3⟩⟩ hw
      exact Bv run (by rw[hd];exact hn G σ' st' _ w (Mem.le.refl G) r1 r2)
    ·exact hw.elim
   ·exact hw.elim
theorem A76 {o:Oper} {d i:Nat} {x:Operand} {x':Opd} (hd:o.dst=some d) (ho:o.op= .extract x i) (hx:Ax N x x'=true):Sound P N o (As7 d x' i):=by
 intro G σ Fr w0 st a w Q next E hN hr hw hn hdst
 have:(Ak8 d x' i).wp P Q st∨(Akc d x' i).wp P Q st:=by
  cases x' with
  |c _=>exact .inr hw
  |nils _ _=>exact .inr hw
  |t n=>
   simp only[As7,M.wp]at hw
   cases hs:st[n]? with
   |none=>simp[hs]at hw
   |some cur=>
    simp only[hs]at hw
    split at hw
    ·exact .inl hw
    ·exact .inr hw
 rcases this with h|h
 ·exact A77 hd ho hx G σ Fr w0 st a w Q next E hN hr h hn hdst
 ·exact Bb2 hd ho hx G σ Fr w0 st a w Q next E hN hr h hn hdst
end

open Go.Op
def D1 (op:BinOp) (k:IntKind) (x y:Int):Int:=
 let a:=BitVec.ofInt k.bits x
 let b:=BitVec.ofInt k.bits y
 match op with
 | .and=>k.wrap (a &&& b).toNat
 | .or=>k.wrap (a ||| b).toNat
 | .xor=>k.wrap (a^^^b).toNat
 |_=>k.wrap (a &&& ~~~b).toNat
def shlI (k:IntKind) (x y:Int):Int:=k.wrap (x*2^(min y.toNat k.bits))
def shrI (k:IntKind) (x y:Int):Int:=x.fdiv (2^(min y.toNat k.bits))
def A5j (d:Option Nat) (op:BinOp) (x y:Opd):M:=Gx x fun i=>Gx y fun j=>match i,j with
 | .int ka a,.int kb b=>match op with
   | .and=>.need (ka=kb) fun _=>setD d (.v (.int ka (D1 .and ka a b))) .done
   | .or=>.need (ka=kb) fun _=>setD d (.v (.int ka (D1 .or ka a b))) .done
   | .xor=>.need (ka=kb) fun _=>setD d (.v (.int ka (D1 .xor ka a b))) .done
   | .andNot=>.need (ka=kb) fun _=>setD d (.v (.int ka (D1 .andNot ka a b))) .done
   | .quo=>.need (ka=kb∧b≠0) fun _=>setD d (.v (.int ka (ka.wrap (a.tdiv b)))) .done
   | .rem=>.need (ka=kb∧b≠0) fun _=>setD d (.v (.int ka (a.tmod b))) .done
   | .shl=>.need (0≤b) fun _=>setD d (.v (.int ka (shlI ka a b))) .done
   | .shr=>.need (0≤b) fun _=>setD d (.v (.int ka (shrI ka a b))) .done
   |_=>.fail
 |_,_=>.fail
def A0y (d:Option Nat) (x:Opd):M:=Gx x fun i=>match i with
 | .int k n=>setD d (.v (.int k (D1 .xor k (if k.signed then -1 else k.max) n))) .done
 |_=>.fail
def A5n (d:Option Nat) (k:IntKind) (x:Opd):M:=Gx x fun i=>match i with
 | .int _ n=>setD d (.v (.int k (k.wrap n))) .done
 |_=>.fail
def Axv (P:Program) (dst:TypeId) (k:IntKind) (src:TypeId):Bool:=(P.underlying src).isSome&&match P.underlying dst with
 |some (.int k')=>k==k'
 |_=>false
def A5q (d:Nat) (e:TypeId) (sz bytes:Nat) (z:I) (x:Opd):M:=Gx x fun i=>match i with
 | .int _ n=>.need (0≤n∧bytes*n.toNat≤140737488355328∧n≤9223372036854775807∧n.toNat*sz≤16777216) fun _=>C2 d (.vec e sz (List.replicate n.toNat z))
 |_=>.fail
def Azx (P:Program) (t e:TypeId) (sz bytes:Nat) (z:I):Bool:=match P.underlying t with
 |some (.slice e')=>e'==e&&match P.info? e with
  |some i=>i.size==sz&&i.bytes==bytes&&sz != 0&&z.size==sz&&match i.zero with
   |some v=>v.cells.size==sz&&match zI z v.cells.toList with
    |some []=>true
    |_=>false
   |none=>false
  |none=>false
 |_=>false
def Ahp (sz:Nat) (x:Opd) (k:TypeId→List I→M):M:=match x with
 | .nils e _=>M4 e sz x (k e)
 | .c _=>.fail
 | .t n=>.get n fun _ sv=>match sv with
   | .vec e _ _=>M4 e sz (.t n) (k e)
   | .bor s kk _=>.get s fun _ sv'=>match sv'.vecAt kk with
     |some (e,_,_)=>M4 e sz (.t n) (k e)
     |none=>.fail
   | .sub s kk _ _=>.get s fun _ sv'=>match sv'.vecAt kk with
     |some (e,_,_)=>M4 e sz (.t n) (k e)
     |none=>.fail
   |_=>.fail
def A5i (d:Nat) (er:TypeId) (sz bytes:Nat) (str:Bool) (x y:Opd):M:=match str with
 |true=>Gx y fun u=>match u with
  | .str s=>Ahp sz x fun e l=>.need ((l.length+s.length)*bytes≤140737488355328∧l.length+s.length≤maxLen∧sz=1∧(e<1000000→e=er)) fun _=>C2 d (.vec e sz (l++s.map Cr))
  |_=>.fail
 |false=>Kc y fun u=>match u with
  | .list ys=>Ahp sz x fun e l=>.need ((l.length+ys.length)*bytes≤140737488355328∧l.length+ys.length≤maxLen∧(∀u∈ys,u.size=sz)∧(e<1000000→e=er)) fun _=>C2 d (.vec e sz (l++ys))
  |_=>.fail
def Aiy (P:Program) (t tx er:TypeId) (sz bytes:Nat) (str:Bool):Bool:=(match P.underlying t with
 |some (.slice e')=>e'==er&&match P.info? er with
  |some i=>i.size==sz&&i.bytes==bytes&&sz != 0&&match i.zero with
   |some z=>z.cells.size==sz
   |none=>false
  |none=>false
 |_=>false)&&match P.underlying tx with
  |some .string=>str
  |some (.slice _)=> !str
  |_=>false
section
variable{P:Program}{N:Nat}{G:Mem}{σ:Lab}{Fr:Mem}{w0:Base}{w:World}{st:St}{a:Act}
theorem A71 {o:Oper} {op:BinOp} {t u:TypeId} {x y:Operand} {x' y':Opd} (ho:o.op= .binOp op t x y u) (hx:Ax N x x'=true) (hy:Ax N y y'=true):
 Sound P N o (A5j o.dst op x' y'):=by
 intro G σ Fr w0 st a w Q next E hN hr hw hn hdst
 subst hN
 obtain⟨i,h1,hi⟩:=De hr hx hw
 clear hw
 obtain⟨j,hw,hj⟩:=De hr hy h1
 clear h1
 split at hw
 ·rename_i ka m kb n
  rw[RepV.int]at hi hj
  split at hw
  ·obtain⟨rfl,hw⟩:=hw
   exact C1 hr hn hdst (RepV.int.2 rfl) hw (by simp[execOp,ho,hi,hj,eqGuard,Go.binOp,Op.intBits,D1])
  ·obtain⟨rfl,hw⟩:=hw
   exact C1 hr hn hdst (RepV.int.2 rfl) hw (by simp[execOp,ho,hi,hj,eqGuard,Go.binOp,Op.intBits,D1])
  ·obtain⟨rfl,hw⟩:=hw
   exact C1 hr hn hdst (RepV.int.2 rfl) hw (by simp[execOp,ho,hi,hj,eqGuard,Go.binOp,Op.intBits,D1])
  ·obtain⟨rfl,hw⟩:=hw
   exact C1 hr hn hdst (RepV.int.2 rfl) hw (by simp[execOp,ho,hi,hj,eqGuard,Go.binOp,Op.intBits,D1])
  ·obtain⟨⟨rfl,hb⟩,hw⟩:=hw
   exact C1 hr hn hdst (RepV.int.2 rfl) hw (by simp[execOp,ho,hi,hj,eqGuard,Go.binOp,Op.intDiv,hb])
  ·obtain⟨⟨rfl,hb⟩,hw⟩:=hw
   exact C1 hr hn hdst (RepV.int.2 rfl) hw (by simp[execOp,ho,hi,hj,eqGuard,Go.binOp,Op.intDiv,hb])
  ·obtain⟨hb,hw⟩:=hw
   have hb':¬n<0:=by omega
   exact C1 hr hn hdst (RepV.int.2 rfl) hw (by simp[execOp,ho,hi,hj,eqGuard,Go.binOp,Op.shift,hb',shlI])
  ·obtain⟨hb,hw⟩:=hw
   have hb':¬n<0:=by omega
   exact C1 hr hn hdst (RepV.int.2 rfl) hw (by simp[execOp,ho,hi,hj,eqGuard,Go.binOp,Op.shift,hb',shrI])
  ·exact hw.elim
 ·exact hw.elim
theorem A3i {o:Oper} {t:TypeId} {x:Operand} {x':Opd} (ho:o.op= .unOp .xor t x) (hx:Ax N x x'=true):Sound P N o (A0y o.dst x'):=by
 intro G σ Fr w0 st a w Q next E hN hr hw hn hdst
 subst hN
 obtain⟨i,h1,hi⟩:=De hr hx hw
 split at h1
 ·rw[RepV.int]at hi
  exact C1 hr hn hdst (RepV.int.2 rfl) h1 (by simp[execOp,ho,hi,Op.unary,Op.intBits,D1])
 ·exact h1.elim
theorem A75 {o:Oper} {k:IntKind} {src dst:TypeId} {x:Operand} {x':Opd} (ho:o.op= .convert src dst x) (hx:Ax N x x'=true) (ht:Axv P dst k src=true):Sound P N o (A5n o.dst k x'):=by
 intro G σ Fr w0 st a w Q next E hN hr hw hn hdst
 subst hN
 obtain⟨i,h1,hi⟩:=De hr hx hw
 unfold Axv at ht
 simp only[Bool.and_eq_true,Option.isSome_iff_exists]at ht
 obtain⟨⟨ds,hs⟩,ht⟩:=ht
 split at ht
 ·rename_i k' hk
  simp only[beq_iff_eq]at ht
  subst ht
  split at h1
  ·rw[RepV.int]at hi
   refine C1 hr hn hdst (RepV.int.2 rfl) h1 ?_
   simp[execOp,ho,hi,convert,run_underlying hs,run_underlying hk,Conv.intToInt]
  ·exact h1.elim
 ·cases ht
theorem Ako {sz:Nat} {x:Operand} {y:Opd} {k:TypeId→List I→M} {Q:St→Prop} (h:Rel G σ Fr w0 st a w) (ho:Ax w0.n x y=true) (hq:(Ahp sz y k).wp P Q st):
 ∃e l σ' st',Rel G σ' Fr w0 st' a w∧(k e l).wp P Q st'∧Free G σ' Fr w e sz l (a.eval x):=by
 have fin:∀e,(M4 e sz y (k e)).wp P Q st→∃e l σ' st',Rel G σ' Fr w0 st' a w∧(k e l).wp P Q st'∧Free G σ' Fr w e sz l (a.eval x):=by
  intro e hq
  obtain⟨l,σ',st',h1,h2,h3⟩:=Vs h ho hq
  exact⟨e,l,σ',st',h1,h2,h3⟩
 cases y with
 |c i=>exact hq.elim
 |nils e _=>exact fin e hq
 |t n=>
  simp only[Ahp,M.wp]at hq
  cases hs:st[n]? with
  |none=>simp[hs]at hq
  |some cur=>
   simp only[hs]at hq
   split at hq
   ·exact fin _ hq
   ·rename_i s kk v _
    simp only[M.wp]at hq
    cases h1:st[s]? with
    |none=>simp[h1]at hq
    |some cur'=>
     simp only[h1]at hq
     split at hq
     ·exact fin _ hq
     ·exact hq.elim
   ·rename_i s kk v m _
    simp only[M.wp]at hq
    cases h1:st[s]? with
    |none=>simp[h1]at hq
    |some cur'=>
     simp only[h1]at hq
     split at hq
     ·exact fin _ hq
     ·exact hq.elim
   ·exact hq.elim
theorem Mf (w:World) (b j:Nat) (bl:Array Value) (ty:TypeId) (fz:Nat × Nat) (h:w.heap[b]?=some (.cells bl ty fz)) (hj:j<bl.size) (hf:fz=(0,0)∨bl.size≤fz.1):
 (w.cell? ⟨b,j,none⟩).isSome=true∧w.frozen? ⟨b,j,none⟩=false:=by
 constructor
 ·rw[cell_of_row w b j bl ty fz h]
  simp[hj]
 ·simp only[World.frozen?,h]
  rcases hf with rfl|hf
  ·simp
  ·simp;omega
theorem A0r (t tx ty er e:TypeId) (i:TypeInfo) (z:Value) (ht:P.underlying t=some (.slice er)) (hi:P.info? er=some i) (hz:i.zero=some z) (hzs:z.cells.size=i.size) (h0:0<i.size)
 (v:Value) (n:Nat) (xs:List Value) (hown:OwnsR w e i.size v n xs) (he:e<1000000→e=er) (x:Value) (m:Nat) (news:List Value) (hs:Src P i.size tx x m news w)
 (h63:n+m≤maxLen) (hbytes:(n+m)*i.bytes≤140737488355328):
 ∃v' w',(Builtin.append_ #[t,tx] ty #[v,x]).run P w= .ok v' w'∧OwnsR w' e i.size v' (n+m) (xs++news)∧w.grownBy w' v.ownBlock∧(v'.ownBlock=v.ownBlock∨v'.ownBlock=some w.heap.size):=by
 have hsmall:n+m≤9223372036854775807:=by simp only[maxLen]at h63;omega
 have hlen:(xs++news).length=(n+m)*i.size:=by rw[List.length_append,hown.1,hs.newsLen,Nat.add_mul]
 have grown:∀(base:Option Addr) (old:Nat),v= .slice base n old→old<n+m→(Builtin.firstCells i.size n (.slice base n old)).run P w.drew= .ok xs.toArray w.drew→
  ∃v' w',(Builtin.append_ #[t,tx] ty #[v,x]).run P w= .ok v' w'∧OwnsR w' e i.size v' (n+m) (xs++news)∧w.grownBy w' v.ownBlock∧(v'.ownBlock=v.ownBlock∨v'.ownBlock=some w.heap.size):=by
  intro base old hv ho hfc
  have hrun:=run_append_grow_src (P:=P) w t tx ty er i z ht hi hz base n old xs hfc x m news hs ho (by omega) (growslice_fits (by omega) hbytes)
  have hge:=grownCap_ge w (n+m) old er
  have hcm:grownCap w (n+m) old er≤maxLen:=grownCap_le_maxLen w (n+m) old er h63
  rw[←hv]at hrun
  refine⟨_,_,hrun,⟨hlen,.inr ⟨w.heap.size,_,_,rfl,Nat.zero_le _,⟨er,(0,0),heap_alloc_new w.drew _,.inl rfl,fun h=>⟨(he h).symm,rfl⟩⟩,hge,hcm,?_,?_⟩⟩,⟨rfl,rfl,rfl,by simp,fun k hk _=>Pk w.drew _ k hk⟩,.inr rfl⟩
  ·simp only[Array.size_append,List.size_toArray,size_zeroCells,hzs,hlen, ←Nat.add_mul]
   congr 1
   omega
  ·simp only[Array.toList_append]
   rw[←hlen]
   exact List.take_left
 rcases hown.2 with⟨rfl,rfl⟩|⟨g,cap,cur,rfl,_,⟨ty',fz,hg,hfz,hty⟩,hnc,hcm,hcs,htake⟩
 ·have hx:xs=[]:=List.eq_nil_of_length_eq_zero (by simpa using hown.1)
  subst hx
  by_cases hm:m=0
  ·subst hm
   have hn:news=[]:=List.eq_nil_of_length_eq_zero (by simpa using hs.newsLen)
   subst hn
   refine⟨.slice none 0 0,w,?_,OwnsR.nil w e i.size,⟨rfl,rfl,rfl,Nat.le_refl _,fun _ _ _=>rfl⟩,.inl rfl⟩
   have h1:=hs.len w
   have h2:=hs.cells
   rcases hs.kind with⟨e',hk⟩|hk<;>simp[Builtin.append_,run_underlying ht,run_underlying hk,sizeOf,typeInfo,hi,h1,h2]
  ·exact grown none 0 rfl (by omega) (run_firstCells_none w.drew i.size 0 0 0)
 ·by_cases hroom:n+m≤cap
  ·have hfit:n*i.size+news.length≤cur.size:=by rw[hs.newsLen,hcs, ←Nat.add_mul];exact Nat.mul_le_mul_right _ hroom
   have hrun:=run_append_room_src (P:=P) w t tx ty er i ht hi g 0 n cap x m news hs hroom (fun j hj=>(Mf w g _ cur ty' fz hg (by omega) hfz).1) (fun j hj=>(Mf w g _ cur ty' fz hg (by omega) hfz).2)
   have hset:w.setCells g (0+n*i.size) news=w.setRow g (cur.toList.take (n*i.size)++news++cur.toList.drop (n*i.size+news.length)).toArray:=by
    have h1:=run_storeCells_cells (P:=P) g (0+n*i.size) news 0 w (fun j hj=>(Mf w g _ cur ty' fz hg (by omega) hfz).1) (fun j hj=>(Mf w g _ cur ty' fz hg (by omega) hfz).2) hs.one
    have h2:=Ji P g (0+n*i.size) ty' fz news 0 cur w hg hfz (by omega) hs.one
    rw[h1]at h2
    simpa using h2
   rw[hset]at hrun
   have hsz:(cur.toList.take (n*i.size)++news++cur.toList.drop (n*i.size+news.length)).toArray.size=cur.size:=by
    simp only[List.size_toArray,List.length_append,List.length_take,List.length_drop,Array.length_toList]
    omega
   refine⟨_,_,hrun,⟨hlen,.inr ⟨g,cap,_,rfl,Nat.zero_le _,⟨ty',fz,setRow_heap w g cur _ ty' fz hg,by rw[hsz];exact hfz,hty⟩,hroom,hcm,by rw[hsz];exact hcs,?_⟩⟩,⟨rfl,rfl,rfl,by simp,fun k _ hk=>setRow_other w g k _ (fun e=>hk (by simp[Value.ownBlock,e]))⟩,.inl rfl⟩
   rw[htake, ←hlen]
   exact List.take_left
  ·refine grown (some ⟨g,0,none⟩) cap rfl (by omega) ?_
   have hl:xs.length=n*i.size:=hown.1
   refine run_firstCells_some w.drew i.size n ⟨g,0,none⟩ n cap xs hl ?_
   intro j u hj
   have h1:w.drew.cell? ((⟨g,0,none⟩:Addr).add j)=cur[j]?:=by
    rw[add_lit,Nat.zero_add]
    exact cell_of_row w.drew g j cur ty' fz hg
   rw[h1]
   have:cur[j]?=cur.toList[j]?:=by simp
   rw[this]
   rw[←htake,List.getElem?_take]at hj
   split at hj
   ·exact hj
   ·cases hj
theorem A7z {o:Oper} {d:Nat} {t tx er:TypeId} {x y:Operand} {x' y':Opd} {sz bytes:Nat} {str:Bool} (hd:o.dst=some d)
 (ho:o.op= .call {callee:=.builtin .append,args:= #[x,y],argTypes:= #[t,tx]}) (hx:Ax N x x'=true) (hy:Ax N y y'=true) (ht:Aiy P t tx er sz bytes str=true):
 Sound P N o (A5i d er sz bytes str x' y'):=by
 intro G0 σ0 Fr w0 st0 a w Q next E hN hr hw hn hdst
 subst hN
 unfold Aiy at ht
 simp only[Bool.and_eq_true]at ht
 obtain⟨ht,htx⟩:=ht
 split at ht
 ·rename_i e' hu
  simp only[Bool.and_eq_true,beq_iff_eq]at ht
  obtain⟨rfl,ht⟩:=ht
  split at ht
  ·rename_i i hi
   simp only[Bool.and_eq_true,beq_iff_eq,bne_iff_ne,ne_eq]at ht
   obtain⟨⟨⟨rfl,rfl⟩,h0⟩,ht⟩:=ht
   split at ht
   ·rename_i z hz
    simp only[beq_iff_eq]at ht
    have exec:∀{v' w'},(Builtin.append_ #[t,tx] o.type #[a.eval x,a.eval y]).run P w= .ok v' w'→(execOp a.eval o).run P w= .ok (.value v') w':=by
     intro v' w' hrun
     simp[execOp,ho,resolve,invoke,builtin,hrun]
    have fin:∀{G:Mem} {σ:Lab} {st:St} {e:TypeId} {l ys:List I} {news:List Value},G0.le G→Rel G σ Fr w0 st a w→Free G σ Fr w e i.size l (a.eval x)→Src P i.size tx (a.eval y) ys.length news w→RepIs G ys news→(∀u∈ys,u.size=i.size)→
     l.length+ys.length≤maxLen→(l.length+ys.length)*i.bytes≤140737488355328→(e<1000000→e=e')→(C2 d (.vec e i.size (l++ys))).wp P Q st→o.wp P a w next E:=by
     intro G σ st e l ys news hG hr2 ⟨xs,k1,k2,k3,k4⟩ hsrc hrep hsz hmax hby he h2
     obtain⟨v',w',hrun,q1,q2,q3⟩:=A0r (P:=P) t tx o.type e' e i z hu hi hz ht (by omega) (a.eval x) l.length xs k1 he (a.eval y) ys.length news hsrc hmax hby
     obtain⟨σ',st',r1,r2⟩:=hr2.putOwned (P:=P) (e:=e) (sz:=i.size) (l:=l++ys) (hdst d hd) q2 (fun b hb=>k4 b hb) ⟨xs++news,by rw[List.length_append];exact q1,RepIs.append k2 hrep,by
      intro z hz
      rcases List.mem_append.1 hz with hz|hz
      ·exact k3 z hz
      ·exact hsz z hz,by
      intro b hb
      rcases q3 with q3|q3
      ·rw[q3]at hb;exact k4 b hb
      ·rw[q3]at hb;cases hb;exact hr2.wok.fresh (Nat.le_refl _)⟩ h2
     exact Bv (exec hrun) (by rw[hd];exact hn G σ' st' _ w' hG r1 r2)
    cases str with
    |true=>
     have hstr:P.underlying tx=some .string:=by
      split at htx
      ·assumption
      ·simp at htx
      ·cases htx
     obtain⟨u,h1,hv⟩:=De hr hy hw
     split at h1
     ·rename_i s
      obtain⟨e,l,σ,st,hr2,h2,hfree⟩:=Ako hr hx h1
      obtain⟨⟨hby,hmax,hs1,he⟩,h2⟩:=h2
      obtain⟨hc,hsl⟩:=RepV.str.1 hv
      have hsrc:=Src.ofString (P:=P) (w:=w) hstr ⟨⟨s⟩⟩
      rw[←hc,show(⟨⟨s⟩⟩:ByteArray).size=(s.map Cr).length by rw[List.length_map];rfl, ←hs1]at hsrc
      refine fin (Mem.le.refl G0) hr2 hfree hsrc (Xc s) (by
       intro u hu
       obtain⟨b,_,rfl⟩:=List.mem_map.1 hu
       exact hs1.symm) (by rw[List.length_map];exact hmax) (by rw[List.length_map];exact hby) he h2
     ·exact h1.elim
    |false=>
     have hsl:∃e',P.underlying tx=some (.slice e'):=by
      split at htx
      ·cases htx
      ·exact⟨_,by assumption⟩
      ·cases htx
     obtain⟨e2,hsl⟩:=hsl
     obtain⟨u,G,σ1,st1,hG,hr1,h1,hv⟩:=Km hr hy hw
     split at h1
     ·rename_i ys
      obtain⟨e,l,σ,st,hr2,h2,hfree⟩:=Ako hr1 hx h1
      obtain⟨⟨hby,hmax,hsz,he⟩,h2⟩:=h2
      obtain⟨ad,cap,hcy,hcase⟩:=Acn (σ:=σ) (Fr:=Fr) (u:=.it (.list ys)) (ys:=ys.map D.it) (sz:=i.size) (FreeB.item hv) hr2.wok rfl (by
       intro u hu
       obtain⟨y,hy,rfl⟩:=List.mem_map.1 hu
       exact hsz y hy)
      rw[List.length_map]at hcy hcase
      rcases hcase with⟨rfl,hnil⟩|⟨A,news,bn,rfl,hl,hrep,_,_,hcells⟩
      ·have:ys=[]:=by simpa using hnil
       subst this
       exact fin hG hr2 hfree (news:=[]) (by rw[hcy];exact Src.ofNil (w:=w) hsl cap) (by simp[RepIs]) (by simp) (by simpa using hmax) (by simpa using hby) he h2
      ·have hrI:=(RepDs.its.1 hrep).1
       exact fin hG hr2 hfree (by rw[hcy];exact Src.ofSlice w hsl A ys.length cap news hl hcells (RepIs.one _ _ hrI)) hrI hsz hmax hby he h2
     ·exact h1.elim
   ·cases ht
  ·cases ht
 ·cases ht
theorem A8c {o:Oper} {d:Nat} {t e:TypeId} {sz bytes:Nat} {z:I} {x:Operand} {x':Opd} (hd:o.dst=some d) (ho:o.op= .makeSlice t x x) (hx:Ax N x x'=true) (ht:Azx P t e sz bytes z=true):
 Sound P N o (A5q d e sz bytes z x'):=by
 intro G σ Fr w0 st a w Q next E hN hr hw hn hdst
 subst hN
 obtain⟨i,h1,hi⟩:=De hr hx hw
 unfold Azx at ht
 split at ht
 ·rename_i e' hu
  simp only[Bool.and_eq_true,beq_iff_eq]at ht
  obtain⟨rfl,ht⟩:=ht
  split at ht
  ·rename_i inf hinf
   simp only[Bool.and_eq_true,beq_iff_eq,bne_iff_ne,ne_eq]at ht
   obtain⟨⟨⟨⟨rfl,rfl⟩,h0⟩,hzsz⟩,ht⟩:=ht
   split at ht
   ·rename_i v hv
    simp only[Bool.and_eq_true,beq_iff_eq]at ht
    obtain⟨hvs,hz⟩:=ht
    have hz':∃c,v.cells.toList=c++[]∧RepI G z c:=by
     split at hz
     ·rename_i h;exact zI_spec G z _ _ h
     ·cases hz
    obtain⟨c,hc,hz'⟩:=hz'
    rw[List.append_nil]at hc
    subst hc
    split at h1
    ·rename_i k n
     rw[RepV.int]at hi
     obtain⟨⟨hn0,hby,hn63,hcells⟩,h1⟩:=h1
     have hnn:(n.toNat:Int)=n:=Int.toNat_of_nonneg hn0
     obtain⟨w',hrun,hown,hgr⟩:=run_makeSlice_full (P:=P) w 0 t e' inf v inf.size hu hinf hv rfl k k n.toNat hcells (by omega) (by simp only[maxLen];omega) (Nat.zero_le _)
     rw[hnn]at hrun
     have hrow:(madeCells v.cells (n.toNat*inf.size)).toList=(List.replicate n.toNat v.cells.toList).flatten:=by
      have:=X6 hvs n.toNat
      rw[←this]
      rfl
     obtain⟨σ',st',r1,r2⟩:=hr.putOwned (P:=P) (e:=e') (sz:=inf.size) (l:=List.replicate n.toNat z) (hdst d hd) hgr (fun b hb=>by cases hb) ⟨_,by rw[List.length_replicate];exact OwnsR.of hown,by rw[hrow];exact M1 hz' _,by
      intro u hu
      rw[List.eq_of_mem_replicate hu]
      exact hzsz,fun b hb=>by
      simp only[Value.ownBlock,Option.some.injEq]at hb
      exact hr.wok.fresh (Nat.le_of_eq hb)⟩ h1
     exact Bv (v:=.slice (some ⟨w.heap.size,0,none⟩) n.toNat n.toNat) (w':=w') (by simp[execOp,ho,hi,hrun]) (by rw[hd];exact hn G σ' st' _ w' (Mem.le.refl G) r1 r2)
    ·exact h1.elim
   ·cases ht
  ·cases ht
 ·cases ht
end

open Go.Op
def Tt (_:Nat) (sv:SV):Nat × SV:=match sv with
 | .own _ _=>(0,.own [] (.it .und))
 | .pd _ _ _=>(0,.pd 0 0 [])
 | .bd _ _ _=>(0,.bd 0 0 [])
 | .par h=>(0,.par h)
 |_=>(0,.no)
def Ht (x:Opd) (yes no:M):M:=match x with
 | .t n=>.getp n Tt fun _ sv=>match sv with
   | .own _ _=>yes
   | .pd _ _ _=>yes
   | .bd _ _ _=>yes
   | .par h=>.getp h Tt fun _ sv'=>match sv' with
     | .own _ _=>yes
     |_=>no
   |_=>no
 |_=>no
def lv (inv:List Nat) (m:Nat):Nat:=(inv.take m).foldl Nat.max 0
def seen (ver:Nat) (inv:List Nat) (m:Nat) (f:D→Option SV):Option D→Nat × SV
 |some u=>match f u with
  |some r=>(Nat.min (lv inv m) ver,r)
  |none=>(0,.no)
 |none=>(0,.no)
def eyeO (f:D→Option SV) (ver:Nat) (sv:SV):Nat × SV:=match sv with
 | .own inv t=>match t with
   | .ptr u=>seen ver inv 2 f (some u)
   |_=>(0,.no)
 |_=>(0,.no)
def eyeP (v:Nat) (p:List Nat) (f:D→Option SV) (ver:Nat) (sv:SV):Nat × SV:=match sv with
 | .own inv t=>match alive v inv p.length with
   |true=>seen ver inv (p.length+1) f (D.at p t)
   |false=>(0,.no)
 |_=>(0,.no)
def eyeR (f:D→Option SV) (ver:Nat) (sv:SV):Nat × SV:=match sv with
 | .own inv t=>match t.head with
   |true=>seen ver inv 1 f (some t)
   |false=>(0,.no)
 |_=>(0,.no)
def eyeH (v:Nat) (p:List Nat) (f:D→Option SV) (ver:Nat) (sv:SV):Nat × SV:=match sv with
 | .own inv t=>match alive v inv (p.length+1)with
   |true=>seen ver inv (p.length+1) f (D.at p t)
   |false=>(0,.no)
 |_=>(0,.no)
def noR (r:SV) (m:M):M:=match r with
 | .no=>.fail
 |_=>m
def rdDP (x:Opd) (f:D→Option SV) (k:(s v:Nat)→List Nat→SV→M):M:=match x with
 | .t n=>.getp n Tt fun _ sv=>match sv with
   | .own _ _=>.getp n (eyeO f) fun v r=>noR r (k n v [0] r)
   | .pd _ _ _=>.get n fun _ sv=>match sv with
     | .pd s v p=>match p with
       | []=>.fail
       |i::q=>.getp s (eyeP v (i::q) f) fun v' r=>noR r (k s v' (i::q) r)
     |_=>.fail
   | .par h=>.getp h (eyeO f) fun v r=>noR r (k h v [0] r)
   |_=>.fail
 |_=>.fail
def rdHP (x:Opd) (f:D→Option SV) (k:(s v:Nat)→List Nat→SV→M):M:=match x with
 | .t n=>.getp n Tt fun _ sv=>match sv with
   | .own _ _=>.getp n (eyeR f) fun v r=>noR r (k n v [] r)
   | .bd _ _ _=>.get n fun _ sv=>match sv with
     | .bd s v p=>.getp s (eyeH v p f) fun v' r=>noR r (k s v' p r)
     |_=>.fail
   | .par h=>.getp h (eyeR f) fun v r=>noR r (k h v [] r)
   |_=>.fail
 |_=>.fail
def A9s (i:Nat) (u:D):Option SV:=match Pg u i with
 |some o=>some (.v (.int .i64 (o:Nat)))
 |none=>none
def Au0 (d:Option Nat) (x:Opd) (i off:Nat):M:=rdDP x (A9s i) fun s v p r=>match r with
 | .v y=>.need (y= .int .i64 (off:Nat)∧d≠some s) fun _=>setD d (.pd s v (p++[i])) .done
 |_=>.fail
def Bf6 (_:Nat) (sv:SV):Nat × SV:=match sv with
 | .own _ t=>(match t with
   | .ptr _=>(0,.pd 0 0 [])
   |_=>(0,.no))
 | .par h=>(0,.par h)
 |_=>(0,.no)
def Azv (x:Opd) (yes no:M):M:=match x with
 | .t n=>.getp n Bf6 fun _ sv=>match sv with
   | .par h=>.getp h Bf6 fun _ sv'=>match sv' with
     | .pd _ _ _=>yes
     |_=>no
   |_=>no
 |_=>no
def Bk6 (_:D):Option SV:=some (.pd 0 0 [])
def Bbq (d:Option Nat) (x:Opd):M:=rdDP x Bk6 fun s v p _=>.need (d≠some s) fun _=>setD d (.pd s v p) .done
def Bhg:D→Option SV
 | .it y=>some (.v y)
 | .vec _ _ _=>some (.bd 0 0 [])
 | .map _ _=>some (.bd 0 0 [])
 | .ptr _=>some (.pd 0 0 [])
 | .st _=>some (.own [] (.it .und))
def A05 (d:Option Nat) (agg:Bool) (sz:Nat) (x:Opd):M:=rdDP x Bhg fun s v p r=>match r with
 | .v y=>.need (y.isAgg=agg∧y.size=sz) fun _=>setD d (.v y) .done
 | .bd _ _ _=>.need (agg=false∧sz=1∧d≠some s) fun _=>setD d (.bd s v p) .done
 | .pd _ _ _=>.need (agg=false∧sz=1∧d≠some s) fun _=>setD d (.pd s v (p++[0])) .done
 | .own _ _=>A03 d agg sz x
 |_=>.fail
def Aro:D→Option SV
 | .vec _ sz l=>some (.v (.agg [.int .i64 (sz:Nat),.int .i64 l.length]))
 |_=>none
def Au2 (d:Option Nat) (sz:Nat) (x i:Opd):M:=Gx i fun n=>match n with
 | .int _ n=>rdHP x Aro fun s v p r=>match r with
   | .v y=>match y with
     | .agg l=>match l with
       | [a,b]=>match b with
         | .int _ len=>.need (0≤n∧n<len∧a= .int .i64 (sz:Nat)∧d≠some s) fun _=>setD d (.pd s v (p++[n.toNat])) .done
         |_=>.fail
       |_=>.fail
     |_=>.fail
   |_=>.fail
 |_=>.fail
def A5o (d:Option Nat) (str:Bool) (x:Opd):M:=rdHP x Aro fun _ _ _ r=>match r with
 | .v y=>match y with
   | .agg l=>match l with
     | [_,b]=>match b with
       | .int k len=>.need (str=false∧k= .i64) fun _=>.fact (len≤maxLen) (setD d (.v (.int .i64 len)) .done)
       |_=>.fail
     |_=>.fail
   |_=>.fail
 |_=>.fail
section
variable{P:Program}{N:Nat}{G:Mem}{σ:Lab}{Fr:Mem}{w0:Base}{w:World}{st:St}{a:Act}
theorem Ey {o:Oper} {x:Opd} {yes no:M} (h1:Sound P N o yes) (h2:Sound P N o no):Sound P N o (Ht x yes no):=by
 intro G σ Fr w0 st a w Q next E hN hr hw hn hdst
 have:yes.wp P Q st∨no.wp P Q st:=by
  cases x with
  |c _=>exact .inr hw
  |nils _ _=>exact .inr hw
  |t n=>
   simp only[Ht,M.wp]at hw
   cases hs:st[n]? with
   |none=>simp[hs]at hw
   |some cur=>
    obtain⟨cv,csv⟩:=cur
    simp only[hs]at hw
    cases csv with
    |own _ _=>exact .inl hw
    |pd _ _ _=>exact .inl hw
    |bd _ _ _=>exact .inl hw
    |par hh=>
     simp only[Tt,M.wp]at hw
     cases hs':st[hh]? with
     |none=>simp[hs']at hw
     |some cur'=>
      obtain⟨cv',csv'⟩:=cur'
      simp only[hs']at hw
      cases csv'<;>first|exact .inl hw|exact .inr hw
    |_=>exact .inr hw
 rcases this with h|h
 ·exact h1 G σ Fr w0 st a w Q next E hN hr h hn hdst
 ·exact h2 G σ Fr w0 st a w Q next E hN hr h hn hdst
theorem Sz {ver:Nat} {inv:List Nat} {m:Nat} {f:D→Option SV} {du:Option D} {k:Nat→SV→M} {Q:St→Prop}
 (h:((fun v r=>noR r (k v r)) (seen ver inv m f du).1 (seen ver inv m f du).2).wp P Q st):∃u r v,du=some u∧f u=some r∧v≤ver∧(k v r).wp P Q st:=by
 cases du with
 |none=>exact h.elim
 |some u=>
  cases hf:f u with
  |none=>simp only[seen,hf]at h;exact h.elim
  |some r=>
   simp only[seen,hf]at h
   refine⟨u,r,Nat.min (lv inv m) ver,rfl,hf,Nat.min_le_right _ _,?_⟩
   cases r<;>first|exact h.elim|exact h
theorem Zu {x:Operand} {y:Opd} {f:D→Option SV} {k:(s v:Nat)→List Nat→SV→M} {Q:St→Prop} (h:Rel G σ Fr w0 st a w) (ho:Ax w0.n x y=true) (hq:(rdDP y f k).wp P Q st):
 ∃s cur inv t p u r v,(k s v p r).wp P Q st∧st[s]?=some (cur,.own inv t)∧p≠[]∧PtD w t (val a w0 s) p (a.eval x)∧t.at p=some u∧f u=some r∧v≤cur:=by
 cases y with
 |c _=>exact hq.elim
 |nils _ _=>exact hq.elim
 |t n=>
  obtain⟨rfl,hnlt⟩:=Dm ho
  simp only[rdDP,M.wp]at hq
  cases hs:st[n]? with
  |none=>simp[hs]at hq
  |some cur=>
   obtain⟨ver,sv⟩:=cur
   simp only[hs]at hq
   have hrep:=h.slot hnlt hs
   have hv:val a w0 n=a.eval (.tmp n):=Ez (by rw[h.n];exact hnlt)
   cases sv with
   |own inv t=>
    simp only[Tt,M.wp,hs]at hq
    cases t with
    |ptr t=>
     obtain⟨u,r,v,h1,h2,h3,h4⟩:=Sz (k:=fun v r=>k n v [0] r) hq
     cases h1
     exact⟨n,ver,inv,_,[0],t,r,v,h4,hs,by simp,by rw[hv];exact OwnD.pt hrep,rfl,h2,h3⟩
    |_=>exact hq.elim
   |pd s v p=>
    obtain⟨cur,h1,h2,h3⟩:=hrep
    simp only[Tt,M.wp,hs]at hq
    cases p with
    |nil=>exact hq.elim
    |cons i q=>
     simp only[M.wp,h1]at hq
     obtain⟨cv,csv⟩:=cur
     cases csv with
     |own inv t=>
      simp only[eyeP]at hq
      cases ha:alive v inv (i::q).length with
      |false=>rw[ha]at hq;exact hq.elim
      |true=>
       rw[ha]at hq
       obtain⟨u,r,v',k1,k2,k3,k4⟩:=Sz (k:=fun v' r=>k s v' (i::q) r) hq
       exact⟨s,cv,inv,t,i::q,u,r,v',k4,h1,by simp,h3 inv t rfl (by simp) ha,k1,k2,k3⟩
     |_=>exact hq.elim
   |par hh=>
    obtain⟨hv',hle⟩:=h.pars n ver hh hs
    rw[hv]at hv'
    simp only[Tt,M.wp]at hq
    cases h1:st[hh]? with
    |none=>simp[h1]at hq
    |some cur=>
     obtain⟨cv,csv⟩:=cur
     simp only[h1]at hq
     have hrep':=h.slots hh cv csv h1
     cases csv with
     |own inv t=>
      cases t with
      |ptr t=>
       obtain⟨u,r,v,k1,k2,k3,k4⟩:=Sz (k:=fun v r=>k hh v [0] r) hq
       cases k1
       exact⟨hh,cv,inv,_,[0],t,r,v,k4,h1,by simp,by rw[hv'];exact OwnD.pt hrep',rfl,k2,k3⟩
      |_=>exact hq.elim
     |_=>exact hq.elim
   |_=>exact hq.elim
theorem A0n {x:Operand} {y:Opd} {f:D→Option SV} {k:(s v:Nat)→List Nat→SV→M} {Q:St→Prop} (h:Rel G σ Fr w0 st a w) (ho:Ax w0.n x y=true) (hq:(rdHP y f k).wp P Q st):
 ∃s cur inv t p u r v,(k s v p r).wp P Q st∧st[s]?=some (cur,.own inv t)∧HdD w t (val a w0 s) p (a.eval x)∧t.at p=some u∧f u=some r∧v≤cur:=by
 cases y with
 |c _=>exact hq.elim
 |nils _ _=>exact hq.elim
 |t n=>
  obtain⟨rfl,hnlt⟩:=Dm ho
  simp only[rdHP,M.wp]at hq
  cases hs:st[n]? with
  |none=>simp[hs]at hq
  |some cur=>
   obtain⟨ver,sv⟩:=cur
   simp only[hs]at hq
   have hrep:=h.slot hnlt hs
   have hv:val a w0 n=a.eval (.tmp n):=Ez (by rw[h.n];exact hnlt)
   cases sv with
   |own inv t=>
    simp only[Tt,M.wp,hs,eyeR]at hq
    cases ht:t.head with
    |false=>rw[ht]at hq;exact hq.elim
    |true=>
     rw[ht]at hq
     obtain⟨u,r,v,h1,h2,h3,h4⟩:=Sz (k:=fun v r=>k n v [] r) hq
     cases h1
     exact⟨n,ver,inv,_,[],_,r,v,h4,hs,by rw[hv];exact OwnD.hd hrep ht,rfl,h2,h3⟩
   |bd s v p=>
    obtain⟨cur,h1,h2,h3⟩:=hrep
    simp only[Tt,M.wp,hs,h1]at hq
    obtain⟨cv,csv⟩:=cur
    cases csv with
    |own inv t=>
     simp only[eyeH]at hq
     cases ha:alive v inv (p.length+1)with
     |false=>rw[ha]at hq;exact hq.elim
     |true=>
      rw[ha]at hq
      obtain⟨u,r,v',k1,k2,k3,k4⟩:=Sz (k:=fun v' r=>k s v' p r) hq
      exact⟨s,cv,inv,t,p,u,r,v',k4,h1,h3 inv t rfl ha,k1,k2,k3⟩
    |_=>exact hq.elim
   |par hh=>
    obtain⟨hv',hle⟩:=h.pars n ver hh hs
    rw[hv]at hv'
    simp only[Tt,M.wp]at hq
    cases h1:st[hh]? with
    |none=>simp[h1]at hq
    |some cur=>
     obtain⟨cv,csv⟩:=cur
     simp only[h1]at hq
     have hrep':=h.slots hh cv csv h1
     cases csv with
     |own inv t=>
      simp only[eyeR]at hq
      cases ht:t.head with
      |false=>rw[ht]at hq;exact hq.elim
      |true=>
       rw[ht]at hq
       obtain⟨u,r,v,k1,k2,k3,k4⟩:=Sz (k:=fun v r=>k hh v [] r) hq
       cases k1
       exact⟨hh,cv,inv,_,[],_,r,v,k4,h1,by rw[hv'];exact OwnD.hd hrep' ht,rfl,k2,k3⟩
     |_=>exact hq.elim
   |_=>exact hq.elim
theorem Zw {o:Oper} {Q:St→Prop} {next:Act→World→Prop} {E:Exit→Act→World→Prop} {s cur v:Nat} {inv:List Nat} {t:D} {q:List Nat} {c:Value} (hr:Rel G σ Fr w0 st a w) (hdst:∀d,o.dst=some d→d<w0.n) (hs:st[s]?=some (cur,.own inv t)) (hle:v≤cur)
 (hn:∀G' σ' st' a' w',G.le G'→Rel G' σ' Fr w0 st' a' w'→Q st'→next a' w') (hne:o.dst≠some s) (hp:PtD w t (val a w0 s) q c) (hrun:(execOp a.eval o).run P w= .ok (.value c) w)
 (hq:(setD o.dst (.pd s v q) .done).wp P Q st):o.wp P a w next E:=by
 obtain⟨σ',st',r1,r2⟩:=hr.setD hdst (sv:=.pd s v q) (c:=c) (fun d' hd ver _=>by
  refine⟨_,by rw[List.getElem?_set_ne (by rintro rfl;exact hne hd)];exact hs,hle,fun inv' t' e _ _=>?_⟩
  cases e
  rw[Cb (by rintro rfl;exact hne hd)]
  exact hp) hq
 exact Bv hrun (hn G σ' st' _ w (Mem.le.refl G) r1 r2)
theorem A1a {o:Oper} {Q:St→Prop} {next:Act→World→Prop} {E:Exit→Act→World→Prop} {s cur v:Nat} {inv:List Nat} {t:D} {q:List Nat} {c:Value} (hr:Rel G σ Fr w0 st a w) (hdst:∀d,o.dst=some d→d<w0.n) (hs:st[s]?=some (cur,.own inv t)) (hle:v≤cur)
 (hn:∀G' σ' st' a' w',G.le G'→Rel G' σ' Fr w0 st' a' w'→Q st'→next a' w') (hne:o.dst≠some s) (hp:HdD w t (val a w0 s) q c) (hrun:(execOp a.eval o).run P w= .ok (.value c) w)
 (hq:(setD o.dst (.bd s v q) .done).wp P Q st):o.wp P a w next E:=by
 obtain⟨σ',st',r1,r2⟩:=hr.setD hdst (sv:=.bd s v q) (c:=c) (fun d' hd ver _=>by
  refine⟨_,by rw[List.getElem?_set_ne (by rintro rfl;exact hne hd)];exact hs,hle,fun inv' t' e _=>?_⟩
  cases e
  rw[Cb (by rintro rfl;exact hne hd)]
  exact hp) hq
 exact Bv hrun (hn G σ' st' _ w (Mem.le.refl G) r1 r2)
theorem A1j {o:Oper} {t:TypeId} {x:Operand} {x':Opd} {i off:Nat} (ho:o.op= .fieldAddr t x i) (hx:Ax N x x'=true) (ht:Aem P t i off=true):
 Sound P N o (Au0 o.dst x' i off):=by
 intro G σ Fr w0 st a w Q next E hN hr hw hn hdst
 subst hN
 obtain⟨s,cur,inv,tr,p,u,r,v,h1,hs,hp0,hpt,hat,hf,hle⟩:=Zu hr hx hw
 have hown:=hr.slots s cur _ hs
 unfold A9s at hf
 split at hf
 ·rename_i off' hof
  cases hf
  obtain⟨⟨hoff,hne⟩,h1⟩:=h1
  have hoff:off'=off:=by injection hoff with _ hoff;exact_mod_cast hoff
  subst hoff
  obtain⟨b,off,bl,ty,fz,pre,cs,post,ubs,e1,e2,e3,e4,e5,e6,e7⟩:=PtD.block hown hat hpt
  obtain⟨y,cs',k1,k2⟩:=Amu (w:=w) (b:=b) (o:=off) (cs:=cs) hof
  refine Zw hr hdst hs hle hn hne ⟨y,b,off+off',cs',by rw[Uk hat];exact k1,by rw[Qb hat e7 k1];exact k2,rfl⟩ ?_ h1
  simp[execOp,ho,e1,Aco ht]
 ·cases hf
theorem Au8 {o:Oper} {x:Operand} {x':Opd} (ho:o.op= .move x∨o.op= .assign x) (hx:Ax N x x'=true):Sound P N o (Bbq o.dst x'):=by
 intro G σ Fr w0 st a w Q next E hN hr hw hn hdst
 subst hN
 obtain⟨s,cur,inv,tr,p,u,r,v,h1,hs,hp0,hpt,hat,hf,hle⟩:=Zu hr hx hw
 obtain⟨hne,h1⟩:=h1
 refine Zw hr hdst hs hle hn hne hpt ?_ h1
 rcases ho with ho|ho<;>simp[execOp,ho]
theorem Aq6 {o:Oper} {x:Opd} {m1 m2:M} (h1:Sound P N o m1) (h2:Sound P N o m2):Sound P N o (Azv x m1 m2):=by
 intro G σ Fr w0 st a w Q next E hN hr hw hn hdst
 cases x with
 |c _=>exact h2 G σ Fr w0 st a w Q next E hN hr hw hn hdst
 |nils _ _=>exact h2 G σ Fr w0 st a w Q next E hN hr hw hn hdst
 |t n=>
  simp only[Azv,M.wp]at hw
  cases hs:st[n]? with
  |none=>rw[hs]at hw;exact hw.elim
  |some cur=>
   rw[hs]at hw
   dsimp only at hw
   split at hw
   ·rename_i h _
    simp only[M.wp]at hw
    cases hs2:st[h]? with
    |none=>rw[hs2]at hw;exact hw.elim
    |some cur2=>
     rw[hs2]at hw
     dsimp only at hw
     split at hw
     ·exact h1 G σ Fr w0 st a w Q next E hN hr hw hn hdst
     ·exact h2 G σ Fr w0 st a w Q next E hN hr hw hn hdst
   ·exact h2 G σ Fr w0 st a w Q next E hN hr hw hn hdst
theorem A1m {o:Oper} {t:TypeId} {x i:Operand} {x' i':Opd} {sz:Nat} (ho:o.op= .indexAddr t x i) (hx:Ax N x x'=true) (hi:Ax N i i'=true) (ht:Hv P t sz=true):
 Sound P N o (Au2 o.dst sz x' i'):=by
 intro G σ Fr w0 st a w Q next E hN hr hw hn hdst
 subst hN
 obtain⟨n,h1,hnv⟩:=De hr hi hw
 clear hw
 split at h1
 ·rename_i k n
  rw[RepV.int]at hnv
  obtain⟨s,cur,inv,tr,p,u,r,v,h1,hs,hhd,hat,hf,hle⟩:=A0n hr hx h1
  have hown:=hr.slots s cur _ hs
  unfold Aro at hf
  split at hf
  ·rename_i e sz' l
   cases hf
   obtain⟨⟨h0,hlt,hsz,hne⟩,h1⟩:=h1
   have hsz:sz'=sz:=by injection hsz with _ hsz;exact_mod_cast hsz
   subst hsz
   have hlt:n.toNat<l.length:=by omega
   obtain⟨hh,ubs,e5,e6,e7⟩:=HdD.read hown hat hhd
   simp only[RepD]at e5
   rcases e5 with⟨_,rfl,_⟩|⟨g,off,cap,cu,xs,bs',q1,⟨ty,fz,q2,_⟩,_⟩
   ·simp at hlt
   ·injection q1 with q1
    have hk:(D.vec e sz' l).kid n.toNat=some l[n.toNat]:=by simp[D.kid,List.getElem?_eq_getElem hlt]
    refine Zw hr hdst hs hle hn hne (c:=.pointer (some ⟨g,off+n.toNat*sz',none⟩)) ⟨_,g,off+n.toNat*sz',(cu.toList.drop (off+n.toNat*sz')).take sz',by rw[Uk hat];exact hk,?_,rfl⟩ ?_ h1
    ·rw[Qb hat e7 hk,q1]
     simp only[B9,List.getElem?_eq_getElem hlt,q2]
    ·simp[execOp,ho,q1,hnv,Acw ht w h0 hlt]
  ·cases hf
 ·exact h1.elim
theorem A8a {o:Oper} {t:TypeId} {x:Operand} {x':Opd} {str:Bool} (ho:o.op= .call {callee:=.builtin .len,args:= #[x],argTypes:= #[t]}) (hx:Ax N x x'=true) (ht:Abu P t str=true):
 Sound P N o (A5o o.dst str x'):=by
 intro G σ Fr w0 st a w Q next E hN hr hw hn hdst
 subst hN
 obtain⟨s,cur,inv,tr,p,u,r,v,h1,hs,hhd,hat,hf,hle⟩:=A0n hr hx hw
 have hown:=hr.slots s cur _ hs
 unfold Aro at hf
 split at hf
 ·rename_i e sz' l
  cases hf
  obtain⟨⟨rfl,_⟩,h1⟩:=h1
  obtain⟨hh,ubs,e5,e6,e7⟩:=HdD.read hown hat hhd
  simp only[RepD]at e5
  have hsl:∃e,P.underlying t=some (.slice e):=by
   unfold Abu at ht
   split at ht
   ·cases ht
   ·rename_i e h;exact⟨e,h⟩
   ·cases ht
  obtain⟨e',hu⟩:=hsl
  have fin:∀{ad:Option Addr} {cap:Nat},a.eval x= .slice ad l.length cap→l.length≤maxLen→o.wp P a w next E:=by
   intro ad cap he hm
   exact C1 hr hn hdst (RepV.int.2 rfl) (h1 (by exact_mod_cast hm)) (by simp[execOp,ho,resolve,invoke,builtin,Builtin.len_,run_underlying hu,he,goInt])
  rcases e5 with⟨q1,rfl,_⟩|⟨g,off,cap,cu,xs,bs',q1,_,_,q2,q3,_⟩
  ·injection q1 with q1
   exact fin q1 (Nat.zero_le _)
  ·injection q1 with q1
   exact fin q1 (Nat.le_trans q2 q3)
 ·cases hf
theorem A3q {o:Oper} {t:TypeId} {x:Operand} {x':Opd} {agg:Bool} {sz:Nat} (ho:o.op= .load t x) (hx:Ax N x x'=true) (ht:tyOk P t agg sz=true):Sound P N o (A05 o.dst agg sz x'):=by
 intro G σ Fr w0 st a w Q next E hN hr hw hn hdst
 have hold:=A3o (P:=P) ho hx ht
 subst hN
 have run:∀{b off:Nat} {v:Value},a.eval x= .pointer (some ⟨b,off,none⟩)→(loadVar t ⟨b,off,none⟩).run P w= .ok v w→(execOp a.eval o).run P w= .ok (.value v) w:=by
  intro b off v hp hl
  simp[execOp,ho,hp,Instr.loadAt,Instr.sureAddr,hl]
 obtain⟨s,cur,inv,tr,p,u,r,v,h1,hs,hp0,hpt,hat,hf,hle⟩:=Zu hr hx hw
 have hown:=hr.slots s cur _ hs
 obtain⟨b,off,bl,ty,fz,pre,cs,post,ubs,e1,e2,e3,e4,e5,e6,e7⟩:=PtD.block hown hat hpt
 have hone:=RepD.one e5
 have hlen:=RepD.length e5
 cases u with
 |it y=>
  cases hf
  obtain⟨⟨rfl,rfl⟩,h1⟩:=h1
  simp only[RepD]at e5
  obtain⟨v,hl,hv⟩:=Sx (P:=P) ht e2 e3 e4 e5.1
  exact C1 hr hn hdst hv h1 (run e1 hl)
 |vec e sz' l=>
  cases hf
  obtain⟨⟨rfl,rfl,hne⟩,h1⟩:=h1
  obtain⟨c,rfl⟩:=List.length_eq_one_iff.1 hlen
  have hl:=(Fy (P:=P) (cs:=[c]) ht e2 e3 e4).2 c rfl rfl
  exact A1a hr hdst hs hle hn hne ⟨_,_,hat,rfl,e7⟩ (run e1 hl) h1
 |map ks vs=>
  cases hf
  obtain⟨⟨rfl,rfl,hne⟩,h1⟩:=h1
  obtain⟨c,rfl⟩:=List.length_eq_one_iff.1 hlen
  have hl:=(Fy (P:=P) (cs:=[c]) ht e2 e3 e4).2 c rfl rfl
  exact A1a hr hdst hs hle hn hne ⟨_,_,hat,rfl,e7⟩ (run e1 hl) h1
 |ptr d=>
  cases hf
  obtain⟨⟨rfl,rfl,hne⟩,h1⟩:=h1
  obtain⟨c,rfl⟩:=List.length_eq_one_iff.1 hlen
  have hl:=(Fy (P:=P) (cs:=[c]) ht e2 e3 e4).2 c rfl rfl
  simp only[RepD]at e5
  obtain⟨g,cells,ty',bs',q1,q2,_⟩:=e5
  injection q1 with q1
  subst q1
  refine Zw hr hdst hs hle hn hne ⟨d,g,0,cells.toList,by rw[Uk hat];rfl,?_,rfl⟩ (run e1 hl) h1
  rw[Qb hat e7 (y:=d) rfl]
  simp[B9,q2]
 |st l=>
  cases hf
  exact hold G σ Fr w0 st a w Q next E rfl hr h1 hn hdst
end
end Go.Ab
