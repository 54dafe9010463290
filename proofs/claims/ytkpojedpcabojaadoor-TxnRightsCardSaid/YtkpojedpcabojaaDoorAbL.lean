/- Lemmas -/
import Derived.Test.YtkpojedpcabojaaDoorAbI
set_option linter.unusedVariables false
set_option linter.unusedSimpArgs false
namespace Go.Ab
open Go.Op
def N0(_:Nat)(sv:SV):Nat × SV:=match sv with
 | .own _ _=>(0,.own [] (.it .und))
 | .pd _ _ _=>(0,.pd 0 0 [])
 | .bd _ _ _=>(0,.bd 0 0 [])
 | .par h=>(0,.par h)
 |_=>(0,.no)
def Lp(x:Opd)(yes no:M):M:=match x with
 | .t n=>.getp n N0 fun _ sv=>match sv with
   | .own _ _=>yes
   | .pd _ _ _=>yes
   | .bd _ _ _=>yes
   | .par h=>.getp h N0 fun _ sv'=>match sv' with
     | .own _ _=>yes
     |_=>no
   |_=>no
 |_=>no
def lv(inv:Inv)(q:List Nat):Nat:=inv.foldl (fun m e=>match Nat.blt q.length e.1.length||Ks e.1 q with|true=>m|false=>Nat.max m e.2) 0
def seen(ver:Nat)(inv:Inv)(m:List Nat)(f:D→Option SV):Option D→Nat × SV
 |some u=>match f u with
  |some r=>(Nat.min (lv inv m) ver,r)
  |none=>(0,.no)
 |none=>(0,.no)
def eyeO(f:D→Option SV)(ver:Nat)(sv:SV):Nat × SV:=match sv with
 | .own inv t=>match t with
   | .ptr u=>seen ver inv [0] f (some u)
   |_=>(0,.no)
 |_=>(0,.no)
def eyeP(v:Nat)(p:List Nat)(f:D→Option SV)(ver:Nat)(sv:SV):Nat × SV:=match sv with
 | .own inv t=>match alive v inv p with
   |true=>seen ver inv p f (D.at p t)
   |false=>(0,.no)
 |_=>(0,.no)
def eyeR(f:D→Option SV)(ver:Nat)(sv:SV):Nat × SV:=match sv with
 | .own inv t=>match t.head with
   |true=>seen ver inv [] f (some t)
   |false=>(0,.no)
 |_=>(0,.no)
def eyeH(v:Nat)(p:List Nat)(f:D→Option SV)(ver:Nat)(sv:SV):Nat × SV:=match sv with
 | .own inv t=>match J7 v inv p with
   |true=>seen ver inv p f (D.at p t)
   |false=>(0,.no)
 |_=>(0,.no)
def noR(r:SV)(m:M):M:=match r with
 | .no=>.fail
 |_=>m
def rdDP(x:Opd)(f:D→Option SV)(k:(s v:Nat)→List Nat→SV→M):M:=match x with
 | .t n=>.getp n N0 fun _ sv=>match sv with
   | .own _ _=>.getp n (eyeO f) fun v r=>noR r (k n v [0] r)
   | .pd _ _ _=>.get n fun _ sv=>match sv with
     | .pd s v p=>match p with
       | []=>.fail
       |i::q=>.getp s (eyeP v (i::q) f) fun v' r=>noR r (k s v' (i::q) r)
     |_=>.fail
   | .par h=>.getp h (eyeO f) fun v r=>noR r (k h v [0] r)
   |_=>.fail
 |_=>.fail
def rdHP(x:Opd)(f:D→Option SV)(k:(s v:Nat)→List Nat→SV→M):M:=match x with
 | .t n=>.getp n N0 fun _ sv=>match sv with
   | .own _ _=>.getp n (eyeR f) fun v r=>noR r (k n v [] r)
   | .bd _ _ _=>.get n fun _ sv=>match sv with
     | .bd s v p=>.getp s (eyeH v p f) fun v' r=>noR r (k s v' p r)
     |_=>.fail
   | .par h=>.getp h (eyeR f) fun v r=>noR r (k h v [] r)
   |_=>.fail
 |_=>.fail
def Afo(i:Nat)(u:D):Option SV:=match Vo u i with
 |some o=>some (.v (.int .i64 (o:Nat)))
 |none=>none
def Xd(d:Option Nat)(x:Opd)(i off:Nat):M:=rdDP x (Afo i) fun s v p r=>match r with
 | .v y=>.need (y= .int .i64 (off:Nat)∧d≠some s) fun _=>setD d (.pd s v (p++[i])) .done
 |_=>.fail
def Ahe(_:Nat)(sv:SV):Nat × SV:=match sv with
 | .own _ t=>(match t with
   | .ptr _=>(0,.pd 0 0 [])
   |_=>(0,.no))
 | .par h=>(0,.par h)
 |_=>(0,.no)
def Yu(x:Opd)(yes no:M):M:=match x with
 | .t n=>.getp n Ahe fun _ sv=>match sv with
   | .par h=>.getp h Ahe fun _ sv'=>match sv' with
     | .pd _ _ _=>yes
     |_=>no
   |_=>no
 |_=>no
def X3(_:D):Option SV:=some (.pd 0 0 [])
def Agb(d:Option Nat)(x:Opd):M:=rdDP x X3 fun s v p _=>.need (d≠some s) fun _=>setD d (.pd s v p) .done
def Ahu:D→Option SV
 | .it y=>some (.v y)
 | .vec _ _ _=>some (.bd 0 0 [])
 | .map _ _=>some (.bd 0 0 [])
 | .ptr _=>some (.pd 0 0 [])
 | .st _=>some (.own [] (.it .und))
def Zf(d:Option Nat)(agg:Bool)(sz:Nat)(x:Opd):M:=rdDP x Ahu fun s v p r=>match r with
 | .v y=>.need (y.isAgg=agg∧y.size=sz) fun _=>setD d (.v y) .done
 | .bd _ _ _=>.need (agg=false∧sz=1∧d≠some s) fun _=>setD d (.bd s v p) .done
 | .pd _ _ _=>.need (agg=false∧sz=1∧d≠some s) fun _=>setD d (.pd s v (p++[0])) .done
 | .own _ _=>Zd d agg sz x
 |_=>.fail
def Wi:D→Option SV
 | .vec _ sz l=>some (.v (.agg [.int .i64 (sz:Nat),.int .i64 l.length]))
 |_=>none
def Xi(d:Option Nat)(sz:Nat)(x i:Opd):M:=rdI i fun n=>match n with
 | .int _ n=>rdHP x Wi fun s v p r=>match r with
   | .v y=>match y with
     | .agg l=>match l with
       | [a,b]=>match b with
         | .int _ len=>.need (0≤n∧n<len∧a= .int .i64 (sz:Nat)∧d≠some s) fun _=>setD d (.pd s v (p++[n.toNat])) .done
         |_=>.fail
       |_=>.fail
     |_=>.fail
   |_=>.fail
 |_=>.fail
def Abn(d:Option Nat)(str:Bool)(x:Opd):M:=rdHP x Wi fun _ _ _ r=>match r with
 | .v y=>match y with
   | .agg l=>match l with
     | [_,b]=>match b with
       | .int k len=>.need (str=false∧k= .i64) fun _=>.fact (len≤maxLen) (setD d (.v (.int .i64 len)) .done)
       |_=>.fail
     |_=>.fail
   |_=>.fail
 |_=>.fail
section
variable{P:Program}{N:Nat}{G:Mem}{σ:Lab}{Fr:Mem}{w0:Base}{w:World}{st:St}{a:Act}
theorem Kx{o:Oper}{x:Opd}{yes no:M}(h1:Sound P N o yes)(h2:Sound P N o no):Sound P N o (Lp x yes no):=by
 intro G σ Fr w0 st a w Q next E hN hr hw hn hdst
 have:yes.wp P Q st∨no.wp P Q st:=by
  cases x with
  |c _=>exact .inr hw
  |nils _ _=>exact .inr hw
  |t n=>
   simp only[Lp,M.wp]at hw;cases hs:st[n]? with
   |none=>simp[hs]at hw
   |some cur=>
    obtain⟨cv,csv⟩:=cur;simp only[hs]at hw;cases csv with
    |own _ _=>exact .inl hw
    |pd _ _ _=>exact .inl hw
    |bd _ _ _=>exact .inl hw
    |par hh=>
     simp only[N0,M.wp]at hw;cases hs':st[hh]? with
     |none=>simp[hs']at hw
     |some cur'=>
      obtain⟨cv',csv'⟩:=cur';simp only[hs']at hw;cases csv'<;>first|exact .inl hw|exact .inr hw
    |_=>exact .inr hw
 rcases this with h|h
 ·exact h1 G σ Fr w0 st a w Q next E hN hr h hn hdst
 ·exact h2 G σ Fr w0 st a w Q next E hN hr h hn hdst
theorem Np{ver:Nat}{inv:Inv}{m:List Nat}{f:D→Option SV}{du:Option D}{k:Nat→SV→M}{Q:St→Prop}
 (h:((fun v r=>noR r (k v r)) (seen ver inv m f du).1 (seen ver inv m f du).2).wp P Q st):∃u r v,du=some u∧f u=some r∧v≤ver∧(k v r).wp P Q st:=by
 cases du with
 |none=>exact h.elim
 |some u=>
  cases hf:f u with
  |none=>simp only[seen,hf]at h;exact h.elim
  |some r=>
   simp only[seen,hf]at h;refine⟨u,r,Nat.min (lv inv m) ver,rfl,hf,Nat.min_le_right _ _,?_⟩;cases r<;>first|exact h.elim|exact h
theorem Mo{x:Operand}{y:Opd}{f:D→Option SV}{k:(s v:Nat)→List Nat→SV→M}{Q:St→Prop}(h:Rel G σ Fr w0 st a w)(ho:Jj w0.n x y=true)(hq:(rdDP y f k).wp P Q st):
 ∃s cur inv t p u r v,(k s v p r).wp P Q st∧st[s]?=some (cur,.own inv t)∧p≠[]∧PtD w t (val a w0 s) p (a.eval x)∧t.at p=some u∧f u=some r∧v≤cur:=by
 cases y with
 |c _=>exact hq.elim
 |nils _ _=>exact hq.elim
 |t n=>
  obtain⟨rfl,hnlt⟩:=J0 ho;simp only[rdDP,M.wp]at hq;cases hs:st[n]? with
  |none=>simp[hs]at hq
  |some cur=>
   obtain⟨ver,sv⟩:=cur;simp only[hs]at hq;have hrep:=h.slot hnlt hs;have hv:val a w0 n=a.eval (.tmp n):=J2 (by rw[h.n];exact hnlt)
   cases sv with
   |own inv t=>
    simp only[N0,M.wp,hs]at hq;cases t with
    |ptr t=>
     obtain⟨u,r,v,h1,h2,h3,h4⟩:=Np (k:=fun v r=>k n v [0] r) hq
     cases h1;exact⟨n,ver,inv,_,[0],t,r,v,h4,hs,by simp,by rw[hv];exact OwnD.pt hrep,rfl,h2,h3⟩
    |_=>exact hq.elim
   |pd s v p=>
    obtain⟨cur,h1,h2,h3⟩:=hrep;simp only[N0,M.wp,hs]at hq;cases p with
    |nil=>exact hq.elim
    |cons i q=>
     simp only[M.wp,h1]at hq;obtain⟨cv,csv⟩:=cur;cases csv with
     |own inv t=>
      simp only[eyeP]at hq;cases ha:alive v inv (i::q)with
      |false=>rw[ha]at hq;exact hq.elim
      |true=>
       rw[ha]at hq;obtain⟨u,r,v',k1,k2,k3,k4⟩:=Np (k:=fun v' r=>k s v' (i::q) r) hq
       exact⟨s,cv,inv,t,i::q,u,r,v',k4,h1,by simp,h3 inv t rfl (by simp) ha,k1,k2,k3⟩
     |_=>exact hq.elim
   |par hh=>
    obtain⟨hv',hle⟩:=h.pars n ver hh hs;rw[hv]at hv';simp only[N0,M.wp]at hq;cases h1:st[hh]? with
    |none=>simp[h1]at hq
    |some cur=>
     obtain⟨cv,csv⟩:=cur;simp only[h1]at hq;have hrep':=h.slots hh cv csv h1;cases csv with
     |own inv t=>
      cases t with
      |ptr t=>
       obtain⟨u,r,v,k1,k2,k3,k4⟩:=Np (k:=fun v r=>k hh v [0] r) hq
       cases k1;exact⟨hh,cv,inv,_,[0],t,r,v,k4,h1,by simp,by rw[hv'];exact OwnD.pt hrep',rfl,k2,k3⟩
      |_=>exact hq.elim
     |_=>exact hq.elim
   |_=>exact hq.elim
theorem Y0{x:Operand}{y:Opd}{f:D→Option SV}{k:(s v:Nat)→List Nat→SV→M}{Q:St→Prop}(h:Rel G σ Fr w0 st a w)(ho:Jj w0.n x y=true)(hq:(rdHP y f k).wp P Q st):
 ∃s cur inv t p u r v,(k s v p r).wp P Q st∧st[s]?=some (cur,.own inv t)∧HdD w t (val a w0 s) p (a.eval x)∧t.at p=some u∧f u=some r∧v≤cur:=by
 cases y with
 |c _=>exact hq.elim
 |nils _ _=>exact hq.elim
 |t n=>
  obtain⟨rfl,hnlt⟩:=J0 ho;simp only[rdHP,M.wp]at hq;cases hs:st[n]? with
  |none=>simp[hs]at hq
  |some cur=>
   obtain⟨ver,sv⟩:=cur;simp only[hs]at hq;have hrep:=h.slot hnlt hs;have hv:val a w0 n=a.eval (.tmp n):=J2 (by rw[h.n];exact hnlt)
   cases sv with
   |own inv t=>
    simp only[N0,M.wp,hs,eyeR]at hq;cases ht:t.head with
    |false=>rw[ht]at hq;exact hq.elim
    |true=>
     rw[ht]at hq;obtain⟨u,r,v,h1,h2,h3,h4⟩:=Np (k:=fun v r=>k n v [] r) hq
     cases h1;exact⟨n,ver,inv,_,[],_,r,v,h4,hs,by rw[hv];exact OwnD.hd hrep ht,rfl,h2,h3⟩
   |bd s v p=>
    obtain⟨cur,h1,h2,h3⟩:=hrep;simp only[N0,M.wp,hs,h1]at hq;obtain⟨cv,csv⟩:=cur;cases csv with
    |own inv t=>
     simp only[eyeH]at hq;cases ha:J7 v inv p with
     |false=>rw[ha]at hq;exact hq.elim
     |true=>
      rw[ha]at hq;obtain⟨u,r,v',k1,k2,k3,k4⟩:=Np (k:=fun v' r=>k s v' p r) hq
      exact⟨s,cv,inv,t,p,u,r,v',k4,h1,h3 inv t rfl ha,k1,k2,k3⟩
    |_=>exact hq.elim
   |par hh=>
    obtain⟨hv',hle⟩:=h.pars n ver hh hs;rw[hv]at hv';simp only[N0,M.wp]at hq;cases h1:st[hh]? with
    |none=>simp[h1]at hq
    |some cur=>
     obtain⟨cv,csv⟩:=cur;simp only[h1]at hq;have hrep':=h.slots hh cv csv h1;cases csv with
     |own inv t=>
      simp only[eyeR]at hq;cases ht:t.head with
      |false=>rw[ht]at hq;exact hq.elim
      |true=>
       rw[ht]at hq;obtain⟨u,r,v,k1,k2,k3,k4⟩:=Np (k:=fun v r=>k hh v [] r) hq
       cases k1;exact⟨hh,cv,inv,_,[],_,r,v,k4,h1,by rw[hv'];exact OwnD.hd hrep' ht,rfl,k2,k3⟩
     |_=>exact hq.elim
   |_=>exact hq.elim
theorem Q2{o:Oper}{Q:St→Prop}{next:Act→World→Prop}{E:Exit→Act→World→Prop}{s cur v:Nat}{inv:Inv}{t:D}{q:List Nat}{c:Value}(hr:Rel G σ Fr w0 st a w)(hdst:∀d,o.dst=some d→d<w0.n)(hs:st[s]?=some (cur,.own inv t))(hle:v≤cur)
 (hn:∀G' σ' st' a' w',G.le G'→Rel G' σ' Fr w0 st' a' w'→Q st'→next a' w') (hne:o.dst≠some s) (hp:PtD w t (val a w0 s) q c) (hrun:(execOp a.eval o).run P w= .ok (.value c) w)
 (hq:(setD o.dst (.pd s v q) .done).wp P Q st):o.wp P a w next E:=by
 obtain⟨σ',st',r1,r2⟩:=hr.setD hdst (sv:=.pd s v q) (c:=c) (fun d' hd ver _=>by
  refine⟨_,by rw[List.getElem?_set_ne (by rintro rfl;exact hne hd)];exact hs,hle,fun inv' t' e _ _=>?_⟩
  cases e;rw[Jr (by rintro rfl;exact hne hd)]
  exact hp) hq
 exact Jt hrun (hn G σ' st' _ w (Mem.le.refl G) r1 r2)
theorem Zr{o:Oper}{Q:St→Prop}{next:Act→World→Prop}{E:Exit→Act→World→Prop}{s cur v:Nat}{inv:Inv}{t:D}{q:List Nat}{c:Value}(hr:Rel G σ Fr w0 st a w)(hdst:∀d,o.dst=some d→d<w0.n)(hs:st[s]?=some (cur,.own inv t))(hle:v≤cur)
 (hn:∀G' σ' st' a' w',G.le G'→Rel G' σ' Fr w0 st' a' w'→Q st'→next a' w') (hne:o.dst≠some s) (hp:HdD w t (val a w0 s) q c) (hrun:(execOp a.eval o).run P w= .ok (.value c) w)
 (hq:(setD o.dst (.bd s v q) .done).wp P Q st):o.wp P a w next E:=by
 obtain⟨σ',st',r1,r2⟩:=hr.setD hdst (sv:=.bd s v q) (c:=c) (fun d' hd ver _=>by
  refine⟨_,by rw[List.getElem?_set_ne (by rintro rfl;exact hne hd)];exact hs,hle,fun inv' t' e _=>?_⟩
  cases e;rw[Jr (by rintro rfl;exact hne hd)]
  exact hp) hq
 exact Jt hrun (hn G σ' st' _ w (Mem.le.refl G) r1 r2)
theorem Zz{o:Oper}{t:TypeId}{x:Operand}{x':Opd}{i off:Nat}(ho:o.op= .fieldAddr t x i)(hx:Jj N x x'=true)(ht:Rz P t i off=true):
 Sound P N o (Xd o.dst x' i off):=by
 intro G σ Fr w0 st a w Q next E hN hr hw hn hdst
 subst hN;obtain⟨s,cur,inv,tr,p,u,r,v,h1,hs,hp0,hpt,hat,hf,hle⟩:=Mo hr hx hw;have hown:=hr.slots s cur _ hs;unfold Afo at hf;split at hf
 ·rename_i off' hof;cases hf;obtain⟨⟨hoff,hne⟩,h1⟩:=h1;have hoff:off'=off:=by injection hoff with _ hoff;exact_mod_cast hoff
  subst hoff;obtain⟨b,off,bl,ty,fz,pre,cs,post,ubs,e1,e2,e3,e4,e5,e6,e7⟩:=PtD.block hown hat hpt;obtain⟨y,cs',k1,k2⟩:=Aai (w:=w) (b:=b) (o:=off) (cs:=cs) hof;refine Q2 hr hdst hs hle hn hne ⟨y,b,off+off',cs',by rw[Nf hat];exact k1,by rw[L5 hat e7 k1];exact k2,rfl⟩ ?_ h1
  simp[execOp,ho,e1,Rp ht]
 ·cases hf
theorem Xv{o:Oper}{x:Operand}{x':Opd}(ho:o.op= .move x∨o.op= .assign x)(hx:Jj N x x'=true):Sound P N o (Agb o.dst x'):=by
 intro G σ Fr w0 st a w Q next E hN hr hw hn hdst
 subst hN;obtain⟨s,cur,inv,tr,p,u,r,v,h1,hs,hp0,hpt,hat,hf,hle⟩:=Mo hr hx hw;obtain⟨hne,h1⟩:=h1;refine Q2 hr hdst hs hle hn hne hpt ?_ h1;rcases ho with ho|ho<;>simp[execOp,ho]
theorem Wb{o:Oper}{x:Opd}{m1 m2:M}(h1:Sound P N o m1)(h2:Sound P N o m2):Sound P N o (Yu x m1 m2):=by
 intro G σ Fr w0 st a w Q next E hN hr hw hn hdst
 cases x with
 |c _=>exact h2 G σ Fr w0 st a w Q next E hN hr hw hn hdst
 |nils _ _=>exact h2 G σ Fr w0 st a w Q next E hN hr hw hn hdst
 |t n=>
  simp only[Yu,M.wp]at hw;cases hs:st[n]? with
  |none=>rw[hs]at hw;exact hw.elim
  |some cur=>
   rw[hs]at hw;dsimp only at hw;split at hw
   ·rename_i h _;simp only[M.wp]at hw;cases hs2:st[h]? with
    |none=>rw[hs2]at hw;exact hw.elim
    |some cur2=>
     rw[hs2]at hw;dsimp only at hw;split at hw
     ·exact h1 G σ Fr w0 st a w Q next E hN hr hw hn hdst
     ·exact h2 G σ Fr w0 st a w Q next E hN hr hw hn hdst
   ·exact h2 G σ Fr w0 st a w Q next E hN hr hw hn hdst
theorem Z3{o:Oper}{t:TypeId}{x i:Operand}{x' i':Opd}{sz:Nat}(ho:o.op= .indexAddr t x i)(hx:Jj N x x'=true)(hi:Jj N i i'=true)(ht:M3 P t sz=true):
 Sound P N o (Xi o.dst sz x' i'):=by
 intro G σ Fr w0 st a w Q next E hN hr hw hn hdst
 subst hN;obtain⟨n,h1,hnv⟩:=J8 hr hi hw;clear hw;split at h1
 ·rename_i k n;rw[RepV.int]at hnv;obtain⟨s,cur,inv,tr,p,u,r,v,h1,hs,hhd,hat,hf,hle⟩:=Y0 hr hx h1;have hown:=hr.slots s cur _ hs;unfold Wi at hf;split at hf
  ·rename_i e sz' l;cases hf;obtain⟨⟨h0,hlt,hsz,hne⟩,h1⟩:=h1;have hsz:sz'=sz:=by injection hsz with _ hsz;exact_mod_cast hsz
   subst hsz;have hlt:n.toNat<l.length:=by omega
   obtain⟨hh,ubs,e5,e6,e7⟩:=HdD.read hown hat hhd;simp only[RepD]at e5;rcases e5 with⟨_,rfl,_⟩|⟨g,off,cap,cu,xs,bs',q1,⟨ty,fz,q2,_⟩,_⟩
   ·simp at hlt
   ·injection q1 with q1
    have hk:(D.vec e sz' l).kid n.toNat=some l[n.toNat]:=by simp[D.kid,List.getElem?_eq_getElem hlt]
    refine Q2 hr hdst hs hle hn hne (c:=.pointer (some ⟨g,off+n.toNat*sz',none⟩)) ⟨_,g,off+n.toNat*sz',(cu.toList.drop (off+n.toNat*sz')).take sz',by rw[Nf hat];exact hk,?_,rfl⟩ ?_ h1
    ·rw[L5 hat e7 hk,q1];simp only[Jx,List.getElem?_eq_getElem hlt,q2]
    ·simp[execOp,ho,q1,hnv,Rs ht w h0 hlt]
  ·cases hf
 ·exact h1.elim
theorem Ad5{o:Oper}{t:TypeId}{x:Operand}{x':Opd}{str:Bool}(ho:o.op= .call {callee:=.builtin .len,args:= #[x],argTypes:= #[t]})(hx:Jj N x x'=true)(ht:Q9 P t str=true):
 Sound P N o (Abn o.dst str x'):=by
 intro G σ Fr w0 st a w Q next E hN hr hw hn hdst
 subst hN;obtain⟨s,cur,inv,tr,p,u,r,v,h1,hs,hhd,hat,hf,hle⟩:=Y0 hr hx hw;have hown:=hr.slots s cur _ hs;unfold Wi at hf;split at hf
 ·rename_i e sz' l;cases hf;obtain⟨⟨rfl,_⟩,h1⟩:=h1;obtain⟨hh,ubs,e5,e6,e7⟩:=HdD.read hown hat hhd;simp only[RepD]at e5;have hsl:∃e,P.underlying t=some (.slice e):=by
   unfold Q9 at ht;split at ht
   ·cases ht
   ·rename_i e h;exact⟨e,h⟩
   ·cases ht
  obtain⟨e',hu⟩:=hsl;have fin:∀{ad:Option Addr} {cap:Nat},a.eval x= .slice ad l.length cap→l.length≤maxLen→o.wp P a w next E:=by
   intro ad cap he hm;exact J1 hr hn hdst (RepV.int.2 rfl) (h1 (by exact_mod_cast hm)) (by simp[execOp,ho,resolve,invoke,builtin,Builtin.len_,run_underlying hu,he,goInt])
  rcases e5 with⟨q1,rfl,_⟩|⟨g,off,cap,cu,xs,bs',q1,_,_,q2,q3,_⟩
  ·injection q1 with q1
   exact fin q1 (Nat.zero_le _)
  ·injection q1 with q1
   exact fin q1 (Nat.le_trans q2 q3)
 ·cases hf
theorem Aav{o:Oper}{t:TypeId}{x:Operand}{x':Opd}{agg:Bool}{sz:Nat}(ho:o.op= .load t x)(hx:Jj N x x'=true)(ht:tyOk P t agg sz=true):Sound P N o (Zf o.dst agg sz x'):=by
 intro G σ Fr w0 st a w Q next E hN hr hw hn hdst
 have hold:=Aat (P:=P) ho hx ht;subst hN;have run:∀{b off:Nat} {v:Value},a.eval x= .pointer (some ⟨b,off,none⟩)→(loadVar t ⟨b,off,none⟩).run P w= .ok v w→(execOp a.eval o).run P w= .ok (.value v) w:=by
  intro b off v hp hl;simp[execOp,ho,hp,Instr.loadAt,Instr.sureAddr,hl]
 obtain⟨s,cur,inv,tr,p,u,r,v,h1,hs,hp0,hpt,hat,hf,hle⟩:=Mo hr hx hw;have hown:=hr.slots s cur _ hs;obtain⟨b,off,bl,ty,fz,pre,cs,post,ubs,e1,e2,e3,e4,e5,e6,e7⟩:=PtD.block hown hat hpt;have hone:=RepD.one e5;have hlen:=RepD.length e5;cases u with
 |it y=>
  cases hf;obtain⟨⟨rfl,rfl⟩,h1⟩:=h1;simp only[RepD]at e5;obtain⟨v,hl,hv⟩:=Nk (P:=P) ht e2 e3 e4 e5.1;exact J1 hr hn hdst hv h1 (run e1 hl)
 |vec e sz' l=>
  cases hf;obtain⟨⟨rfl,rfl,hne⟩,h1⟩:=h1;obtain⟨c,rfl⟩:=List.length_eq_one_iff.1 hlen;have hl:=(Kd (P:=P) (cs:=[c]) ht e2 e3 e4).2 c rfl rfl;exact Zr hr hdst hs hle hn hne ⟨_,_,hat,rfl,e7⟩ (run e1 hl) h1
 |map ks vs=>
  cases hf;obtain⟨⟨rfl,rfl,hne⟩,h1⟩:=h1;obtain⟨c,rfl⟩:=List.length_eq_one_iff.1 hlen;have hl:=(Kd (P:=P) (cs:=[c]) ht e2 e3 e4).2 c rfl rfl;exact Zr hr hdst hs hle hn hne ⟨_,_,hat,rfl,e7⟩ (run e1 hl) h1
 |ptr d=>
  cases hf;obtain⟨⟨rfl,rfl,hne⟩,h1⟩:=h1;obtain⟨c,rfl⟩:=List.length_eq_one_iff.1 hlen;have hl:=(Kd (P:=P) (cs:=[c]) ht e2 e3 e4).2 c rfl rfl;simp only[RepD]at e5;obtain⟨g,cells,ty',bs',q1,q2,_⟩:=e5;injection q1 with q1
  subst q1;refine Q2 hr hdst hs hle hn hne ⟨d,g,0,cells.toList,by rw[Nf hat];rfl,?_,rfl⟩ (run e1 hl) h1
  rw[L5 hat e7 (y:=d) rfl];simp[Jx,q2]
 |st l=>
  cases hf;exact hold G σ Fr w0 st a w Q next E rfl hr h1 hn hdst
end

open Go.Op
def Afc(_:D):Option SV:=some (.v .und)
def Ab5(d:Option Nat)(x:Opd):M:=Lp x (rdDP x Afc fun s v p _=>.need (d≠some s) fun _=>setD d (.pd s v p) .done) (match x with
 | .t n=>.get n fun _ sv=>match sv with
   | .pt s k ver off r=>.get s fun cur _=>.need (d≠some s∧ver=cur) fun _=>setD d (.pt s k ver off r) .done
   |_=>.fail
 |_=>.fail)
def Aca(d:Option Nat)(neg:Bool)(x:Opd):M:=Lp x (rdDP x Afc fun _ _ _ _=>setD d (.v (.bool neg)) .done) (match x with
 | .t n=>.get n fun _ sv=>match sv with
   | .pt s _ ver _ _=>.get s fun cur _=>.need (ver=cur) fun _=>setD d (.v (.bool neg)) .done
   | .v y=>match y with
     | .nilp=>setD d (.v (.bool (!neg))) .done
     |_=>.fail
   |_=>.fail
 |_=>.fail)
def V3(P:Program)(t:TypeId)(y:Operand):Bool:=(match P.underlying t with
 |some (.pointer _)=>true
 |_=>false)&&(match y with
 | .const (.pointer none)=>true
 |_=>false)
section
variable{P:Program}{N:Nat}{G:Mem}{σ:Lab}{Fr:Mem}{w0:Base}{w:World}{st:St}{a:Act}
theorem Aeh{o:Oper}{x:Operand}{x':Opd}(ho:o.op= .nilCheck x)(hx:Jj N x x'=true):Sound P N o (Ab5 o.dst x'):=by
 refine Kx ?_ ?_
 ·intro G σ Fr w0 st a w Q next E hN hr hw hn hdst
  subst hN;obtain⟨s,cur,inv,tr,p,u,r,v,h1,hs,hp0,hpt,hat,hf,hle⟩:=Mo hr hx hw;obtain⟨hne,h1⟩:=h1;have hpt':=hpt;obtain⟨_,b,off,cs,_,_,hc⟩:=hpt';refine Q2 hr hdst hs hle hn hne hpt ?_ h1;simp[execOp,ho,hc]
 ·intro G σ Fr w0 st a w Q next E hN hr hw hn hdst
  subst hN;cases x' with
  |c _=>exact hw.elim
  |nils _ _=>exact hw.elim
  |t n=>
   obtain⟨rfl,hnlt⟩:=J0 hx;simp only[M.wp]at hw;cases hs:st[n]? with
   |none=>simp[hs]at hw
   |some cur=>
    obtain⟨ver,sv⟩:=cur;simp only[hs]at hw;have hrep:=hr.slot hnlt hs;split at hw
    ·rename_i s k v off r;obtain⟨cur,g1,g2,g3⟩:=hrep;simp only[M.wp,g1]at hw;obtain⟨⟨hne,hv⟩,hw⟩:=hw;obtain⟨b,g4,g5⟩:=g3 hv;obtain⟨σ',st',r1,r2⟩:=hr.setD hdst (sv:=.pt s k v off r) (c:=a.eval (.tmp n)) (fun d' hd ver _=>
      ⟨cur,by rw[List.getElem?_set_ne (by rintro rfl;exact hne hd)];exact g1,g2,fun e=>⟨b,Lab.drop_some.2 ⟨fun e=>hne (by rw[hd,e]),g4⟩,g5⟩⟩) hw
     refine Jt (v:=a.eval (.tmp n)) (w':=w) ?_ (hn G σ' st' _ w (Mem.le.refl G) r1 r2);simp[execOp,ho,g5]
    ·exact hw.elim
theorem Yo{d:Nat}{t e:TypeId}(hu:P.underlying t=some (.pointer e))(x:Option Addr)(w:World):(Op.equalIn (d+1) t (.pointer x) (.pointer none)).run P w= .ok x.isNone w:=by
 cases x<;>simp[Op.equalIn,run_underlying hu]
theorem Acy{t e:TypeId}(hu:P.underlying t=some (.pointer e))(x:Option Addr)(w:World):(Op.equal t (.pointer x) (.pointer none)).run P w= .ok x.isNone w:=Yo (d:=9999) hu x w
theorem Wc{o:Oper}{neg:Bool}{t u:TypeId}{x y:Operand}{x':Opd}(ho:o.op= .binOp (if neg then .neq else .eql) t x y u)(hx:Jj N x x'=true)(hy:V3 P t y=true):Sound P N o (Aca o.dst neg x'):=by
 unfold V3 at hy;simp only[Bool.and_eq_true]at hy;obtain⟨hu,hy⟩:=hy;split at hu
 ·rename_i e hu';split at hy
  ·have run:∀{a:Act} {w:World} {ad:Option Addr},a.eval x= .pointer ad→(execOp a.eval o).run P w= .ok (.value (.bool (if neg then !ad.isNone else ad.isNone))) w:=by
    intro a w ad he;have hq:=Acy hu' ad w;have hy':a.eval (.const (.pointer none))= .pointer none:=rfl;cases neg<;>simp[execOp,ho,he,hy',eqGuard,binOp,hq]
   refine Kx ?_ ?_
   ·intro G σ Fr w0 st a w Q next E hN hr hw hn hdst
    subst hN;obtain⟨s,cur,inv,tr,p,u,r,v,h1,hs,hp0,hpt,hat,hf,hle⟩:=Mo hr hx hw;obtain⟨_,b,off,cs,_,_,hc⟩:=hpt;refine J1 hr hn hdst (RepV.bool.2 rfl) h1 ?_;have:=run (w:=w) hc;cases neg<;>simpa using this
   ·intro G σ Fr w0 st a w Q next E hN hr hw hn hdst
    subst hN;cases x' with
    |c _=>exact hw.elim
    |nils _ _=>exact hw.elim
    |t n=>
     obtain⟨rfl,hnlt⟩:=J0 hx;simp only[M.wp]at hw;cases hs:st[n]? with
     |none=>simp[hs]at hw
     |some cur=>
      obtain⟨ver,sv⟩:=cur;simp only[hs]at hw;have hrep:=hr.slot hnlt hs;split at hw
      ·rename_i s k v off r;obtain⟨cur,g1,g2,g3⟩:=hrep;simp only[M.wp,g1]at hw;obtain⟨hv,hw⟩:=hw;obtain⟨b,g4,g5⟩:=g3 hv;refine J1 hr hn hdst (RepV.bool.2 rfl) hw ?_;have:=run (w:=w) g5;cases neg<;>simpa using this
      ·split at hw
       ·have hc:a.eval (.tmp n)= .pointer none:=by
         have h:RepV G .nilp (a.eval (.tmp n)):=hrep;unfold RepV at h;rw[if_neg (by simp[I.isAgg])]at h
         simpa[RepI]using h
        refine J1 hr hn hdst (RepV.bool.2 rfl) hw ?_;have:=run (w:=w) hc;cases neg<;>simpa using this
       ·exact hw.elim
      ·exact hw.elim
  ·cases hy
 ·cases hu
end

open Go.Op
def OwnsO(w:World)(e:TypeId)(sz:Nat)(c:Value)(n:Nat)(xs:List Value):Prop:=
 xs.length=n*sz∧
 ((c= .slice none 0 0∧n=0)∨
  ∃g off cap cur,c= .slice (some ⟨g,off,none⟩) n cap∧Row w g e cur∧(e<1000000→off=0∧cur.size=cap*sz)∧n≤cap∧cap≤maxLen∧off+cap*sz≤cur.size∧(cur.toList.drop off).take (n*sz)=xs)
section
variable{P:Program}{N:Nat}{G:Mem}{σ:Lab}{Fr:Mem}{w0:Base}{w:World}{st:St}{a:Act}
theorem OwnsO.freeD{e:TypeId}{sz:Nat}{l0:List I}{c:Value}{xs:List Value}(h:OwnsO w e sz c l0.length xs)(hr:RepIs G l0 xs)(hs:∀x∈l0,x.size=sz)
 (hb:∀b,c.ownBlock=some b→G b=none∧Fr b=none∧σ b=none):FreeD G σ Fr w (.vec e sz (l0.map D.it)) c:=by
 rcases h.2 with⟨rfl,h0⟩|⟨g,off,cap,cur,rfl,q1,q0,q2,q3,q4,q5⟩
 ·obtain rfl:=List.eq_nil_of_length_eq_zero h0;exact⟨[],by simp[RepD,Value.cells],rfl,List.nodup_nil,by simp⟩
 ·refine⟨[g],?_,rfl,by simp,?_⟩
  ·simp only[RepD,Value.cells];refine .inr ⟨g,off,cap,cur,xs,[],by simp,q1,q0,by simpa using q2,q3,q4,by simpa using q5,RepDs.its.2 ⟨hr,rfl⟩,?_,rfl⟩
   intro x hx;obtain⟨y,hy,rfl⟩:=List.mem_map.1 hx;exact hs y hy
  ·intro b hb';obtain rfl:=List.mem_singleton.1 hb';obtain⟨k1,k2,k3⟩:=hb b rfl;obtain⟨_,_,k,_⟩:=q1;exact⟨k1,k2,k3,(Array.getElem?_eq_some_iff.1 k).1⟩
end

open Go.Op
def Ah6(_:Nat)(sv:SV):Nat × SV:=match sv with
 | .bs _ _ _ _ _=>(0,.bs 0 0 [] 0 0)
 |_=>(0,.no)
def X0(x:Opd)(yes no:M):M:=match x with
 | .t n=>.getp n Ah6 fun _ sv=>match sv with
   | .bs _ _ _ _ _=>yes
   |_=>no
 |_=>no
def Xh(d:Option Nat)(sz:Nat)(x i:Opd):M:=rdI i fun n=>match n with
 | .int _ k=>match x with
   | .t m=>.get m fun _ sv=>match sv with
     | .bs s v p lo n=>.get s fun cur sv'=>match sv' with
       | .own _ t=>match D.at p t with
         |some u=>match u with
          | .vec _ sz' _=>.need (v=cur∧0≤k∧k.toNat<n∧sz'=sz∧d≠some s) fun _=>setD d (.pd s cur (p++[lo+k.toNat])) .done
          |_=>.fail
         |none=>.fail
       |_=>.fail
     |_=>.fail
   |_=>.fail
 |_=>.fail
def Wp(d:Option Nat)(x:Opd):M:=match x with
 | .t m=>.get m fun _ sv=>match sv with
   | .bs s v p _ n=>.get s fun cur sv'=>match sv' with
     | .own _ t=>match D.at p t with
       |some u=>.need (v=cur∧u.isAgg=false) fun _=>setD d (.v (.int .i64 n)) .done
       |none=>.fail
     |_=>.fail
   |_=>.fail
 |_=>.fail
def Zc(d:Option Nat)(agg:Bool)(sz:Nat)(x:Opd):M:=rdD x fun s cur inv t p=>match D.at p t with
 |some u=>.need (agg=true∧u.isAgg=true∧u.size=sz∧d≠some s∧J7 cur inv p=true) fun _=>setD d (.bs s cur p 0 0) .done
 |none=>.fail
section
variable{P:Program}{N:Nat}{G:Mem}{σ:Lab}{Fr:Mem}{w0:Base}{w:World}{st:St}{a:Act}
theorem Aas{o:Oper}{t:TypeId}{x:Operand}{x':Opd}{agg:Bool}{sz:Nat}(ho:o.op= .load t x)(hx:Jj N x x'=true)(ht:tyOk P t agg sz=true):Sound P N o (Zc o.dst agg sz x'):=by
 intro G σ Fr w0 st a w Q next E hN hr hw hn hdst
 subst hN;have run:∀{b off:Nat} {v:Value},a.eval x= .pointer (some ⟨b,off,none⟩)→(loadVar t ⟨b,off,none⟩).run P w= .ok v w→(execOp a.eval o).run P w= .ok (.value v) w:=by
  intro b off v hp hl;simp[execOp,ho,hp,Instr.loadAt,Instr.sureAddr,hl]
 obtain⟨s,cur,inv,tr,p,h1,hs,hp0,hpt⟩:=Ub hr hx hw;have hown:=hr.slots s cur _ hs;split at h1
 ·rename_i u hat;obtain⟨b,off,bl,ty,fz,pre,cs,post,ubs,e1,e2,e3,e4,e5,e6,e7⟩:=PtD.block hown hat hpt;have hone:=RepD.one e5;have hlen:=RepD.length e5;obtain⟨⟨rfl,hag,hsz,hne,hal⟩,h1⟩:=h1;obtain⟨v,hl,hvc,hva⟩:=Sv (P:=P) (cs:=cs) (agg:=true) (by rw[hlen,hsz];exact ht) (by intro e;cases e) e2 e3 e4 hone
  obtain⟨σ',st',r1,r2⟩:=hr.setD hdst (sv:=.bs s cur p 0 0) (c:=v) (fun d' hd ver _=>by
   refine⟨_,by rw[List.getElem?_set_ne (by rintro rfl;exact hne hd)];exact hs,Nat.le_refl _,fun _ inv' t' e=>?_⟩
   cases e;rw[Jr (by rintro rfl;exact hne hd)]
   exact⟨hal,.inr ⟨u,_,hat,hag,hva,by rw[hvc];exact e7⟩⟩) h1
  exact Jt (run e1 hl) (hn G σ' st' _ w (Mem.le.refl G) r1 r2)
 ·exact h1.elim
theorem Xt{o:Oper}{x:Opd}{yes no:M}(h1:Sound P N o yes)(h2:Sound P N o no):Sound P N o (X0 x yes no):=by
 intro G σ Fr w0 st a w Q next E hN hr hw hn hdst
 have:yes.wp P Q st∨no.wp P Q st:=by
  cases x with
  |c _=>exact .inr hw
  |nils _ _=>exact .inr hw
  |t n=>
   simp only[X0,M.wp]at hw;cases hs:st[n]? with
   |none=>simp[hs]at hw
   |some cur=>
    obtain⟨cv,csv⟩:=cur;simp only[hs]at hw;cases csv with
    |bs _ _ _ _ _=>exact .inl hw
    |_=>exact .inr hw
 rcases this with h|h
 ·exact h1 G σ Fr w0 st a w Q next E hN hr h hn hdst
 ·exact h2 G σ Fr w0 st a w Q next E hN hr h hn hdst
theorem Z2{o:Oper}{t:TypeId}{x i:Operand}{x' i':Opd}{sz:Nat}(ho:o.op= .indexAddr t x i)(hx:Jj N x x'=true)(hi:Jj N i i'=true)(ht:M3 P t sz=true):
 Sound P N o (Xh o.dst sz x' i'):=by
 intro G σ Fr w0 st a w Q next E hN hr hw hn hdst
 subst hN;obtain⟨n0,h1,hnv⟩:=J8 hr hi hw;split at h1
 ·rename_i kk k;rw[RepV.int]at hnv;cases x' with
  |c _=>exact h1.elim
  |nils _ _=>exact h1.elim
  |t m=>
   obtain⟨rfl,hnlt⟩:=J0 hx;simp only[M.wp]at h1;cases hs0:st[m]? with
   |none=>simp[hs0]at h1
   |some cur0=>
    obtain⟨ver,sv⟩:=cur0;simp only[hs0]at h1;have hrep:=hr.slot hnlt hs0;split at h1
    ·rename_i s v p lo n;obtain⟨cur,g1,g2,g3⟩:=hrep;simp only[M.wp,g1]at h1;obtain⟨cv,csv⟩:=cur;simp only at h1;split at h1
     ·rename_i inv tr;split at h1
      ·rename_i u hat;split at h1
       ·rename_i e sz' l;obtain⟨⟨rfl,h0,hlt,rfl,hne⟩,h1⟩:=h1;obtain⟨_,hbs⟩:=g3 rfl inv tr rfl;obtain⟨e1,sz1,l1,c0,ad,cap,q1,q2,q3,q4,q5,q6⟩:∃e1 sz1 l1 c0 ad cap,tr.at p=some (.vec e1 sz1 l1)∧HdD w tr (val a w0 s) p c0∧c0= .slice ad l1.length cap∧l1.length≤cap∧lo+n≤l1.length∧
         a.eval (.tmp m)= .slice (if cap=lo then ad else ad.map (·.add (lo*sz1))) n (cap - lo):=by
         rcases hbs with h|⟨u1,_,k1,k2,_⟩
         ·exact h
         ·rw[hat]at k1;cases k1;cases k2
        rw[hat]at q1;cases q1;have hown:=hr.slots s v _ g1;obtain⟨hh,ubs,e5,e6,e7⟩:=HdD.read hown hat q2;simp only[RepD]at e5;rcases e5 with⟨_,rfl,_⟩|⟨g,off,cap',cu,xs,bs',p1,⟨ty,fz,p2,_⟩,_⟩
        ·simp only[List.length_nil]at q5;omega
        ·injection p1 with p1
         rw[q3]at p1;cases p1;have hcl:¬cap=lo:=by omega
         rw[if_neg hcl]at q6;have hk:(D.vec e sz' l).kid (lo+k.toNat)=some (l[lo+k.toNat]'(by omega)):=by simp[D.kid,List.getElem?_eq_getElem (show lo+k.toNat<l.length by omega)]
         have hadd:Option.map (·.add (lo*sz')) (some (⟨g,off,none⟩:Addr))=some ⟨g,off+lo*sz',none⟩:=by simp[add_lit]
         rw[hadd]at q6;refine Acj hr hdst g1 hn hne (c:=.pointer (some ⟨g,off+(lo+k.toNat)*sz',none⟩)) ⟨_,g,off+(lo+k.toNat)*sz',(cu.toList.drop (off+(lo+k.toNat)*sz')).take sz',by rw[Nf hat];exact hk,?_,rfl⟩ ?_ h1
         ·rw[L5 hat e7 hk,q3];simp only[Jx,List.getElem?_eq_getElem (show lo+k.toNat<l.length by omega),p2]
         ·have:=Rs (P:=P) (t:=t) (sz:=sz') (b:=g) (off:=off+lo*sz') (len:=n) (cap:=cap - lo) (k:=kk) (n:=k) ht w h0 hlt;simp[execOp,ho,q6,hnv,this,Nat.add_mul,Nat.add_assoc]
       ·exact h1.elim
      ·exact h1.elim
     ·exact h1.elim
    ·exact h1.elim
 ·exact h1.elim
theorem Adw{o:Oper}{t:TypeId}{x:Operand}{x':Opd}(ho:o.op= .call {callee:=.builtin .len,args:= #[x],argTypes:= #[t]})(hx:Jj N x x'=true)(ht:Q9 P t false=true):Sound P N o (Wp o.dst x'):=by
 intro G σ Fr w0 st a w Q next E hN hr hw hn hdst
 subst hN;cases x' with
 |c _=>exact hw.elim
 |nils _ _=>exact hw.elim
 |t m=>
  obtain⟨rfl,hnlt⟩:=J0 hx;simp only[Wp,M.wp]at hw;cases hs0:st[m]? with
  |none=>simp[hs0]at hw
  |some cur0=>
   obtain⟨ver,sv⟩:=cur0;simp only[hs0]at hw;have hrep:=hr.slot hnlt hs0;split at hw
   ·rename_i s v p lo n;obtain⟨cur,g1,g2,g3⟩:=hrep;simp only[M.wp,g1]at hw;obtain⟨cv,csv⟩:=cur;simp only at hw;split at hw
    ·rename_i inv tr;split at hw;rotate_left 1
     ·exact hw.elim
     rename_i u hat;obtain⟨⟨rfl,hag⟩,hw⟩:=hw;obtain⟨_,hbs⟩:=g3 rfl inv tr rfl;obtain⟨sz1,ad,cap,q6⟩:∃sz1 ad cap,a.eval (.tmp m)= .slice (if cap=lo then ad else ad.map (·.add (lo*sz1))) n (cap - lo):=by
      rcases hbs with⟨e1,sz1,l1,c0,ad,cap,q1,q2,q3,q4,q5,q6⟩|⟨u1,_,k1,k2,_⟩
      ·exact⟨sz1,ad,cap,q6⟩
      ·rw[hat]at k1;cases k1;rw[hag]at k2;cases k2
     have hu:∃e,P.underlying t=some (.slice e):=by
      unfold Q9 at ht;split at ht
      ·cases ht
      ·rename_i e h;exact⟨e,h⟩
      ·cases ht
     obtain⟨e',hu⟩:=hu;exact J1 hr hn hdst (RepV.int.2 rfl) hw (by simp[execOp,ho,resolve,invoke,builtin,Builtin.len_,run_underlying hu,q6,goInt])
    ·exact hw.elim
   ·exact hw.elim
end

open Go.Op
def Aq(w:World)(b:Nat)(o:Obj):World:={w with heap:=w.heap.setIfInBounds b o}
def Kt(str:List UInt8)(pos:Nat):Nat × Nat:=Utf8.decode ⟨⟨str⟩⟩ pos
def Acd(d:Nat)(x:Opd):M:=rdI x fun u=>match u with
 | .str s=>Jz d (.sit s 0)
 |_=>.fail
def Vc(d:Option Nat)(x:Opd):M:=match x with
 | .t n=>.get n fun ver sv=>match sv with
   | .sit s pos=>.ite (decide (pos<s.length))
    (.set n (ver+1) (.sit s (pos+(Kt s pos).2)) (.need (d≠some n) fun _=>setD d (.tup [.i (.bool true),.i (.int .i64 pos),.i (.int .i32 (Kt s pos).1)]) .done))
    (setD d (.tup [.i (.bool false)]) .done)
   |_=>.fail
 |_=>.fail
section
variable{P:Program}{N:Nat}{G:Mem}{σ:Lab}{Fr:Mem}{w0:Base}{w:World}{st:St}{a:Act}
theorem Aev{o:Oper}{d:Nat}{t:TypeId}{x:Operand}{x':Opd}(hd:o.dst=some d)(ho:o.op= .range t x)(hx:Jj N x x'=true)(ht:P.underlying t=some .string):Sound P N o (Acd d x'):=by
 intro G σ Fr w0 st a w Q next E hN hr hw hn hdst
 subst hN;obtain⟨u,h1,hu⟩:=J8 hr hx hw;split at h1
 ·rename_i s;obtain⟨hc,hl⟩:=RepV.str.1 hu;obtain⟨σ',st',r1,r2⟩:=hr.newBlock (hdst d hd) (sv:=.sit s 0) (o:=.stringIter ⟨⟨s⟩⟩ 0) (c:=.pointer (some ⟨w.heap.size,0,none⟩)) rfl (by intro _ e;cases e)
   (fun σ1 _ hb=>⟨w.heap.size,rfl,hb,heap_alloc_new w _⟩) h1
  refine Jt (w':=w.alloc (.stringIter ⟨⟨s⟩⟩ 0)) ?_ (by rw[hd];exact hn G σ' st' _ _ (Mem.le.refl G) r1 r2)
  simp[execOp,ho,Instr.range,run_underlying ht,hc]
 ·exact h1.elim
theorem Aax{o:Oper}{x:Operand}{x':Opd}(ho:o.op= .next x true)(hx:Jj N x x'=true):Sound P N o (Vc o.dst x'):=by
 intro G σ Fr w0 st a w Q next E hN hr hw hn hdst
 subst hN;cases x' with
 |c _=>exact hw.elim
 |nils _ _=>exact hw.elim
 |t n=>
  obtain⟨rfl,hnlt⟩:=J0 hx;simp only[Vc,M.wp]at hw;cases hs:st[n]? with
  |none=>simp[hs]at hw
  |some cur=>
   obtain⟨ver,sv⟩:=cur;simp only[hs]at hw;have hrep:=hr.slot hnlt hs;split at hw
   ·rename_i s pos;obtain⟨b,hc,hσ,hb⟩:=hrep;obtain⟨h1,h2⟩:=hw;have hblt:b<w.heap.size:=(Array.getElem?_eq_some_iff.1 hb).1;have hget:(getObj b).run P w= .ok (.stringIter ⟨⟨s⟩⟩ pos) w:=by simp[getObj,Sem.run,hb]
    have hsz:(⟨⟨s⟩⟩:ByteArray).size=s.length:=rfl;by_cases hp:pos<s.length
    ·have h1:=h1 (decide_eq_true hp);obtain⟨hne,h1⟩:=h1
     let w1:=Aq w b (.stringIter ⟨⟨s⟩⟩ (pos+(Kt s pos).2))
     have hset:(setObj b (.stringIter ⟨⟨s⟩⟩ (pos+(Kt s pos).2))).run P w= .ok () w1:=by simp[setObj,Sem.run,hb,w1,Aq]
     have hself:w1.heap[b]?=some (.stringIter ⟨⟨s⟩⟩ (pos+(Kt s pos).2)):=by simp[w1,Aq,hblt]
     have hoth:∀x,x≠b→w1.heap[x]?=w.heap[x]?:=by
      intro x hx;simp[w1,Aq,Array.getElem?_setIfInBounds,Ne.symm hx]
     obtain⟨k1,k2,k3⟩:=hr.wok.own b _ hσ;have hok:WOk G σ Fr w0 w1:=by
      refine⟨?_,?_,hr.wok.inj,?_,hr.wok.os,hr.wok.tape,hr.wok.output,?_,hr.wok.apart,hr.wok.amb⟩
      ·intro b' o' h;rw[hoth b' (by rintro rfl;rw[k1]at h;cases h)]
       exact hr.wok.fixed b' o' h
      ·intro b' lab h;obtain⟨q1,q2,q3⟩:=hr.wok.own b' lab h;exact⟨q1,q2,by simpa[w1,Aq]using q3⟩
      ·intro b' o' h;rw[hoth b' (by rintro rfl;rw[k2]at h;cases h)]
       exact hr.wok.frame b' o' h
      ·have:=hr.wok.size;simpa[w1,Aq]using this
     have hv:val a w0 n=a.eval (.tmp n):=J2 (by rw[hr.n];exact hnlt)
     have hr1:Rel G σ Fr w0 (st.set n (ver+1,.sit s (pos+(Kt s pos).2))) a w1:=by
      refine Rel.self hr hok (Mem.le.refl G) hs (Nat.lt_succ_self _) ?_ ?_
      ·intro s' hs' b' k hb';refine⟨hb',hoth b' ?_⟩;rintro rfl;rw[hσ]at hb';cases hb';exact hs' rfl
      ·exact⟨b,by rw[hv];exact hc,hσ,hself⟩
     obtain⟨σ',st',r1,r2⟩:=hr1.setD hdst (sv:=.tup [.i (.bool true),.i (.int .i64 pos),.i (.int .i32 (Kt s pos).1)]) (c:=.tuple #[.bool true,.int .i64 pos,.int .i32 (Kt s pos).1]) (fun d' hd ver _=>
      ⟨_,rfl,_,_,rfl,RepV.bool.2 rfl,_,_,rfl,RepV.int.2 rfl,_,_,rfl,RepV.int.2 rfl,rfl⟩) h1
     refine Jt (w':=w1) ?_ (hn G σ' st' _ w1 (Mem.le.refl G) r1 r2);have hdec:Utf8.decode ⟨⟨s⟩⟩ pos=((Kt s pos).1,(Kt s pos).2):=rfl;simp only[execOp,ho,hc,Instr.next,Sem.run_bind,hget,Result.andThen,hsz,if_pos hp,hdec,hset,Sem.run_pure];rfl
    ·have h2:=h2 (decide_eq_false hp);obtain⟨σ',st',r1,r2⟩:=hr.setD hdst (sv:=.tup [.i (.bool false)]) (c:=.tuple #[.bool false]) (fun d' hd ver _=>⟨_,rfl,_,_,rfl,RepV.bool.2 rfl,rfl⟩) h2
     refine Jt (w':=w) ?_ (hn G σ' st' _ w (Mem.le.refl G) r1 r2);simp only[execOp,ho,hc,Instr.next,Sem.run_bind,hget,Result.andThen,hsz,if_neg hp,Sem.run_pure]
   ·exact hw.elim
def Ab0(d:Nat)(x:Opd):M:=M6 x fun u=>Jz d (.own [] u)
theorem Wa{o:Oper}{d:Nat}{x:Operand}{x':Opd}(hd:o.dst=some d)(ho:o.op= .move x∨o.op= .assign x)(hx:Jj N x x'=true):Sound P N o (Ab0 d x'):=by
 intro G0 σ0 Fr w0 st0 a w Q next E hN hr hw hn hdst
 subst hN;obtain⟨u,G,σ,st,hG,hr1,h1,hf⟩:=Tp hr hx hw;obtain⟨σ',st',r1,r2⟩:=hr1.adopt (P:=P) (hdst d hd) hf h1;refine Jt (w':=w) (v:=a.eval x) ?_ (by rw[hd];exact hn G σ' st' _ w hG r1 r2)
 rcases ho with ho|ho<;>simp[execOp,ho]
end

section
variable{P:Program}{N:Nat}{G:Mem}{σ:Lab}{Fr:Mem}{w0:Base}{w:World}{st:St}{a:Act}
end
end Go.Ab
